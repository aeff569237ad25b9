/- A part of the proof that LiftApplies answers true. -/
import Derived.Test.YtndkeknbfbdeeaaGreatDoorG19
import Derived.Test.YtndkeknbfbdeeaaGreatDoorG20
set_option linter.all false
set_option maxHeartbeats 4000000
set_option maxRecDepth 100000
namespace Go.Proofs.YtndkeknbfbdeeaaGreatDoor
open Go
section
open Go.RowKit Go.Shelf Go.Proofs Go.Sort
section
variable {F:Addr->Prop} {g:Gh} {H:List HB} {w w':World}
def qw(hs:St F g H w)(hz:w.heap.size<=w'.heap.size)(hh:∀X,X<w.heap.size->w'.heap[X]? =w.heap[X]?)(Kb:w'.os=w.os/\w'.output=w.output){F2:Addr->Prop}(hsub:∀a,F a->F2 a)
 (hF2:∀a,F2 a->F a\/(w.heap.size<=a.block/\a.block<w'.heap.size/\a.spot=Option.none)):St F2 g H w'/\Bn F g H w F2 g H w':=by
 have Ih:∀a,F a->w'.cell? a=w.cell? a:=fun a ha=>Oa (hh a.block (hs.live a ha));have K:Fi F g w F2 g w':=⟨hsub,Ih,Gh.le_refl g⟩
 have Ii:∀B off,B<w.heap.size->¬F ⟨B,off,Option.none⟩->¬F2 ⟨B,off,Option.none⟩:=fun B off hB hn h=>by
  rcases hF2 _ h with h|h
  . exact hn h
  have:=h.1;simp only at this;omega
 refine⟨⟨fun a h=>?_,hs.beyond,hs.inj,fun b cs h=>?_,fun t n k ty h=>?_,fun b off s h=>?_,fun b e cs h=>?_,fun b ks h=>?_⟩,⟨hsub,Ih,Gh.le_refl g,hz,fun X hX _=>hh X hX,fun a h=>?_,fun b X hb h=>.inl ⟨hb,h⟩,Bm _,Kb⟩⟩
 . rcases hF2 a h with h|h
   . exact Qp (hs.live a h) hz
   exact h.2.1
 . obtain⟨B,vs,e,p1,p2,p3,p4,p5⟩:=hs.var b cs h;have hB:=hs.blk_lt p1;exact⟨B,vs,e,p1,p2,(hh B hB).trans p3,RL.mono K _ _ p4,fun off=>Ii B off hB (p5 off)⟩
 . obtain⟨B,cap,vs,e,fr,p1,p2,p3,p4,p5,p6⟩:=hs.tok t n k ty h;have hB:=hs.blk_lt p1;exact⟨B,cap,vs,e,fr,p1,p2,(hh B hB).trans p3,p4,p5,fun off ho=>Ii B off hB (p6 off ho)⟩
 . rcases hF2 _ h with h|h
   . exact hs.spots b off s h
   exact absurd h.2.2 Ab
 . obtain⟨B,vs,p1,p2,p3,p4,p5⟩:=hs.tvar b e cs h;have hB:=hs.blk_lt p1;exact⟨B,vs,p1,p2,(hh B hB).trans p3,RL.mono K _ _ p4,fun off=>Ii B off hB (p5 off)⟩
 . rcases hs.mp b ks h with h|⟨B,es,ck,p1,p2,p3,p4⟩
   . exact .inl h
   exact .inr ⟨B,es,ck,p1,p2,(hh B (hs.blk_lt p1)).trans p3,p4⟩
 rcases hF2 a h with h|h
 . exact .inl h
 exact .inr (.inl h.1)
def Bac(hs:St F g H w){B cap:Nat}{zs:F6}(hB:w.heap.size<=B)(hz:w.heap.size<=w'.heap.size)(hh:∀X,X<w.heap.size->w'.heap[X]? =w.heap[X]?)(Kb:w'.os=w.os/\w'.output=w.output)
 (hi:Qn w' B zs) (Dv:zs.length<=cap) (hm:zs.length<=A1) (hr:∀z∈zs,IntKind.i64.has z):
 ∃F2,R F2 g w' (.sl .none (Dc zs)) (.slice (some ⟨B,0,none⟩) zs.length cap)/\St F2 g H w'/\Bn F g H w F2 g H w':=by
 have aj:B<w'.heap.size:=by
  obtain⟨cur,e,h1,_⟩:=hi;exact(Array.getElem?_eq_some_iff.1 h1).1
 refine⟨fun a=>F a\/(a.block=B/\a.spot=none),?_,qw hs hz hh Kb (fun a h=>.inl h) fun a h=>?_⟩
 . simp only[R];refine⟨by simpa using hm,.inr ⟨B,0,none,cap,1,Ab,by simpa using Dv,⟨Aa,Ab⟩,?_,trivial⟩⟩
   have key:∀(l:F6) (k:Nat),(∀ j z,l[j]? =some z->zs[k+j]? =some z)->RE (fun a=>F a\/(a.block=B/\a.spot=none)) g w' B k 1 (Dc l):=by
    intro l
    induction l with
    |nil=>intro k _;simp[Dc,RE]
    |cons z l ih=>
     intro k hk;have h0:zs[k]? =some z:=by simpa using hk 0 z rfl
     have Un:z∈zs:=Sr h0;show RE _ _ _ _ _ _ ([.int .i64 z]::Dc l);simp only[RE,RM]
     exact⟨rfl,⟨⟨rfl,.int .i64 z,.inr ⟨trivial,trivial⟩,hi.get h0,by simp only[R]; exact⟨trivial,hr z Un⟩⟩,trivial⟩,ih (k+1) fun j y hy=>by
      have:=hk (j+1) y (by simpa using hy)
      rwa [show k+1+j=k+(j+1) by omega]⟩
   exact key zs 0 fun j z h=>by simpa using h
 rcases h with h|h
 . exact .inl h
 exact .inr ⟨Aa,by rw[h.1]; exact aj,h.2⟩
end
end
section
open Go.RowKit Go.Shelf Go.Proofs Go.Sort
def A65(a:Addr)(c:Nat)(w:World):Calls Tryz.prog 59 #[.slice (some a) 0 c] w fun e w'=>∃g cap',e= .returned (.slice (some ⟨g,0,none⟩) 0 cap')/\Below w.heap.size w w':=by
 have t23:=Tryz.underlying23;have q23:∀(w:World) (a:Option Addr) (n c n' c':Nat),(binOp .eql 23 (.slice a n c) (.slice none n' c')).run Tryz.prog w= .ok (.bool a.isNone) w:=fun w a n c n' c'=>Lib.run_eql_slice_nil w _ _ a n c n' c' t23;have u23:∀w,Sem.run Tryz.prog (underlying 23) w= .ok (TypeDesc.slice 28) w:=fun w=>Fq t23
 go_enter Tryz.func59,Tryz.ntmps59
 go_wp2_with (at_builtin;refine wpList_append_own _ rfl _ _ 23 rfl w.heap.size 28 Tryz.t28 (.agg #[.int .i64 0,.int .i64 0,.string ⟨#[]⟩,.slice none 0 0,.slice none 0 0,.slice none 0 0]) 6 104 t23 A5 A5 A5 A5 A5 Di _ _ _ rfl (World.ownsRow_made w #[] 0 (Bm _) (Nl _) rfl) a 0 c [] rfl rfl (by intro j u hj;simp at hj) (by intro u hu;cases hu) (by unfold maxLen;omega) Aa Ab ?_)
 intro v' w1 Bt S4 Za;have hB:Below w.heap.size w w1:=((Below.refl _ w).alloc (Bm _) _).grown S4 Ab (by intro k hk;simp[Value.ownBlock]at hk;omega)
 have hv:∃g cap',v'= .slice (some ⟨g,0,none⟩) 0 cap':=by
  rcases Bt.2 with⟨h,_⟩|⟨g,cap',_,h,_⟩
  . exact(Za h).elim
  exact⟨g,cap',h⟩
 obtain⟨g,cap',rfl⟩:=hv;clear Bt S4 Za
 go_wp2
 go_ret
 exact⟨g,cap',rfl,hB⟩
def A42(a:Addr)(c:Nat)(w:World):Calls Tryz.prog 96 #[.slice (some a) 0 c] w fun e w'=>∃g cap',e= .returned (.slice (some ⟨g,0,none⟩) 0 cap')/\Below w.heap.size w w':=by
 have En:=A65 a c w
 go_enter Tryz.func96,Tryz.ntmps96
 go_wp2_with (go_at_call 59;refine En.mono ?_)
 rintro e w1 ⟨g,cap',rfl,aw⟩;have Sg:Calls Tryz.prog 160 #[.slice (some ⟨g,0,none⟩) 0 cap'] w1 fun e w'=>e= .returned (.tuple #[])/\w'=w1:=AnyQ.slices_Reverse_empty Tryz.lays35 _ cap' w1;clear En
 go_wp2_with (go_at_call 160;refine Sg.mono ?_)
 rintro e w2 ⟨rfl,rfl⟩;clear Sg
 go_wp2
 go_ret
 exact⟨g,cap',rfl,aw⟩
def A48(w:World):Calls Tryz.prog 96 #[.slice none 0 0] w fun e w'=>e= .returned (.slice none 0 0)/\w'=w:=by
 have En:Calls Tryz.prog 59 #[.slice none 0 0] w fun e w'=>e= .returned (.slice none 0 0)/\w'=w:=AnyE.slices_Clone_nil Tryz.lays41 0 0 w;have Sg:Calls Tryz.prog 160 #[.slice none 0 0] w fun e w'=>e= .returned (.tuple #[])/\w'=w:=AnyQ.slices_Reverse_empty Tryz.lays35 none 0 w
 go_enter Tryz.func96,Tryz.ntmps96
 go_wp2_with (first
  |(go_at_call 59;refine En.mono ?_;rintro e w1 ⟨rfl,rfl⟩)
  |(go_at_call 160;refine Sg.mono ?_;rintro e w1 ⟨rfl,rfl⟩))
 go_ret
 exact⟨rfl,rfl⟩
def Azn{F:Addr->Prop}{g:Gh}{w:World}{B:Nat} :∀(l:Ax) (ds:List V6) (i:Nat),ds.length=l.length->(∀ j c x,l[j]? =some c->ds[j]? =some x->RL F g w (Ag c) (Fl x)/\∀k u,(Fl x)[k]? =some u->F ⟨B,(i+j)*6+k,none⟩/\w.cell? ⟨B,(i+j)*6+k,none⟩=some u)->
 RE F g w B (i*6) 6 (l.map Ag)
 | [],ds,i,hl,h=>by simp[RE]
 |c::l,[],i,hl,h=>by simp at hl
 |c::l,x::ds,i,hl,h=>by
  obtain⟨h1,h2⟩:=h 0 c x rfl rfl;simp only[F8,RE];refine⟨Ab,?_,?_⟩
  . rw[Ap]at h1 ⊢;obtain⟨v0,_,e0,r0,v1,_,rfl,r1,v2,_,rfl,r2,v3,_,rfl,r3,v4,_,rfl,r4,v5,_,rfl,r5,rfl⟩:=h1;simp only[Fl,List.cons.injEq,and_true]at e0;obtain⟨rfl,rfl,rfl,rfl,rfl,rfl⟩:=e0;have hk:∀k u,(Fl x)[k]? =some u->F ⟨B,i*6+k,none⟩/\w.cell? ⟨B,i*6+k,none⟩=some u:=fun k u hu=>by simpa using h2 k u hu
    simp only[RM,and_true];exact⟨⟨rfl,_,(hk 0 _ rfl).1,(hk 0 _ rfl).2,r0⟩,⟨rfl,_,(hk 1 _ rfl).1,(hk 1 _ rfl).2,r1⟩,⟨rfl,_,(hk 2 _ rfl).1,(hk 2 _ rfl).2,r2⟩,⟨rfl,_,(hk 3 _ rfl).1,(hk 3 _ rfl).2,r3⟩,⟨rfl,_,(hk 4 _ rfl).1,(hk 4 _ rfl).2,r4⟩,⟨rfl,_,(hk 5 _ rfl).1,(hk 5 _ rfl).2,r5⟩⟩
  have:=Azn l ds (i+1) (by simpa using hl) (fun j c' x' hc hx=>by
   have:=h (j+1) c' x' (by simpa using hc) (by simpa using hx)
   rwa [show i+(j+1)=i+1+j by omega]at this)
  rwa [show(i+1)*6=i*6+6 by omega]at this
def nw(l:Ax):C7 Tryz.prog 96 [.sl .none (l.map Ag)] [] (.sl .none (l.reverse.map Ag)) []:=by
 refine⟨A5,fun F g w vs hG hs hr=>?_⟩;simp only[RL]at hr;obtain⟨v,_,rfl,hv,rfl⟩:=hr;obtain⟨M6,⟨h0,rfl,_⟩|⟨B,off,sp,cap,k,rfl,Dv,⟨Nr,Zb⟩,bq,_⟩⟩:=L7 hv
 . obtain rfl:l=[]:=by simpa using h0
   refine(A48 w).mono ?_;rintro e w' ⟨rfl,rfl⟩;exact⟨_,F,g,rfl,by simp only[R]; exact⟨Ab,.inl ⟨Ab,by trivial,Ab,Ab⟩⟩,hs,Bn.refl _ _ _ _⟩
 by_cases hl:l=[]
 . subst hl;refine(A42 ⟨B,off,sp⟩ cap w).mono ?_;rintro e w' ⟨gb,cap',rfl,hb⟩;obtain⟨y1,y2⟩:=qw hs hb.size hb.block ⟨hb.os,hb.output⟩ (F2:=F) (fun a h=>h) (fun a h=>.inl h);refine⟨_,F,g,rfl,?_,y1,y2⟩;simp only[R];exact⟨Ab,.inr ⟨gb,0,none,cap',1,rfl,Ab,⟨Aa,Ab⟩,by simp[RE],trivial⟩⟩
 obtain rfl:sp=none:=by
  rcases Zb with h|h
  . exact absurd (by simpa using h) hl
  exact h
 obtain rfl:k=6:=by
  cases l with
  |nil=>exact absurd rfl hl
  |cons c l=>simp only[F8,RE]at bq;simpa using bq.1.symm
 obtain⟨ds,hd,hds⟩:=Azo l off bq;have Aua:l.length<=1073741824:=by simpa[A1]using M6
 have hbw:=A46 B off cap ds w Aa (fun i x hx j u hu=>by
  have hi:i<l.length:=by have:=(List.getElem?_eq_some_iff.1 hx).1;omega
  obtain⟨x',e1,_,e3⟩:=hds i l[i] (by simp[hi]);rw[hx]at e1;cases e1
  exact e3 j u hu)
 have hlen:(l.map Ag).length=ds.length:=by rw[Qo,hd]
 rw[hlen];refine hbw.mono ?_;rintro e w' ⟨gb,cap',rfl,z1,z2,z3,z4,z5,z6,z7,hH⟩
 obtain⟨y1,y2⟩:=qw hs z7 z4 ⟨z5,z6⟩ (F2:=fun a=>F a\/(a.block=gb/\a.spot=none)) (fun a h=>.inl h) (fun a h=>by
  rcases h with h|h
  . exact .inl h
  exact .inr ⟨Aa,by rw[h.1]; exact z2,h.2⟩)
 refine⟨_,_,g,rfl,?_,y1,y2⟩;simp only[R];refine⟨by simpa using M6,.inr ⟨gb,0,none,cap',6,by simp[hd],by simpa[hd]using z3,⟨Aa,Ab⟩,?_,trivial⟩⟩
 have:=Azn (F:=fun a=>F a\/(a.block=gb/\a.spot=none)) (g:=g) (w:=w') (B:=gb) l.reverse ds.reverse 0 (by simp[hd]) (fun j c x hc hx=>by
  have Ge:j<l.length:=by simpa using(List.getElem?_eq_some_iff.1 hc).1
  have Of:l[l.length-1-j]? =some c:=by rwa [A3q Ge]at hc
  have Qb:ds[l.length-1-j]? =some x:=by
   rw[A3q Aa,hd]at hx;exact hx
  obtain⟨x',e1,e2,e3⟩:=hds _ c Of;rw[Qb]at e1;cases e1;refine⟨RL.mono ⟨y2.sub,y2.keep,Gh.le_refl g⟩ _ _ e2,fun k u hu=>⟨.inr ⟨rfl,rfl⟩,?_⟩⟩;have hi:j<ds.reverse.toArray.size:=by simp;omega
  have Lj:ds.reverse.toArray[j]! =x:=by
   rw[R4 _ j hi];have:=(List.getElem?_eq_some_iff.1 hx).2;simpa using this
  have:=HoldsK.cells (enc:=Fl) (k:=6) hH mj hi k u (by rw[Lj]; exact hu);rw[Addr.add_lit]at this
  simpa using this)
 simpa using this
end
section
open Go.RowKit Go.Shelf Go.Proofs
attribute [-simp] Int.not_lt Int.not_le
attribute [local simp] Cb Cq
def Aby:AC:=.region [⟨some 1,.box (.tmp 0),none⟩,⟨some 2,.mov (.cst (.sl .nilT [])),none⟩,⟨some 3,.mov (.cst (.int .i64 0)),none⟩]
def Abz:AC:=.seq (.region [⟨some 5,.load true 6 (.tmp 1),none⟩,⟨some 6,.call (.cst (.fn (.func 64) [] [])) [.tmp 5],none⟩,⟨some 7,.un .not (.tmp 6),none⟩])
 (.cond (.tmp 7) (.seq (.region [⟨some 2,.mov (.cst (.sl .nilT [])),none⟩,⟨some 3,.mov (.cst (.int .i64 1)),none⟩]) .ret) .skip)
def Ab0:AC:=.region [⟨some 4,.alloc [.sl .nilT []],none⟩]
def Ab1:AC:=.region [⟨some 8,.load true 6 (.tmp 1),none⟩,⟨some 9,.mkfn (.func 293) [] [.tmp 4],none⟩,⟨some 10,.call (.cst (.fn (.func 219) [] [])) [.tmp 8,.cst (.int .i64 0),.tmp 9],none⟩]
abbrev un:AV:=.undef
def tb(c:Cn):List AV:=[Ad c,.ptr 0 0,.sl .nilT [],.int .i64 0,un,un,un,un,un,un,un,un,un,un,un]
def tc(c:Cn):List AV:=[Ad c,.ptr 0 0,.sl .nilT [],.int .i64 0,un,Ad c,.bool true,.bool false,un,un,un,un,un,un,un]
def td(c:Cn):List AV:=[Ad c,.ptr 0 0,.sl .nilT [],.int .i64 0,.ptr 1 0,Ad c,.bool true,.bool false,un,un,un,un,un,un,un]
def Ab3(c:Cn):List AV:=[Ad c,.ptr 0 0,.sl .nilT [],.int .i64 0,.ptr 1 0,Ad c,.bool true,.bool false,Ad c,.fn (.func 293) [] [.ptr 1 0],.tup [],un,un,un,un]
def fr_h1(c:Cn):A9 Tryz.prog Aby (start [Ad c] 15) [] fun e t' H'=>e= .normal/\t'=tb c/\H'=[.var (Ag c)]:=by
 refine Ru fun Q hQ=>?_;simp[Aby,Ad];refine hQ ⟨rfl,?_,?_⟩
 . simp[tb,Ad]
 simp
def fr_h2(c:Cn)(hc:Al c<=1000000000000)(hv:Ar c=true):A9 Tryz.prog Abz (tb c) [.var (Ag c)] fun e t' H'=>e= .normal/\t'=tc c/\H'=[.var (Ag c)]:=by
 refine Ru fun Q hQ=>?_;simp[Abz,tb,Ad];refine Ca (Lc c hc) ?_;simp[hv];refine hQ ⟨rfl,?_,?_⟩
 . simp[tc,Ad]
 simp
def fr_h3(c:Cn):A9 Tryz.prog Ab0 (tc c) [.var (Ag c)] fun e t' H'=>e= .normal/\t'=td c/\H'=[.var (Ag c),.var [.sl .nilT []]]:=by
 refine Ru fun Q hQ=>?_;simp[Ab0,tc,Ad];refine hQ ⟨rfl,?_,?_⟩
 . simp[td,Ad]
 simp
def fr_h4(c:Cn)(hv:Ar c=true):A9 Tryz.prog Ab1 (td c) [.var (Ag c),.var [.sl .nilT []]] fun e t' H'=>e= .normal/\t'=Ab3 c/\H'=M0 c (My R3 c 0 []):=by
 have Me:C0 c=true:=by simp only[Ar,Bb]at hv;exact hv.2.2
 have Xm:Bo c<=400:=by simp only[Ar,Bb,Aw]at hv;exact hv.2.1
 have Cl:=Kn hv
 have Y3:=Af9 (A9g c) 293 [.ptr 1 0] (fun n hn=>by simp[A0,AV.inScope]; omega) R3 (fun x=>x.length) 20000 (fun x bd y=>by unfold R3;split<;>simp)
  (fun x bd y hn h0 h1 hz=>Bro c x bd y hn h0 h1 hz) c 0 [] Me Aa Aa (by simpa using Cl)
 refine A9.reserve (A:=[.var (Ag c)]) (B:=[]) (Ru fun Q hQ=>?_);generalize My R3 c 0 []=xs at Y3 hQ;simp[Ab1,td,Ad];refine C1 (r:=.tup []) (by simpa[Ad,M0,Xf,Xd]using Y3) ?_;simp;refine hQ ⟨rfl,?_,?_⟩
 . simp[Ab3,Ad]
 rfl
def Aft{n:Int}(h0:0<=n)(h1:n<=1000000):IntKind.i64.has n:=by
 unfold IntKind.has IntKind.min IntKind.max IntKind.signed IntKind.bits;simp;omega
def A14(c:Cn)(hc:Al c<=1000000000000):∃p:F6×Int,Hc 239 [Ad c] (.tup [.sl .none (Dc p.1),.int .i64 p.2])/\(∀ z∈p.1,0<=z/\z<=20000)/\p.1.length<=20000:=by
 cases hv:Ar c with
 |false=>
  refine⟨([],1),?_,Ab,Ab⟩;refine Hg Bjy fun Q hQ=>?_;simp[Ad];refine Ca (Lc c hc) ?_;simp[hv]
  exact hQ
 |true=>
 have Me:C0 c=true:=by simp only[Ar,Bb]at hv;exact hv.2.2
 have Xm:Bo c<=400:=by simp only[Ar,Bb,Aw]at hv;exact hv.2.1
 have tu:=Asc c 0 [] Aa Aa Ab Me;have hlen:=Ase R3 (fun x=>x.length) (fun x bd y=>by unfold R3;split<;>simp) c 0 [];have Cl:=Kn hv;simp only[Ox,Pt]at hlen;have h4:=fr_h4 c hv;generalize My R3 c 0 []=xs at tu hlen h4
 refine⟨(Lib.compact (Jm xs),0),⟨A5,fun F g w vs hG hs hr=>?_⟩,fun z hz=>tu z (Ado (Avw hz)),by
  have h1:=Lib.compact_length_le (Jm xs);rw[V0]at h1;show(Lib.compact (Jm xs)).length<=20000
  omega⟩
 refine calls_of_wp Tryz.func239 rfl ?_;refine xu (A:=Aby) A5 (Bp6 Tryz.ntmps239 hG hs hr) (fr_h1 c) fun F1 g1 w1 a1 Ik Fd=>?_;refine xu (A:=Abz) A5 Ik (fr_h2 c hc hv) fun F2 g2 w2 a2 E7 Qb=>?_;refine xu (A:=Ab0) A5 E7 (fr_h3 c) fun F3 g3 w3 a3 hs3 Td=>?_;refine xu (A:=Ab1) A5 hs3 h4 fun F4 g4 w4 a4 hs4 hx4=>?_;have hx:=((Fd.trans Qb).trans Td).trans hx4;clear Fd Qb Td hx4 Ik E7 hs3 h4;obtain⟨Hb,Ur,O6, -⟩:=hs4;obtain⟨tm,df⟩:=a4;simp only at O6;subst O6;unfold Tm at Ur;simp only[Ab3,RL]at Ur;obtain⟨v0,_,e0,r0,v1,_,rfl,r1,v2,_,rfl,r2,v3,_,rfl,r3,v4,_,rfl,r4,v5,_,rfl,r5,v6,_,rfl,r6,v7,_,rfl,r7,v8,_,rfl,r8,v9,_,rfl,r9,v10,_,rfl,r10,v11,_,rfl,r11,v12,_,rfl,r12,v13,_,rfl,r13,v14,_,rfl,r14,rfl⟩:=Ur;obtain rfl:tm= #[v0,v1,v2,v3,v4,v5,v6,v7,v8,v9,v10,v11,v12,v13,v14]:=by apply L5;simpa using e0
 clear e0 r0 r1 r2 r3 r5 r6 r7 r8 r9 r10 r11 r12 r13 r14;obtain⟨B1,q1,q2,rfl⟩:=Nm r4;obtain⟨X,us,el,p1,p2,p3,p4,p5⟩:=Hb.var 1 _ rfl;rw[q1]at p1;cases p1;obtain⟨sv,Sh,Zc⟩:=qo p4;obtain rfl:us= #[sv]:=by apply L5;simpa using Sh
 have ir:w4.cell? ⟨B1,0,none⟩=some sv:=by simp[World.cell?,p3]
 have O5:w.heap.size<=B1:=by
  rcases hx.blks 1 B1 (by simp[M0]) q1 with h|h
  . exact absurd h.1 Ab
  exact h
 cases xs with
 |nil=>
  obtain rfl:sv= .slice none 0 0:=by
   obtain⟨_,h|⟨_,_,_,_,_,_,_,_,_,h⟩⟩:=L7 Zc
   . exact h.2.1
   exact absurd h (by simp[RT])
  obtain⟨z1,z2⟩:=Bm9 hs hx;clear Zc Hb hx q1 q2 p2 p3 p4 p5 r4 hr hs hG Sh
  go_wp2_with (first
   |(go_at_call 240;refine(Ah5 _ none 0).mono ?_;rintro e w5 ⟨rfl,rfl⟩)
   |(go_at_call 294;refine(A3e _ none 0).mono ?_;rintro e w5 ⟨rfl,rfl⟩))
  go_ret2
  refine⟨_,rfl,F,g,?_,z1,z2⟩;simp only[R,RL]
  refine⟨_,rfl,_,_,rfl,⟨by simp[Jm,Lib.compact,Lib.compactUpTo],.inl ⟨by simp[Jm,Lib.compact,Lib.compactUpTo],rfl,Ab,Ab⟩⟩,_,_,rfl,⟨rfl,Aft Di Di⟩,rfl⟩
 |cons x l=>
  obtain⟨D,cap,rfl,Dv,q3,M6,hI⟩:=Bkp Hb (t:=2) (zs:=x::l) Ab rfl Zc
  have hD:w.heap.size<=D:=by
   rcases hx.blks 2 D (by simp[M0]) q3 with h|h
   . exact absurd h.1 Ab
   exact h
  have Bg:B1≠D:=fun e=>by subst e;exact absurd (Hb.inj 1 2 B1 q1 q3) Di
  have hB1l:B1<w4.heap.size:=D1 p3;have Aua:(x::l).length<=1073741824:=by simpa[A1]using M6
  generalize Ra:x::l=xs at *;have Acw:=Ah4 D cap xs w4 hI Aa;have Ih:∀w5,Vc w4 D w5->w5.cell? ⟨B1,0,none⟩=some (.slice (some ⟨D,0,none⟩) xs.length cap):=fun w5 h=>(Oa (h.heap B1 hB1l Bg)).trans ir
  have hcomp:∀w5,Qn w5 D (Jm xs)->Calls Tryz.prog 294 #[.slice (some ⟨D,0,none⟩) xs.length cap] w5 fun e w'=>e= .returned (.slice (some ⟨D,0,none⟩) (Lib.compact (Jm xs)).length cap)/\Vc w5 D w'/\Qn w' D (Lib.compact (Jm xs)):=fun w5 h=>by
   have:=A3d D cap (Jm xs) w5 h (by rw[V0]; exact Dv) (by rw[V0]; omega);rwa [V0]at this
  have hlc:(Lib.compact (Jm xs)).length<=xs.length:=by
   have:=Lib.compact_length_le (Jm xs);rwa [V0]at this
  have P4:∀z∈Lib.compact (Jm xs),IntKind.i64.has z:=fun z hz=>by
   have:=tu z (Ado (Avw hz));exact Aft Aa Aa
  have Uo:∀w6,Vc w4 D w6->Qn w6 D (Lib.compact (Jm xs))->_:=fun w6 h1 h2=>Bab hs hx (B:=D) (cap:=cap) (zs:=Lib.compact (Jm xs)) hD h1 h2 Aa (by unfold A1;omega) P4;clear Zc Hb hx q1 q2 q3 p2 p3 p4 p5 r4 hr hs hG Sh Ra hlen tu hI M6 Aua Dv hB1l hD O5 P4 Bg
  go_wp2_with (first
   |(go_at_call 240;refine Acw.mono ?_;rintro e w5 ⟨rfl,hz⟩; have hb5:=Ih w5 hz.1;have hc5:=hcomp w5 hz.2)
   |(go_at_call 294;refine hc5.mono ?_;rintro e w6 ⟨rfl,hy⟩))
  go_ret2
  obtain⟨F2,z1,z2,z3⟩:=Uo w6 (hz.1.trans hy.1) hy.2;refine⟨_,rfl,F2,g,?_,z2,z3⟩;simp only[R,RL]at z1 ⊢;exact⟨_,rfl,_,_,rfl,z1,_,_,rfl,⟨rfl,Aft Di Di⟩,rfl⟩
end
section
attribute [-simp] Int.not_lt Int.not_le
attribute [local simp] Cb Cq
noncomputable def Xe(c:Cn):List Int×Int:=if h:Al c<=1000000000000 then Classical.choose (A14 c h)else([],0)
def Atp(c:Cn)(hc:Al c<=1000000000000):Hc 239 [Ad c] (.tup [.sl .none (Dc (Xe c).1),.int .i64 (Xe c).2])/\(∀ z∈(Xe c).1,0<=z/\z<=20000)/\(Xe c).1.length<=20000:=by
 unfold Xe;rw[Ob hc];exact Classical.choose_spec (A14 c hc)
def Yj(a:Int):List Int->List Nat->List Nat
 | [],ks=>ks
 |z::l,ks=>Yj a l (if a<=z then T0 (z-a).toNat ks else ks)
def Jg(t:Te)(x:List Nat×List Nat):List HB:=[.var (Bi t),.mp x.1,.mp x.2,.var [.mapv 1],.var [.mapv 2]]
def Atx(t:Te):Gw (Jg t) 5:=⟨fun _=>rfl,fun x k hk=>by simp[Jg,Be,A0,AV.inScope]; omega⟩
noncomputable def ae(c:Cn)(a _b:Int)(x:List Nat×List Nat):List Nat×List Nat:=(Yj a (Xe c).1 x.1,x.2)
def Xh(n _a b:Int)(x:List Nat×List Nat):List Nat×List Nat:=if b<=n then(x.1,T0 (n-b).toNat x.2)else x
def Bq7(t:Te)(c:Cn)(a b:Int)(x:Ck×Ck)(hc:Al c<=1000000000000)(h0:0<=a)(h1:a<=1000):
 HP 248 ([Ad c,C2 a b]++[.ptr 3 0]) (Jg t x) (.tup []) (Jg t (ae c a b x)):=by
 obtain⟨hfr,hb,Dw⟩:=Atp c hc;unfold ae;generalize Xe c=p at hfr hb Dw;obtain⟨l,e⟩:=p;simp only at hfr hb Dw;have A8:=(Atx t).sc;refine Hf Bjh (hl:=(by simp[Jg])) fun Am Q hQ=>?_;clear Am;simp[Ad,Ap c,C2,Jg];refine Ca hfr ?_;simp
 refine Ip (A9.loopS (Jg t) (fun n f s G=>∃k:Nat,k+n=l.length/\f 16= .int .i64 k/\Yj a (l.drop k) s.1=Yj a l x.1/\s.2=x.2/\G=[.var [.int .i64 c.op,.int .i64 c.n,.str c.s,.sl .none (c.k.l.map Ak),.sl .none (At c.names),.sl .none (c.l.map Ag)],.var [.int .i64 a,.int .i64 b]])
  l.length x [.var [.int .i64 c.op,.int .i64 c.n,.str c.s,.sl .none (c.k.l.map Ak),.sl .none (At c.names),.sl .none (c.l.map Ag)],.var [.int .i64 a,.int .i64 b]] (by simp[Jg]) ⟨0,Ab,rfl,Ab,rfl,rfl⟩ ?_)
 rintro n f ⟨k1,k2⟩ G ⟨k,hk,Yv,he,E7,rfl⟩;simp only at he E7;refine Ru fun Q2 Aj=>?_;simp[Yv,Jg];by_cases Af:k<l.length
 . have hd:=Ct Af;have hz:=hb l[k] (Cy _);have hw:=Au (n:=l[k]-a) Aa Aa;rw[hd,Yj]at he;have hg:∀h:k<(Dc l).length,(Dc l)[k]'h=[.int .i64 l[k]]:=fun h=>by simp[Dc]
   by_cases hle:a<=l[k]
   . rw[Ae hle]at he;have hm:l[k]<Pa+a:=by unfold Pa;omega
     have hm2:l[k]-a<Pa:=Aa;simp[Af,hg,hle,hw,hm2,Au (n:=(k:Int)+1) Aa Aa];refine Aj (Rb (n-1) (T0 (l[k]-a).toNat k1,k2) (G':=[.var [.int .i64 c.op,.int .i64 c.n,.str c.s,.sl .none (c.k.l.map Ak),.sl .none (At c.names),.sl .none (c.l.map Ag)],.var [.int .i64 a,.int .i64 b]]) (by simp[Jg]) Aa Ab ?_);exact⟨k+1,Aa,Ab,he,E7,rfl⟩
   rw[Ac hle]at he;simp[Af,hg,hle,Au (n:=(k:Int)+1) Aa Aa];refine Aj (Rb (n-1) (k1,k2) (G':=[.var [.int .i64 c.op,.int .i64 c.n,.str c.s,.sl .none (c.k.l.map Ak),.sl .none (At c.names),.sl .none (c.l.map Ag)],.var [.int .i64 a,.int .i64 b]]) (by simp[Jg]) Aa Ab ?_);exact⟨k+1,Aa,Ab,he,E7,rfl⟩
 rw[Cm Aa,Yj]at he;simp[Af];refine Aj (Sk ?_);show KE _ 0 _ Q _ _;simp;exact hQ (by simp[Jg,he,E7])
def Bq8(t:Te)(n a b:Int)(x:Ck×Ck)(Ns:0<=n)(De:n<=20000)(h0:0<=b)(h1:b<=1000):
 HP 249 ([.int .i64 n,C2 a b]++[.ptr 4 0]) (Jg t x) (.tup []) (Jg t (Xh n a b x)):=by
 obtain⟨k1,k2⟩:=x;refine Hf Bji (hl:=(by simp[Jg])) fun Am Q hQ=>?_;clear Am;have hw:=Au (n:=n-b) Aa Aa;by_cases hle:b<=n
 . have hm2:n-b<Pa:=by unfold Pa;omega
   have hm3:n<Pa+b:=Aa;simp[C2,Jg,hle,hw,hm2];exact hQ (by simp[Jg,Xh,hle])
 simp[C2,Jg,hle];exact hQ (by simp[Jg,Xh,hle])
def A9h(t:Te):Wlk (Jg t) 5 248 249 [.ptr 3 0] [.ptr 4 0] ae Xh where
 hps:=Atx t
 con c a b x hv g0 _ g1 _:=Bq7 t c a b x (by have:=Kn hv;omega) g0 g1
 var n a b x n0 n1 _ g0 _ g1:=Bq8 t n a b x n0 n1 g0 g1
 c1 n hn:=by simp[A0,AV.inScope]; omega
 c2 n hn:=by simp[A0,AV.inScope]; omega
def Mp(n:Int):List Int->List Int->Bool->List Int×Bool
 | [],o,d=>(o,d)
 |x::xs,o,d=>Mp n xs ((if d=false/\n<=x then o++[n]else o)++(if x=n then []else [x])) (if d=false/\n<=x then true else d)
def Yi(n:Int)(l:List Int):List Int:=(Mp n l [] false).1++(if(Mp n l [] false).2=true then []else [n])
def Aia(n:Int):∀(l:List Int) (o:List Int) (d:Bool),(Mp n l o d).1.length+(if(Mp n l o d).2=true then 0 else 1)<=o.length+l.length+(if d=true then 0 else 1)
 | [],o,d=>by rw[Mp]; exact Bm _
 |x::xs,o,d=>by
  have h:=Aia n xs ((if d=false/\n<=x then o++[n]else o)++(if x=n then []else [x])) (if d=false/\n<=x then true else d);rw[Mp];refine Ps h ?_;cases d<;>by_cases h1:n<=x<;>by_cases h2:x=n<;>simp[h1,h2]<;>omega
def A39(n:Int)(l:F6):(Yi n l).length<=l.length+1:=by
 have h:=Aia n l [] false;unfold Yi;cases h2:(Mp n l [] false).2<;>rw[h2]at h<;>simp at h ⊢<;>omega
def Aib(n v:Int):∀(l:List Int) (o:List Int) (d:Bool),(d=true->n∈o)->((v∈(Mp n l o d).1\/((Mp n l o d).2=false/\v=n))↔(v∈o\/v∈l\/v=n))
 | [],o,d,h=>by
   simp only[Mp,Pq,Xb];constructor
   . rintro(h|⟨_,h⟩)
     . exact .inl h
     exact .inr h
   rintro(h1|h1)
   . exact .inl h1
   cases d
   . exact .inr ⟨rfl,h1⟩
   exact .inl (h1▸h rfl)
 |x::xs,o,d,h=>by
  rw[Mp]
  rw[Aib n v xs ((if d=false/\n<=x then o++[n]else o)++(if x=n then []else [x])) (if d=false/\n<=x then true else d) (fun hd=>by
   by_cases hc:d=false/\n<=x
   . rw[Ae hc]; simp
   rw[Ac hc]at hd ⊢; simp[h hd])]
  by_cases hc:d=false/\n<=x<;>by_cases hx:x=n
  . rw[Ae hc,Ae hx];simp only[qb,er,Pp,Pq,Iy];constructor
    . rintro((h|h)|h|h)
      . exact .inl h
      . exact .inr (.inr h)
      . exact .inr (.inl (.inr h))
      exact .inr (.inr h)
    rintro(h|(h|h)|h)
    . exact .inl (.inl h)
    . exact .inr (.inr (h.trans hx))
    . exact .inr (.inl h)
    exact .inr (.inr h)
  . rw[Ae hc,Ac hx];simp only[er,Pp,Pq,Iy];constructor
    . rintro(((h|h)|h)|h|h)
      . exact .inl h
      . exact .inr (.inr h)
      . exact .inr (.inl (.inl h))
      . exact .inr (.inl (.inr h))
      exact .inr (.inr h)
    rintro(h|(h|h)|h)
    . exact .inl (.inl (.inl h))
    . exact .inl (.inr h)
    . exact .inr (.inl h)
    exact .inr (.inr h)
  . rw[Ac hc,Ae hx];simp only[qb,Pp];constructor
    . rintro(h|h|h)
      . exact .inl h
      . exact .inr (.inl (.inr h))
      exact .inr (.inr h)
    rintro(h|(h|h)|h)
    . exact .inl h
    . exact .inr (.inr (h.trans hx))
    . exact .inr (.inl h)
    exact .inr (.inr h)
  rw[Ac hc,Ac hx];simp only[er,Pp,Pq,Iy];constructor
  . rintro((h|h)|h|h)
    . exact .inl h
    . exact .inr (.inl (.inl h))
    . exact .inr (.inl (.inr h))
    exact .inr (.inr h)
  rintro(h|(h|h)|h)
  . exact .inl (.inl h)
  . exact .inl (.inr h)
  . exact .inr (.inl h)
  exact .inr (.inr h)
def A4a(n v:Int)(l:F6):v∈Yi n l↔(v∈l\/v=n):=by
 have h:=Aib n v l [] false Ab;unfold Yi;cases h2:(Mp n l [] false).2
 . rw[h2]at h;simpa using h
 rw[h2]at h;simpa using h
def Ac2{l:F6}{k:Nat}(h:k<l.length)(h':k<(Dc l).length):(Dc l)[k]=[.int .i64 l[k]]:=by simp[Dc]
def jo(l:F6):D3 1 (Dc l)=true:=Ea _ _ fun _=>rfl
def Blh(l:F6)(z:Int)(Dw:l.length<=1000000000):Hc 389 [.sl .none (Dc l),.int .i64 z] (.sl .none (Dc (Yi z l))):=by
 have key:Yi z l=(Mp z l [] false).1++(if(Mp z l [] false).2=true then []else [z]):=rfl;refine Hg Bge fun Q hQ=>?_;simp;refine WL [] (fun n f h G=>∃k tok o d,k+n=l.length/\f 7= .int .i64 k/\f 5= .sl tok (Dc o)/\f 6= .bool d/\Mp z (l.drop k) o d=Mp z l [] false/\o.length<=k+1/\(d=false->o.length<=k)/\owns 0 G tok (Dc o) 1) (l.length) Ab ⟨0,.nilT,[],false,Ab,rfl,rfl,rfl,Ab,Ab,Ab,Fp _ _ _⟩ ?_;rintro n f h G ⟨k,tok,o,d,hk,h7,h5,h6,Hb,hol,jd,Bt⟩ Q2 Aj;simp[h7,h5,h6];by_cases Af:k<l.length
 . have hd:=Ct Af;have hg:=Ac2 Af;rw[hd,Mp]at Hb;generalize l[k]=x at Hb hg;have hw:=Au (n:=(k:Int)+1) Aa Aa;by_cases hc:d=false/\z<=x
   . rw[Ae hc,Ae hc]at Hb;obtain⟨rfl,hzx⟩:=hc;have jd:=jd rfl;by_cases hx:x=z
     . rw[Ae hx]at Hb;simp[Af,hg,hx];refine Ss (A:=[]) (by simpa using Bt) (by simp[A1]; omega) (jo _) Ab fun tok' G' Bv Ei=>?_;simp[Af,hg,hx,hw];rw[bz]at Bv ⊢;refine Aj (Ln h ?_);exact⟨k+1,tok',o++[z],true,Aa,Ab,Ab,Ab,by simpa using Hb,by simp;omega,Ab,Bv⟩
     rw[Ac hx]at Hb;simp[Af,hg,hzx];refine Ss (A:=[]) (by simpa using Bt) (by simp[A1]; omega) (jo _) Ab fun tok' G' Bv Ei=>?_;rw[bz]at Bv ⊢;simp[Af,hg,hx];refine Ss (A:=[]) (by simpa using Bv) (by simp[A1]; omega) (jo _) Ab fun tok' G' Bv Ei=>?_;rw[bz]at Bv ⊢;simp[hw];refine Aj (Ln h ?_);exact⟨k+1,tok',o++[z]++[x],true,Aa,Ab,Ab,Ab,by simpa using Hb,by simp;omega,Ab,Bv⟩
   rw[Ac hc,Ac hc]at Hb
   have Y5:d=true\/¬z<=x:=by
    cases d
    . exact .inr fun h=>hc ⟨rfl,h⟩
    exact .inl rfl
   have hol3:o.length<=k+1:=hol;by_cases hx:x=z
   . rw[Ae hx]at Hb;have hdt:d=true:=Y5.resolve_right (fun h=>h Aa);subst hdt;simp[Af,hg,hx,hw];refine Aj (Ln h ?_);exact⟨k+1,tok,o,true,Aa,Ab,Ab,Ab,by simpa using Hb,Aa,Ab,Bt⟩
   rw[Ac hx]at Hb;have hol4:(d=false->o.length<=k):=jd;cases d
   . have hzx:¬z<=x:=Y5.resolve_left Ab;have jd:=jd rfl;simp[Af,hg,hzx,hx];refine Ss (A:=[]) (by simpa using Bt) (by simp[A1]; omega) (jo _) Ab fun tok' G' Bv Ei=>?_;rw[bz]at Bv ⊢;simp[hw];refine Aj (Ln h ?_);exact⟨k+1,tok',o++[x],false,Aa,Ab,Ab,Ab,by simpa using Hb,by simp;omega,by simp;omega,Bv⟩
   simp[Af,hg,hx];refine Ss (A:=[]) (by simpa using Bt) (by simp[A1]; omega) (jo _) Ab fun tok' G' Bv Ei=>?_;rw[bz]at Bv ⊢;simp[hw];refine Aj (Ln h ?_);exact⟨k+1,tok',o++[x],true,Aa,Ab,Ab,Ab,by simpa using Hb,by simp;omega,Ab,Bv⟩
 have hd:l.drop k=[]:=Cm Aa;rw[hd,Mp]at Hb;rw[<- Hb]at key;simp only at key;simp[Af];refine Aj (Lx ?_);cases d
 . have:=jd rfl;simp;refine Ss (A:=[]) (by simpa using Bt) (by simp[A1]; omega) (jo _) Ab fun tok' G' Bv Ei=>?_;rw[bz];simp;exact hQ
 simp;exact hQ
mutual
def Qy:Cn->Int->List Int->List Int
 | .mk o n _ _ _ cl,d,l=>if o=1/\d<=n then Yi (IntKind.i64.wrap (n-d)) l else Qz cl (if Bw o=true then IntKind.i64.wrap (d+1)else d) l
def Qz:List Cn->Int->List Int->List Int
 | [],_,l=>l
 |c::cs,d,l=>Qz cs d (Qy c d l)
end
def A9f(c:Cn)(d:Int)(l:F6):Qy c d l=if c.op=1/\d<=c.n then Yi (IntKind.i64.wrap (c.n-d)) l else Qz c.l (if Bw c.op=true then IntKind.i64.wrap (d+1)else d) l:=by
 cases c;rw[Qy]; rfl
mutual
def Ab2:∀(c:Cn) (d:Int) (l:List Int),(Qy c d l).length<=l.length+Al c
 | .mk o n s k ns cl,d,l=>by
   rw[Qy];simp only[Al];split
   . have:=A39 (IntKind.i64.wrap (n-d)) l;omega
   have:=Atr cl (if Bw o=true then IntKind.i64.wrap (d+1)else d) l;omega
def Atr:∀(cs:List Cn) (d:Int) (l:List Int),(Qz cs d l).length<=l.length+Bd cs
 | [],_,l=>by simp[Qz,Bd]
 |c::cs,d,l=>by
  have h1:=Ab2 c d l;have h2:=Atr cs d (Qy c d l);rw[Qz];simp only[Bd]; omega
end
mutual
def Atq:∀(c:Cn) (d:Int) (l:List Int),C0 c=true->0<=d->d+Bo c<=10000->((0:Int)∈Qy c d l↔((0:Int)∈l\/Ix c d=true))
 | .mk o n s k ns cl,d,l,hf,h0,hd=>by
   have hn:=hf;rw[Mu,Bb]at hn;have M4:=Jt (.mk o n s k ns cl);simp only[Cn.l]at M4;rw[Qy,Ix];have hw:IntKind.i64.wrap (d+1)=d+1:=Au Aa Aa;by_cases h1:o=1
   . obtain⟨-,g1,g2⟩:=V3 hn.1 h1;have En:=(jz hn.1 (.inl h1)).1;simp only[Cn.n,Cn.l]at g1 g2 En;subst En;rw[Ae h1];by_cases h2:d<=n
     . rw[Ae ⟨h1,h2⟩,A4a,Au (n:=n-d) Aa Aa];have:((0:Int)=n-d)↔n=d:=Aa;rw[this]; simp
     rw[Ac (fun h=>h2 h.2),Qz];have:¬n=d:=Aa;simp[this]
   rw[Ac (fun h=>h1 h.1),Ac h1,hw];exact Ats cl _ l hn.2 (by split<;>omega) (by split<;>omega)
def Ats:∀(cs:List Cn) (d:Int) (l:List Int),cs.all C0=true->0<=d->d+Cz cs<=10000->((0:Int)∈Qz cs d l↔((0:Int)∈l\/Pc cs d=true))
 | [],_,l,_,_,_=>by simp[Qz,Pc]
 |c::cs,d,l,hf,h0,hd=>by
  rw[Er,Bb]at hf;simp only[Cz]at hd;rw[Qz,Ats cs d _ hf.2 h0 Aa,Atq c d l hf.1 h0 Aa,Pc,Wj,or_assoc]
end
def Blk(l:F6)(c:Cn)(d:Int)(hl:l.length+Al c<=1000000000)(A6:∀x∈c.l,∀(l:F6) (d:Int),l.length+Al x<=1000000000->Hc 372 [.sl .none (Dc l),Ad x,.int .i64 d] (.sl .none (Dc (Qy x d l)))):
 Hc 372 [.sl .none (Dc l),Ad c,.int .i64 d] (.sl .none (Dc (Qy c d l))):=by
 have key:=A9f c d l;have hse:=Ir c;refine Hf Bgi fun Am Q hQ=>?_;have hf:=Mv (c:=c) (by simpa[Bl,Ad,AV.fits]using Am.2.1);have B5:c.l.length<=1073741824:=hf.2.2.2.2.2.2.2.1;clear Am hf;by_cases h1:c.op=1/\d<=c.n
 . rw[Ae h1]at key;obtain⟨h1,h2⟩:=h1;simp[Ad,Ap c,h1,h2];refine Ca (Blh l (IntKind.i64.wrap (c.n-d)) Aa) ?_;simp;exact hQ
 rw[Ac h1]at key;generalize O6:(if Bw c.op=true then IntKind.i64.wrap (d+1)else d)=df at key;have Ui:=wc c d;rw[O6]at Ui;simp[-Az,Ad,Ap c];rw[Az];simp[-Az];refine Gc (fun f=>True) (fun Q' hn hr=>?_) (fun f hI=>?_)
 . by_cases h2:c.op=1
   . have h3:¬d<=c.n:=fun h=>h1 ⟨h2,h⟩;have q:decide (c.op=1)=true:=Mx h2;simp[q,h3];refine hn _ Ab ?_;trivial
   simp[h2];refine hn _ Ab ?_;trivial
 simp;refine WL [] (fun n f h G=>∃(k:Nat) (m:F6),k+n=c.l.length/\f 7= .int .i64 k/\f 0= .sl .none (Dc m)/\Qz (c.l.drop k) df m=Qz c.l df l/\m.length+Bd (c.l.drop k)<=l.length+Bd c.l/\G=[]) (c.l.length) Ab ⟨0,l,Ab,rfl,rfl,Ab,Ab,rfl⟩ ?_;rintro n f h G ⟨k,m,hk,h7,h0,hm,S8,rfl⟩ Q2 Aj;simp[h7,h0];by_cases Af:k<c.l.length
 . have hd:=Ct Af;rw[hd,Qz]at hm;rw[hd,Bd]at S8;have A6:=A6 c.l[k] (Cy _) m df Aa;have Ji:=Ab2 c.l[k] df m;generalize Qy c.l[k] df m=m' at A6 hm Ji;simp[Af];refine Wd ?_;simp[Af];refine Da Ui ?_;simp;refine Da A6 ?_;simp[Au (n:=(k:Int)+1) Aa Aa];refine Aj (Ln h ?_);exact⟨k+1,m',Aa,Ab,Ab,hm,Aa,rfl⟩
 have hd:c.l.drop k=[]:=Cm Aa;rw[hd,Qz]at hm;rw[<- hm]at key;simp[Af];refine Aj (Lx ?_);simp;exact hQ
def Axx(l:F6)(c:Cn)(d:Int)(hl:l.length+Al c<=1000000000):Hc 372 [.sl .none (Dc l),Ad c,.int .i64 d] (.sl .none (Dc (Qy c d l))):=
 Blk l c d hl fun x _ l d hl=>Axx l x d hl
termination_by SizeOf.sizeOf c
decreasing_by exact Cn.lt_l ‹_›
def Bk9(c:Cn)(hc:Al c<=1000000000):Hc 347 [Ad c] (.sl .none (Dc (Qy c 0 []))):=by
 have hk:=Axx [] c 0 (by simpa using hc);refine Hg Bf2 fun Q hQ=>?_;simp[Ad,Ap c];refine Ca hk ?_ (he:=by simp[Ad,Ap c,Dc]);simp;exact hQ
def Blr(c:Cn)(hv:Ar c=true):Hc 309 [Ad c,.int .i64 0] (.bool (Ix c 0)):=by
 obtain⟨v1,v2,v3⟩:=Gz hv;have hfr:=Bk9 c Aa;have hlen:=Ab2 c 0 [];have Un:=Atq c 0 [] v3 Aa Aa;generalize Qy c 0 []=l at hfr hlen Un;simp only[Pq,Xb,Ox]at Un hlen;refine Hg Bgq fun Q hQ=>?_;simp[Ad,Ap c];refine Ca hfr ?_;simp;refine WL [] (fun n f h G=>∃k:Nat,k+n=l.length/\f 6= .int .i64 k/\(∀ v∈l.take k,v≠0)/\G=[]) (l.length) Ab ⟨0,Ab,rfl,Ab,rfl⟩ ?_;rintro n f h G ⟨k,hk,h6,hv0,rfl⟩ Q2 Aj;simp[h6];by_cases Af:k<l.length
 . have hg:=Ac2 Af;have ht:=Nj l k Af;have hm:l[k]∈l:=Cy Af;generalize l[k]=x at hg ht hm;by_cases hx:x=0
   . have ho:Ix c 0=true:=Un.1 (hx▸hm);simp[Af,hg,hx];refine Aj (Lr ?_);simp;exact hQ
   simp[Af,hg,hx,Au (n:=(k:Int)+1) Aa Aa];refine Aj (Ln h ?_);refine⟨k+1,Aa,Ab,fun v hv=>?_,rfl⟩;rw[ht]at hv;rcases List.mem_append.1 hv with hv|hv
   . exact hv0 v hv
   rw[List.mem_singleton.1 hv]; exact hx
 have ho:Ix c 0=false:=by
  cases h:Ix c 0
  . rfl
  have:=Un.2 h;rw[<- Gj (i:=k) (l:=l) Aa]at this;exact absurd rfl (hv0 0 this)
 simp[Af];refine Aj (Lx ?_);simp;exact hQ
def Ax2(c:Cn)(hv:Ar c=true):Hc 269 [Ad c] (.bool (Kw c)):=by
 have h1:=(Rv c).1 (Zq hv).1;by_cases ho:c.op=11
 case neg=>
  refine Hg Ad4 fun Q hQ=>?_;simp[Ad,Ap c,ho];exact hQ (by simp[Kw,ho])
 obtain⟨x,hl⟩:∃x,c.l=[x]:=by
  have:=h1.1.2 ho
  match h:c.l,this with
  | [x],_=>exact⟨x,rfl⟩
 have vx:Ar x=true:=Jq hv (by simp[hl]);by_cases hx:x.op=12
 case neg=>
  refine Hg Ad4 fun Q hQ=>?_;simp[Ad,Ap c,ho,hl,Ap x,hx];exact hQ (by simp[Kw,ho,hl,hx])
 obtain⟨f,a,Ol⟩:∃f a,x.l=[f,a]:=by
  have:=((Rv x).1 (h1.2 x (by simp[hl]))).1.1 hx
  match h:x.l,this with
  | [f,a],_=>exact⟨f,a,rfl⟩
 have vf:Ar f=true:=Jq vx (by simp[Ol]);have M7:=Blr f vf;have key:Kw c=(decide (a.op=1)&&(decide (a.n=0) && !Ix f 0)):=by simp[Kw,ho,hl,hx,Ol]
 refine Hg Ad4 fun Q hQ=>?_;simp[Ad,Ap c,ho,hl,Ap x,hx,Ol,Ap a];by_cases h3:a.op=1
 . by_cases h4:a.n=0
   . simp[h3,h4];refine Ca M7 ?_;simp;exact hQ
   simp[h3,h4];exact hQ
 simp[h3];exact hQ
inductive Z2:List Cn->Int->List Cn->Option Int->Prop
 |nil (n:Int):Z2 [] n [] (some n)
 |bad {c:Cn} {l:List Cn} {n:Int} (r:Cn) (m:Int) (h:Hc 199 [Ad c,.int .i64 n] (Mk r m)) (hm:m<0):Z2 (c::l) n [] none
 |good {c:Cn} {l rs:List Cn} {n:Int} {z:Option Int} (r:Cn) (m:Int) (h:Hc 199 [Ad c,.int .i64 n] (Mk r m)) (hm:0<=m) (hl:Z2 l m rs z):Z2 (c::l) n (r::rs) z
inductive Wy (out:Cn):Option Int->Cn×Int->Prop
 |bad:Wy out none (A3, -1)
 |invalid (n:Int) (h:Ar out=false):Wy out (some n) (A3, -1)
 |zero (f a:Cn) (h:Ar out=true) (ho:out.op=12) (hl:out.l=[f,a]) (hf:f.op=11):Wy out (some 0) (A3, -1)
 |grown (n:Int) (f a b:Cn) (g:Int) (h:Ar out=true) (ho:out.op=12) (hl:out.l=[f,a]) (hf:f.op=11) (hb:f.l=[b]) (hn:n≠0) (hg:Hc 268 [Ad b,.sl .none ([a].map Ag)] (.int .i64 g)) (h2:20000<g):Wy out (some n) (A3, -1)
 |next (n:Int) (f a b:Cn) (g:Int) (h:Ar out=true) (ho:out.op=12) (hl:out.l=[f,a]) (hf:f.op=11) (hb:f.l=[b]) (hn:n≠0) (hg:Hc 268 [Ad b,.sl .none ([a].map Ag)] (.int .i64 g)) (h2:¬20000<g) (hv:Ar (Do [a] b 0)=false):Wy out (some n) (A3, -1)
 |beta (n:Int) (f a b:Cn) (g:Int) (z:Cn×Int) (h:Ar out=true) (ho:out.op=12) (hl:out.l=[f,a]) (hf:f.op=11) (hb:f.l=[b]) (hn:n≠0) (hnb: -1000<=n/\n<=1000000) (hg:Hc 268 [Ad b,.sl .none ([a].map Ag)] (.int .i64 g)) (h2:¬20000<g) (hv:Ar (Do [a] b 0)=true)
  (hz:Hc 199 [Ad (Do [a] b 0),.int .i64 (n-1)] (Mk z.1 z.2)):Wy out (some n) z
 |eta (n:Int) (x f a:Cn) (h:Ar out=true) (ho:out.op=11) (hl:out.l=[x]) (hx:x.l=[f,a]) (he:Kw out=true):Wy out (some n) (Dm f (-1) 0,n)
 |plain (n:Int) (h:Ar out=true) (ho:out.op=12->∃f a,out.l=[f,a]/\f.op≠11) (he:Kw out=false):Wy out (some n) (out,n)
def Blq(c:Cn)(left:Int)(ps:Ax)(y:Option Int)(z:Cn×Int)(Md:Z2 c.l left ps y)(Cl:Al (.mk c.op c.n c.s c.k c.names ps)<=1000000000000)(hT:Wy (.mk c.op c.n c.s c.k c.names ps) y z):
 Hc 199 [Ad c,.int .i64 left] (Mk z.1 z.2):=by
 refine Hf Bgp fun Am Q hQ=>?_;have hf:=Mv (c:=c) (by simpa[Bl,Ad,AV.fits]using Am.1);have B5:c.l.length<=1073741824:=hf.2.2.2.2.2.2.2.1;clear Am hf;simp[Ad,Ap c]
 refine Ip (A9.loopI [2] (fun n f' h G=>∃(k:Nat) (tok:Dh) (m:Int) (done rest:Ax),k+n=c.l.length/\done.length=k/\f' 7= .int .i64 k/\f' 1= .int .i64 m/\
  h 2=[.int .i64 c.op,.int .i64 c.n,.str c.s,.sl .none (c.k.l.map Ak),.sl .none (At c.names),.sl tok (done.map Ag)]/\
  owns 3 G tok (done.map Ag) 6/\Z2 (c.l.drop k) m rest y/\(y≠none->done++rest=ps)) c.l.length Ab ⟨0,.nilT,left,[],ps,Ab,rfl,rfl,rfl,by simp[Fs],Fp _ _ _,by simpa using Md,Ab⟩ ?_)
 rintro n f' h' G ⟨k,tok,m,done,rest,hk,hP,h7,h1,ho',Bt,hN,hr⟩;refine Ru fun Q2 Aj=>?_;simp[h7,h1,ho'];by_cases Af:k<c.l.length
 . have hd:=Ct Af;rw[hd]at hN;simp[Af,Ap c.l[k]]
   cases hN with
   |bad r m2 hcall hm2=>
    cases hT;refine Ca hcall ?_;simp[Mk,Ad,Ap r,hm2];refine Aj (Lr ?_);simp
    exact hQ (by simp[Mk,Ad,E9])
   | @good _ _ rs _ _ r m2 hcall hm2 hl=>
     have hm2':¬m2<0:=Aa;refine Ca hcall ?_;simp[Mk,Ad,Ap r,hm2',Dx];refine Tw [_,_,_] (G++[_]) (by simp only[Gb,Gx]; rfl) (by simpa using Lv Bt) (by simp[A1]; omega) (Ea _ _ Iq) Ab fun tok' G' Bv Ei=>?_;simp[Au (n:=(k:Int)+1) Aa Aa];refine Aj (Fo (n-1) (fun _=>[.int .i64 c.op,.int .i64 c.n,.str c.s,.sl .none (c.k.l.map Ak),.sl .none (At c.names),.sl tok' ((done++[r]).map Ag)]) (G':=G') (by simp[Ap r]) Aa Ab ?_);exact⟨k+1,tok',m2,done++[r],rs,Aa,by simp[hP],Ab,Ab,Ab,by simpa[Ap r]using Bv,hl,fun h=>by rw[<- hr h]; simp⟩
 have hd:c.l.drop k=[]:=Cm Aa;rw[hd]at hN;cases hN;have hps:done=ps:=by simpa using hr Ab
 subst hps;clear hr Bt hP ho' h1 h7;have Fb:=Lw (.mk c.op c.n c.s c.k c.names done);simp[Af];refine Aj (Lx ?_);simp
 cases hT with
 |invalid _ h=>
  rw[h]at Fb;refine Ca Fb ?_ (he:=by simp[Ad,Fj]);simp
  exact hQ (by simp[Mk,Ad,E9])
 |zero f a h ho hl hf=>
  rw[h]at Fb;refine Ca Fb ?_ (he:=by simp[Ad,Fj]);have q12:c.op=12:=ho;clear ho;have hl:done=[f,a]:=hl;clear Fb h Cl;subst hl;simp[q12,Ap f,hf]
  exact hQ (by simp[Mk,Ad,E9])
 |grown _ f a b g h ho hl hf hb hn hg h2=>
  rw[h]at Fb;refine Ca Fb ?_ (he:=by simp[Ad,Fj]);have q12:c.op=12:=ho;clear ho;have hl:done=[f,a]:=hl;clear Fb h Cl;subst hl;simp[q12,Ap f,hf,hb,hn];refine Wd ?_;simp;refine Da hg ?_;simp[h2]
  exact hQ (by simp[Mk,Ad,E9])
 |next _ f a b g h ho hl hf hb hn hg h2 hv=>
  have bu:=Lw (Do [a] b 0);have vf:Ar f=true:=Jq h (by show f∈done;rw[show done=[f,a]from hl]; simp);have D4:=kb [a] b (by have:=(Gz (Jq vf (by rw[hb]; simp:b∈f.l))).2.1;omega);rw[hv]at bu;rw[h]at Fb;refine Ca Fb ?_ (he:=by simp[Ad,Fj]);have q12:c.op=12:=ho;clear ho;have hl:done=[f,a]:=hl;clear Fb h Cl;subst hl;generalize Do [a] b 0=u at bu D4;simp[q12,Ap f,hf,hb,hn];refine Wd ?_;simp;refine Da hg ?_;simp[h2];refine Gr (fun _=>true) [] Bc Bc ?_;simp;refine Da D4 ?_;simp[Ad,Ap u];refine⟨fun b cs _ hb=>by simpa using E4 (L:=[_]) hb,?_⟩;refine Ca bu ?_;simp
  exact hQ (by simp[Mk,Ad,E9])
 |beta _ f a b g z h ho hl hf hb hn hnb hg h2 hv hz=>
  have bu:=Lw (Do [a] b 0);have vf:Ar f=true:=Jq h (by show f∈done;rw[show done=[f,a]from hl]; simp);have D4:=kb [a] b (by have:=(Gz (Jq vf (by rw[hb]; simp:b∈f.l))).2.1;omega);rw[hv]at bu;rw[h]at Fb;refine Ca Fb ?_ (he:=by simp[Ad,Fj]);have q12:c.op=12:=ho;clear ho;have hl:done=[f,a]:=hl;clear Fb h Cl hv;subst hl;generalize Do [a] b 0=u at bu D4 hz;obtain⟨r,e⟩:=z;simp[q12,Ap f,hf,hb,hn];refine Wd ?_;simp;refine Da hg ?_;simp[h2];refine Gr (fun _=>true) [] Bc Bc ?_;simp;refine Da D4 ?_;simp[Ad,Ap u];refine⟨fun b cs _ hb=>by simpa using E4 (L:=[_]) hb,?_⟩;refine Ca bu ?_;simp[Au (n:=m-1) Aa Aa];refine Ca hz ?_;simp[Mk,Ad,Ap r]
  exact hQ (by simp[Mk,Ad,Ap r])
 |eta _ x f a h ho hl hx he=>
  have iv:=Ax2 _ h;rw[he]at iv;have Br:=dd f (-1) 0;rw[h]at Fb;refine Ca Fb ?_ (he:=by simp[Ad,Fj]);have q11:c.op=11:=ho;clear ho;have hl:done=[x]:=hl;clear Fb h Cl he;subst hl;generalize Dm f (-1) 0=u at Br hQ;simp[q11,Ap x,hx];refine Ca iv ?_ (he:=by simp[Ad,Fj,q11,Ap x,hx]);simp;refine Ca Br ?_;simp[Ad,Ap u]
  exact hQ (by simp[Mk,Ad,Ap u])
 |plain _ h ho he=>
  have iv:=Ax2 _ h;rw[he]at iv;rw[h]at Fb;refine Ca Fb ?_ (he:=by simp[Ad,Fj]);clear Fb h Cl he;have ho:c.op=12->∃f a,done=[f,a]/\f.op≠11:=ho;by_cases q12:c.op=12
  . obtain⟨f,a,hl,hf⟩:=ho q12;clear ho;subst hl;simp[q12,Ap f,hf];refine Ca iv ?_ (he:=by simp[Ad,Fj,q12,Ap f]);simp;exact hQ (by simp[Mk,Ad,Fj,q12,Ap f])
  clear ho;simp[q12];refine Ca iv ?_ (he:=by simp[Ad,Fj]);simp;exact hQ (by simp[Mk,Ad,Fj])
mutual
def gr(sz:List Int):Cn->Int->Int
 | .mk o n _ _ _ cl,d=>if o=1/\d<=n/\IntKind.i64.wrap (n-d)<sz.length then sz.getD (IntKind.i64.wrap (n-d)).toNat 0 else af sz cl (if Bw o=true then IntKind.i64.wrap (d+1)else d) 1
def af(sz:List Int):List Cn->Int->Int->Int
 | [],_,m=>m
 |c::cs,d,m=>af sz cs d (IntKind.i64.wrap (m+gr sz c d))
end
def gr_eq(sz:F6)(c:Cn)(d:Int):gr sz c d=if c.op=1/\d<=c.n/\IntKind.i64.wrap (c.n-d)<sz.length then sz.getD (IntKind.i64.wrap (c.n-d)).toNat 0 else af sz c.l (if Bw c.op=true then IntKind.i64.wrap (d+1)else d) 1:=by
 cases c;rw[gr]; rfl
def Bll(sz:F6)(c:Cn)(d:Int)(h0:0<=d)(hd:d+Bo c<=1000000000)(A6:∀x∈c.l,∀d:Int,0<=d->d+Bo x<=1000000000->Hc 308 [Ad x,.sl .none (Dc sz),.int .i64 d] (.int .i64 (gr sz x d))):
 Hc 308 [Ad c,.sl .none (Dc sz),.int .i64 d] (.int .i64 (gr sz c d)):=by
 have key:=gr_eq sz c d;have hdp:=Jt c;refine Hf Bgj fun Am Q hQ=>?_;have hf:=Mv (c:=c) (by simpa[Bl,Ad,AV.fits]using Am.1);have B5:c.l.length<=1073741824:=hf.2.2.2.2.2.2.2.1
 have hn64:c.n<=9223372036854775807:=by
  have:=hf.2.1;unfold IntKind.has IntKind.min IntKind.max IntKind.signed IntKind.bits at this;simpa using this.2
 have Dw:sz.length<=1073741824:=by simpa[Bl,AV.fits,A1,Dc]using Am.2.1.1
 clear Am hf;by_cases h1:c.op=1/\d<=c.n/\IntKind.i64.wrap (c.n-d)<sz.length
 . rw[Ae h1]at key;obtain⟨h1,h2,h3⟩:=h1;have hw:IntKind.i64.wrap (c.n-d)=c.n-d:=Au Aa Aa;rw[hw]at h3 key;obtain⟨i,hi⟩:∃i:Nat,c.n-d=i:=⟨(c.n-d).toNat,Aa⟩;have Jj:i<sz.length:=Aa;have iw:sz.getD i 0=sz[i]:=by rw[Jb,Il Jj]; rfl
   have Fa:(i:Int)<(sz.length:Int):=Aa;have hwi:=Au (n:=(i:Int)) Aa Aa;have hg:=Ac2 Jj;rw[hi,p8,iw]at key;simp[Ad,Ap c,h1,h2,hi,hwi,Fa,Jj,hg];exact hQ
 rw[Ac h1]at key;generalize O6:(if Bw c.op=true then IntKind.i64.wrap (d+1)else d)=df at key
 have Ach:0<=df/\df+Cz c.l<=1000000000:=by
  rw[<- O6];have hw:=Au (n:=d+1) Aa Aa;rw[hw];split<;>omega
 have Ui:=wc c d;rw[O6]at Ui;simp[-Az,Ad,Ap c];rw[Az];simp[-Az];refine Gc (fun f=>True) (fun Q' hn hr=>?_) (fun f hI=>?_)
 . by_cases h2:c.op=1
   . have q:decide (c.op=1)=true:=Mx h2;by_cases h3:d<=c.n
     . have h4:¬IntKind.i64.wrap (c.n-d)<sz.length:=fun h=>h1 ⟨h2,h3,h⟩;simp[q,h3,h4];refine hn _ Ab ?_;trivial
     simp[q,h3];refine hn _ Ab ?_;trivial
   simp[h2];refine hn _ Ab ?_;trivial
 simp;refine WL [] (fun n f h G=>∃(k:Nat) (m:Int),k+n=c.l.length/\f 8= .int .i64 k/\f 7= .int .i64 m/\af sz (c.l.drop k) df m=af sz c.l df 1/\G=[]) (c.l.length) Ab ⟨0,1,Ab,rfl,rfl,Ab,rfl⟩ ?_;rintro n f h G ⟨k,m,hk,h8,h7,hm,rfl⟩ Q2 Aj;simp[h8,h7];by_cases Af:k<c.l.length
 . have hd:=Ct Af;have hdm:=Yq (Cy Af);rw[hd,af]at hm;have A6:=A6 c.l[k] (Cy _) df Ach.1 Aa;generalize gr sz c.l[k] df=g at A6 hm;simp[Af];refine Wd ?_;simp[Af];refine Da Ui ?_;simp;refine Da A6 ?_;simp[Au (n:=(k:Int)+1) Aa Aa];refine Aj (Ln h ?_);exact⟨k+1,IntKind.i64.wrap (m+g),Aa,Ab,Ab,hm,rfl⟩
 have hd:c.l.drop k=[]:=Cm Aa;rw[hd,af]at hm;rw[<- hm]at key;simp[Af];refine Aj (Lx ?_);simp;exact hQ
def Axy(sz:F6)(c:Cn)(d:Int)(h0:0<=d)(hd:d+Bo c<=1000000000):Hc 308 [Ad c,.sl .none (Dc sz),.int .i64 d] (.int .i64 (gr sz c d)):=
 Bll sz c d h0 hd fun x _ d h0 hd=>Axy sz x d h0 hd
termination_by SizeOf.sizeOf c
decreasing_by exact Cn.lt_l ‹_›
def Bla(b a:Cn)(hb:Bo b<=1000000)(ha:Al a<=1000000):Hc 268 [Ad b,.sl .none ([a].map Ag)] (.int .i64 (gr [(Al a:Int)] b 0)):=by
 have hk:=Axy [(Al a:Int)] b 0 Aa Aa;have Cl:=dg a Aa;generalize gr [(Al a:Int)] b 0=g at hk ⊢;generalize hz:(Al a:Int)=z at hk Cl;refine Hg Bf3 fun Q hQ=>?_;simp[Ad,Ap b];refine Ip (A9.loopI [] (fun n f h G=>(n=1/\f 6= .int .i64 0/\f 5= .sl .nilT []/\G=[])\/(n=0/\f 6= .int .i64 1/\∃tok,f 5= .sl tok [[.int .i64 z]])) (1) Ab (.inl ⟨rfl,rfl,rfl,rfl⟩) ?_);rintro n f h G (⟨rfl,h6,h5,rfl⟩|⟨rfl,h6,tok,h5⟩)
 . refine Ru fun Q2 Aj=>?_;simp[h6,h5];refine Ca Cl ?_;simp[Ey,A1,D3,Id];refine Aj (Fo 0 h rfl Aa Ab ?_);have bw:IntKind.i64.wrap 1=1:=Au Aa Aa;exact .inr ⟨rfl,by simp[bw],.own 1,Ab⟩
 refine Ru fun Q2 Aj=>?_;simp[h6,h5];refine Aj (Lx ?_);simp;refine Ca hk ?_ (he:=by simp[Ad,Ap b,Dc]);simp;exact hQ
def Pv(s:Sm)(i:Int):List Kd:=s.ks++(if i=1 then s.more else [])
def Aij(s:Sm)(i:Nat):((Pv s (i:Int)).length:Int)=K7 s.ks s.more i:=by
 unfold Pv K7;by_cases h:i=1
 . subst h;simp
 rw[Ac Aa,Ac h]; simp
def Ayd(s:Sm)(i:Int)(h1:s.ks.length<=100000)(h2:s.more.length<=100000):Hc 194 [An s,.int .i64 i] (.sl .none ((Pv s i).map Ak)):=by
 by_cases hi:i=1
 . cases hk:s.ks with
   |nil=>
    cases hm:s.more with
    |nil=>
     refine Hg j6 fun Q hQ=>?_;simp[An,Av s,hi,hk,hm,Ey,A1,D3,Id]
     exact hQ (by simp[Pv,hi,hk,hm])
    |cons y ys=>
     rw[hm,Gq]at h2;have h2':ys.length+1<=1073741824:=Aa;refine Hg j6 fun Q hQ=>?_;simp[An,Av s,hi,hk,hm,Ey,A1,D3,Id,h2']
     exact hQ (by simp[Pv,hi,hk,hm])
   |cons x xs=>
    rw[hk,Gq]at h1;have h1':xs.length+1<=1073741824:=Aa
    cases hm:s.more with
    |nil=>
     refine Hg j6 fun Q hQ=>?_;simp[An,Av s,hi,hk,hm,Ey,A1,D3,Id,h1']
     exact hQ (by simp[Pv,hi,hk,hm])
    |cons y ys=>
     rw[hm,Gq]at h2;have h2':xs.length+1+(ys.length+1)<=1073741824:=Aa;refine Hg j6 fun Q hQ=>?_;simp[An,Av s,hi,hk,hm,Ey,A1,D3,Id,h1',h2'];refine hQ ?_;simp[Pv,hi,hk,hm];have e:List.map Ak xs++Ak y::List.map Ak ys=(xs++y::ys).map Ak:=Ab;rw[e];exact⟨Bao _,Ban _ _⟩
 cases hk:s.ks with
 |nil=>
  refine Hg j6 fun Q hQ=>?_;simp[An,Av s,hi,hk,Ey,A1,D3,Id]
  exact hQ (by simp[Pv,hi,hk])
 |cons x xs=>
  rw[hk,Gq]at h1;have h1':xs.length+1<=1073741824:=Aa;refine Hg j6 fun Q hQ=>?_;simp[An,Av s,hi,hk,Ey,A1,D3,Id,h1'];exact hQ (by simp[Pv,hi,hk])
def X5:Nat->Sm->Prop
 |0,_=>False
 |h+1,s=>s.ks.length<=1000/\s.more.length<=1000/\Bo s.con<=1000/\∀x∈s.l,X5 h x
def kp(g:Cn->Int->Cn)(ks more:List Kd):∀(l:List Sm) (i:Nat) (d:Int),(Nx g ks more l i d).length=l.length
 | [],_,_=>rfl
 |x::xs,i,d=>by rw[Nx,Gq,Gq,kp g ks more xs]
def Afg(g:Cn->Int->Cn)(ks more:List Kd):∀(l:List Sm) (i:Nat) (d:Int) (k:Nat) (h:k<l.length) (h':k<(Nx g ks more l i d).length),(Nx g ks more l i d)[k]=Gg g l[k] (IntKind.i64.wrap (d+K7 ks more (i+k)))
 |x::xs,i,d,0,h,h'=>by simp[Nx]
 |x::xs,i,d,k+1,h,h'=>by
  simp only[Nx,ej];rw[Afg g ks more xs (i+1) d k (by simpa using h)];congr 3;congr 1;omega
def Afe(g:Cn->Int->Cn)(s:Sm)(d:Int):Gg g s d= .mk s.op s.n s.s (if Dr s.op=true then g s.con d else s.con) s.k s.ks s.more s.names (Nx g s.ks s.more s.l 0 d):=by
 cases s;rw[Gg]; rfl
def Bl8(s:Sm)(d:Int)(fr:Int)(h:Nat)(hs:X5 (h+1) s)(A6:∀x∈s.l,∀fr:Int,Hc 112 [An x,.int .i64 d,.int .i64 fr] (An (Gg (fun c k=>Dm c d k) x fr))):
 Hc 112 [An s,.int .i64 d,.int .i64 fr] (An (Gg (fun c k=>Dm c d k) s fr)):=by
 have key:=Afe (fun c k=>Dm c d k) s fr;have Ej:=X0 s.op;obtain⟨q1,q2,q3,_⟩:=hs;have Br:=dd s.con d fr;obtain⟨l',Ci⟩:∃l',l'=Nx (fun c k=>Dm c d k) s.ks s.more s.l 0 fr:=⟨_,rfl⟩;have hlen:l'.length=s.l.length:=by rw[Ci,kp]
 have Lj:∀k (h:k<s.l.length) (h':k<l'.length),l'[k]=Gg (fun c k=>Dm c d k) s.l[k] (IntKind.i64.wrap (fr+K7 s.ks s.more k)):=fun k h h'=>by
  subst Ci;rw[Afg _ _ _ _ _ _ _ h]; simp
 rw[<- Ci]at key;generalize Dm s.con d fr=u at Br key;have hb:∀i:Nat,Hc 194 [An s,.int .i64 i] (.sl .none ((Pv s i).map Ak)):=fun i=>Ayd s i Aa Aa;have D8:=Aij s;cases ho:Dr s.op
 case false=>
  rw[ho]at Ej key;refine Hf Aw2 fun Am Q hQ=>?_;have hf:=Rj (c:=s) (by simpa[Bl,An,AV.fits]using Am.1);have B5:s.l.length<=1073741824:=by simpa[A1]using hf.2.2.2.2.1
  clear Am hf;simp[An,Av s];refine Ca Ej ?_;simp;refine WL [2] (fun n f h G=>∃k tok,k+n=s.l.length/\f 8= .int .i64 k/\h 2=[.int .i64 s.op,.int .i64 s.n,.str s.s,.int .i64 s.con.op,.int .i64 s.con.n,.str s.con.s,.sl .none (s.con.k.l.map Ak),.sl .none (At s.con.names),.sl .none (s.con.l.map Ag),.sl .none (s.k.l.map Ak),.sl .none (s.ks.map Ak),.sl .none (s.more.map Ak),.sl .none (At s.names),.sl tok ((l'.map Bx).take k)]/\owns 3 G tok ((l'.map Bx).take k) 14) (s.l.length) Ab ⟨0,.nilT,Ab,rfl,by simp[Fs],Fp _ _ _⟩ ?_;rintro n f h G ⟨k,tok,hk,h8,h2,Bt⟩ Q2 Aj;simp[h8,h2];by_cases Af:k<s.l.length
  . have Cc:k<l'.length:=by omega
    have A6:=A6 s.l[k] (Cy _) (IntKind.i64.wrap (fr+K7 s.ks s.more k));rw[<- Lj k Af Cc]at A6;have G9:=hb k;have Ug:=D8 k;generalize Pv s (k:Int)=bd at G9 Ug;simp[Af];refine Wd ?_;simp[Af];refine Da G9 ?_;simp[Ug];refine Da A6 ?_;simp[An,Dx];refine Tp [_,_,_] G (by simp only[Gb,Gx]; rfl) (by simpa using Bt) (by simp[A1]; omega) (P7 (Ea _ _ Wa)) Ab fun tok' G' Bv Ei=>?_
    have e:(l'.map Bx).take (k+1)=(l'.map Bx).take k++[Bx l'[k]]:=by
     rw[Nj _ _ (by simpa using Cc)]; simp
    rw[<- e]at Bv ⊢;simp[Au (n:=(k:Int)+1) Aa Aa];refine Aj (Fo (n-1) (fun _=>[.int .i64 s.op,.int .i64 s.n,.str s.s,.int .i64 s.con.op,.int .i64 s.con.n,.str s.con.s,.sl .none (s.con.k.l.map Ak),.sl .none (At s.con.names),.sl .none (s.con.l.map Ag),.sl .none (s.k.l.map Ak),.sl .none (s.ks.map Ak),.sl .none (s.more.map Ak),.sl .none (At s.names),.sl tok' ((l'.map Bx).take (k+1))]) (G':=G') Ab Aa Ab ?_);exact⟨k+1,tok',Aa,Ab,rfl,Bv⟩
  have Dk:(l'.map Bx).take k=l'.map Bx:=Gj (by simp;omega);simp[Af];refine Aj (Lx ?_);simp[Dk];exact hQ (by simp[key,An,Av,Sm.op,Sm.n,Sm.s,Sm.con,Sm.k,Sm.ks,Sm.more,Sm.names,Sm.l])
 case true=>
  rw[ho]at Ej key;refine Hf Aw2 fun Am Q hQ=>?_;have hf:=Rj (c:=s) (by simpa[Bl,An,AV.fits]using Am.1);have B5:s.l.length<=1073741824:=by simpa[A1]using hf.2.2.2.2.1
  clear Am hf;simp[An,Av s];refine Ca Ej ?_;simp;refine Ca Br ?_;simp[Ad,Ap u];refine WL [2] (fun n f h G=>∃k tok,k+n=s.l.length/\f 8= .int .i64 k/\h 2=[.int .i64 s.op,.int .i64 s.n,.str s.s,.int .i64 u.op,.int .i64 u.n,.str u.s,.sl .none (u.k.l.map Ak),.sl .none (At u.names),.sl .none (u.l.map Ag),.sl .none (s.k.l.map Ak),.sl .none (s.ks.map Ak),.sl .none (s.more.map Ak),.sl .none (At s.names),.sl tok ((l'.map Bx).take k)]/\owns 3 G tok ((l'.map Bx).take k) 14) (s.l.length) Ab ⟨0,.nilT,Ab,rfl,by simp[Fs],Fp _ _ _⟩ ?_;rintro n f h G ⟨k,tok,hk,h8,h2,Bt⟩ Q2 Aj;simp[h8,h2];by_cases Af:k<s.l.length
  . have Cc:k<l'.length:=by omega
    have A6:=A6 s.l[k] (Cy _) (IntKind.i64.wrap (fr+K7 s.ks s.more k));rw[<- Lj k Af Cc]at A6;have G9:=hb k;have Ug:=D8 k;generalize Pv s (k:Int)=bd at G9 Ug;simp[Af];refine Wd ?_;simp[Af];refine Da G9 ?_;simp[Ug];refine Da A6 ?_;simp[An,Dx];refine Tp [_,_,_] G (by simp only[Gb,Gx]; rfl) (by simpa using Bt) (by simp[A1]; omega) (P7 (Ea _ _ Wa)) Ab fun tok' G' Bv Ei=>?_
    have e:(l'.map Bx).take (k+1)=(l'.map Bx).take k++[Bx l'[k]]:=by
     rw[Nj _ _ (by simpa using Cc)]; simp
    rw[<- e]at Bv ⊢;simp[Au (n:=(k:Int)+1) Aa Aa];refine Aj (Fo (n-1) (fun _=>[.int .i64 s.op,.int .i64 s.n,.str s.s,.int .i64 u.op,.int .i64 u.n,.str u.s,.sl .none (u.k.l.map Ak),.sl .none (At u.names),.sl .none (u.l.map Ag),.sl .none (s.k.l.map Ak),.sl .none (s.ks.map Ak),.sl .none (s.more.map Ak),.sl .none (At s.names),.sl tok' ((l'.map Bx).take (k+1))]) (G':=G') Ab Aa Ab ?_);exact⟨k+1,tok',Aa,Ab,rfl,Bv⟩
  have Dk:(l'.map Bx).take k=l'.map Bx:=Gj (by simp;omega);simp[Af];refine Aj (Lx ?_);simp[Dk];exact hQ (by simp[key,An,Av,Sm.op,Sm.n,Sm.s,Sm.con,Sm.k,Sm.ks,Sm.more,Sm.names,Sm.l])
def Ayh(d:Int):∀(h:Nat) (s:Sm) (fr:Int),X5 h s->Hc 112 [An s,.int .i64 d,.int .i64 fr] (An (Gg (fun c k=>Dm c d k) s fr))
 |0,_,_,hs=>hs.elim
 |h+1,s,fr,hs=>Bl8 s d fr h hs fun x hx fr=>Ayh d h x fr (hs.2.2.2 x hx)
def Aem(d fr:Int)(h:Nat)(s:Sm)(hs:X5 h s)(hf:fr<=20001):Hc 43 [An s,.int .i64 d,.int .i64 fr] (An (Gg (fun c k=>Dm c d k) s fr)):=by
 have hk:=Ayh d h s fr hs;generalize Gg (fun c k=>Dm c d k) s fr=u at hk ⊢;have hm:(if 20001<fr then(20001:Int)else fr)=fr:=Ac Aa;refine Hg Bhc fun Q hQ=>?_;simp[An,Av s,Xx,Uz,hm];refine Ca hk ?_;simp[An,Av u];exact hQ (by simp[An,Av u])
def Gs:Nat->Cn->Cn
 |0,c=>c
 |k+1,c=>Ie 11 (.mk []) (Gs k c)
def Adf:∀(k:Nat) (c:Cn),Bo (Gs k c)=k+Bo c
 |0,c=>by simp[Gs]
 |k+1,c=>by
  have:=Adf k c;simp only[Gs,Ie,Bo,Cz]; omega
def Ae4(l:List Cn):∀(k:Nat) (c:Cn) (d:Int),0<=d->d+k<=1000000000->Do l (Gs k c) d=Gs k (Do l c (d+k))
 |0,c,d,_,_=>by simp[Gs]
 |k+1,c,d,h0,h1=>by
  have e:=Ae4 l k c (d+1) Aa Aa;simp only[Gs,Ie];rw[Do,Ac Di,Ri,Ri,Au (n:=d+1) Aa Aa];have hb:Bw 11=true:=rfl;rw[Ae hb,e,show d+1+(k:Int)=d+((k+1:Nat):Int) by omega]
def Bma(l:Ax)(c:Cn)(m:Int)(h0:0<=m)(h1:m<=1000000)(hd:Bo c<=1000):Hc 267 [Ad c,.sl .none (l.map Ag),.int .i64 m] (Ad (Do l c m)):=by
 obtain⟨M,rfl⟩:∃M:Nat,m=M:=⟨m.toNat,Aa⟩;have D4:=kb l (Gs M c) (by rw[Adf]; omega);rw[Ae4 l M c 0 Aa Aa,p9]at D4;generalize Do l c M=v at D4 ⊢;refine Hg Bhi fun Q hQ=>?_;simp[Ad];refine WL [0] (fun n f h G=>∃k:Nat,k+n=M/\f 7= .int .i64 k/\h 0=Ag (Gs k c)/\G=[]) (M) Ab ⟨0,Ab,rfl,by simp[Fs,Gs],rfl⟩ ?_;rintro n f h G ⟨k,hk,h7,hh,rfl⟩ Q2 Aj;simp[h7,hh];by_cases Af:k<M
 . have Cc:(k:Int)<(M:Int):=by omega
   have P4:=wb 11 (.mk []) (Gs k c);have e:Ie 11 (.mk []) (Gs k c)=Gs (k+1) c:=rfl;rw[e]at P4;generalize hy:Gs (k+1) c=y at P4;simp[Af];refine Ca P4 ?_;simp[Ad,Au (n:=(k:Int)+1) Aa Aa];refine Aj (Fo (n-1) (fun _=>Ag y) rfl Aa Ab ?_);exact⟨k+1,Aa,Ab,by rw[hy],rfl⟩
 have Cc:¬(k:Int)<(M:Int):=by omega
 obtain rfl:k=M:=Aa;simp[Af];refine Aj (Lx ?_);simp;refine Ca D4 ?_;clear D4 hh h7;simp[Ad];refine WL [0] (fun n f h G=>∃j:Nat,j+n=k/\f 8= .int .i64 j/\h 0=Ag (Gs n v)/\G=[]) (k) Ab ⟨0,Ab,rfl,by simp[Fs],rfl⟩ ?_;rintro n f h G ⟨j,hj,h8,hh,rfl⟩ Q2 Aj;simp[h8,hh];by_cases Af:j<k
 . have Cc:(j:Int)<(k:Int):=by omega
   obtain⟨i,rfl⟩:∃i,n=i+1:=⟨n-1,Aa⟩
   have e:Ag (Gs (i+1) v)=[.int .i64 11,.int .i64 0,.str [],.sl .none [],.sl .none [],.sl .none [Ag (Gs i v)]]:=by
    rw[Gs,Ie,Fj]; rfl
   rw[e]at hh ⊢;simp[Af,Au (n:=(j:Int)+1) Aa Aa];refine Aj (Fo i (fun _=>Ag (Gs i v)) rfl Aa Ab ?_);exact⟨j+1,Aa,Ab,rfl,rfl⟩
 have Cc:¬(j:Int)<(k:Int):=by omega
 obtain rfl:n=0:=Aa;simp[Af,Gs];refine Aj (Lx ?_);simp;exact hQ (by simp[Ad])
end
