/- A part of the proof that LiftApplies answers true. -/
import Derived.Test.YtndkeknbfbdeeaaGreatDoorG13
import Derived.RangeFuncBox
import Derived.RangeFuncLeaves
import Derived.Shelf.Abstract
import Derived.WalkKit
import Derived.OwnWalkIn
import Derived.TacticsInMore
import Derived.LoopNIn
import Derived.LoopIn
import Derived.Test.YtndkeknbfbdeeaaGreatDoorProg
set_option linter.all false
set_option maxHeartbeats 4000000
set_option maxRecDepth 100000
namespace Go.Proofs.YtndkeknbfbdeeaaGreatDoor
open Go
variable {F:Addr->Prop}{c:Cn}{α:Type}
def jz(h:Ht c=true)(ho:c.op=1\/c.op=2):c.l=[]/\c.names=[]:=by
 simp only[Ht,Bb]at h;obtain⟨h1, -, -, -,h5⟩:=h;have hop:¬(c.op<1\/13<c.op):=Aa;have hL:Rd c.op=false:=by rcases ho with h|h<;>rw[h]<;>rfl
 have hB:Bw c.op=false:=by rcases ho with h|h<;>rw[h]<;>rfl
 have h6:(c.op==6||c.op==12)=false:=by rcases ho with h|h<;>rw[h]<;>rfl
 simp only[n1,W6,hop,hL,hB,h6,Bq,Dp,Aw]at h1;simp only[n5,hL,Bb,pw,Bool.and_true,Mn,Bj]at h5;exact⟨Ye Aa,Ye Aa⟩
def V3(h:Ht c=true)(ho:c.op=1):c=Ch c.n/\0<=c.n/\c.n<=20000:=by
 obtain⟨hl,hn⟩:=jz h (.inl ho);simp only[Ht,Bb]at h;obtain⟨-,h2,h3,h4, -⟩:=h;have hB:¬(Bw c.op=true\/c.op=2):=by rw[ho]; decide
 rw[n2,Ae (.inl ho)]at h2;rw[n3,Ac Aa]at h3;rw[n4,Ac hB]at h4;simp only[Mn,ef,Bj,Aw]at h2 h3 h4;have hk:c.k.l=[]:=Ye Aa;refine⟨?_,Aa,Aa⟩;cases c with |mk o n s k ns l=>
 cases k with |mk kl=>
 simp only[Cn.op,Cn.s,Cn.k,Cn.names,Cn.l,Kd.l]at ho hl hn h3 hk;subst ho hl hn h3 hk;rfl
def A0q(d fr o n:Int)(s:Bu)(k:Kd)(ns:List Bu)(l:Ax)(bd:Int):K8 d fr (.mk o n s k ns l) bd=if o=1/\fr<=IntKind.i64.wrap (n-bd)then Ch (IntKind.i64.wrap (n+d))else .mk o n s k [] []:=rfl
mutual
def Azt(d:Int)(hd:d=0\/d=1):∀(c:Cn) (bd left:Int),C0 c=true->0<=bd->bd+Bo c<=10000->(Al c:Int)<=left->left<=20000->Ep (K8 d 0) c bd left=(Dm c d bd,left-Al c)
 | .mk o n s k ns l,bd,left,hf,hb,hdp,hs,hl=>by
   have hn:=hf;rw[Mu,Bb]at hn;obtain⟨hn,Ji⟩:=hn;have Ji:l.all C0=true:=Ji;have Cl:Al (.mk o n s k ns l)=1+Bd l:=Ir (.mk o n s k ns l);have ul:¬20001<bd:=by have:=Jt (.mk o n s k ns l); omega
   rw[Ep,Dm,Ac Aa,Ac ul];by_cases Eo:o=1\/o=2
   . obtain⟨e1,e2⟩:=jz hn Eo;simp only[Cn.l,Cn.names]at e1 e2;subst e1 e2;rw[Ae Eo];have hz:∀x:Int,Al (Ch x)=1:=fun _=>rfl;have hz2:Al (.mk o n s k [] [])=1:=rfl;rw[A0q];by_cases h1:o=1
     . obtain⟨-,g1,g2⟩:=V3 hn h1;simp only[Cn.n]at g1 g2;rw[Ae h1,Au (n:=n-bd) Aa Aa];by_cases hc:bd<=n
       . rw[Ae ⟨h1,Aa⟩,Ae hc,hz,hz2]
       rw[Ac (fun h=>hc Aa),Ac hc,hz2]
     rw[Ac h1,Ac (fun h=>h1 h.1),hz2,Lz]
   rw[Ac Eo,Ac (fun h=>Eo (.inl h))];have hu:Hp o bd=if Bw o=true then IntKind.i64.wrap (bd+1)else bd:=rfl
   have M9:Hp o bd=bd\/Hp o bd=bd+1:=by
    rw[hu]; split
    . rw[Au Aa Aa]; exact .inr rfl
    exact .inl rfl
   rw[<- hu];have:=Jt (.mk o n s k ns l);simp only[Cn.l]at this;rw[Azz d hd l (Hp o bd) (left-1) Ji Aa Aa Aa Aa];simp only[Al,Cg,L1];omega
def Azz(d:Int)(hd:d=0\/d=1):∀(l:List Cn) (bd left:Int),l.all C0=true->0<=bd->bd+Cz l<=10000->(Bd l:Int)<=left->left<=20000->Ec (K8 d 0) l bd left=(Lz l d bd,left-Bd l)
 | [],bd,left,_,_,_,_,_=>by simp[Ec,Lz,Bd]
 |c::cs,bd,left,hf,hb,hdp,hs,hl=>by
  rw[Er,Bb]at hf;simp only[Cz]at hdp;simp only[Bd]at hs;rw[Ec,Azt d hd c bd left hf.1 hb Aa Aa hl];simp only;rw[Azz d hd cs bd (left-Al c) hf.2 hb Aa Aa Aa,Lz,Bd];simp only[Cg,L1];omega
end
def A0u{d:Int}(hd:d=0\/d=1)(h:Ar c=true):Ed c d 0=if Ar (Dm c d 0)=true then(Dm c d 0,0)else(A3,6):=by
 have hv:=h;simp only[Ar,Bb,Aw]at h;rw[Ed,Ae hv,Ki,Azt d hd c 0 20000 h.2.2 Aa Aa Aa Aa];simp only;cases hr:Ar (Dm c d 0)
 . simp
 rw[Ac (by simp;omega)]; rfl
mutual
def Ay7:∀(c:Cn) (fr:Int),C0 c=true->Dm c 0 fr=c
 | .mk o n s k ns l,fr,hf=>by
   rw[Mu,Bb]at hf;rw[Dm];by_cases h1:o=1
   . obtain⟨e,g1,g2⟩:=V3 hf.1 h1;simp only[Cn.n]at e g1 g2;rw[Ae h1,Ag1,Au (n:=n) Aa Aa];generalize (if 20001<fr then 20001 else fr)=z;by_cases hz:z<=n
     . rw[Ae hz]; exact e.symm
     rw[Ac hz]
   rw[Ac h1,Azb l _ hf.2]
def Azb:∀(l:List Cn) (fr:Int),l.all C0=true->Lz l 0 fr=l
 | [],_,_=>rfl
 |c::cs,fr,hf=>by
  rw[Er,Bb]at hf;rw[Lz,Ay7 c fr hf.1,Azb cs fr hf.2]
end
def Bsi(h:Ar c=true):C0 c=true:=by
 simp only[Ar,Bb]at h;exact h.2.2
def A0t(h:Ar c=true):Ed c 0 0=(c,0):=by
 rw[A0u (.inl rfl) h,Ay7 c 0 (Bsi h),Ae h]
def Jq{x:Cn}(h:Ar c=true)(hx:x∈c.l):Ar x=true:=by
 simp only[Ar,Bb,Aw]at h ⊢;have h1:=Ir c;have h2:=Jt c;have h3:=Yr hx;have h4:=Yq hx;have h5:=h.2.2;rw[Mu,Bb,Pn]at h5;exact⟨Aa,Aa,h5.2 x hx⟩
def pg{op:Int}{a b:Cn}(h:Ar (E3 op a b)=true):Ar a=true/\Ar b=true:=
 ⟨Jq h (by simp[E3,Cn.l]),Jq h (by simp[E3,Cn.l])⟩
def xq{op:Int}{ks:B6}(h:Ar (C9 op ks c)=true):Ar c=true:=by
 induction ks with
 |nil=>exact h
 |cons k ks ih=>exact ih (Jq h (by simp[C9,Ie,Cn.l]))
def A63(h:Ar c=true):G6 c=(c,0):=by rw[G6,Ae h]
def A62(h:¬Ar c=true):G6 c=(A3,6):=by rw[G6,Ac h]
def Av4{s:Sm}(h:Cp s=true)(ho:Dr s.op=true):Ar s.con=true:=by
 simp only[Cp,Bb]at h;have:=h.2.1;rwa [m2,Ae ho]at this
def V5(c:Cn):Cn×Int:=if Ar c=true then(c,0)else(A3,6)
def Bcv{x:Cn}{e:Int}(h:(c,e)=V5 x)(hv:Ar x=false):c=A3/\e=6:=by
 rw[V5,Ac (by simp[hv])]at h;exact⟨A4 Prod.fst h,A4 Prod.snd h⟩
def Bcw{x:Cn}{e:Int}(h:(c,e)=V5 x)(hv:Ar x=true):c=x/\e=0:=by
 rw[V5,Ae hv]at h;exact⟨A4 Prod.fst h,A4 Prod.snd h⟩
mutual
def Aso:∀s:Sm,Qk s->enc s=V5 (Ez s)
 | .mk o n s c k ks more names l,hw=>by
   have Ze:=(X9 _).1 hw;have hn:=Ze.1;have Br:(o=1\/o=2\/o=3\/o=4\/o=5\/o=6)/\(o=4->l.length=1)/\(o=6->l.length=2)/\(o=5->names.length<=1000/\names.length=l.length):=U2 hn;have nj:=Ass l Ze.2;rw[enc,Ez,Ay4];by_cases hp:(l.map Ez).all Ar=true
   . rw[Ae hp]at nj;rw[nj];simp only[Bp];unfold S1 V5;by_cases h1:o=1
     . rw[Ae h1,Ae h1];have hv:Ar c=true:=Av4 hn (by simp[Sm.op,h1,Dr]);rw[A0t hv,Ae hv]
     rw[Ac h1,Ac h1];by_cases h2:o=2
     . rw[Ae h2,Ae h2];have hv:Ar c=true:=Av4 hn (by simp[Sm.op,h2,Dr]);unfold Sv U5;rw[A0u (.inr rfl) hv];by_cases Jl:Ar (Dm c 1 0)=true
       . rw[Ae Jl]; simp only[Bp]; rfl
       rw[Ac Jl]
       have Ii:¬Ar (Ie 9 (Sj k (.mk [])) (E3 6 (E3 12 (Ch 0) (Dm c 1 0)) (E3 12 (Ch 0) (Dm c 1 0))))=true:=fun h=>
        Jl (pg (pg (Jq (x:=E3 6 (E3 12 (Ch 0) (Dm c 1 0)) (E3 12 (Ch 0) (Dm c 1 0))) h (by simp[Ie,Cn.l]))).1).2
       rw[Ac Ii]; rfl
     rw[Ac h2,Ac h2];by_cases h3:o=3
     . rw[Ae h3,Ae h3,Ae A2k]
     rw[Ac h3,Ac h3];by_cases h4:o=4
     . rw[Ae h4,Ae h4];by_cases hv:Ar (C9 10 ks ((l.map Ez).headD A3))=true
       . rw[A63 hv];simp only[Bp];rw[A0t hv]; rfl
       rw[A62 hv];have Ii:¬Ar (E3 6 (C9 10 ks ((l.map Ez).headD A3)) (C9 10 ks ((l.map Ez).headD A3)))=true:=fun h=>hv (pg h).1;rw[Ac Ii]; rfl
     rw[Ac h4,Ac h4];by_cases h6:o=6
     . rw[Ac Aa,Ae h6]; rfl
     rw[Ae Aa,Ac h6]; rfl
   rw[Ac hp]at nj;have h0:¬(G8 l).2=0:=by rw[nj]; simp
   rw[Ac h0,nj]
   have hex:∃x∈l.map Ez,¬Ar x=true:=by
    obtain⟨y,hy,hv⟩:∃y∈l,Ar (Ez y)=false:=by simpa using hp
    exact⟨Ez y,List.mem_map_of_mem hy,by simp[hv]⟩
   obtain⟨x,hx,hxv⟩:=hex;have Bg:l≠[]:=by rintro rfl;simp at hx
   have hlen:0<l.length:=List.length_pos_iff.2 Bg;unfold V5;have Ii:∀y:Cn,(Ar y=true->Ar x=true)->(A3,(6:Int))=if Ar y=true then(y,0)else(A3,6):=fun y hy=>by rw[Ac (fun h=>hxv (hy h))]
   have Ab6:¬(o=1\/o=2\/o=3):=fun h=>by
    have hm:Cp (.mk o n s c k ks more names l)=true:=hn;simp only[Cp,m1,Bb]at hm;have:=hm.1.1;rw[Hh,Ae (show(Sm.mk o n s c k ks more names l).op=1\/(Sm.mk o n s c k ks more names l).op=2\/(Sm.mk o n s c k ks more names l).op=3 from h)]at this;exact Bg (Sl this)
   rw[Ac (fun h=>Ab6 (.inl h)),Ac (fun h=>Ab6 (.inr (.inl h))),Ac (fun h=>Ab6 (.inr (.inr h)))];by_cases h4:o=4
   . obtain⟨a,rfl⟩:=tj (Br.2.1 h4);rw[Ae h4];simp only[F8,Wn,Pp,Pq,Iy]at hx;subst hx;exact Ii _ fun h=>xq (pg h).1
   rw[Ac h4];by_cases h6:o=6
   . obtain⟨a,b,rfl⟩:=mv (Br.2.2.1 h6);rw[Ae h6];simp only[F8,Wn,Pp,Pq,Iy]at hx;refine Ii _ fun h=>?_;have h2:=pg (xq h);rcases hx with rfl|rfl
     . exact h2.1
     exact xq h2.2
   rw[Ac h6];exact Ii _ fun h=>Jq h (by simpa[Cn.l]using hx)
def Ass:∀l:List Sm,(∀ x∈l,Qk x)->G8 l=if(l.map Ez).all Ar=true then(l.map Ez,0)else((G8 l).1,6)
 | [],_=>by simp[G8]
 |x::xs,hw=>by
  have h1:=Aso x (hw x Ab);have h2:=Ass xs fun y hy=>hw y (by simp[hy]);rw[G8,h1];unfold V5;by_cases hv:Ar (Ez x)=true
  . rw[Ae hv];by_cases hp:(xs.map Ez).all Ar=true
    . rw[Ae hp]at h2;rw[h2]; simp only[F8,Er,hv,hp,Bp,xy]
    rw[Ac hp]at h2;have hp':(xs.map Ez).all Ar=false:=by simpa using hp
    have:(G8 xs).2=6:=by rw[h2]
    simp only[F8,Er,hv,hp',Bp,lj,Dp,Bq,this]
  rw[Ac hv];have hv':Ar (Ez x)=false:=by simpa using hv
  simp[hv']
end
def A8c(ks:B6)(s:Sm)(hw:Qk s):W8 ks s=V5 (C9 10 ks (Ez s)):=by
 rw[W8,Aso s hw];unfold V5;by_cases hv:Ar (Ez s)=true
 . rw[Ae hv]; rfl
 rw[Ac hv,Ac (fun h=>hv (xq h))]; rfl
mutual
def uy:∀k:Kd,Kg k k=true
 | .mk l=>by rw[Kg]; exact Auy l
def Auy:∀l:List Kd,V1 l l=true
 | []=>rfl
 |x::xs=>by rw[V1,uy x,Auy xs]; rfl
end
mutual
def Abk:∀c:Cn,Gd c c=true
 | .mk o n s k ns l=>by rw[Gd,uy,Arr l]; simp
def Arr:∀l:List Cn,Vn l l=true
 | []=>rfl
 |x::xs=>by rw[Vn,Abk x,Arr xs]; rfl
end
section
open Go.RowKit Go.Shelf Go.Proofs
attribute [local go_sem] Oper.semAt_some
def Pz{α:Type}(f:Nat->α)(n k:Nat):List α:=(List.range k).map fun j=>f (n-1-j)
def Ar3(f:Nat->α)(n k:Nat):Pz f n (k+1)=Pz f n k++[f (n-1-k)]:=by simp[Pz,List.range_succ]
def Ar2(f:Nat->α)(n k:Nat):(Pz f n k).length=k:=by simp[Pz]
def A43(G8:α->Array Value)(el:Nat->α)(zs:Nat->Value)(Kp:World->World->Prop)(F:Fence)(n:Nat)(mz:F.fn 345)(br:F.round=none)(hn:1<=n)(l Bs b off len cap:Nat)(hlen:len<=1073741824)
 (Uj:∀k,k<len->G8 (el k)= #[.int .i64 k,.agg #[zs k]])
 (Yy:∀W W',Kp W W'->W'.cell? ⟨Bs,0,none⟩=W.cell? ⟨Bs,0,none⟩) (Uf:∀W W' k,k<len->Kp W W'->W'.cell? ⟨b,off+k,none⟩=W.cell? ⟨b,off+k,none⟩) (J Jx:List α->World->Prop)
 (hY:∀Bz x W,J Bz W->Bz.length<len->YieldAt F (n-1) Tryz.prog l (G8 x) W fun e W'=>
  (e= .returned (.bool true)/\J (Bz++[x]) W'/\Kp W W')\/(e= .returned (.bool false)/\Jx (Bz++[x]) W'))
 (W:World) (Yw:W.cell? ⟨Bs,0,none⟩=some (.slice (some ⟨b,off,none⟩) len cap)) (hc:∀j,j<len->W.cell? ⟨b,off+j,none⟩=some (zs j)) (h0:J [] W):
 CallsIn F n Tryz.prog 345 #[.func (.yield l) #[] #[],.pointer (some ⟨Bs,0,none⟩)] W fun e W'=>(∃ v,e= .returned v)/\
  ((∃ ys,ys=Pz el len len/\J ys W')\/(∃ Bz,Jx Bz W')):=by
 refine callsIn_of_wp Tryz.func345 rfl mz ?_ br;simp only[Tryz.ntmps345,Tu,Gq,Ox,Nat.reduceAdd,Nat.reduceSub,Agq,Agr,Aha,Ag3,Gx,Gb]
 gi_wp2
 gi_loopw [3] (fun i wr=>∃k:Nat,k<=len/\i= .int .i64 ((len:Int)-1-k)/\J (Pz el len k) wr/\wr.cell? ⟨Bs,0,none⟩=some (.slice (some ⟨b,off,none⟩) len cap)/\∀j,j<len->wr.cell? ⟨b,off+j,none⟩=some (zs j))
  (fun i _=>(intOf i+1).toNat)
 case atStart=>exact⟨0,Nl _,Ab,h0,Yw,hc⟩
 case round=>
  obtain⟨k,hk,rfl,aq,O5,M1⟩:=hrel;by_cases Af:k<len
  . obtain⟨fn,tmps,assign,body,hy,hR⟩:=hY _ (el (len-1-k)) wr aq (by rw[Ar2]; exact Af);have hcx':=M1 (len-1-k) Aa;rw[Uj _ Aa]at hy;have he:((len-1-k:Nat):Int)=(len:Int)-1-k:=Aa;rw[he]at hy
    gi_wp2
    refine hR.mono ?_;rintro e W3 (⟨rfl,hJ3,Q6⟩|⟨rfl,Ab8⟩)
    . gi_wp2
      go_roundw
      case rel=>exact⟨k+1,Aa,by congr 1;omega,by rw[Ar3]; exact hJ3,(Yy _ _ Q6).trans O5,fun j hj=>(Uf _ _ j hj Q6).trans (M1 j hj)⟩
      case measure=>simp[intOf]; omega
    gi_wp2
    refine bodyPost_ret (results_none rfl _ _ _) rfl ?_;exact⟨⟨_,rfl⟩,.inr ⟨_,Ab8⟩⟩
  obtain rfl:k=len:=by omega
  gi_wp2
  go_end0
  exact⟨⟨_,rfl⟩,.inl ⟨_,rfl,aq⟩⟩
def Aii(F:Fence)(n:Nat)(mz:F.fn 345)(br:F.round=none)(l Bs:Nat)(J:List α->World->Prop)(W:World)(o:Option Addr)(cp:Nat)(Yw:W.cell? ⟨Bs,0,none⟩=some (.slice o 0 cp))(h0:J [] W):
 CallsIn F n Tryz.prog 345 #[.func (.yield l) #[] #[],.pointer (some ⟨Bs,0,none⟩)] W fun e W'=>(∃ v,e= .returned v)/\J [] W':=by
 refine callsIn_of_wp Tryz.func345 rfl mz ?_ br;simp only[Tryz.ntmps345,Tu,Gq,Ox,Nat.reduceAdd,Nat.reduceSub,Agq,Agr,Aha,Ag3,Gx,Gb]
 gi_wp2
 gi_loopw [3] (fun i wr=>i= .int .i64 (-1)/\J [] wr) (fun _ _=>0)
 case atStart=>exact⟨Ab,h0⟩
 case round=>
  obtain⟨rfl,aq⟩:=hrel
  gi_wp2
  go_end0
  exact⟨⟨_,rfl⟩,aq⟩
end
def uZ:List AV:=[.int .i64 0,.int .i64 0,.str [],.sl .none [],.sl .none [],.sl .none []]
def uA:AC:=.region [⟨(some 3),(.box (.tmp 0)),none⟩,⟨(some 5),(.box (.tmp 2)),none⟩,⟨(some 6),(.alloc [(.int .i64 0),(.int .i64 0),(.str []),(.sl .nilT []),(.sl .nilT []),(.sl .nilT [])]),none⟩]
def uB:AC:=.region [⟨(some 9),(.mov (.tmp 1)),none⟩,⟨(some 10),(.call (.cst (.fn (.func 302) [] [])) [(.tmp 9)]),none⟩]
def uAs:AC:=.region [⟨(some 8),(.alloc [(.sl .nilT [])]),none⟩,⟨none,(.store 1 (.tmp 8) (.tmp 12)),none⟩]
def uBd:AC:=.draw [⟨(some 13),(.load false 1 (.tmp 3)),none⟩,⟨(some 14),(.load true 1 (.tmp 8)),none⟩,⟨(some 15),(.call (.cst (.fn (.func 135) [] [])) [(.tmp 14)]),none⟩,⟨(some 16),(.load true 6 (.tmp 5)),none⟩,⟨(some 17),(.buildSl 6 [(.int .i64 0),(.int .i64 0),(.str []),(.sl .nilT []),(.sl .nilT []),(.sl .nilT [])] 1 [(0,(.tmp 16))]),none⟩,⟨(some 18),(.build [(.int .i64 0),(.int .i64 0),(.str []),(.sl .nilT []),(.sl .nilT []),(.sl .nilT [])] [(0,(1,(.tmp 13))),(3,(1,(.tmp 15))),(5,(1,(.tmp 17)))]),none⟩,⟨none,(.store 6 (.tmp 5) (.tmp 18)),none⟩] [[],[],[1],[],[3],[0,2,4],[5,2,0,1,2,3,4,5]]
def uDl:List AO:=[⟨(some 19),(.load true 6 (.tmp 5)),none⟩,⟨none,(.store 6 (.tmp 6) (.tmp 19)),none⟩]
def uT(op:Int)(ks:List Kd)(c0:Cn)(s9 fnv s8 s11 s12:AV):List AV:=
 [.int .i64 op,.sl .none (ks.map Ak),Ad c0,.ptr 0 0,.undef,.ptr 1 0,.ptr 2 0,.undef,s8,s9,fnv,s11,s12,.undef,.undef,.undef,.undef,.undef,.undef,.undef]
def uH(op:Int)(c:Cn):List HB:=[.var [.int .i64 op],.var (Ag c),.var uZ]
def A2f(op:Int)(c:Cn):Be 3 (uH op c)=true:=by simp[uH,uZ]
def Bpc(op:Int)(c:Cn)(ks:B6):HP 302 [.sl .none (ks.map Ak)] (uH op c) (.fn (.func 345) [] [.ptr 3 0]) (uH op c++[.var [.sl .none (ks.map Ak)]]):=by
 refine Hg Bio fun Q hQ=>?_;simp[uH,uZ];exact hQ (by simp[uH,uZ])
def uH0(op:Int)(c:Cn):List HB:=[.var [.int .i64 op],.var (Ag c),.var [.int .i64 0,.int .i64 0,.str [],.sl .nilT [],.sl .nilT [],.sl .nilT []]]
def A2d(op:Int)(c:Cn):(uH0 op c).map Qj=uH op c:=by
 have:Ce (Ag c)=Ag c:=Ab;simp[uH0,uH,uZ,Qj,this]
def Bsd(op:Int)(ks:B6)(c:Cn):A9 Tryz.prog uA (start [.int .i64 op,.sl .none (ks.map Ak),Ad c] 20) [] (fun x t H=>x= .normal/\t=uT op ks c .undef .undef .undef .undef .undef/\H=uH0 op c):=by
 refine Ru fun Q hQ=>?_;simp[uA,Ad];exact hQ (by simp[uT,uH0,Ad])
def Bsf(op:Int)(ks:B6)(c:Cn):A9 Tryz.prog uB (uT op ks c .undef .undef .undef .undef .undef) (uH op c) (fun x t H=>x= .normal/\t=uT op ks c (.sl .none (ks.map Ak)) (.fn (.func 345) [] [.ptr 3 0]) .undef .undef .undef/\H=uH op c++[.var [.sl .none (ks.map Ak)]]):=by
 refine Ru fun Q hQ=>?_;simp[uB,uT];refine C1 (Bpc op c ks) ?_;simp;exact hQ (by simp[uT])
def Bsa{ro:Option Nat}{n:Nat}(op:Int)(ks:B6)(c0 c:Cn)(s9 fnv:AV)(i:Int)(k:Kd):Hz Tryz.prog ro n uAs (uT op ks c0 s9 fnv .undef (.int .i64 i) (Ba k)) (uH op c) (fun x t H=>x= .normal/\t=uT op ks c0 s9 fnv (.ptr 3 0) (.int .i64 i) (Ba k)/\H=uH op c++[.var (Ak k)]):=by
 refine Hz.region (Sw ?_);show I1 _ _ [] (fun x t H=>x= .normal/\t=uT op ks c0 s9 fnv (.ptr 3 0) (.int .i64 i) (Ba k)/\H=uH op c++[.var (Ak k)]) _ _;simp[uT,uH,Ba,Df k]
def Bsb{ro:Option Nat}{n:Nat}(op:Int)(ks:B6)(c0 c:Cn)(s9 fnv s11 s12:AV)(k:Kd):Hz Tryz.prog ro n uBd (uT op ks c0 s9 fnv (.eptr (Ak k)) s11 s12) (uH op c) (fun x _ H=>x= .normal/\∃cs,H=[.var [.int .i64 op],.var cs,.var uZ]/\Ce cs=Ag (Ie op k c)):=by
 refine Hz.drawC mixed (fun _=>true) [] Bc ?_;show DR _ _ _ _ _ _ [] (fun x _ H=>x= .normal/\∃cs,H=[.var [.int .i64 op],.var cs,.var uZ]/\Ce cs=Ag (Ie op k c)) _ _;simp[uT,uH,Df k,Ap c];refine Da (Abr k) ?_;simp[Ba,Df k,Dx,Ie,Fj,Ap c,Pi]
def Bse(op:Int)(ks:B6)(c0 c:Cn)(s9 fnv s8 s11 s12:AV):Jc Tryz.prog uDl (uT op ks c0 s9 fnv s8 s11 s12) (uH op c) (fun t H=>t.getD 6 .undef= .ptr 2 0/\H=[.var [.int .i64 op],.var (Ag c),.var (Ag c)]):=by
 refine Sw ?_;show I1 _ _ [] (fun _ t H=>t.getD 6 .undef= .ptr 2 0/\H=[.var [.int .i64 op],.var (Ag c),.var (Ag c)]) _ _;simp[uDl,uT,uH,uZ,Ap c]
def Bsc:∃(fn:Func) (a b d asg bdy:Code),Tryz.prog.funcs[256]? =some fn/\fn.body=some (.seq a (.seq (.seq b (.block 0 (.rangeFunc (.tmp 10) #[11,12] asg (.block 1 bdy)))) (.seq d .ret)))/\
 Du Tryz.prog a=some uA/\Du Tryz.prog b=some uB/\Du Tryz.prog asg=some uAs/\Du Tryz.prog bdy=some uBd/\Du Tryz.prog d=some (.region uDl)/\fn.ntmps=20/\Qt Tryz.prog fn.results.toList=some [.cell 6 true 6]:=
 ⟨Tryz.f256,_,_,_,_,_,Tryz.func256,rfl,A5,A5,A5,A5,A5,A5,A5⟩
section
open Go.RowKit
def k9(op:Int)(c:Cn):jy (uH op c):=by
 intro b ks h
 match b,h with
 |0,h=>cases h
 |1,h=>cases h
 |2,h=>cases h
 |b+3,h=>simp[uH]at h
def Br9(op:Int)(c:Cn):(uH op c).length=3:=rfl
def cI(op:Int)(c:Cn)(l:List Kd):Cn:=l.foldl (fun c k=>Ie op k c) c
def A5m(op:Int)(c:Cn)(l:B6)(k:Kd):cI op c (l++[k])=Ie op k (cI op c l):=by simp[cI]
def A5l(op:Int)(c:Cn)(l:B6):cI op c l.reverse=C9 op l c:=by simp[cI,C9,List.foldl_reverse]
def pb{g:Gh}{w:World}{op:Int}(hs:St F g (uH op c) w):∀b,g.tk b=none:=by
 intro b;rcases E8 b 3 with h|h
 . have:∃cs,(uH op c)[b]? =some (.var cs):=by
    match b,h with
    |0,_=>exact⟨_,rfl⟩
    |1,_=>exact⟨_,rfl⟩
    |2,_=>exact⟨_,rfl⟩
   obtain⟨cs,B7⟩:=this;obtain⟨_,_,_,_,h2,_⟩:=hs.var b cs B7;exact h2
 exact(hs.beyond b (by simpa[Br9]using h)).2
def A2e{g:Gh}{w:World}{op:Int}(hs:St F g (uH op c) w){b:Nat}(h:b<3):∃B,g.blk b=some B/\∀off,¬F ⟨B,off,none⟩:=by
 have:∃cs,(uH op c)[b]? =some (.var cs):=by
  match b,h with
  |0,_=>exact⟨_,rfl⟩
  |1,_=>exact⟨_,rfl⟩
  |2,_=>exact⟨_,rfl⟩
 obtain⟨cs,B7⟩:=this;obtain⟨B,_,_,h1,_,_,_,h5⟩:=hs.var b cs B7;exact⟨B,h1,h5⟩
def n9{g:Gh}{w:World}{x:AV}{vs:Fm}(h:RL F g w [x] vs):∃v,vs=[v]/\R F g w x v:=by
 simp only[RL]at h;obtain⟨v,r,rfl,h1,rfl⟩:=h;exact⟨v,rfl,h1⟩
def Au0(k:Kd):∃x,Ak k=[x]/\x.isCell=true:=⟨_,Df k,rfl⟩
def A45(ks:B6)(B5:ks.length<=1073741824)(FS:Addr->Prop)(g:Gh)(w:World)(B:Nat)(hFS:∀a,FS a->a.block<w.heap.size)(sv:Value)(hB:FS ⟨B,0,none⟩)(hc:w.cell? ⟨B,0,none⟩=some sv)(hr:R FS g w (.sl .none (ks.map Ak)) sv):
 SeqStopsK Fence.wide 2 Tryz.prog 345 #[.pointer (some ⟨B,0,none⟩)] (fun x: {x:Int×Value×Kd // R FS g w (Ba x.2.2) x.2.1/\IntKind.i64.has x.1}=>#[.int .i64 x.1.1,x.1.2.1]) (fun W W'=>∀a,FS a->W'.cell? a=W.cell? a)
  (fun xs=>xs.map (fun x=>x.1.2.2)=ks.reverse) (fun _=>True) ks.length w:=by
 intro l J Jx W hW _ _ hY h0;have Ih:∀a,FS a->W.cell? a=w.cell? a:=fun a ha=>Oa (hW.block _ (hFS a ha));have P5:=(Ih _ hB).trans hc;obtain⟨_,h⟩:=L7 hr;rcases h with⟨h1,rfl,_⟩|⟨b,off,sp,cap,k,rfl,h2,⟨hk,h1|rfl⟩,h3,_⟩
 . have Um:ks=[]:=by simpa using h1
   subst Um;exact(Aii Fence.wide 2 trivial rfl l B J W _ _ P5 h0).mono fun e W' ⟨he,hj⟩=>⟨he,.inl ⟨[],rfl,hj⟩⟩
 . have Um:ks=[]:=by simpa using h1
   subst Um;exact(Aii Fence.wide 2 trivial rfl l B J W _ _ P5 h0).mono fun e W' ⟨he,hj⟩=>⟨he,.inl ⟨[],rfl,hj⟩⟩
 have row:∀j (hj:j<ks.length),∃v,FS ⟨b,off+j,none⟩/\w.cell? ⟨b,off+j,none⟩=some v/\R FS g w (Ba ks[j]) (.agg #[v]):=by
  intro j hj;obtain⟨e1,e2⟩:=lw h3 j (Ak ks[j]) (by simp[hj]);obtain⟨x,ex,_⟩:=Au0 ks[j];rw[ex]at e1 e2;have hk1:k=1:=by simpa using e1.symm
  subst hk1;simp only[RM,Aac]at e2;obtain⟨⟨_,v,f1,f2,f3⟩,_⟩:=e2;refine⟨v,f1,f2,?_⟩;simp only[Ba,ex,R];exact⟨#[v],rfl,by simp only[RL]; exact⟨v,[],rfl,f3,rfl⟩⟩
 have dft:R FS g w (Ba (.mk [])) (.agg #[.slice none 0 0]):=by
  simp only[Ba,Df,R];exact⟨_,rfl,by simp only[RL]; exact⟨_,[],rfl,by simp[R,Kd.l],rfl⟩⟩
 let zs:Nat->Value:=fun j=>(w.cell? ⟨b,off+j,none⟩).getD undef
 have hz:∀j (hj:j<ks.length),R FS g w (Ba ks[j]) (.agg #[zs j]):=by
  intro j hj;obtain⟨v,_,f2,f3⟩:=row j hj;show R FS g w _ (.agg #[(w.cell? ⟨b,off+j,none⟩).getD undef]);rw[f2]; exact f3
 let el:Nat->{x:Int×Value×Kd // R FS g w (Ba x.2.2) x.2.1/\IntKind.i64.has x.1}:=fun j=>
  if hj:j<ks.length then⟨((j:Int),.agg #[zs j],ks[j]),hz j hj,cg (by simp only[A1]; omega)⟩else⟨(0,.agg #[.slice none 0 0],.mk []),dft,by simpa using cg (n:=0) (by simp[A1])⟩
 have Uj:∀j (hj:j<ks.length),el j=⟨((j:Int),.agg #[zs j],ks[j]),hz j hj,cg (by simp only[A1]; omega)⟩:=fun j hj=>Ob hj;simp only[Qo]at P5 h2
 refine(A43 (fun x: {x:Int×Value×Kd // R FS g w (Ba x.2.2) x.2.1/\IntKind.i64.has x.1}=>#[.int .i64 x.1.1,x.1.2.1]) el zs (fun W W'=>∀a,FS a->W'.cell? a=W.cell? a) Fence.wide 2 trivial rfl Aa l B b off ks.length cap B5
  (fun j hj=>by rw[Uj j hj]) (fun W W' h=>h _ hB) (fun W W' j hj h=>h _ (row j hj).choose_spec.1) J Jx hY W P5 (fun j hj=>?_) h0).mono ?_
 . obtain⟨v,f1,f2,_⟩:=row j hj;rw[Ih _ f1,f2];show some v=some ((w.cell? ⟨b,off+j,none⟩).getD undef);rw[f2]; rfl
 rintro e W' ⟨he,⟨ys,rfl,hj⟩|⟨Bz,hj⟩⟩
 . refine⟨he,.inl ⟨_,?_,hj⟩⟩;apply List.ext_getElem
   . simp[Pz]
   intro i h1 h2;have hi:i<ks.length:=by simpa[Pz]using h1
   simp only[Pz,yq,List.getElem_map,List.getElem_range,Function.comp,List.getElem_reverse];rw[Uj _ Aa]
 exact⟨he,.inr ⟨Bz,trivial,hj⟩⟩
def A9c(x:Array Value)(v u:Value):((#[11,12]:Array Tmp).zip #[v,u]).foldl (fun t (p,v)=>t.setIfInBounds p v) x=(x.setIfInBounds 11 v).setIfInBounds 12 u:=by
 simp
def A8j:qx:=by
 intro op ks c;have Xn:Qw Tryz.prog 256=true:=A5;refine C7.fits Xn fun Am=>?_;have B5:ks.length<=1073741824:=by simpa[Bl,AV.fits,A1]using Am.2.1.1
 clear Am;refine⟨Xn,fun F g w vs hG hs hr=>?_⟩;obtain⟨fn,a,b,d,asg,bdy,hfn,Acd,cA,cB,cAs,cBd,cD,hnt,Hr⟩:=Bsc;have Ij:=hs.cells;have Xq:=Pu _ _ hr;have an:=hG.cells;have hF0:∀x,Fc F w x->(w.cell? x).isSome=true:=fun x h=>h.2
 suffices key:CallsIn Fence.wide 3 Tryz.prog 256 vs.toArray w fun e w'=>∃v F' g',e= .returned v/\R F' g' w' (Ad (C9 op ks c)) v/\St F' g' [] w'/\Bn (Fc F w) g [] w F' g' [] w' by
  refine(callsIn_wide.1 key).mono ?_;rintro e w' ⟨v,F',g',rfl,hv,Cv,hx⟩;have hfr:∀B,B<w.heap.size->w'.heap[B]? =w.heap[B]?:=fun B hB=>hx.frame B hB fun b hb=>absurd hb (Jr b)
  refine⟨v,fun a=>F' a\/F a,g',rfl,R.mono ⟨fun _ h=>.inl h,fun _ _=>rfl,Gh.le_refl _⟩ _ _ hv,
   ⟨fun a ha=>?_,Cv.beyond,Cv.inj,fun b cs h=>(by simp at h),fun t n k ty h=>(by simp at h),fun b off s ha=>?_,fun b e cs h=>(by simp at h),fun b ks h=>(by simp at h)⟩,
   ⟨fun _ h=>.inr h,fun a ha=>Oa (hfr _ (hs.live a ha)),hx.gh,hx.size,fun B hB _=>hfr B hB,fun a ha=>?_,fun b B hb _=>absurd hb (Jr b),Bm _,hx.io⟩⟩
  . rcases ha with ha|ha
    . exact Cv.live a ha
    exact Qp (hs.live a ha) hx.size
  . rcases ha with ha|ha
    . exact Cv.spots b off s ha
    exact hs.spots b off s ha
  rcases ha with ha|ha
  . rcases hx.new a ha with h|h|⟨t,ht,_⟩
    . exact .inl h.1
    . exact .inr (.inl h)
    exact absurd ht (Jr t)
  exact .inl ha
 have hlen:=H5 hr
 have sim0:Gk Tryz.prog (Fc F w) g [] w (start [.int .i64 op,.sl .none (ks.map Ak),Ad c] 20) {tmps:=vs.toArray++Array.replicate (20-vs.toArray.size) undef,defers:=[]}:=by
  refine⟨Ij,?_,rfl,an⟩;show RL (Fc F w) g w _ _;simp only[start,Wi,Zr,Tu,hlen];exact Ld Xq (Wr Hk _)
 refine callsIn_of_wp_marks hfn Acd trivial ?_ rfl;rw[hnt];refine wpIn_seq (wpIn_mono (wpIn_wide.2 ((Bsd op ks c).det a cA _ g w _ sim0)) ?_);rintro e a1 w1 ⟨x,t1,H1,F1,g1,rfl,⟨rfl,rfl,rfl⟩,sim1',ext1'⟩;simp only[AX.to,Exit.then];have sim1:Gk Tryz.prog F1 g1 (uH op c) w1 (uT op ks c .undef .undef .undef .undef .undef) a1:=⟨A2d op c▸sim1'.1.strip,sim1'.2⟩;have ext1:Bn (Fc F w) g [] w F1 g1 (uH op c) w1:=A2d op c▸ext1'.strip;refine wpIn_seq (wpIn_seq (wpIn_mono (wpIn_wide.2 ((Bsf op ks c).det b cB _ _ _ _ sim1)) ?_));rintro e a2 w2 ⟨x,t2,H2,F2,g2,rfl,⟨rfl,rfl,rfl⟩,sim2,ext2⟩;simp only[AX.to,Exit.then];have ext02:=ext1.trans ext2;have Dy:=sim2.2.2.1;obtain⟨B3,vs3,e3,p1,p2,p3,p4,p5⟩:=sim2.1.var 3 [.sl .none (ks.map Ak)] rfl;obtain⟨sv,Zc,hsr⟩:=n9 p4
 have A8:w2.cell? ⟨B3,0,none⟩=some sv:=by
  simp only[World.cell?,p3,Oz,Dp,Bq];rw[<- Mm,Zc]; rfl
 obtain⟨g3,q1,q2,q3⟩:=St.forget (H0:=uH op c) (L:=[.var [.sl .none (ks.map Ak)]]) sim2.1 ext02 (Nl _) (A2f op c) (fun b _=>hs.beyond b (Nl _));let FS:Addr->Prop:=fun x=>Fc F2 w2 x\/x=⟨B3,0,none⟩;have K2:Fi (Fc F2 w2) g2 w2 FS g2 w2:=⟨fun _ h=>.inl h,fun _ _=>rfl,Gh.le_refl _⟩;have hB3:B3<w2.heap.size:=D1 p3
 have am:∀x,FS x->x.block<w2.heap.size:=fun x hx=>by
  rcases hx with hx|rfl
  . exact sim2.1.live x hx.1
  exact hB3
 have al:∀x,FS x->(w2.cell? x).isSome=true:=fun x hx=>by
  rcases hx with hx|rfl
  . exact hx.2
  rw[A8]; rfl
 have Ab7:∀b off s,¬FS ⟨b,off,some s⟩:=fun b off s hx=>by
  rcases hx with hx|hx
  . exact sim2.1.spots b off s hx.1
  cases hx
 have Acp:∀b B,b<3->g2.blk b=some B->B≠B3:=fun b B hb h e=>by
  have:=sim2.1.inj b 3 B h (by rw[p1,e]); omega
 have K3:Fi F2 g3 w2 F2 g3 w2:=⟨fun _ h=>h,fun _ _=>rfl,Gh.le_refl _⟩
 have sS:St FS g3 (uH op c) w2:=by
  have s0:=q2.cells;refine⟨am,q2.beyond,q2.inj,fun b cs hb=>?_,fun t n k ty ht=>?_,Ab7,fun b e cs hb=>?_,fun b ks hb=>absurd hb (k9 op c b ks)⟩
  . obtain⟨B,us,e',h1,h2,h3,h4,h5⟩:=s0.var b cs hb;have M2:b<3:=(List.getElem?_eq_some_iff.1 hb).1;refine⟨B,us,e',h1,h2,h3,RL.mono ⟨fun _ h=>.inl h,fun _ _=>rfl,Gh.le_refl _⟩ _ _ h4,fun off h=>?_⟩;rcases h with h|h
    . exact h5 off h
    exact Acp b B M2 (by rw[<- (q1 b M2).1]; exact h1) (by cases h;rfl)
  . exfalso
    match t,ht with
    |0,ht=>cases ht
    |1,ht=>cases ht
    |2,ht=>cases ht
    |t+3,ht=>simp[uH]at ht
  exfalso
  match b,hb with
  |0,ht=>cases ht
  |1,ht=>cases ht
  |2,ht=>cases ht
  |t+3,ht=>simp[uH]at ht
 have eS:Bn (Fc F w) g [] w FS g3 (uH op c) w2:=by
  refine⟨fun x hx=>.inl ⟨q3.sub x hx,?_⟩,q3.keep,q3.gh,q3.size,q3.frame,fun x hx=>?_,q3.blks,q3.len,q3.io⟩
  . rw[q3.keep x hx]; exact hx.2
  rcases hx with hx|rfl
  . exact q3.new x hx.1
  refine .inr (.inl ?_);rcases ext02.blks 3 B3 (by simp[uH]) p1 with⟨h,_⟩|h
  . exact absurd h (Jr _)
  exact h
 have tS:Tm FS g3 w2 (uT op ks c (.sl .none (ks.map Ak)) (.fn (.func 345) [] [.eptr [.sl .none (ks.map Ak)]]) .undef .undef .undef) a2/\a2.tmps[10]? =some (.func (.func 345) #[] #[.pointer (some ⟨B3,0,none⟩)]):=by
  have h0:RL F2 g2 w2 _ a2.tmps.toList:=sim2.2.1;obtain⟨fv,f1,f2⟩:=Vg h0 10 (.fn (.func 345) [] [.ptr 3 0]) rfl;obtain⟨l1,l2,rfl,k1,k2⟩:=fb f2;simp only[RL]at k1;obtain⟨pv,k3,k4⟩:=n9 k2;obtain⟨B',k5,_,rfl⟩:=Nm k4;rw[p1]at k5;cases k5;have e1:l1= #[]:=by apply L5;simpa using k1
  have e2:l2= #[.pointer (some ⟨B3,0,none⟩)]:=by apply L5;simpa using k3
  subst e1 e2;refine⟨?_,by rw[<- Mm]; exact f1⟩;have h1:RL FS g2 w2 _ a2.tmps.toList:=RL.mono K2 _ _ (Pu _ _ h0)
  have Uk:R FS g2 w2 (.fn (.func 345) [] [.eptr [.sl .none (ks.map Ak)]]) (.func (.func 345) #[] #[.pointer (some ⟨B3,0,none⟩)]):=by
   simp only[R];refine⟨_,_,rfl,by simp[RL],?_⟩;simp only[RL];refine⟨_,[],rfl,?_,rfl⟩;simp only[R];refine⟨B3,0,rfl,?_⟩;simp only[RM];exact⟨⟨rfl,sv,.inr rfl,A8,R.mono K2 _ _ (Wu _ _ hsr)⟩,trivial⟩
  have h2:=Vh h1 Uk 10
  have e3:a2.tmps.toList.set 10 (.func (.func 345) #[] #[.pointer (some ⟨B3,0,none⟩)])=a2.tmps.toList:=by
   apply Tq;intro i;by_cases hi:i=10
   . subst hi;have hl:10<a2.tmps.toList.length:=(List.getElem?_eq_some_iff.1 f1).1;rw[Ks hl,f1]<;>rfl
   rw[Ia (Ib hi)]
  rw[e3]at h2;exact N7 (n:=3) q1 _ _ (by simp[uT,Ad]) h2
 obtain⟨tS,Uk⟩:=tS;have gS:Ja Tryz.prog FS w2:=an.mono eS.keeps
 have stops:=A45 ks B5 FS g3 w2 B3 am sv (.inr rfl) A8 (by
  have:=R.mono K2 _ _ (Wu _ _ hsr)
  exact Mo (n:=3) q1 _ _ (by simp[AV.inScope]) this)
 have t10:uT op ks c (.sl .none (ks.map Ak)) (.fn (.func 345) [] [.eptr [.sl .none (ks.map Ak)]]) .undef .undef .undef=uT op ks c (.sl .none (ks.map Ak)) (.fn (.func 345) [] [.eptr [.sl .none (ks.map Ak)]]) .undef .undef .undef:=rfl;have mk:∀{Fx:Addr->Prop} {gx:Gh} {W:World} {H:Ai},Bn FS g3 (uH op c) w2 Fx gx H W->Tm Fx gx W (uT op ks c (.sl .none (ks.map Ak)) (.fn (.func 345) [] [.eptr [.sl .none (ks.map Ak)]]) .undef .undef .undef) a2/\Ja Tryz.prog Fx W:=fun h=>⟨tS.mono h.keeps,gS.mono h.keeps⟩;have sB:∀b,3<=b->g3.blk b=none/\g3.tk b=none:=fun b hb=>sS.beyond b hb;refine wpIn_block ?_
 refine wpIn_rangeFunc_ownH rfl Aa (gf:=345) (lb:=#[.pointer (some ⟨B3,0,none⟩)]) (by show a2.tmps.getD 10 undef=_;simp[Vb,Uk]) trivial (fun args w=>ru A5 args) stops
  (fun h k a ha=>(k a ha).trans (h a ha)) (fun W l o o' hl h ho _ a ha=>?_) (Below.refl _ _) (fun _=>rfl)
  (fun Bz W=>∃F' g',St F' g' (uH op (cI op c (Bz.map fun x=>x.1.2.2))) W/\Bn FS g3 (uH op c) w2 F' g' (uH op (cI op c (Bz.map fun x=>x.1.2.2))) W/\∀a,F' a->(W.cell? a).isSome=true)
  (fun _ _ _=>False) ?_ (fun _ _ _ _ _ h _ _=>h) ⟨FS,g3,sS,Bn.refl _ _ _ _,al⟩
  (fun x a' W=>a'.defers=[]/\∃Fx gx,(∀ b,gx.tk b=none)/\(∀ b,b<3->gx.blk b=g3.blk b)/\(∀ b,3<=b->gx.blk b=none)/\(∀ a,Fx a->(FS a\/w2.heap.size<=a.block)/\a.block<W.heap.size/\(W.cell? a).isSome=true/\a.spot=none)/\
   Tm Fx gx W (uT op ks c (.sl .none (ks.map Ak)) (.fn (.func 345) [] [.eptr [.sl .none (ks.map Ak)]]) (.eptr (Ak x.1.2.2)) (.int .i64 x.1.1) (Ba x.1.2.2)) a') ?_ ?_ ?_ ?_ ?_
 ·
  refine Oa ?_;have:=am a ha;exact World.putObj_heap_other Aa
 . rintro Bz W W' row ⟨F',g',h1,h2,h3⟩ hg hr;exact⟨F',g',h1.grown (k9 op _) h3 hg fun r e=>(hr r e).2,h2.grown h3 hg hr,tp h3 hg fun r e=>(hr r e).2⟩
 . rintro x a' _ W W' row ⟨hd,Fx,gx,b1,b2,b3,b4,b5⟩ hg hr;have hc:∀a,Fx a->(W.cell? a).isSome=true:=fun a ha=>(b4 a ha).2.2.1;exact⟨hd,Fx,gx,b1,b2,b3,fun a ha=>⟨(b4 a ha).1,Qp (b4 a ha).2.1 hg.size,tp hc hg (fun r e=>(hr r e).2) a ha,(b4 a ha).2.2.2⟩,b5.mono (Fi.grown hc hg fun r e=>(hr r e).2)⟩
 ·
  rintro l Bz x W K ⟨F',g',h1,h2,h3⟩ hK;obtain⟨tm,gl⟩:=mk h2
  have Vu:R F' g' W (Ba x.1.2.2) x.1.2.1:=by
   have e1:=Mo (n:=0) (g':=⟨fun _=>none,fun _=>none⟩) (fun b hb=>absurd hb (Jr b)) _ _ (by simp[Ba,AV.inScope]) x.2.1;have e2:R F' ⟨fun _=>none,fun _=>none⟩ W (Ba x.1.2.2) x.1.2.1:=R.mono ⟨h2.sub,h2.keep,Gh.le_refl _⟩ _ _ e1;exact Mo (n:=0) (fun b hb=>absurd hb (Jr b)) _ _ (by simp[Ba,AV.inScope]) e2
  have Sb:R F' g' W (.int .i64 x.1.1) (.int .i64 x.1.1):=by simp only[R]; exact⟨trivial,x.2.2⟩
  have simA:Gk Tryz.prog F' g' (uH op (cI op c (Bz.map fun x=>x.1.2.2))) W (uT op ks c (.sl .none (ks.map Ak)) (.fn (.func 345) [] [.eptr [.sl .none (ks.map Ak)]]) .undef (.int .i64 x.1.1) (Ba x.1.2.2))
   {tmps:=((#[11,12]:Array Tmp).zip #[.int .i64 x.1.1,x.1.2.1]).foldl (fun t (p,v)=>t.setIfInBounds p v) a2.tmps,defers:=[]}:=by
   refine⟨h1,?_,rfl,gl⟩;show RL F' g' W _ _;rw[A9c];simp only[Ags];exact Vh (Vh tm Sb 11) Vu 12
  refine wpIn_mono (Bsa (ro:=some l) (n:=1) op ks c (cI op c (Bz.map fun x=>x.1.2.2)) (.sl .none (ks.map Ak)) (.fn (.func 345) [] [.eptr [.sl .none (ks.map Ak)]]) x.1.1 x.1.2.2 asg cAs F' g' W _ simA) ?_;rintro e a' W' ⟨x',t',H',F3,g4,rfl,⟨rfl,rfl,rfl⟩,sim',ext'⟩;simp only[AX.to,Exit.then];have ext3:=h2.trans ext';obtain⟨Bk,vk,ek,r1,r2,r3,r4,r5⟩:=sim'.1.var 3 (Ak x.1.2.2) rfl;obtain⟨kx,ekx,hkc⟩:=Au0 x.1.2.2;rw[ekx]at r4;obtain⟨kv,Oh,hkr⟩:=n9 r4
  have m6:W'.cell? ⟨Bk,0,none⟩=some kv:=by
   simp only[World.cell?,r3,Oz,Dp,Bq];rw[<- Mm,Oh]; rfl
  have hBk:w2.heap.size<=Bk:=by
   rcases ext3.blks 3 Bk (by simp[uH]) r1 with⟨h,_⟩|h
   . exact absurd h (by simp[uH])
   exact h
  obtain⟨g5,m1,m2,m3⟩:=St.forget (H:=uH op c) (H0:=uH op (cI op c (Bz.map fun x=>x.1.2.2))) (L:=[.var (Ak x.1.2.2)]) sim'.1 ext3 (eu rfl) (A2f _ _) sB;have m2c:=m2.cells;refine hK a' W' ((Bn.others h1 (k9 op _) ext').from _) (fun a ha=>ext'.keep a (h2.sub a ha)) ⟨Fc F3 W',g5,m2c,m3.cells al,fun _ h=>h.2⟩ ⟨sim'.2.2.1,fun y=>Fc F3 W' y\/y=⟨Bk,0,none⟩,g5,pb m2,fun b hb=>?_,fun b hb=>(m2.beyond b hb).1,fun y hy=>?_,?_⟩
  . obtain⟨B,hB,_⟩:=A2e sS hb;rw[hB]; exact(m3.gh.blk b B hB (pb sS b)).1
  . rcases hy with hy|rfl
    . refine⟨?_,sim'.1.live y hy.1,hy.2,?_⟩
      . rcases ext3.new y hy.1 with h|h|⟨t,_,h,_⟩
        . exact .inl h
        . exact .inr h
        exact absurd (pb sS t) h
      cases y with
      |mk bl off spot=>
       cases spot with
       |none=>rfl
       |some s=>exact absurd hy.1 (sim'.1.spots _ _ _)
    exact⟨.inr hBk,D1 r3,by rw[m6]; rfl,rfl⟩
  have u0:RL F3 g4 W' _ a'.tmps.toList:=sim'.2.1;have Kk:Fi (Fc F3 W') g4 W' (fun y=>Fc F3 W' y\/y=⟨Bk,0,none⟩) g4 W':=⟨fun _ h=>.inl h,fun _ _=>rfl,Gh.le_refl _⟩;obtain⟨pv,f1,f2⟩:=Vg u0 8 (.ptr 3 0) rfl;obtain⟨B',k5,_,rfl⟩:=Nm f2;rw[r1]at k5;cases k5
  have bo:R (fun y=>Fc F3 W' y\/y=⟨Bk,0,none⟩) g4 W' (.eptr (Ak x.1.2.2)) (.pointer (some ⟨Bk,0,none⟩)):=by
   simp only[R,ekx];refine⟨Bk,0,rfl,?_⟩;simp only[RM];exact⟨⟨hkc,kv,.inr trivial,m6,R.mono Kk _ _ (Wu _ _ hkr)⟩,trivial⟩
  have u2:=Vh (RL.mono Kk _ _ (Pu _ _ u0)) bo 8
  have e3:a'.tmps.toList.set 8 (.pointer (some ⟨Bk,0,none⟩))=a'.tmps.toList:=by
   apply Tq;intro i;by_cases hi:i=8
   . subst hi;have hl:8<a'.tmps.toList.length:=(List.getElem?_eq_some_iff.1 f1).1;rw[Ks hl,f1]
   rw[Ia (Ib hi)]
  rw[e3]at u2;exact N7 (n:=3) m1 _ _ (by simp[uT,Ad,Ba]) u2
 ·
  rintro l Bz x a' W hl _ ⟨F',g',h1,h2,h3⟩ ⟨hd,Fx,gx,b1,b2,b3,b4,b5⟩ _;have gl:=(mk h2).2
  have Acc:∀b B,g'.blk b=some B->b<3/\g3.blk b=some B:=fun b B h=>by
   have hb:b<3:=h1.lt h;obtain⟨B0,hB0,_⟩:=A2e sS hb;have:=(h2.gh.blk b B0 hB0 (pb sS b)).1;rw[h]at this;cases this;exact⟨hb,hB0⟩
  have hnF:∀b B off,g'.blk b=some B->¬F' ⟨B,off,none⟩->¬(F' ⟨B,off,none⟩\/Fx ⟨B,off,none⟩):=fun b B off hb hn h=>by
   rcases h with h|h
   . exact hn h
   rcases(b4 _ h).1 with q|q
   . exact hn (h2.sub _ q)
   have:=sS.blk_lt (Acc b B hb).2;simp only at q;omega
  have KF:Fi F' g' W (fun y=>F' y\/Fx y) g' W:=⟨fun _ h=>.inl h,fun _ _=>rfl,Gh.le_refl _⟩
  have s3:St (fun y=>F' y\/Fx y) g' (uH op (cI op c (Bz.map fun x=>x.1.2.2))) W:=by
   refine⟨fun y hy=>?_,h1.beyond,h1.inj,fun b cs hb=>?_,fun t n k ty ht=>?_,fun b off s hy=>?_,fun b e cs hb=>?_,fun b ks hb=>absurd hb (k9 op _ b ks)⟩
   . rcases hy with hy|hy
     . exact h1.live y hy
     exact(b4 y hy).2.1
   . obtain⟨B,us,e',k1,k2,k3,k4,k5⟩:=h1.var b cs hb;exact⟨B,us,e',k1,k2,k3,RL.mono KF _ _ k4,fun off=>hnF b B off k1 (k5 off)⟩
   . exfalso
     match t,ht with
     |0,ht=>cases ht
     |1,ht=>cases ht
     |2,ht=>cases ht
     |t+3,ht=>simp[uH]at ht
   . rcases hy with hy|hy
     . exact h1.spots b off s hy
     cases(b4 _ hy).2.2.2
   exfalso
   match b,hb with
   |0,ht=>cases ht
   |1,ht=>cases ht
   |2,ht=>cases ht
   |t+3,ht=>simp[uH]at ht
  have x3:Bn FS g3 (uH op c) w2 (fun y=>F' y\/Fx y) g' (uH op (cI op c (Bz.map fun x=>x.1.2.2))) W:=by
   refine⟨fun y hy=>.inl (h2.sub y hy),h2.keep,h2.gh,h2.size,h2.frame,fun y hy=>?_,h2.blks,h2.len,h2.io⟩;rcases hy with hy|hy
   . exact h2.new y hy
   exact(b4 y hy).1.imp id .inl
  have tm:Tm (fun y=>F' y\/Fx y) g' W (uT op ks c (.sl .none (ks.map Ak)) (.fn (.func 345) [] [.eptr [.sl .none (ks.map Ak)]]) (.eptr (Ak x.1.2.2)) (.int .i64 x.1.1) (Ba x.1.2.2)) a':=by
   refine b5.mono ⟨fun _ h=>.inr h,fun _ _=>rfl,fun b B hb _=>?_,fun t m k ht=>by rw[b1]at ht;cases ht⟩
   have M2:b<3:=by
    rcases E8 b 3 with h|h
    . exact h
    rw[b3 b h]at hb;cases hb
   rw[b2 b M2]at hb;exact h2.gh.blk b B hb (pb sS b)
  refine wpIn_block (wpIn_mono (Bsb (ro:=some l) (n:=1) op ks c (cI op c (Bz.map fun x=>x.1.2.2)) _ _ _ _ x.1.2.2 bdy cBd _ g' W a' ⟨s3,tm,hd,gl.mono KF⟩) ?_);rintro e a'' W'' ⟨x',t',H',F4,g4,rfl,⟨rfl,cs',rfl,Hb⟩,sim',ext'⟩;simp only[AX.to,Exit.inBlock];have ext4:=x3.trans ext'
  have hH:([.var [.int .i64 op],.var cs',.var uZ]:Ai).map Qj=uH op (cI op c ((Bz++[x]).map fun x=>x.1.2.2)):=by
   simp only[List.map_append,F8,Wn,A5m,uH,Qj,Hb,Ce,AV.strip];simp[uZ]
  have st4:=sim'.1.strip.cells;have ex4:=ext4.strip;rw[hH]at st4 ex4;exact⟨(Bn.others s3 (k9 op _) ext').from _,fun a ha=>ext'.keep a (.inl (h2.sub a ha)),Fc F4 W'',g4,st4,ex4.cells al,fun _ h=>h.2⟩
 ·
  rintro D xs W hD hS ⟨F',g',h1,h2,h3⟩ hKD;obtain⟨tm,gl⟩:=mk h2;rw[show cI op c (xs.map fun x=>x.1.2.2)=C9 op ks c by rw[hS,A5l]]at h1 h2;simp only[Exit.inBlock,Exit.then];refine wpIn_seq (wpIn_mono (Az2 (ro:=none) (n:=3) (ds:=[{target:=.collected D,args:=#[]}]) (Q:=fun x t H=>x= .normal/\(t.getD 6 .undef= .ptr 2 0/\H=[.var [.int .i64 op],.var (Ag (C9 op ks c)),.var (Ag (C9 op ks c))])) cD ⟨h1,tm,by simp[Dy],gl⟩ ?_) ?_)
  ·
   have:=Bse op ks c (C9 op ks c) (.sl .none (ks.map Ak)) (.fn (.func 345) [] [.eptr [.sl .none (ks.map Ak)]]) .undef .undef .undef;exact re this fun t H h=>⟨rfl,h⟩
  rintro e a3 w3 ⟨x',t',H',F3,g4,rfl,⟨rfl,ht6,rfl⟩,sim',ext'⟩;simp only[AX.to,Exit.then];obtain⟨s3,tm3,hd3,_⟩:=sim';have m7:w3.heap[D]? =some (.deferred (some [])):=(Bn.others h1 (k9 op _) ext').same D _ hKD rfl;refine wpIn_ret ?_;show LeavesInM Fence.wide 3 Tryz.prog fn a3.tmps _ a3.defers .returning w3;rw[hd3];refine⟨Ab,.inl ⟨D,_,rfl,run_takeDeferred m7,?_⟩⟩;have ex3:=((eS.trans h2).trans ext').cells hF0;have s3c:=s3.cells
  have Acq:jy [.var [.int .i64 op],.var (Ag (C9 op ks c)),.var (Ag (C9 op ks c))]:=by
   intro b ks h
   match b,h with
   |0,h=>cases h
   |1,h=>cases h
   |2,h=>cases h
   |b+3,h=>simp at h
  have ax:∀a,Fc F3 w3 a->(w3.cell? a).isSome=true:=fun _ h=>h.2;have hg:w3.grownBy (w3.putObj D (.deferred none)) (some D):=grownBy_putObj' w3 D _
  have hr:∀r,some D=some r->w.heap.size<=r/\∃o:Obj,w3.heap[r]? =some o/\o.isCells=false:=fun r e=>by
   cases e;exact⟨Ps eS.size hD,_,m7,rfl⟩
  have s4:=s3c.grown Acq ax hg fun r e=>(hr r e).2;have ex4:=ex3.grown ax hg hr;have tm4:Tm (Fc F3 w3) g4 (w3.putObj D (.deferred none)) t' a3:=Tm.mono (Fi.grown ax hg fun r e=>(hr r e).2) (show Tm (Fc F3 w3) g4 w3 t' a3 from Pu _ _ tm3);have gl4:Ja Tryz.prog (Fc F3 w3) (w3.putObj D (.deferred none)):=an.mono ex4.keeps
  obtain⟨u,hu,Uq⟩:=ko (P:=Tryz.prog) (a:={tmps:=a3.tmps,defers:=[]}) (t:=t') (v:=Ad (C9 op ks c)) ⟨s4,tm4,rfl,gl4⟩ Hr (by
   simp only[I2,Ic,Js,ht6]
   simp[Ni,Ad,Ap (C9 op ks c)])
  obtain⟨g5,m1,m2,m3⟩:=St.forget (H:=[]) (H0:=[]) (L:=[.var [.int .i64 op],.var (Ag (C9 op ks c)),.var (Ag (C9 op ks c))]) s4 ex4 (Bm _) rfl (fun b _=>hs.beyond b (Nl _));exact⟨u,hu,u,_,g5,rfl,Mo (n:=0) (fun b hb=>absurd hb (Jr b)) _ _ Ab Uq,m2,m3⟩
 rintro D c' Bz W _ _ h;exact h.elim
end
def Ade(l:B6):Hc 124 [.sl .none (l.map Ak),.sl .none (l.map Ak)] (.bool true):=by
 refine Hf Bhb fun Am Q hQ=>?_;have B5:l.length<=1073741824:=by simpa[Bl,AV.fits,A1]using Am.1.1
 clear Am;simp;refine WL [] (fun n f h G=>∃k:Nat,k+n=l.length/\f 5= .int .i64 k) (l.length) Ab ⟨0,Ab,rfl⟩ ?_;rintro n f h G ⟨k,hk,h5⟩ Q2 Aj;simp[h5];by_cases Af:k<l.length
 . simp[Af];refine Wd ?_;simp[Af];have hs:=od l[k] l[k];rw[uy]at hs;refine Da hs ?_;simp[Au (n:=(k:Int)+1) Aa Aa];refine Aj (Ln h ?_);exact⟨k+1,Aa,Ab⟩
 simp[Af];refine Aj (Lx ?_);simp;exact hQ
def A7p(l:Ax):Hc 125 [.sl .none (l.map Ag),.sl .none (l.map Ag)] (.bool true):=by
 refine Hf Bhr fun Am Q hQ=>?_;have B5:l.length<=1073741824:=by simpa[Bl,AV.fits,A1]using Am.1.1
 clear Am;simp;refine WL [] (fun n f h G=>∃k:Nat,k+n=l.length/\f 5= .int .i64 k) (l.length) Ab ⟨0,Ab,rfl⟩ ?_;rintro n f h G ⟨k,hk,h5⟩ Q2 Aj;simp[h5];by_cases Af:k<l.length
 . simp[Af];refine Wd ?_;simp[Af];have hs:=Aej l[k] l[k];rw[Abk]at hs;refine Da hs ?_;simp[Au (n:=(k:Int)+1) Aa Aa];refine Aj (Ln h ?_);exact⟨k+1,Aa,Ab⟩
 simp[Af];refine Aj (Lx ?_);simp;exact hQ
def Bp0(a:Sm)(A6:∀x∈a.l,Hc 126 [An x,An x] (.bool true)):Hc 126 [An a,An a] (.bool true):=by
 have h1:=Aej a.con a.con;rw[Abk]at h1;have h2:=od a.k a.k;rw[uy]at h2;have h3:=Ade a.ks;have h4:=Ade a.more;have h5:=Aeg a.names a.names;rw[beq_self_eq_true]at h5;refine Hf Bha fun Am Q hQ=>?_;have hf:=Rj (c:=a) (by simpa[Bl,An,AV.fits]using Am.1);have B5:a.l.length<=1073741824:=hf.2.2.2.2.1;clear Am hf;simp[An,Av a];refine Ca h1 ?_;simp;refine Ca h2 ?_;simp;refine Ca h3 ?_;simp;refine Ca h4 ?_;simp;refine Ca h5 ?_;simp;refine WL [] (fun n f h G=>∃k:Nat,k+n=a.l.length/\f 5= .int .i64 k) (a.l.length) Ab ⟨0,Ab,rfl⟩ ?_;rintro n f h G ⟨k,hk,h5⟩ Q2 Aj;simp[h5];by_cases Af:k<a.l.length
 . simp[Af];refine Wd ?_;simp[Af];refine Da (A6 a.l[k] (Cy _)) ?_;simp[Au (n:=(k:Int)+1) Aa Aa];refine Aj (Ln h ?_);exact⟨k+1,Aa,Ab⟩
 simp[Af];refine Aj (Lx ?_);simp;exact hQ
def A03(a:Sm):Hc 126 [An a,An a] (.bool true):=Bp0 a fun x _=>A03 x
termination_by SizeOf.sizeOf a
decreasing_by exact Sm.lt_l ‹_›
