/- A part of the proof that LiftApplies answers true. -/
import Derived.Test.YtndkeknbfbdeeaaGreatDoorG21
import Derived.Lib.SlKeysI
import Derived.Maps.RangeWalk
import Derived.Maps.AppendAt
import Derived.OwnWalk
import Derived.WalkKit
import Derived.LoopTactic
import Derived.Deep.LoopGhost
import Derived.Laws.MakeOwn
import Derived.WalkLawsBesides
import Derived.Defers
import Derived.Recover
import Derived.Shelf.Abstract
set_option linter.all false
set_option maxHeartbeats 4000000
set_option maxRecDepth 100000
namespace Go.Proofs.YtndkeknbfbdeeaaGreatDoor
open Go
variable {v:AV}{F:Addr->Prop}{H H':Ai}{cap:Ao}{es:Array MapEntry}{nm:Cn->Cn×Int}{x:El}{g:Gh}{ck:Nat}{w:World}
section
open Go.RowKit Go.Shelf Go.Proofs Go.Sort Go.Maps
open Go.WideElems (Fit rd rg rg_of)
def q8:Value->Option (DataW Unit×List MemPlace):=fun _=>some (.lit (.bool true),[])
def Adv:∀(n:Nat) (l:List Nat),l.Nodup->(∀ x∈l,x<n)->l.length<=n
 |0,l,_,h=>by
  cases l with
  |nil=>simp
  |cons x l=>exact absurd (h x Ab) Aa
 |n+1,l,hn,h=>by
  have h1:=Adv n (l.erase n) (hn.erase n) (fun x hx=>by
   have h2:=(hn.mem_erase_iff).1 hx;have h3:=h x h2.2;have h4:=h2.1
   omega)
  have h2:=List.length_erase (a:=n) (l:=l);split at h2<;>omega
def Rp.nodup{ks:Ck}(h:Rp es ck ks):ks.Nodup:=by
 have:=h.stamped.2.2;rw[h.key]at this;exact(List.pairwise_map.1 this).imp fun Bg e=>Bg (by rw[e])
def Rp.length{ks:Ck}(h:Rp es ck ks):es.size=ks.length:=by
 have:=A4 List.length h.key;simpa using this
def Rp.bound{ks:Ck}(h:Rp es ck ks):ks.length<=1048576:=by
 have:=Adv Pa ks h.nodup h.lt;simpa[Pa]using this
def Au5{n:Nat}(h:n<Pa):(Lit.int .i64 n).wf=true:=by
 have:n<1048576:=by simpa[Pa]using h
 simp[Lit.wf,IntKind.min,IntKind.max,IntKind.signed,IntKind.bits];omega
def A2q{x:Int}(h:(Lit.int .i64 x).wf=true):IntKind.i64.has x:=by
 simp only[Lit.wf,Bb,Aw]at h;exact h
def Rp.owns{ks:Ck}{B:Nat}(h:Rp es ck ks)(hb:w.heap[B]? =some (.map es ck)):
 ∃D:DataW Unit,w.ownsMap Tryz.prog 3 q8 B ks.length D/\(∀ x:Int,has D (.int .i64 x)=true↔x∈ks.map fun n:Nat=>(n:Int))/\Maps.size D=ks.length:=by
 have hrd:∀x∈es.toList,∃n:Nat,n∈ks/\x.key= .int .i64 n/\rd Tryz.prog 3 q8 x=some (.int .i64 n,.lit (.bool true)):=fun x hx=>by
  have:x.key∈ks.map (fun n:Nat=>Value.int .i64 n):=by rw[<- h.key]; exact List.mem_map.2 ⟨x,hx,rfl⟩
  obtain⟨n,hn,e⟩:=List.mem_map.1 this;exact⟨n,hn,e.symm,by unfold WideElems.rd;rw[<- e,keyOf_int_mk Tryz.underlying3 (Au5 (h.lt n hn))]; rfl⟩
 refine⟨_,⟨es,ck,hb,⟨by rw[h.length]; have:=h.bound;simp only[maxLen]; omega,h.stamped,fun x hx=>⟨_,(hrd x hx).choose_spec.2.2⟩⟩,by rw[h.length]; exact Bm _,rfl⟩,fun x=>?_,?_⟩
 . rw[has_eq,List.any_eq_true];constructor
   . rintro⟨p,hp,hs⟩;obtain⟨y,hy,rfl⟩:=List.mem_map.1 (mem_sorted.1 hp);obtain⟨n,hn,_,e⟩:=hrd y hy;simp only[rg,e,lu,Lit.sameKey]at hs;exact List.mem_map.2 ⟨n,hn,by simpa using hs⟩
   intro hx;obtain⟨n,hn,rfl⟩:=List.mem_map.1 hx;have:Value.int .i64 n∈es.toList.map (·.key):=by rw[h.key]; exact List.mem_map.2 ⟨n,hn,rfl⟩
   obtain⟨y,hy,e1⟩:=List.mem_map.1 this;obtain⟨m,hm,e2,e3⟩:=hrd y hy;refine⟨_,mem_sorted.2 (List.mem_map.2 ⟨y,hy,rfl⟩),?_⟩;rw[e2]at e1;have:(m:Int)=n:=by simpa using e1
   simp[rg,e3,Lit.sameKey,this]
 show(List.foldr DataW.insert [] _).length=_;rw[length_sorted,Qo,Ou,h.length]
def Ph(ks:List Nat):List Int:=Jm (ks.map fun n:Nat=>(n:Int))
def A08(ks:Ck):(Ph ks).length=ks.length:=by simp[Ph,V0]
def A09{ks:Ck}{z:Int}(h:z∈Ph ks):∃n∈ks,(n:Int)=z:=by
 have:=Ado h;exact List.mem_map.1 this
def Bp2(w:World)(B:Nat)(es:Array MapEntry)(ck:Nat)(ks:Ck)(hb:w.heap[B]? =some (.map es ck))(hok:Rp es ck ks):
 Calls Tryz.prog 250 #[.map (some B)] w fun e w'=>∃v,e= .returned v/\(w.heap.size<=w'.heap.size/\(∀ X,X<w.heap.size->w'.heap[X]? =w.heap[X]?)/\w'.os=w.os/\w'.output=w.output)/\
  (v= .slice none 0 0/\Ph ks=[]\/∃g cap,v= .slice (some ⟨g,0,none⟩) (Ph ks).length cap/\w.heap.size<=g/\(Ph ks).length<=cap/\Qn w' g (Ph ks)):=by
 obtain⟨D0,Bt,hhas,Cl⟩:=hok.owns hb;have law3:=int_keyed Tryz.underlying3;have P4:=hok.bound;have Ke:=hok.nodup;have D8:=Bt.lt;have Acf:(Value.int .i64 0).cells.size=1:=rfl;clear hb hok
 go_enter Tryz.func250,Tryz.ntmps250
 go_wp2_with (first
  |(at_range;refine wpList_range_own _ rfl _ 233 rfl 3 4 law3 Tryz.underlying233 _ B ks.length D0 rfl Bt ?_;intro w0 hrg0 az Ij)
  |go_in)
 go_frame
 go_loopw [3] (fun v wr=>∃(left:Lit->Bool) (cnt:Nat) (ss:F6),wr.ranges Tryz.prog 3 q8 B w.heap.size ks.length D0 left cnt/\ss.length+cnt<=ks.length/\
  wr.ownsRow (w.heap.size+1) 3 1 v ss.length (ss.map encZ)/\CollectedI D0 left ss/\Below w.heap.size w wr/\(∀ z∈ss,IntKind.i64.has z))
  (fun _ wr=>wr.rangeLeft B w.heap.size)
 case atStart=>
  exact⟨_,_,[],hrg0,by simp[Cl],World.ownsRow_nil _ _ _ _,CollectedI.start D0,(Below.refl _ _).grown az (Bm _) (fun j hj=>by cases hj),Ab⟩
 case round=>
  obtain⟨left,cnt,ss,hrg,B7,Up,hC,Q7,hhz⟩:=hrel;clear az Ij hrg0;have Kz:=hrg.lt
  go_wp2_with (first
   |(at_next;refine wpList_next_ranges _ rfl _ rfl 3 law3 q8 (Value.int .i64) (fun c:Value=>c) (fun key kl hk=>by obtain⟨x,hx,_⟩:=Maps.keyOf_i64 Tryz.underlying3 hk;exact⟨x,hx⟩) (fun v y hv=>⟨v,rfl⟩) B w.heap.size ks.length _ _ _ rfl hrg ?_ ?_)
   |go_in)
  . intro hc0 hl0
    have Auc:ss.Perm (ks.map fun n:Nat=>(n:Int)):=by
     refine(List.perm_ext_iff_of_nodup hC.1 ?_).2 fun x=>?_
     . exact List.pairwise_map.2 (Ke.imp fun Bg e=>Bg Aa)
     rw[hC.2 x,hl0,<-hhas x]; simp
    have hss:Jm ss=Ph ks:=mergeSort_of_perm_i Auc;have hlen:(Ph ks).length=ss.length:=by rw[<- hss,V0]
    have hpair:=Up.2;have A:Aside (ss.length+cnt<=ks.length/\Jm ss=Ph ks/\(Ph ks).length=ss.length/\Below w.heap.size w wr):=⟨B7,hss,hlen,Q7⟩;clear B7 hss hlen Q7 Auc hC hl0 hc0 Up hrg hhas Cl Bt Ke D8 Kz;rcases hpair with⟨rfl,Ns⟩|⟨gb,cap,cur,rfl,au,G9,h1,h2,h3,h4⟩
    . have A2:Aside (ss.length=0):=Ns;clear Ns
      go_wp2_with (go_at_call 240;refine(Ah5 _ none 0).mono ?_;rintro e w5 ⟨rfl,rfl⟩)
      go_ret
      obtain⟨a1,a2,a3,a4⟩:=A.out;have:=A2.out;refine⟨_,rfl,⟨a4.size,a4.block,a4.os,a4.output⟩,.inl ⟨rfl,?_⟩⟩;exact Ye Aa
    have hI:Qn wr gb ss:=⟨cur,3,G9,by simpa using h4⟩;have Acw:=Ah4 gb cap ss wr hI (by have:=A.out.1;omega);have A2:Aside (w.heap.size+1<=gb/\ss.length<=cap):=⟨au,h1⟩;clear hI G9 h1 h2 h3 h4 au
    go_wp2_with (go_at_call 240;refine Acw.mono ?_;rintro e w5 ⟨rfl,hz⟩)
    go_ret
    obtain⟨a1,a2,a3,a4⟩:=A.out;obtain⟨b1,b2⟩:=A2.out;rw[a2]at hz;refine⟨_,rfl,⟨Ps a4.size hz.1.size,fun X hX=>?_,hz.1.io.1.trans a4.os,hz.1.io.2.trans a4.output⟩,.inr ⟨gb,cap,by rw[a3]; rfl,Aa,Aa,hz.2⟩⟩;exact(hz.1.heap X (Qp hX a4.size) Aa).trans (a4.block X hX)
  intro x c kl yd yp w2 cnt2 iz hlk hv iq Acv Af Q4 E7 Xn;obtain⟨x',ex,rfl,hwf⟩:=Maps.keyOf_i64 Tryz.underlying3 iz;obtain rfl:x=x':=encZ_inj ex;have ug:=Up.kept Q4 (Or.inr (row_ne_iter Up hrg).symm);have hhx:IntKind.i64.has x:=A2q hwf;have h2l:=Acv.lt;clear E7
  go_wp2_with (first
   |(at_builtin;refine wpList_append_own _ rfl _ _ 184 rfl (w.heap.size+1) 3 Tryz.t3 (.int .i64 0) 1 8 Tryz.underlying184 A5 rfl rfl rfl Acf Di _ _ _ rfl (ug.alloc _) ⟨w2.heap.size,0,none⟩ 1 1 [encZ x] rfl rfl (cell_one_new _ _ _) (by simp[Value.oneCell',encZ]) (by simp only[maxLen]; omega) Aa (by simp;omega) ?_;intro v' w3 Bv hg3 hnil3;go_frame)
   |go_in)
  have hrg3:=(Acv.alloc _).kept hg3 (row_ne_low ug Aa) (row_ne_iter ug Acv)
  go_roundw
  case rel=>
   refine⟨_,cnt2,ss++[x],hrg3,by simp;omega,by simpa using Bv,hC.step hlk iq,?_,fun z hz=>?_⟩
   . exact((Q7.grown Q4 Q7.size (fun j hj=>by cases hj;exact Bm _)).alloc (by have:=Q7.size;have:=Q4.size;omega) _).grown hg3 (by have:=Q7.size;have:=Q4.size;simp;omega) (fun j hj=>by have:=(ug.lt j hj).1;omega)
   rcases List.mem_append.1 hz with h|h
   . exact hhz z h
   rw[List.mem_singleton.1 h]; exact hhx
  case measure=>rw[hrg3.left_eq,hrg.left_eq]; exact Af
def A04(H:Ai)(i:Nat)(ks:Ck)(hi:H[i]? =some (.mp ks)):C7 Tryz.prog 250 [.mapv i] H (.sl .none (Dc (Ph ks))) H:=by
 refine⟨A5,fun F g w vs hG hs hr=>?_⟩;simp only[RL]at hr;obtain⟨v,_,rfl,hv,rfl⟩:=hr;simp only[R]at hv;obtain⟨B,h1,h2,rfl⟩:=hv;rcases hs.mp i ks hi with⟨_,h,_⟩|⟨B',es,ck,p1,p2,p3,p4⟩
 . rw[h1]at h;cases h
 rw[h1]at p1;cases p1;refine(Bp2 w B es ck ks p3 p4).mono ?_;rintro e w' ⟨v,rfl,⟨z1,z2,z3⟩,hv⟩;have hb:=p4.bound;rcases hv with⟨rfl,h0⟩|⟨gb,cap,rfl,b1,b2,b3⟩
 . obtain⟨y1,y2⟩:=qw hs z1 z2 z3 (F2:=F) (fun a h=>h) (fun a h=>.inl h);refine⟨_,F,g,rfl,?_,y1,y2⟩;rw[h0];simp only[R];exact⟨by simp[Dc],.inl ⟨by simp[Dc],by trivial,Ab,Ab⟩⟩
 obtain⟨F2,y1,y2,y3⟩:=Bac hs b1 z1 z2 z3 b3 b2 (by rw[A08]; unfold A1;omega) (fun z hz=>by
  obtain⟨n,hn,rfl⟩:=A09 hz
  exact A2q (Au5 (p4.lt n hn)))
 exact⟨_,F2,g,rfl,y1,y2,y3⟩
end
section
attribute [-simp] Int.not_lt Int.not_le
attribute [local simp] Cb Cq
def A2t{σ:Type}(f:Cn->Int->Int->σ->σ)(g:Int->Int->Int->σ->σ)(I:σ->Prop)(hf:∀c a b x,0<=a->0<=b->I x->I (f c a b x))(hg:∀n a b x,0<=n->n<=20000->0<=a->0<=b->I x->I (g n a b x)):
 ∀(h:Nat) (z:Te) (c t:Int) (x:σ),Ds h z->0<=c->0<=t->c+h<=1000->t+h<=1000->I x->I (Tl f g z c t x)
 |0,_,_,_,_,ht,_,_,_,_,_=>ht.elim
 |h+1,z,c,t,x,ht,h0,h1,hc,hd,hI=>by
  have ng:∀i,i<z.l.length->_:=fun i hi=>Ac1 ht hi h0 h1 Aa Aa;obtain⟨De,hn2,P8⟩:=ct ht.1;rw[A2s f g z c t x _ _ _ rfl rfl rfl]
  have loop:∀(n k:Nat) (y:σ),k+n=z.l.length->I y->I (Wh f g z.op (z.l.drop k) k c t y):=by
   intro n
   induction n with
   |zero=>intro k y hk hy;rw[Cm Aa,Wh]; exact hy
   |succ n ih=>
    intro k y hk hy;have Af:k<z.l.length:=Aa;obtain⟨i1,i2,i3,i4⟩:=ng k Af;rw[Ct Af,Wh];exact ih (k+1) _ Aa (A2t f g I hf hg h z.l[k] _ _ y (ht.2 _ (Cy _)) i1 i3 Aa Aa hy)
  refine loop z.l.length 0 _ Aa ?_;have q1:I (if Dj z.op=true then f z.con c t x else x):=by split;exact hf _ _ _ _ h0 h1 hI;exact hI
  generalize (if Dj z.op=true then f z.con c t x else x)=x1 at q1 ⊢;have q2:I (if z.op=8 then f z.to c t x1 else x1):=by split;exact hf _ _ _ _ h0 h1 q1;exact q1
  generalize (if z.op=8 then f z.to c t x1 else x1)=x2 at q2 ⊢;split
  . rename_i ho;exact hg _ _ _ _ (P8 ho).1 (P8 ho).2 h0 h1 q2
  exact q2
def V4(ks:List Nat):Prop:=ks.Nodup/\∀n∈ks,n<20001
def Awk{n:Nat}{ks:Ck}(h:V4 ks)(hn:n<20001):V4 (T0 n ks):=by
 unfold T0;split
 . exact h
 rename_i jb;refine⟨List.nodup_append.2 ⟨h.1,Ab,fun a ha b hb=>?_⟩,fun m hm=>?_⟩
 . rw[List.mem_singleton.1 hb];exact fun e=>jb (e▸ha)
 rcases List.mem_append.1 hm with h'|h'
 . exact h.2 m h'
 rw[List.mem_singleton.1 h']; exact hn
def Awl(a:Int)(h0:0<=a):∀(l:List Int) (ks:List Nat),(∀ z∈l,0<=z/\z<=20000)->V4 ks->V4 (Yj a l ks)
 | [],ks,_,h=>h
 |z::l,ks,hl,h=>by
  rw[Yj];refine Awl a h0 l _ (fun y hy=>hl y (by simp[hy])) ?_;split
  . have:=hl z Ab;exact Awk h Aa
  exact h
def A9e(c:Cn):∀z∈(Xe c).1,0<=z/\z<=20000:=by
 by_cases hc:Al c<=1000000000000
 . exact(Atp c hc).2.1
 intro z hz;rw[Xe,dif_neg hc]at hz;simp at hz
def Awn:V4 []:=⟨List.nodup_nil,Ab⟩
def A9i(t:Te)(ht:Ds 400 t):V4 (Tl ae Xh t 0 0 ([],[])).1/\V4 (Tl ae Xh t 0 0 ([],[])).2:=
 A2t ae Xh (fun x=>V4 x.1/\V4 x.2) (fun c a b x ha _ h=>⟨Awl a ha _ _ (A9e c) h.1,h.2⟩)
  (fun n a b x Ns De _ hb h=>by
   unfold Xh;split
   . exact⟨h.1,Awk h.2 Aa⟩
   exact h) 400 t 0 0 ([],[]) ht Aa Aa Aa Aa ⟨Awn,Awn⟩
def Awm{ks:Ck}(h:V4 ks):(∀ z∈Ph ks,0<=z/\z<=20000)/\(Ph ks).length<=20001:=by
 refine⟨fun z hz=>?_,by rw[A08]; exact Adv _ _ h.1 h.2⟩;obtain⟨n,hn,rfl⟩:=A09 hz;have:=h.2 n hn;omega
def Bq9(t:Te)(ht:Ds 400 t):∃p:F6×F6,Hc 181 [Ah t] (.tup [.sl .none (Dc p.1),.sl .none (Dc p.2)])/\(∀ z∈p.1,0<=z/\z<=20000)/\(∀ z∈p.2,0<=z/\z<=20000)/\p.1.length<=20001/\p.2.length<=20001:=by
 have hw:=A1y (A9h t) 400 t 0 0 ([],[]) ht Aa Aa Aa Aa;have hk:=A9i t ht;generalize Tl ae Xh t 0 0 ([],[])=x at hw hk;obtain⟨k1,k2⟩:=x;obtain⟨o1,o2⟩:=Awm hk.1;obtain⟨o3,o4⟩:=Awm hk.2;refine⟨(Ph k1,Ph k2),?_,o1,o3,o2,o4⟩;clear o1 o2 o3 o4 hk;have h1:=A04 (Jg t (k1,k2)) 1 k1 rfl;have h2:=A04 (Jg t (k1,k2)) 2 k2 rfl;refine Hg Bjg fun Q hQ=>?_;simp[Ah,Aq t];refine C1 (r:=.tup []) (by simpa[Ah,Aq t,C2,Jg]using hw) ?_;clear hw;simp;refine Ty (fun _=>true) [1,3] Bc ?_;simp;refine Ql (first:=[]) (cap:=[]) (by simpa[Jg,Aq t]using h1) (fun b cs _ hb=>hb) ?_;simp;refine Ql (first:=[]) (cap:=[]) (by simpa[Jg,Aq t]using h2) (fun b cs _ hb=>hb) ?_;simp;exact hQ
def A1q(t:Te)(d1 d2:Int)(hb:Dg t)(h0:0<=d1)(h1:d1<=20000)(h2:0<=d2)(h3:d2<=20000):∃p,Hc 104 [Ah t,.int .i64 d1,.int .i64 d2] (Cf p)/\(p.2=0->Ds 400 p.1)/\(p.2≠0->p.1=Cj)/\(p.2=0->wT p.1<=20000/\wT p.1<=wT t/\tD p.1<=tD t)/\(Ds 400 t->wT t<=20000->p.2=0\/p.2=6):=by
 obtain⟨b,hv,hok⟩:=d8 t hb
 cases b with
 |false=>
  refine⟨(Cj,1),?_,Ab,Ab,Ab,fun a b=>by cases hok.2 ⟨a,b⟩⟩;refine Hg Axd fun Q hQ=>?_;simp[Ah,Aq t];refine Ca hv ?_;simp
  exact hQ (by simp[Cf,Ah,Km])
 |true=>
 obtain⟨⟨l1,l2⟩,hfr,b1,b2,n1,n2⟩:=Bq9 t (hok.1 rfl).1;simp only at hfr b1 b2 n1 n2;have S5:=A1t d1;have Q5:=A1t d2;have e1:(decide (-20000<=d1)&&decide (d1<=20000))=true:=by simp;omega
 have e2:(decide (-20000<=d2)&&decide (d2<=20000))=true:=by simp;omega
 rw[e1]at S5;rw[e2]at Q5;clear e1 e2
 have Md:=Af5 251 252 [.ptr 2 0] [.ptr 3 0] [.var (Bi t),.var Hy,.var [.int .i64 d1],.var [.int .i64 d2]] (fun c a _=>Ed c d1 a) (fun n _ b=>(Nz (if b<=n then IntKind.i64.wrap (n+d2)else n),0))
  (Bo9 d1 d2 h0 h1 _ 2 3 rfl rfl (fun b hb=>match b,hb with
   |0,_=>⟨_,rfl⟩
   |1,_=>⟨_,rfl⟩
   |2,_=>⟨_,rfl⟩
   |3,_=>⟨_,rfl⟩) (fun n _=>by simp[Be,A0,D9,AV.inScope,Hy,Aq t])) 400 t 0 0 (hok.1 rfl).1 Aa Aa Aa Aa
 have Gy:=Abh (fun c a _=>Ed c d1 a) (fun n _ b=>(Nz (if b<=n then IntKind.i64.wrap (n+d2)else n),0)) (fun c a b=>by have:=@oq c d1 a;omega) (fun n _ _=>A1o _) t 0 0;have Ha:=Arj (fun c a _=>Ed c d1 a) (fun n _ b=>(Nz (if b<=n then IntKind.i64.wrap (n+d2)else n),0)) (fun c a b=>Bo8 c d1 a) (fun n _ _=>Bsm _) t 0 0;generalize Mt (fun c a _=>Ed c d1 a) (fun n _ b=>(Nz (if b<=n then IntKind.i64.wrap (n+d2)else n),0)) t 0 0=p at Md Gy Ha;obtain⟨y,e⟩:=p;obtain⟨q,Li,hq1,hq2,bp,hq4⟩:=A1r y e Gy;refine⟨q,?_,hq1,hq2,fun h=>by rw[(bp h).1]; exact⟨(bp h).2.1,Ha⟩,fun _ _=>hq4⟩;clear hq1 hq2 bp hq4 Gy Ha;obtain⟨z,g⟩:=q;have Br:=Brj d1 d2 [.var (Bi t),.var Hy] (fun n _=>by simp[Be,A0,D9,AV.inScope,Hy,Aq t])
 have g1:∀h:0<(Dc l1).length,(Dc l1)[0]'h=[.int .i64 (l1.headD 0)]:=fun h=>by
  cases l1 with
  |nil=>simp[Dc]at h
  |cons x l=>rfl
 have g2:∀h:0<(Dc l2).length,(Dc l2)[0]'h=[.int .i64 (l2.headD 0)]:=fun h=>by
  cases l2 with
  |nil=>simp[Dc]at h
  |cons x l=>rfl
 have c1:0<=l1.headD 0/\l1.headD 0<=20000:=by
  cases l1 with
  |nil=>simp
  |cons x l=>exact b1 x Ab
 have c2:0<=l2.headD 0/\l2.headD 0<=20000:=by
  cases l2 with
  |nil=>simp
  |cons x l=>exact b2 x Ab
 generalize l1.headD 0=x1 at g1 c1;generalize l2.headD 0=x2 at g2 c2;have w1:=Au (n:=x1+d1) Aa Aa;have w2:=Au (n:=x2+d2) Aa Aa;have v1:¬(x1+d1<0):=Aa;have v2:¬(x2+d2<0):=Aa;clear c1 c2;clear b1 b2;refine Hg Axd fun Q hQ=>?_;simp[-Az,Ah,Aq t];rw[Az];simp[-Az];rw[Az];rw[Az];simp[-Az];refine Ca hv ?_;simp[-Az];rw[Az];simp[-Az];refine Ca hfr ?_;simp[-Az];refine Gc (fun f=>True) (fun Q' hn hr=>?_) (fun f hI=>?_)
 . rw[Az];simp[-Az];refine Ca S5 ?_;simp;refine Ca Q5 ?_;by_cases e1:0<l1.length
   . by_cases e2:0<l2.length
     . simp[e1,e2,g1,g2,w1,w2,v1,v2];refine hn _ Ab ?_;trivial
     simp[e1,e2,g1,w1,v1];refine hn _ Ab ?_;trivial
   by_cases e2:0<l2.length
   . simp[e1,e2,g2,w2,v2];refine hn _ Ab ?_;trivial
   simp[e1,e2];refine hn _ Ab ?_;trivial
 simp[-Az];clear g1 g2 w1 w2 v1 v2 S5 Q5;rw[Az];refine Ty (fun _=>true) [2,5,12] Bc ?_;simp;refine Ql (first:=[]) (cap:=[]) (by simpa[Hy,Aq t]using Br) (fun b cs _ hb=>E4 (L:=[_,_]) hb) ?_;simp[T9];refine Ql (first:=[]) (cap:=[]) (r:=Cf (y,e)) (by simpa[Ah,Aq t,Hy,T9,C2]using Md) (fun b cs _ hb=>E4 (L:=[_,_]) hb) ?_;clear Md;simp[Cf,Ah,Aq y];refine Da Li ?_;simp[Cf,Ah,Aq z];exact hQ (by simp[Cf,Ah,Aq z])
def Bbp(c:Kd):Hc 136 [Ba c] (.bool !Eu c):=by
 refine Hg Bd6 fun Q hQ=>?_;simp[Ba];refine Ca (ce c) ?_;simp;exact hQ
def J2(l:List Kd):Bool:=decide (l.length<=1000)&&l.all Eu
def Avh(l:B6):Hc 70 [.sl .none (l.map Ak)] (.bool (J2 l)):=by
 have h:=Afo l (fun x=>!Eu x) 136 fun x _=>Bbp x;rw[Rs]at h;have key:J2 l=(decide (l.length<=1000)&&l.all Eu):=rfl;generalize l.all Eu=b at h key;by_cases hl:l.length<=1000
 . have Ci:(l.length:Int)<=1000:=by omega
   have key:J2 l=b:=by rw[key]; simp[hl]
   refine Hg Awt fun Q hQ=>?_;simp[Ci];refine Ca h ?_;simp;exact hQ
 have Ci:¬(l.length:Int)<=1000:=by omega
 have S7:(1000:Int)<(l.length:Int):=Aa;have key:J2 l=false:=by rw[key]; simp[hl]
 refine Hg Awt fun Q hQ=>?_;simp[Ci];exact hQ
def Bbn(c:Cn)(hc:Al c<=1000000000000):Hc 91 [Ad c] (.bool !Ar c):=by
 refine Hg Bd5 fun Q hQ=>?_;simp[Ad,Ap c];refine Ca (Lc c hc) ?_;simp;exact hQ
def Avf(l:Ax)(hz:∀x∈l,Al x<=1000000000000):Hc 23 [.sl .none (l.map Ag)] (.bool (l.all Ar)):=by
 have h:=U9 l (fun x=>!Ar x) 91 fun x hx=>Bbn x (hz x hx);rw[Rs]at h;generalize l.all Ar=b at h ⊢;refine Hg Bd4 fun Q hQ=>?_;simp;refine Ca h ?_;simp;exact hQ
open Classical in
noncomputable def Pk(t:Te):Bool:=if h:Dg t then(d8 t h).choose else false
def Wf(t:Te)(h:Dg t):Hc 24 [Ah t] (.bool (Pk t))/\(Pk t=true->Ds 400 t):=by
 rw[Pk,Ob h]; exact⟨(d8 t h).choose_spec.1,fun e=>((d8 t h).choose_spec.2.1 e).1⟩
def xl{t:Te}(h:Dg t):Pk t=true↔Ds 400 t/\wT t<=20000:=by
 rw[Pk,Ob h]; exact(d8 t h).choose_spec.2
def Bqy{t:Te}(h:Pk t=true):Ds 400 t:=by
 by_cases hb:Dg t
 . exact(Wf t hb).2 h
 rw[Pk,dif_neg hb]at h;cases h
structure Kv (e:El):Prop where
 s:Dd e.s
 t:Dg e.t
 w:∀x∈e.w,Al x<=1000000000000
def On(e:El):Bool:=if e.pure=true then decide (e.w.length=e.ks.length)else decide (e.w.length=0)
def Adi(e:El)(hb:Kv e)(v:Bool)(h3:Hc 24 [Ah e.t] (.bool v)):Hc 22 [As e] (.bool (J2 e.ks&&Cu e.s&&v&&e.w.all Ar&&On e)):=by
 have h1:=Avh e.ks;have h2:=dt e.s hb.s;have hp:=dv e.s;have h4:=Avf e.w hb.w;obtain⟨r,key⟩:∃r,r=(J2 e.ks&&Cu e.s&&v&&e.w.all Ar&&On e):=⟨_,rfl⟩;rw[<- key];generalize J2 e.ks=b at h1 key;generalize K9 e.s=z at h2 hp;generalize Cu e.s=f at hp key;generalize e.w.all Ar=c at h4 key;cases b
 . obtain rfl:r=false:=by simpa using key
   refine Hg Zh fun Q hQ=>?_;simp[As,A7 e];refine Ca h1 ?_;simp;exact hQ
 cases f
 . obtain rfl:r=false:=by simpa using key
   have hz:z=0:=hp.2 rfl;subst hz;refine Hg Zh fun Q hQ=>?_;simp[As,A7 e];refine Ca h1 ?_;simp;refine Ca h2 ?_;simp;exact hQ
 have hz:¬z=0:=fun h=>by have:=hp.1 h;cases this
 have Qc:(z==0)=false:=by simpa using hz
 cases v
 . obtain rfl:r=false:=by simpa using key
   refine Hg Zh fun Q hQ=>?_;simp[As,A7 e];refine Ca h1 ?_;simp;refine Ca h2 ?_;simp[hz];refine Ca h3 ?_;simp;exact hQ
 cases c
 . obtain rfl:r=false:=by simpa using key
   refine Hg Zh fun Q hQ=>?_;simp[As,A7 e];refine Ca h1 ?_;simp;refine Ca h2 ?_;simp[hz];refine Ca h3 ?_;simp;refine Ca h4 ?_;simp;exact hQ
 obtain rfl:r=On e:=by simpa using key
 clear key;obtain⟨q,hq⟩:∃q,q=On e:=⟨_,rfl⟩;rw[<- hq];unfold On at hq;generalize I6:e.pure=pu at hq;cases pu
 . rw[Ac Ab]at hq;by_cases hw:e.w.length=0
   . obtain rfl:q=true:=by rw[hq]; simp[hw]
     clear hq;have Tc:(e.w.length:Int)=0:=Aa;refine Hg Zh fun Q hQ=>?_;simp[As,A7 e];refine Ca h1 ?_;simp;refine Ca h2 ?_;simp[hz];refine Ca h3 ?_;simp;refine Ca h4 ?_;simp[I6,hw];exact hQ
   obtain rfl:q=false:=by rw[hq]; simp[hw]
   clear hq;have Tc:¬(e.w.length:Int)=0:=Aa;refine Hg Zh fun Q hQ=>?_;simp[As,A7 e];refine Ca h1 ?_;simp;refine Ca h2 ?_;simp[hz];refine Ca h3 ?_;simp;refine Ca h4 ?_;simp[I6,hw];exact hQ
 rw[Ae rfl]at hq;by_cases hw:e.w.length=e.ks.length
 . obtain rfl:q=true:=by rw[hq]; simp[hw]
   clear hq;refine Hg Zh fun Q hQ=>?_;simp[As,A7 e];refine Ca h1 ?_;simp;refine Ca h2 ?_;simp[hz];refine Ca h3 ?_;simp;refine Ca h4 ?_;simp[I6,hw];exact hQ
 obtain rfl:q=false:=by rw[hq]; simp[hw]
 clear hq;have Tc:¬(e.w.length:Int)=(e.ks.length:Int):=Aa;refine Hg Zh fun Q hQ=>?_;simp[As,A7 e];refine Ca h1 ?_;simp;refine Ca h2 ?_;simp[hz];refine Ca h3 ?_;simp;refine Ca h4 ?_;simp[I6,Tc];exact hQ
noncomputable def R0(e:El):Bool:=J2 e.ks&&Cu e.s&&Pk e.t&&e.w.all Ar&&On e
def Adh(e:El)(hb:Kv e):Hc 22 [As e] (.bool (R0 e)):=Adi e hb _ (Wf e.t hb.t).1
def Bba(e:El):Hc 107 [As e] (C8 e.ks e.s):=by
 refine Hg Bd2 fun Q hQ=>?_;simp[As,A7 e];exact hQ (by simp[C8,Av e.s])
def C5(op n:Int)(l:List Te):Te:=.mk op n [] A3 A3 (.mk []) [] l
def d7(op n:Int)(l:Na):Bi (C5 op n l)=[.int .i64 op,.int .i64 n,.str [],.int .i64 0,.int .i64 0,.str [],.sl .none [],.sl .none [],.sl .none [],.int .i64 0,.int .i64 0,.str [],.sl .none [],.sl .none [],.sl .none [],.sl .none [],.sl .none [],.sl .none (l.map Bi)]:=by
 rw[C5,Va]; rfl
def k6{op n:Int}{l:Na}(h:∀x∈l,Dg x):Dg (C5 op n l):=by
 rw[We]; exact⟨by show Al A3<=_;decide,by show Al A3<=_;decide,h⟩
def Xu(op n:Int)(l:Na):Hc 33 [.int .i64 op,.int .i64 n,.sl .none (l.map Bi)] (Ah (C5 op n l)):=by
 refine Hg Ad0 fun Q hQ=>?_;simp;exact hQ (by simp[Ah,d7])
end
section
open Go.RowKit
attribute [-simp] Int.not_lt Int.not_le
attribute [local simp] Cb Cq
def Kr(P:Program)(f:FuncId)(args:List AV)(v:AV)(e:Int):Prop:=(e=0->C7 P f args [] v [])/\(e≠0->Ft P f args [] e [])
def U0:Hc 97 [.int .i64 0] (.tup []):=by
 refine Hg Bd7 fun Q hQ=>?_;simp;exact hQ
def Bb4(e:Int)(h:e≠0)(w:World):Calls Tryz.prog 97 #[.int .i64 e] w fun x w'=>x= .panicked [{v:=.iface 131 (.agg #[.int .i64 e]),recovered:=false}]/\w'=w:=by
 have Bg:∀w:World,(binOp .neq 41 (.int .i64 e) (.int .i64 0)).run Tryz.prog w= .ok (.bool true) w:=fun w=>by simp[go_sem,h]
 refine calls_of_wp Tryz.func97 rfl ?_;refine wp_seq (wp_region ?_);simp[wpOps,Oper.wp,go_sem,Tryz.ntmps97];refine .inl (.inl ?_);refine wp_cond (t:=true) (by simp[Act.eval,Array.replicate,h]) ?_;simp only[Bp];refine wp_region ?_;simp[wpOps,Oper.wp,go_sem,bodyPost]
 done
def Xy(e:Int)(h:e≠0):Ft Tryz.prog 97 [.int .i64 e] [] e []:=by
 refine⟨A5,fun F g w vs hG hs hr=>?_⟩;simp only[RL]at hr;obtain⟨v,_,rfl,hv,rfl⟩:=hr;obtain⟨rfl,hi⟩:=L6 hv;refine(Bb4 e h w).mono ?_;rintro x w' ⟨rfl,rfl⟩;refine⟨.pan (Ma e),[],F,g,⟨rfl,rfl⟩,hs,Bn.refl _ _ _ _,_,rfl,?_⟩;simp only[Ma,R,RL];exact⟨_,rfl,_,rfl,_,_,rfl,⟨rfl,hi⟩,rfl⟩
def Adk(s:Sm)(d fr:Int)(hc:Dd s)(Lh:0<=d)(hd:d<=20000)(Sa:0<=fr)(hf:fr<=20000):Kr Tryz.prog 29 [An s,.int .i64 d,.int .i64 fr] (An (E0 s d fr).1) (E0 s d fr).2:=by
 have hk:=Bot s d fr hc Lh hd Sa hf;generalize E0 s d fr=p at hk ⊢;obtain⟨r,e⟩:=p;constructor
 . intro he;simp only at he;subst he;refine Hg Awu fun Q hQ=>?_;simp[An,Av s];refine Ca hk ?_;simp[Db,An,Av r];refine Ca U0 ?_;simp;exact hQ (by simp[An,Av r])
 intro he;simp only at he;refine Ft.go mixed Awu Ab Ab fun Am=>?_;letI:D6:=K5 e [];clear Am;simp[An,Av s];refine Ca hk ?_;simp[Db,An,Av r];exact Ve (Xy e he) Ab Ab ⟨_,rfl⟩
def Avi(t:Te)(d1 d2:Int)(hb:Dg t)(h0:0<=d1)(h1:d1<=20000)(h2:0<=d2)(h3:d2<=20000):∃p:Te×Int,Kr Tryz.prog 35 [Ah t,.int .i64 d1,.int .i64 d2] (Ah p.1) p.2/\(p.2=0->Ds 400 p.1/\wT p.1<=20000/\wT p.1<=wT t/\tD p.1<=tD t)/\(Ds 400 t->wT t<=20000->p.2=0\/p.2=6):=by
 obtain⟨p,hk,hok,_,P9,ho3⟩:=A1q t d1 d2 hb h0 h1 h2 h3;refine⟨p,?_,fun h=>⟨hok h,P9 h⟩,ho3⟩;clear hok P9 ho3;obtain⟨r,e⟩:=p;constructor
 . intro he;simp only at he;subst he;refine Hg vr fun Q hQ=>?_;simp[Ah,Aq t];refine Ca hk ?_;simp[Cf,Ah,Aq r];refine Ca U0 ?_;simp;exact hQ (by simp[Ah,Aq r])
 intro he;simp only at he;refine Ft.go mixed vr Ab Ab fun Am=>?_;letI:D6:=K5 e [];clear Am;simp[Ah,Aq t];refine Ca hk ?_;simp[Cf,Ah,Aq r];exact Ve (Xy e he) Ab Ab ⟨_,rfl⟩
def Bbo(t:Te)(l:Ax)(hb:Dg t)(hz:∀x∈l,Al x<=1000000000000):∃p:Te×Int,Kr Tryz.prog 34 [Ah t,.sl .none (l.map Ag)] (Ah p.1) p.2/\(p.2=0->Ds 400 p.1)/\(Ds 400 t->wT t<=20000->l.all Ar=true->l.length<=1000->p.2=0\/p.2=6):=by
 have G9:=nw l;obtain⟨p,hk,hok,_,_,ho3⟩:=Bq3 t l.reverse hb (fun x hx=>hz x (by simpa using hx));refine⟨p,?_,hok,fun a b c d=>ho3 a b (by rw[qa]; exact c) (by simpa using d)⟩;clear hok ho3;generalize l.reverse=l' at G9 hk;obtain⟨r,e⟩:=p;constructor
 . intro he;simp only at he;subst he;refine Hg Aws fun Q hQ=>?_;simp[Ah,Aq t];refine Gr (fun _=>true) [] Bc Bc ?_;simp;refine Da G9 ?_;simp;refine Da hk ?_;simp[Cf,Ah,Aq r];refine⟨fun b cs _ hb=>by simpa using E4 (L:=[_]) hb,?_⟩;refine Ca U0 ?_;simp;exact hQ (by simp[Ah,Aq r])
 intro he;simp only at he;refine Ft.go mixed Aws Ab Ab fun Am=>?_;letI:D6:=K5 e [];clear Am;simp[Ah,Aq t];refine Gr (fun _=>true) [] Bc Bc ?_;simp;refine Da G9 ?_;simp;refine Da hk ?_;simp[Cf,Ah,Aq r];refine⟨fun b cs _ hb=>by simpa using E4 (L:=[_]) hb,?_⟩;exact Ve (Xy e he) Ab Ab ⟨_,rfl⟩
noncomputable def Py(c:Cn)(l:List Cn):Cn×Int:=if(Eg c l.reverse).2≠0 then Eg c l.reverse else Nd (Eg c l.reverse).1
def Ave(c:Cn)(l:Ax)(hc:Al c<=1000000000000)(hz:∀x∈l,Al x<=1000000000000):Kr Tryz.prog 31 [Ad c,.sl .none (l.map Ag)] (Ad (Py c l).1) (Py c l).2/\Al (Py c l).1<=20000:=by
 have key:Py c l=if(Eg c l.reverse).2≠0 then Eg c l.reverse else Nd (Eg c l.reverse).1:=rfl;generalize Py c l=p at key ⊢;have G9:=nw l;have hk:=o9 c l.reverse hc (fun x hx=>hz x (by simpa using hx));have Cl:=(ky c l.reverse).1;generalize Eg c l.reverse=q at hk Cl key;generalize l.reverse=l' at G9 hk;obtain⟨y,f⟩:=q;by_cases hf:f=0
 case neg=>
  rw[Ae hf]at key;subst key;refine⟨⟨fun h=>absurd h hf,fun _=>?_⟩,Cl⟩;refine Ft.go mixed Ady Ab Ab fun Am=>?_;letI:D6:=K5 f [];clear Am;simp[Ad,Ap c];refine Gr (fun _=>true) [] Bc Bc ?_;simp;refine Da G9 ?_;simp;refine Da hk ?_;simp[Bf,Ad,Ap y];refine⟨fun b cs _ hb=>by simpa using E4 (L:=[_]) hb,?_⟩;exact Ve (Xy f hf) Ab Ab ⟨_,rfl⟩
 subst hf;rw[Ac Ab]at key;obtain⟨hn,hp⟩:=vn y (by simp only at Cl;omega);simp only at key;rw[<- key]at hn hp;clear key;refine⟨?_,hp⟩;obtain⟨r,e⟩:=p;constructor
 . intro he;simp only at he;subst he;refine Hg Ady fun Q hQ=>?_;simp[Ad,Ap c];refine Gr (fun _=>true) [] Bc Bc ?_;simp;refine Da G9 ?_;simp;refine Da hk ?_;simp[Bf,Ad,Ap y];refine⟨fun b cs _ hb=>by simpa using E4 (L:=[_]) hb,?_⟩;refine Ca U0 ?_;simp;refine Ca hn ?_;simp[Bf,Ad,Ap r];refine Ca U0 ?_;simp;exact hQ (by simp[Ad,Ap r])
 intro he;simp only at he;refine Ft.go mixed Ady Ab Ab fun Am=>?_;letI:D6:=K5 e [];clear Am;simp[Ad,Ap c];refine Gr (fun _=>true) [] Bc Bc ?_;simp;refine Da G9 ?_;simp;refine Da hk ?_;simp[Bf,Ad,Ap y];refine⟨fun b cs _ hb=>by simpa using E4 (L:=[_]) hb,?_⟩;refine Ca U0 ?_;simp;refine Ca hn ?_;simp[Bf,Ad,Ap r];exact Ve (Xy e he) Ab Ab ⟨_,rfl⟩
def Nv:Nat->Te->Te
 |0,i=>i
 |k+1,i=>C5 9 0 [C5 1 0 [],Nv k i]
def Axj:∀(k:Nat) (i:Te),Dg i->Dg (Nv k i)
 |0,_,h=>h
 |k+1,i,h=>by
  rw[Nv];refine k6 fun x hx=>?_;simp only[Pp,Pq,Iy]at hx;rcases hx with rfl|rfl
  . exact k6 fun x hx=>by simp at hx
  exact Axj k i h
def Adj(n:Int)(t i:Te)(h0:0<=n)(h1:n<=1000000)(ht:Dg t)(hi:Dg i):∃r,Hc 37 [.int .i64 n,Ah t,Ah i] (Ah r)/\Dg r:=by
 by_cases hn:n=0
 . subst hn;have hk:=Xu 17 0 [t,i]
   refine⟨C5 17 0 [t,i],?_,k6 fun x hx=>by
    simp only[Pp,Pq,Iy]at hx
    rcases hx with rfl|rfl<;>assumption⟩
   generalize C5 17 0 [t,i]=r at hk ⊢;refine Hg Tf fun Q hQ=>?_;simp[Ah,Aq t,Aq i];refine Ca hk ?_ (he:=by simp[Aq t,Aq i]);simp[Ah,Aq r];exact hQ (by simp[Ah,Aq r])
 obtain⟨N,hN⟩:∃N:Nat,n=N+1:=⟨(n-1).toNat,Aa⟩;subst hN;have hk:=Xu 9 0 [t,Nv N i];have hm:=Axj N i hi
 refine⟨C5 9 0 [t,Nv N i],?_,k6 fun x hx=>by
  simp only[Pp,Pq,Iy]at hx
  rcases hx with rfl|rfl<;>assumption⟩
 generalize C5 9 0 [t,Nv N i]=r at hk ⊢;clear hm;have hv:=Xu 1 0 [];generalize hu:C5 1 0 []=u at hv;have hw:=Au (n:=(N:Int)) Aa Aa;refine Hg Tf fun Q hQ=>?_;simp[Ah,Aq t,Aq i,hn,hw];refine Ip (A9.loopS (fun z:Te=>[.var (Bi t),.var (Bi z),.var Hy]) (fun m f z G=>G=[]/\∃k:Nat,k+m=N/\f 15= .int .i64 k/\z=Nv k i) N i [] (by simp[Aq t,Aq i,Hy]) ⟨rfl,0,Ab,rfl,rfl⟩ ?_);rintro m f z G ⟨rfl,k,hk1,h15,rfl⟩;refine Ru fun Q2 Aj=>?_;simp[h15];by_cases Af:k<N
 . have Cc:(k:Int)<(N:Int):=by omega
   have hk2:=Xu 9 0 [u,Nv k i];have hn2:Nv (k+1) i=C5 9 0 [u,Nv k i]:=by rw[Nv,hu]
   generalize C5 9 0 [u,Nv k i]=y at hk2 hn2;generalize Nv k i=z at hk2;simp[Af,Aq z];refine Wd ?_;simp;refine Da hv ?_;simp[Ah,Aq u];refine Da hk2 ?_ (he:=by simp[Aq u,Aq z]);simp[Ah,Aq y,Au (n:=(k:Int)+1) Aa Aa];refine Aj (Rb (m-1) y (G':=[]) (by simp[Aq y]) Aa Ab ?_);exact⟨rfl,k+1,Aa,Ab,hn2.symm⟩
 have Cc:¬(k:Int)<(N:Int):=by omega
 obtain rfl:k=N:=Aa;generalize Nv k i=z at hk;simp[Af];refine Aj (Sk ?_);show KE _ 0 _ Q _ _;simp[Aq z,Aq t];refine Ca hk ?_ (he:=by simp[Aq t,Aq z]);simp[Ah,Aq r];exact hQ (by simp[Ah,Aq r])
end
def pd:List (List AV)->Option (List (List UInt8))
 | []=>some []
 | [.str s]::r=>match pd r with |some l=>some (s::l)|none=>none
 |_=>none
def A2h:∀(r:List (List AV)) (l:List (List UInt8)),pd r=some l->Gn r=At l
 | [],l,h=>by simp only[pd,Ay]at h;subst h;rfl
 |x::r,l,h=>by
  unfold pd at h;split at h
  . rename_i he;cases he
  . rename_i s r' he;cases he;split at h
    . rename_i l' hl;cases h;simp only[Gn,Ce,AV.strip,A2h _ _ hl,At,F8]
    cases h
  cases h
mutual
def pc:Nat->List AV->Option Kd
 |0,_=>none
 |n+1,[.sl _ rows]=>match ed n rows with |some l=>some (.mk l)|none=>none
 |_+1,_=>none
def ed:Nat->List (List AV)->Option (List Kd)
 |_,[]=>some []
 |0,_::_=>none
 |n+1,x::r=>match pc n x,ed n r with |some k,some l=>some (k::l)|_,_=>none
end
mutual
def A2g:∀(n:Nat) (cs:List AV) (k:Kd),pc n cs=some k->Ce cs=Ak k
 |0,_,_,h=>by simp[pc]at h
 |n+1,cs,k,h=>by
  unfold pc at h;split at h
  . rename_i he;cases he
  . rename_i m t rows he;cases he;split at h
    . rename_i l hl;cases h;simp only[Ce,AV.strip,Agf _ _ _ hl,vc]
    cases h
  cases h
def Agf:∀(n:Nat) (r:List (List AV)) (l:List Kd),ed n r=some l->Gn r=l.map Ak
 |_,[],l,h=>by simp only[ed,Ay]at h;subst h;rfl
 |0,_::_,l,h=>by simp[ed]at h
 |n+1,x::r,l,h=>by
  simp only[ed]at h;split at h
  . rename_i k l' h1 h2;cases h;simp only[Gn,A2g _ _ _ h1,Agf _ _ _ h2,F8]
  cases h
end
mutual
def d9:Nat->List AV->Option Cn
 |0,_=>none
 |n+1,[.int .i64 op,.int .i64 m,.str s,.sl _ ks,.sl _ ns,.sl _ l]=>match ed n ks,pd ns,ea n l with |some ks,some ns,some l=>some (.mk op m s (.mk ks) ns l)|_,_,_=>none
 |_+1,_=>none
def ea:Nat->List (List AV)->Option (List Cn)
 |_,[]=>some []
 |0,_::_=>none
 |n+1,x::r=>match d9 n x,ea n r with |some k,some l=>some (k::l)|_,_=>none
end
mutual
def xo:∀(n:Nat) (cs:List AV) (k:Cn),d9 n cs=some k->Ce cs=Ag k
 |0,_,_,h=>by simp[d9]at h
 |n+1,cs,k,h=>by
  unfold d9 at h;split at h
  . rename_i he;cases he
  . rename_i he;cases he;split at h
    . rename_i h1 h2 h3;cases h;simp only[Ce,AV.strip,Agf _ _ _ h1,A2h _ _ h2,Age _ _ _ h3,Fj,Kd.l]
    cases h
  cases h
def Age:∀(n:Nat) (r:List (List AV)) (l:List Cn),ea n r=some l->Gn r=l.map Ag
 |_,[],l,h=>by simp only[ea,Ay]at h;subst h;rfl
 |0,_::_,l,h=>by simp[ea]at h
 |n+1,x::r,l,h=>by
  simp only[ea]at h;split at h
  . rename_i k l' h1 h2;cases h;simp only[Gn,xo _ _ _ h1,Age _ _ _ h2,F8]
  cases h
end
def pf:List (List AV)->Option (List UInt8)
 | []=>some []
 | [.int .u8 n]::r=>match pf r with
   |some l=>if((UInt8.ofNat n.toNat).toNat:Int)=n then some (UInt8.ofNat n.toNat::l)else none
   |none=>none
 |_=>none
def A2l:∀(rows:List (List AV)) (l:List UInt8),pf rows=some l->rows=Yn l
 | [],l,h=>by simp only[pf,Ay]at h;subst h;rfl
 |r::rows,l,h=>by
  unfold pf at h;split at h
  . rename_i he;cases he
  . rename_i n r' he;cases he;split at h
    . rename_i l' hl;split at h
      . rename_i hn;cases h;rw[A2l _ _ hl];simp only[Yn,F8,hn]
      cases h
    cases h
  cases h
def Aet(args:List AV)(H:List HB):Option (AV×List HB):=
 match args with
 | [.ptr b 0]=>match H[b]? with
   |some (.tvar e [.nilp,buf])=>match Nat.beq e 112||Nat.beq e 114 with
    |false=>none
    |true=>some (.tup [],H.set b (.tvar e [.ptr b 0,buf]))
   |some (.tvar _ [.ptr b' 0,_])=>match Nat.beq b' b with
    |true=>some (.tup [],H)
    |false=>none
   |_=>none
 |_=>none
def Aew(args:List AV)(H:List HB):Option (AV×List HB):=
 match args with
 | [.ptr b 0]=>match H[b]? with
   |some (.tvar _ [_,.sl (.own t) rows])=>match pf rows,H[t]? with
    |some (c::l),some (.tok n k ty)=>match Nat.beq n (c::l).length,Nat.beq k 1,Nat.beq ty 5 with
     |true,true,true=>some (.str (c::l),H)
     |_,_,_=>none
    |_,_=>none
   |_=>none
 |_=>none
def Bnb{args:Ao}(h:Aet args H=some (v,H')):HP 284 args H v H':=by
 unfold Aet at h;split at h
 . split at h
   . rename_i hb;split at h
     . cases h
     rename_i Bg;cases h;refine A7r hb ?_;rw[Wj]at Bg;exact Bg.imp Oy Oy
   . rename_i hb;split at h
     . rename_i he;cases h;rw[Oy he]at hb;exact A7t hb
     cases h
   cases h
 cases h
def Bne{args:Ao}(h:Aew args H=some (v,H')):HP 75 args H v H':=by
 unfold Aew at h;split at h
 . split at h
   . rename_i hb;split at h
     . rename_i h1 h2;split at h
       . rename_i e1 e2 e3;cases h;rw[Oy e1,Oy e2,Oy e3]at h2;rw[A2l _ _ h1]at hb;exact A25 Ab hb h2
       cases h
     cases h
   cases h
 cases h
def Aey(args:List AV)(H:List HB):Option (AV×List HB):=
 match args with
 | [.agg cs]=>match d9 20 cs with
   |some c=>match Nat.ble (Al c) 1000000 with
    |true=>match Ar c with
     |true=>some (.bool true,H)
     |false=>some (.bool false,H)
    |false=>none
   |none=>none
 |_=>none
def Bng{args:Ao}(h:Aey args H=some (v,H')):HP 64 args H v H':=by
 unfold Aey at h;split at h
 . rename_i cs;split at h
   . rename_i c hc;have hs:=xo _ _ _ hc;split at h
     . rename_i hz;have hz:=Aaa hz;have hv:=Lc c Aa;have key:HP 64 [.agg cs] H (.bool (Ar c)) H:=(hv.lift Ab Ab H).args (by simp[Ad,hs]);split at h
       . rename_i e;cases h;rw[e]at key;exact key
       rename_i e;cases h;rw[e]at key;exact key
     cases h
   cases h
 cases h
def Aeu(args:List AV)(H:List HB):Option (AV×List HB):=
 match args with
 | [.agg cs]=>match pc 20 cs with
   |some c=>match Eu c with
    |true=>some (.bool true,H)
    |false=>some (.bool false,H)
   |none=>none
 |_=>none
def Bnc{args:Ao}(h:Aeu args H=some (v,H')):HP 65 args H v H':=by
 unfold Aeu at h;split at h
 . rename_i cs;split at h
   . rename_i c hc;have hs:=A2g _ _ _ hc;have hv:=ce c;have key:HP 65 [.agg cs] H (.bool (Eu c)) H:=(hv.lift Ab Ab H).args (by simp[Ba,hs]);split at h
     . rename_i e;cases h;rw[e]at key;exact key
     rename_i e;cases h;rw[e]at key;exact key
   cases h
 cases h
def Aev(args:List AV)(H:List HB):Option (AV×List HB):=
 match args with
 | [.agg cs,.int .i64 d,.int .i64 fr]=>match d9 20 cs with
   |some c=>match Nat.ble (Al c) 1000000&&decide (0<=d)&&decide (d<=20000)&&decide (0<=fr)&&decide (fr<=20000)with
    |true=>match Ed c d fr with
     |(r,e)=>some (.tup [Ad r,.int .i64 e],H)
    |false=>none
   |none=>none
 |_=>none
def Bnd{args:Ao}(h:Aev args H=some (v,H')):HP 134 args H v H':=by
 unfold Aev at h;split at h
 . rename_i cs d fr;split at h
   . rename_i c hc;have hs:=xo _ _ _ hc;split at h
     . rename_i hz;simp only[Bb,Aw]at hz;obtain⟨⟨⟨⟨z1,z2⟩,z3⟩,z4⟩,z5⟩:=hz;have z1:=Aaa z1;have hv:=Zp c d fr Aa z2 z3 z4 Aa;have key:HP 134 [.agg cs,.int .i64 d,.int .i64 fr] H (Bf (Ed c d fr)) H:=(hv.lift Ab (Arp _ 0) H).args (by simp[Ad,hs]);split at h;rename_i r e he;cases h;rw[he]at key;exact key
     cases h
   cases h
 cases h
def Aex(args:List AV)(H:List HB):Option (AV×List HB):=
 match args with
 | [.agg cs,.sl _ rows]=>match d9 20 cs,ea 20 rows with
   |some c,some l=>match Nat.ble (Al c) 1000000&&l.all fun x=>Nat.ble (Al x) 1000000 with
    |true=>match Eg c l with
     |(r,e)=>some (.tup [Ad r,.int .i64 e],H)
    |false=>none
   |_,_=>none
 |_=>none
def Bnf{args:Ao}(h:Aex args H=some (v,H')):HP 101 args H v H':=by
 unfold Aex at h;split at h
 . rename_i cs t rows;split at h
   . rename_i c l hc hl;have hs:=xo _ _ _ hc;have E7:=Age _ _ _ hl;split at h
     . rename_i hz;simp only[Bb,Pn]at hz;obtain⟨z1,z2⟩:=hz;have z1:=Aaa z1;have hv:=o9 c l Aa (fun x hx=>by have:=Aaa (z2 x hx); omega);have key:HP 101 [.agg cs,.sl t rows] H (Bf (Eg c l)) H:=(hv.lift Ab (Arp _ 0) H).args (by simp[Ad,hs,E7]);split at h;rename_i r e he;cases h;rw[he]at key;exact key
     cases h
   cases h
 cases h
noncomputable def awTab(f:FuncId):Option (AC×Nat×List Gp):=sx Tryz.prog f
def W0(f:FuncId)(ac:AC)(n:Nat)(rs:List Gp)(h:awTab f=some (ac,n,rs)):Nk Tryz.prog f ac n rs:=Nk.of h
def Aa3:Kq:=fun f args H=>
 match Nat.beq f 284 with
 |true=>Aet args H
 |false=>match Nat.beq f 75 with
  |true=>Aew args H
  |false=>match Nat.beq f 64 with
   |true=>Aey args H
   |false=>match Nat.beq f 65 with
    |true=>Aeu args H
    |false=>match Nat.beq f 134 with
     |true=>Aev args H
     |false=>match Nat.beq f 101 with
      |true=>Aex args H
      |false=>none
def Wz(f:FuncId)(args:Ao)(H:Ai)(v:AV)(H':Ai)(h:Aa3 f args H=some (v,H')):HP f args H v H':=by
 unfold Aa3 at h;split at h
 . rename_i hf;rw[Oy hf]; exact Bnb h
 split at h
 . rename_i hf;rw[Oy hf]; exact Bne h
 split at h
 . rename_i hf;rw[Oy hf]; exact Bng h
 split at h
 . rename_i hf;rw[Oy hf]; exact Bnc h
 split at h
 . rename_i hf;rw[Oy hf]; exact Bnd h
 split at h
 . rename_i hf;rw[Oy hf]; exact Bnf h
 cases h
section
attribute [-simp] Int.not_lt Int.not_le
attribute [local simp] Cb Cq
def Bqq(c:Cn)(d:Int)(A:Ai)(A8:Be A.length A=true)(hn:Hc 102 [Ad c] (Bf (nm c))):HP 236 [Ad c,.int .i64 d] A (Bf (nm c)) A:=by
 generalize nm c=p at hn ⊢;obtain⟨r,e⟩:=p;refine Hg Aw8 fun Q hQ=>?_;simp[Ad,Ap c];refine Ca hn ?_;simp[Bf,Ad,Ap r];exact hQ (by simp[A8,Bf,Ad,Ap r])
def Bqr(Iu:∀c,Ar c=true->Hc 102 [Ad c] (Bf (nm c)))(s:Sm)(hf1:Cu s=true):Hc 161 [An s] (Db (Gt (fun c _=>nm c) s 0)):=by
 have Ll:=oo 236 [] [.var (Bx s),.var L4] (fun c _=>nm c) (fun b hb=>by
  match b,hb with
  |0,_=>exact⟨_,rfl⟩
  |1,_=>exact⟨_,rfl⟩) (fun n _=>by simp[Be,A0,D9,AV.inScope,L4,Av s]) (fun n hn=>by simp[A0])
  (fun c k hv _ _=>by simpa using Bqq c k [.var (Bx s),.var L4] (by simp[Be,A0,D9,AV.inScope,L4,Av s]) (Iu c hv)) 400 s 0 (Uc hf1) Aa Aa
 generalize Gt (fun c _=>nm c) s 0=p at Ll ⊢;obtain⟨r,e⟩:=p;refine Hg Aw7 fun Q hQ=>?_;simp[An,Av s];refine C1 (r:=Db (r,e)) (by simpa[An,L4,Av s]using Ll) ?_;simp[Db,An,Av r];exact hQ (by simp[Db,An,Av r])
def A3w(Iu:∀c,Ar c=true->Hc 102 [Ad c] (Bf (nm c)))(s:Sm)(hc:Dd s)(hf1:Cu s=true)(hself:Gt (fun c _=>nm c) s 0=(s,0)):Hc 98 [An s] (Db (s,0)):=by
 have ht:=Bqr Iu s hf1;rw[hself]at ht;have Li:=xb (s,0) hc;have hfs:Jf (s,0)=(s,0):=by rw[Jf,Ac (by simp[hf1])]
 rw[hfs]at Li;refine Hg vu fun Q hQ=>?_;simp[An,Av s];refine Ca (du s hc) ?_;simp[hf1];refine Ca ht ?_;simp[Db,An,Av s];refine Ca Li ?_;simp[Db,An,Av s];exact hQ (by simp[Db,An,Av s])
def l5:Cn:=.mk 4 0 [] (.mk []) [] []
def Aa6:List UInt8:=[116,121,112,101,46,116]
def Mr:Cn:=E3 12 (E3 12 (Ch 2) (Ch 1)) (Ch 0)
def T6:Sm:=.mk 5 0 [] A3 (.mk []) [] [] [Aa6] [.mk 2 0 [] (Ch 0) (.mk []) [] [] [] []]
def N8:Sm:=.mk 5 0 [] A3 (.mk []) [] [] [Aa6] [.mk 2 0 [] Mr (.mk []) [] [] [] []]
def Vj:Cn:=.mk 11 0 [] (.mk []) [] [.mk 11 0 [] (.mk []) [] [l5]]
def rj:Te:=.mk 6 0 [] A3 A3 (.mk [.mk [],.mk []]) [] [.mk 4 0 [] (E3 12 (Ch 0) l5) A3 (.mk []) [] [.mk 1 0 [] A3 A3 (.mk []) [] []]]
def Aa5:Te:=.mk 10 0 [] A3 A3 (.mk []) [Aa6] [rj]
def Sx:El:=⟨[.mk []],[l5],true,T6,Aa5⟩
def Aa4:Dd T6:=by
 refine(Ju _).2 ⟨Di,fun x hx=>?_⟩;simp only[T6,Sm.l,Pp,Pq,Iy]at hx;subst hx;exact(Ju _).2 ⟨Di,fun x hx=>by simp[Sm.l]at hx⟩
def Aih:Dd N8:=by
 refine(Ju _).2 ⟨Di,fun x hx=>?_⟩;simp only[N8,Sm.l,Pp,Pq,Iy]at hx;subst hx;exact(Ju _).2 ⟨Di,fun x hx=>by simp[Sm.l]at hx⟩
def A40:Hc 173 [Ad Mr] (.tup [Ad Mr,.bool true]):=Vo mixed W0 Wz 40 _ _ [] _ [] A5
def aw_uv:Ar Mr=true:=A5
def A4x:Hc 102 [Ad Mr] (Bf (Mr,0)):=by
 have h1:=Lc Mr Di;rw[aw_uv]at h1;have h2:=A40;have h3:=Adw Mr;generalize Mr=c at h1 h2 h3 ⊢;refine Hg Ad2 fun Q hQ=>?_;simp[Ad,Ap c];refine Ca h1 ?_;simp;refine Ca h2 ?_;simp[Ad,Ap c];refine Ca h3 ?_;simp[Ad,Ap c];exact hQ (by simp[Bf,Ad,Ap c])
open Classical in
noncomputable def ri(c:Cn):Cn×Int:=if c=Mr then(Mr,0)else Nd c
def A4v:Cu N8=true:=A5
def A4n:Hc 98 [An N8] (Db (N8,0)):=by
 refine A3w (nm:=ri) (fun c hv=>?_) N8 Aih A4v ?_
 . unfold ri;split
   . rename_i h;rw[h]; exact A4x
   exact(vn c (dw hv)).1
 have hu:ri Mr=(Mr,0):=by rw[ri,Ae rfl]
 have h5:Dr 5=false:=Di;have h2:Dr 2=true:=Di;simp[N8,Gt,Gu,hu,h5,h2]
end
section
open Go.RowKit
section
variable [D6] {P:Program}
def Aa2{ds:List Deferred}{ops:Array Oper}{Q:Exit->Act->World->Prop}{K:Ao->Ai->Prop} :∀(l:List Oper) (aos:B8) (k:Nat) (F:Addr->Prop) (g:Gh) (H:Ai) (w:World) (t:Ao) (a:Act),(∀ j,l[j]? =ops[k+j]?)->I4 P ops l=some aos->
 Vi P ds F g H w t a->Jc P aos t H K->(∀ F' g' H' w' t' a',Vi P ds F' g' H' w' t' a'->Bn F g H w F' g' H' w'->K t' H'->Q .normal a' w')->Kt ds F g H w Q->wpOps P ops Q (List.range' k l.length) a w
 | [],aos,k,F,g,H,w,t,a,_,hc,hs,h,hQ,_=>by
   simp only[I4,Ay]at hc;subst hc
   exact hQ F g H w t a hs (Bn.refl _ _ _ _) h
 |o::l,aos,k,F,g,H,w,t,a,hl,hc,hs,h,hQ,hP=>by
  simp only[I4]at hc;split at hc
  . rename_i x xs h1 h2;simp only[Ay]at hc;subst hc;have ho:ops[k]? =some o:=by simpa using(hl 0).symm
    have Ci:∀j,l[j]? =ops[k+1+j]?:=fun j=>by
     have:=hl (j+1);simp only[Ts]at this;rw[this]; congr 1;omega
    unfold W2 at h1;split at h1
    . rename_i op gd c1 c2;simp only[Ay]at h1;subst h1;obtain⟨s1,s2,s3,s4⟩:=hs;have hg:=ah s2 c2;simp only[Gq,y7,wpOps,ho,hg];simp only[Jc]at h;rcases h with⟨g1,v,H',e1,e2⟩|⟨g1,e2⟩|⟨g1,H',e1⟩
      . simp only[g1,Bp];refine .inl (U4 s4 s1 s2 c1 e1 (fun w' F' g' u r1 r2 r3=>?_) s3 hP);exact Aa2 l xs (k+1) F' g' H' w' _ _ Ci h2 ⟨r2,(s2.mono r3.keeps).put r1 _,by rw[Sn]; exact s3,s4.mono r3.keeps⟩ e2 (fun F2 g2 H2 w2 t2 a2 q1 q2 q3=>hQ F2 g2 H2 w2 t2 a2 q1 (r3.trans q2) q3) (hP.ext r3)
      . simp only[g1,Dp,Bq];exact Aa2 l xs (k+1) F g H w _ _ Ci h2 ⟨s1,s2.put Hk _,by rw[Sn]; exact s3,s4⟩ e2 hQ hP
      simp only[g1,Bp];exact .inl (U4 s4 s1 s2 c1 e1 (fun w' F' g' u r1 _ _=>(qu r1).elim) s3 hP)
    cases h1
  cases hc
def wx{ds:List Deferred}{ops:B8}{c:Code}(hc:Du P c=some (.region ops)){t:Ao}{a:Act}(hs:Vi P ds F g H w t a){K:Ao->Ai->Prop}(h:Jc P ops t H K)
 {Q:Exit->Act->World->Prop} (hQ:∀F' g' H' w' t' a',Vi P ds F' g' H' w' t' a'->Bn F g H w F' g' H' w'->K t' H'->Q .normal a' w') (hP:Kt ds F g H w Q):c.wp P Q a w:=by
 obtain⟨id,os,rfl,hy⟩:=sg hc;refine wp_region ?_;have:=Aa2 (P:=P) (ops:=os) (Q:=Q) os.toList ops 0 F g H w t a Ab hy hs h hQ hP;simpa[y8]using this
end
def A6s(p q:Value)(w:World):CallsD Tryz.prog 93 #[p,q] .returning w fun x u' w'=>x= .returned (.tuple #[])/\u'= .returning/\w'=w:=by
 have Za:∀w:World,(binOp BinOp.eql 20 .nilIface .nilIface).run Tryz.prog w= .ok (.bool true) w:=fun _=>A5;refine callsD_of_wpS Tryz.func93 rfl fun c₀ cs hu=>?_;apply wpS_seq;apply wpS_region;simp[wpOpsS,go_sem,recoverD,hu,Tryz.ntmps93,Exit.thenS];refine wpS_of_wp (wp_block (wp_seq (wp_region ?_)));simp[wpOps,Oper.wp,go_sem,Za];refine .inl ?_;refine wp_cond (t:=true) (by simp[Act.eval,Array.replicate]) ?_;simp only[Bp];refine wp_region ?_;simp[wpOps,Oper.wp,go_sem,Exit.inBlock];refine .inl ?_;cases c₀;simp_all[bodyPostS,results]
def caY:AC:=match Ajm with | .seq _ (.block _ (.seq _ (.cond _ _ (.seq _ (.cond _ y _)))))=>y|_=>.bad
def caA:AC:=match fu with | .seq a _=>a|_=>.bad
def caB:List AO:=match fu with | .seq _ (.seq _ (.seq (.region b) _))=>b|_=>[]
def caC:List AO:=match fu with | .seq _ (.seq _ (.seq _ (.seq (.seq (.region c) _) _)))=>c|_=>[]
def caE:List AO:=match fu with | .seq _ (.seq _ (.seq _ (.seq (.seq _ (.cond _ (.seq (.region e) _) _)) _)))=>e|_=>[]
def caG:List AO:=match fu with | .seq _ (.seq _ (.seq _ (.seq _ (.seq (.region g) _))))=>g|_=>[]
def Cx:List AV:=[.sl .nilT [],.sl .nilT [],.bool false,.int .i64 0,.int .i64 0,.str [],.int .i64 0,.int .i64 0,.str [],.sl .nilT [],.sl .nilT [],.sl .nilT [],.sl .nilT [],.sl .nilT [],.sl .nilT [],.sl .nilT [],.sl .nilT [],.int .i64 0,.int .i64 0,.str [],.int .i64 0,.int .i64 0,.str [],.sl .nilT [],.sl .nilT [],.sl .nilT [],.int .i64 0,.int .i64 0,.str [],.sl .nilT [],.sl .nilT [],.sl .nilT [],.sl .nilT [],.sl .nilT [],.sl .nilT []]
def D7:El:=⟨[],[],false,Dl,Cj⟩
def Hm:Es D7=Ce Cx:=by rw[A7]; rfl
def cL:List HB:=[.var Cx,.var [.int .i64 0]]
def A6o:∃(fn:Func) (A D B C E G:Code),Tryz.prog.funcs[25]? =some fn/\fn.body=some (.seq A (.seq D (.seq B (.seq (.seq C (.cond (.tmp 9) (.seq E .ret) .skip)) (.seq G .ret)))))/\
 Du Tryz.prog A=some caA/\Du Tryz.prog B=some (.region caB)/\Du Tryz.prog C=some (.region caC)/\Du Tryz.prog E=some (.region caE)/\Du Tryz.prog G=some (.region caG)/\fn.ntmps=12/\Qt Tryz.prog fn.results.toList=some [.cell 2 true 35,.cell 3 false 1]/\
 (∀ (t0 t1 t2 t3 t4 t5 t6 t7 t8 t9 t10 t11:Value) (Q:Exit->Act->World->Prop) (w:World),Q .normal {tmps:=#[t0,t1,t2,t3,.func (.func 93) #[] #[t2,t3],t5,t6,t7,t8,t9,t10,t11],defers:=[{target:=.fn (.func 93) #[t2,t3],args:=#[]}]} w->
  D.wp Tryz.prog Q {tmps:=#[t0,t1,t2,t3,t4,t5,t6,t7,t8,t9,t10,t11],defers:=[]} w)/\
 ∀(n:Nat) (cap:Array Value) (t1 t2 t3 t4 t5 t6 t7 t8 t9 t10 t11:Value) (ds:List Deferred) (Q:Exit->Act->World->Prop) (w:World),Qw Tryz.prog n=true->
  Calls Tryz.prog n cap w (fun e w'=>∃ch,e= .panicked ch/\Q (.panic ch) {tmps:=#[.func (.func n) #[] cap,t1,t2,t3,t4,.func (.func n) #[] cap,t6,t7,t8,t9,t10,t11],defers:=ds} w')->
  B.wp Tryz.prog Q {tmps:=#[.func (.func n) #[] cap,t1,t2,t3,t4,t5,t6,t7,t8,t9,t10,t11],defers:=ds} w:=by
 refine⟨Tryz.f25,_,_,_,_,_,_,Tryz.func25,rfl,A5,A5,A5,A5,A5,A5,A5,fun t0 t1 t2 t3 t4 t5 t6 t7 t8 t9 t10 t11 Q w h=>?_,fun n cap t1 t2 t3 t4 t5 t6 t7 t8 t9 t10 t11 ds Q w Xn h=>?_⟩
 . refine wp_region ?_;simp[wpOps,Oper.wp,go_sem];exact .inl (.inl h)
 have hcf:=fun args=>ru (w:=w) Xn args;refine wp_region ?_;simp[wpOps,Oper.wp,go_sem,hcf];refine .inl (.inl (h.mono ?_));rintro e w' ⟨ch,rfl,hq⟩;exact hq
def tY(m:Nat)(e:Int):List AV:=[.ptr m 0,.ptr (m+1) 0,.undef,.undef,.undef,Ma e,.undef,.bool false,.tup [.agg [.int .i64 e],.bool true],.bool true,.agg [.int .i64 e],.undef,.undef,.undef]
def A6n(K:Ai)(e:Int):A9 Tryz.prog caY (tY K.length e) (K++cL) fun x _ H=>x= .normal/\∃L,H=K++[.var Cx,.var [.int .i64 e]]++L:=by
 refine Ru fun Q hQ=>?_;simp[caY,tY,cL,Cx];refine A35 (fun b=>b==K.length+2) [] [0,1] mixed Bc Bc ?_;simp[Xg];refine⟨fun b cs hb h=>?_,hQ ?_⟩
 . simp at hb;subst hb;simpa using h
 simp[Cx]
def A6t{K:Ai}{e:Int}{B1 B2:Nat}{u:Value}(hs:St F g (K++cL) w)(hG:Ja Tryz.prog F w)(ir:g.blk K.length=some B1)(hk1:g.tk K.length=none)(Mc:g.blk (K.length+1)=some B2)(hk2:g.tk (K.length+1)=none)(hu:R F g w (Ma e) u):
 CallsD Tryz.prog 93 #[.pointer (some ⟨B1,0,none⟩),.pointer (some ⟨B2,0,none⟩)] (.panicking [{v:=u,recovered:=false}]) w fun x u' w'=>x= .returned (.tuple #[])/\u'= .panicking [{v:=u,recovered:=true}]/\
  ∃L F' g',St F' g' (K++[.var Cx,.var [.int .i64 e]]++L) w'/\Bn F g (K++cL) w F' g' (K++[.var Cx,.var [.int .i64 e]]++L) w':=by
 have hu0:=hu;simp only[Ma,R,RL]at hu;obtain⟨_,rfl,ws,rfl,_,_,he,⟨rfl,hi⟩,rfl⟩:=hu;obtain rfl:ws= #[.int .i64 e]:=L5 (by simpa using he);clear he;have Za:∀(v:Value) (w:World),(binOp BinOp.eql 20 (.iface th v) .nilIface).run Tryz.prog w= .ok (.bool false) w:=fun _ _=>A5;have has:∀(v:Value) (w:World),(Instr.typeAssert (.iface th v) 20 131 true).run Tryz.prog w= .ok (.tuple #[v,.bool true]) w:=fun _ _=>A5;refine callsD_of_wpS Tryz.func93 rfl fun c₀ cs hu=>?_;apply wpS_seq;apply wpS_region;simp[wpOpsS,go_sem,recoverD,hu,Tryz.ntmps93,Exit.thenS];refine wpS_of_wp (wp_block (wp_seq (wp_region ?_)));simp[wpOps,Oper.wp,go_sem,Za];refine .inl ?_;refine wp_cond (t:=false) (by simp[Act.eval,Array.replicate]) ?_;simp only[Dp,Bq];refine wp_seq (wp_region ?_);simp[wpOps,Oper.wp,go_sem,has];refine .inl (.inl (.inl ?_));refine wp_cond (t:=true) rfl ?_;simp only[Bp];refine wp_mono (A9.det (A6n K e) _ A5 F g w _ ⟨hs,?_,rfl,hG⟩) ?_
 . show RL F g w (tY K.length e) [.pointer (some ⟨B1,0,none⟩),.pointer (some ⟨B2,0,none⟩),undef,undef,undef,.iface th (.agg #[.int .i64 e]),undef,.bool false,.tuple #[.agg #[.int .i64 e],.bool true],.bool true,.agg #[.int .i64 e],undef,undef,undef];have hag:R F g w (.agg [.int .i64 e]) (.agg #[.int .i64 e]):=by simp only[R,RL]; exact⟨_,rfl,_,_,rfl,⟨rfl,hi⟩,rfl⟩
   simp only[tY,RL];refine⟨_,_,rfl,?_,_,_,rfl,?_,_,_,rfl,Hk,_,_,rfl,Hk,_,_,rfl,Hk,_,_,rfl,hu0,_,_,rfl,Hk,_,_,rfl,?_,_,_,rfl,?_,_,_,rfl,?_,_,_,rfl,hag,_,_,rfl,Hk,_,_,rfl,Hk,_,_,rfl,Hk,rfl⟩
   . simp only[R]; exact⟨B1,ir,hk1,rfl⟩
   . simp only[R]; exact⟨B2,Mc,hk2,rfl⟩
   . simp only[R]
   . simp only[R,RL]; exact⟨_,rfl,_,_,rfl,hag,_,_,rfl,rfl,rfl⟩
   simp only[R]
 rintro e' a' w' ⟨x,t',H',F',g',rfl,⟨rfl,L,rfl⟩,sim',ext'⟩;simp only[AX.to,Exit.inBlock];refine⟨sim'.2.2.1,_,rfl,.tuple #[],by simp[results],rfl,rfl,L,F',g',by simpa using sim'.1,by simpa using ext'⟩
end
section
open Go.RowKit
def Ku(fv s4 s5 s6 s7 s8 s9 s10 s11:AV)(m:Nat):List AV:=[fv,.undef,.ptr m 0,.ptr (m+1) 0,s4,s5,s6,s7,s8,s9,s10,s11]
def A6h(fv:AV)(H:Ai):A9 Tryz.prog caA (start [fv] 12) H fun x t H'=>x= .normal/\t=Ku fv .undef .undef .undef .undef .undef .undef .undef .undef H.length/\H'=H++cL:=by
 refine Ru fun Q hQ=>?_;simp[caA];exact hQ (by simp[Ku,cL,Cx])
def Abb{fn:Func}(Hr:Qt Tryz.prog fn.results.toList=some [.cell 2 true 35,.cell 3 false 1]){F0:Addr->Prop}{g0:Gh}{w0:World}{t:Ao}{tm:Array Value}{c:Ao}{e:Int}{L:Ai}
 (hs:St F g (H'++[.var c,.var [.int .i64 e]]++L) w) (hx:Bn F0 g0 H w0 F g (H'++[.var c,.var [.int .i64 e]]++L) w) (ht:RL F g w t tm.toList) (hG:Ja Tryz.prog F w) (h2:t.getD 2 .undef= .ptr H'.length 0) (h3:t.getD 3 .undef= .ptr (H'.length+1) 0)
 (hc:Ni true 35 c=some (.agg c)) (hv:Ce c=Es x) (hl:H.length<=H'.length) (A8:Be H'.length H'=true) (az:∀b,H.length<=b->g0.blk b=none/\g0.tk b=none):
 ∃u F' g',(results fn tm).run Tryz.prog w= .ok u w/\R F' g' w (.tup [As x,.int .i64 e]) u/\St F' g' H' w/\Bn F0 g0 H w0 F' g' H' w:=by
 obtain⟨u,hu,Uq⟩:=ko (P:=Tryz.prog) (a:={tmps:=tm,defers:=[]}) (t:=t) (v:=.tup [.agg c,.int .i64 e]) ⟨hs,ht,rfl,hG⟩ Hr (by
  simp only[I2,Ic,Js,h2,h3,Ow,Atz,At0];simp[Ni]at hc ⊢
  simp[hc])
 rw[Ow]at hs hx;obtain⟨g2,e1,e2,e3⟩:=St.forget (H0:=H') (L:=[.var c,.var [.int .i64 e]]++L) hs hx hl A8 az;refine⟨u,F,g2,hu,Mo e1 _ u (by simp[AV.inScope,A0]) ?_,e2,e3⟩;have:=Ww _ _ Uq;simpa[AV.strip,Ce,hv,As]using this
noncomputable def caR(x:El):El×Int:=if R0 x=true then(x,0)else(D7,6)
def A8a(x:El):Ni true 35 (Es x)=some (.agg (Es x)):=by
 simp[Ni]
def A2y:Ni true 35 Cx=some (.agg Cx):=Bc
def Atc{fn:Func}{tm:Array Value}{p q:Value}{R:Ending->World->Prop}(h:∃u,(results fn tm).run Tryz.prog w= .ok u w/\R (.returned u) w):Leaves Tryz.prog fn tm R [{target:=.fn (.func 93) #[p,q],args:=#[]}] .returning w:=by
 refine leaves_cons (f:=93) (args:=#[p,q]) Ab (by simp[go_sem]) ?_;refine(A6s p q w).mono ?_;rintro e u' w'' ⟨rfl,rfl,rfl⟩;exact h
def Wx{v:Value}(h:R F g w .undef v):v=undef:=by
 obtain⟨a,rfl,h2⟩:=Ah2 (show R F g w (.tup []) v from h);simp only[RL]at h2;obtain rfl:a= #[]:=by apply L5;simpa using h2
 rfl
def Arf{n:Nat}{R:World->(Addr->Prop)->Gh->Ai->Ending->World->Prop}{vs:Fm}(hG:Ja Tryz.prog F w)(hs:St F g H w)(hr:RL F g w [.fn (.func n) [] cap] vs)
 (h:∀(fn:Func) (B C E G:Code),Du Tryz.prog B=some (.region caB)->Du Tryz.prog C=some (.region caC)->Du Tryz.prog E=some (.region caE)->Du Tryz.prog G=some (.region caG)->Qt Tryz.prog fn.results.toList=some [.cell 2 true 35,.cell 3 false 1]->
  (∀ (n:Nat) (cap:Array Value) (t1 t2 t3 t4 t5 t6 t7 t8 t9 t10 t11:Value) (ds:List Deferred) (Q:Exit->Act->World->Prop) (w:World),Qw Tryz.prog n=true->
   Calls Tryz.prog n cap w (fun e w'=>∃ch,e= .panicked ch/\Q (.panic ch) {tmps:=#[.func (.func n) #[] cap,t1,t2,t3,t4,.func (.func n) #[] cap,t6,t7,t8,t9,t10,t11],defers:=ds} w')->
   B.wp Tryz.prog Q {tmps:=#[.func (.func n) #[] cap,t1,t2,t3,t4,t5,t6,t7,t8,t9,t10,t11],defers:=ds} w)->
  ∀(F1:Addr->Prop) (g1:Gh) (w1:World) (ca:Array Value) (B1 B2:Nat),St F1 g1 (H++cL) w1->Ja Tryz.prog F1 w1->Bn F g H w F1 g1 (H++cL) w1->RL F1 g1 w1 cap ca.toList->g1.blk H.length=some B1->g1.tk H.length=none->g1.blk (H.length+1)=some B2->g1.tk (H.length+1)=none->
  (Code.seq B (.seq (.seq C (.cond (.tmp 9) (.seq E .ret) .skip)) (.seq G .ret))).wp Tryz.prog (bodyPostD Tryz.prog fn (fun e w'=>∃Fx gx Hx,R w Fx gx Hx e w')) {tmps:=#[.func (.func n) #[] ca,undef,.pointer (some ⟨B1,0,none⟩),.pointer (some ⟨B2,0,none⟩),.func (.func 93) #[] #[.pointer (some ⟨B1,0,none⟩),.pointer (some ⟨B2,0,none⟩)],undef,undef,undef,undef,undef,undef,undef],defers:=[{target:=.fn (.func 93) #[.pointer (some ⟨B1,0,none⟩),.pointer (some ⟨B2,0,none⟩)],args:=#[]}]} w1):
 Calls Tryz.prog 25 vs.toArray w fun e w'=>∃Fx gx Hx,R w Fx gx Hx e w':=by
 obtain⟨fn,A,D,B,C,E,G,hf,hb,cA,cB,cC,cE,cG,hnt,Hr,hD,hB⟩:=A6o;refine calls_of_wp_defers hf hb ?_;rw[hnt];have hlen:=H5 hr
 have sim0:Gk Tryz.prog F g H w (start [.fn (.func n) [] cap] 12) {tmps:=vs.toArray++Array.replicate (12-vs.toArray.size) undef,defers:=[]}:=by
  refine⟨hs,?_,rfl,hG⟩;show RL F g w _ _;simp only[start,Wi,Zr,Tu,hlen];exact Ld hr (Wr Hk _)
 refine wp_seq (wp_mono (A9.det (A6h (.fn (.func n) [] cap) H) A cA F g w _ sim0) ?_);rintro e a1 w1 ⟨x',t1,H1,F1,g1,rfl,⟨rfl,rfl,rfl⟩,⟨s1,tm1,d1,G1⟩,ext1⟩;simp only[AX.to,Exit.then];obtain⟨ta,da⟩:=a1;simp only at d1;subst d1;have tm1:RL F1 g1 w1 _ ta.toList:=tm1;simp only[Ku,RL]at tm1;obtain⟨v0,_,e0,r0,v1,_,rfl,r1,v2,_,rfl,r2,v3,_,rfl,r3,v4,_,rfl,r4,v5,_,rfl,r5,v6,_,rfl,r6,v7,_,rfl,r7,v8,_,rfl,r8,v9,_,rfl,r9,v10,_,rfl,r10,v11,_,rfl,r11,rfl⟩:=tm1;obtain rfl:ta= #[v0,v1,v2,v3,v4,v5,v6,v7,v8,v9,v10,v11]:=L5 e0;obtain⟨c1,ca,rfl,k1,k2⟩:=fb r0;simp only[RL]at k1;obtain rfl:c1= #[]:=by apply L5;simpa using k1
 obtain⟨B1,b1,b2,rfl⟩:=Nm r2;obtain⟨B2,b3,b4,rfl⟩:=Nm r3;have u1:=Wx r1;have u4:=Wx r4;have u5:=Wx r5;have u6:=Wx r6;have u7:=Wx r7;have u8:=Wx r8;have u9:=Wx r9;have u10:=Wx r10;have u11:=Wx r11;subst u1 u4 u5 u6 u7 u8 u9 u10 u11;refine wp_seq (hD _ _ _ _ _ _ _ _ _ _ _ _ _ _ ?_);exact h fn B C E G cB cC cE cG Hr hB F1 g1 w1 ca B1 B2 s1 G1 ext1 k2 b1 b2 b3 b4
def Ard{n:Nat}{ca:Array Value}{m B1 B2:Nat}(hc:RL F g w cap ca.toList)(h1:g.blk m=some B1)(h2:g.tk m=none)(h3:g.blk (m+1)=some B2)(h4:g.tk (m+1)=none){s5:AV}{v5:Value}(hv:R F g w s5 v5):
 RL F g w (Ku (.fn (.func n) [] cap) (.fn (.func 93) [] [.ptr m 0,.ptr (m+1) 0]) s5 .undef .undef .undef .undef .undef .undef m)
  [.func (.func n) #[] ca,undef,.pointer (some ⟨B1,0,none⟩),.pointer (some ⟨B2,0,none⟩),.func (.func 93) #[] #[.pointer (some ⟨B1,0,none⟩),.pointer (some ⟨B2,0,none⟩)],v5,undef,undef,undef,undef,undef,undef]:=by
 have p1:R F g w (.ptr m 0) (.pointer (some ⟨B1,0,none⟩)):=by simp only[R]; exact⟨B1,h1,h2,rfl⟩
 have p2:R F g w (.ptr (m+1) 0) (.pointer (some ⟨B2,0,none⟩)):=by simp only[R]; exact⟨B2,h3,h4,rfl⟩
 simp only[Ku,RL];refine⟨_,_,rfl,?_,_,_,rfl,Hk,_,_,rfl,p1,_,_,rfl,p2,_,_,rfl,?_,_,_,rfl,hv,_,_,rfl,Hk,_,_,rfl,Hk,_,_,rfl,Hk,_,_,rfl,Hk,_,_,rfl,Hk,_,_,rfl,Hk,rfl⟩
 . simp only[R]; exact⟨#[],ca,rfl,by simp[RL],hc⟩
 simp only[R]; exact⟨#[],_,rfl,by simp[RL],by simp only[RL]; exact⟨_,_,rfl,p1,_,_,rfl,p2,rfl⟩⟩
def Bbl{n:Nat}{e:Int}(hl:H'.length=H.length)(A8:Be H'.length H'=true)(En:Ft Tryz.prog n cap (H++cL) e (H'++cL)):
 HP 25 [.fn (.func n) [] cap] H (Cr (D7,e)) H':=by
 refine⟨A5,fun F g w vs hG hs hr=>?_⟩;refine(Arf (R:=fun w Fx gx Hx e' w'=>Hx=H'/\∃v,e'= .returned v/\R Fx gx w' (Cr (D7,e)) v/\St Fx gx H' w'/\Bn F g H w Fx gx H' w') hG hs hr ?_).mono fun e' w' ⟨Fx,gx,Hx,_,v,h1,h2,h3,h4⟩=>⟨v,Fx,gx,h1,h2,h3,h4⟩;intro fn B C E G cB cC cE cG Hr hB F1 g1 w1 ca B1 B2 s1 G1 ext1 k2 b1 b2 b3 b4;refine wp_seq (hB n ca _ _ _ _ _ _ _ _ _ _ _ _ _ _ En.1 ?_);refine(En.2 F1 g1 w1 ca.toList G1 s1 k2).mono ?_;rintro x w' ⟨o,K,F',g',⟨rfl,rfl⟩,s2,ext2,u,rfl,hu⟩;refine⟨_,rfl,?_⟩;simp only[Exit.then,bodyPostD];have O5:=(ext2.gh.blk _ _ b1 b2);have M1:=(ext2.gh.blk _ _ b3 b4);refine leaves_cons (f:=93) (args:=#[.pointer (some ⟨B1,0,none⟩),.pointer (some ⟨B2,0,none⟩)]) Ab (by simp[go_sem]) ?_;refine(A6t (K:=H') (e:=e) s2 (G1.mono ext2.keeps) (by rw[hl]; exact O5.1) (by rw[hl]; exact O5.2) (by rw[hl]; exact M1.1) (by rw[hl]; exact M1.2) hu).mono ?_;rintro e' u' w2 ⟨rfl,rfl,L,F2,g2,s3,ext3⟩;simp only[settle,List.dropWhile];have extA:=(ext1.trans ext2).trans ext3;have hK:=(ext2.trans ext3).keeps;have tm:=Ard (n:=n) (RL.mono hK _ _ k2) ((ext3.gh.blk _ _ O5.1 O5.2).1) ((ext3.gh.blk _ _ O5.1 O5.2).2) ((ext3.gh.blk _ _ M1.1 M1.2).1) ((ext3.gh.blk _ _ M1.1 M1.2).2) (s5:=.fn (.func n) [] cap) (v5:=.func (.func n) #[] ca) (by simp only[R]; exact⟨#[],ca,rfl,by simp[RL],RL.mono hK _ _ k2⟩);obtain⟨v,Fx,gx,z1,z2,z3,z4⟩:=Abb (x:=D7) Hr s3 extA tm (G1.mono hK) (by rw[hl]; rfl) (by rw[hl]; rfl) A2y Hm.symm (eu hl.symm) A8 hs.beyond;exact⟨v,z1,Fx,gx,H',rfl,v,rfl,z2,z3,z4⟩
def A6i{n:Nat}(fv g8:AV)(Uk:fv= .fn (.func n) [] cap)(hl:H'.length=H.length)(En:HP n cap (H++cL) (As x) (H'++cL)):
 Jc Tryz.prog caB (Ku fv g8 .undef .undef .undef .undef .undef .undef .undef H.length) (H++cL) fun t K=>t=Ku fv g8 fv (As x) .undef .undef .undef .undef .undef H'.length/\K=H'++[.var (Es x),.var [.int .i64 0]]:=by
 have En:HP n ([]++[]++cap) (H++cL) (As x) (H'++cL):=by simpa using En
 refine Sw ?_;show I1 _ _ [] (fun _ t K=>t=Ku fv g8 fv (As x) .undef .undef .undef .undef .undef H'.length/\K=H'++[.var (Es x),.var [.int .i64 0]]) _ _;rw[<- hl];simp[caB,Ku,Uk];refine N5 En ?_;have z1:35<=Cx.length:=Di;have z2:Cx.drop 35=[]:=rfl;simp[cL,As,z1,z2]
def A6j{b:Bool}(hfm:Hc 22 [As x] (.bool b))(fv g8 s5 s6:AV):
 Jc Tryz.prog caC (Ku fv g8 s5 s6 .undef .undef .undef .undef .undef H'.length) (H'++[.var (Es x),.var [.int .i64 0]]) fun t K=>t=Ku fv g8 s5 s6 (As x) (.bool b) (.bool !b) .undef .undef H'.length/\K=H'++[.var (Es x),.var [.int .i64 0]]:=by
 refine Sw ?_;show I1 _ _ [] (fun _ t K=>t=Ku fv g8 s5 s6 (As x) (.bool b) (.bool !b) .undef .undef H'.length/\K=H'++[.var (Es x),.var [.int .i64 0]]) _ _;simp[caC,Ku];refine Ca hfm ?_;simp[As]
def A6k(fv g8 s5 s6 s7 s8 s9:AV):
 Jc Tryz.prog caE (Ku fv g8 s5 s6 s7 s8 s9 .undef .undef H'.length) (H'++[.var (Es x),.var [.int .i64 0]]) fun t K=>t=Ku fv g8 s5 s6 s7 s8 s9 (.agg Cx) .undef H'.length/\K=H'++[.var Cx,.var [.int .i64 6]]++[]:=by
 refine Sw ?_;show I1 _ _ [] (fun _ t K=>t=Ku fv g8 s5 s6 s7 s8 s9 (.agg Cx) .undef H'.length/\K=H'++[.var Cx,.var [.int .i64 6]]++[]) _ _;simp[caE,Ku,Cx]
def A6l(fv g8 s5 s6 s7 s8 s9:AV):
 Jc Tryz.prog caG (Ku fv g8 s5 s6 s7 s8 s9 .undef .undef H'.length) (H'++[.var (Es x),.var [.int .i64 0]]) fun t K=>t=Ku fv g8 s5 s6 s7 s8 s9 .undef (As x) H'.length/\K=H'++[.var (Es x),.var [.int .i64 0]]++[]:=by
 refine Sw ?_;show I1 _ _ [] (fun _ t K=>t=Ku fv g8 s5 s6 s7 s8 s9 .undef (As x) H'.length/\K=H'++[.var (Es x),.var [.int .i64 0]]++[]) _ _;simp[caG,Ku,As]
def Avd{n:Nat}{b:Bool}(hfm:Hc 22 [As x] (.bool b))(hl:H'.length=H.length)(A8:Be H'.length H'=true)(En:HP n cap (H++cL) (As x) (H'++cL)):
 HP 25 [.fn (.func n) [] cap] H (Cr (if b=true then(x,0)else(D7,6))) H':=by
 refine⟨A5,fun F g w vs hG hs hr=>?_⟩;refine(Arf (R:=fun w Fx gx Hx e' w'=>Hx=H'/\∃v,e'= .returned v/\R Fx gx w' (Cr (if b=true then(x,0)else(D7,6))) v/\St Fx gx H' w'/\Bn F g H w Fx gx H' w') hG hs hr ?_).mono fun e' w' ⟨Fx,gx,Hx,_,v,h1,h2,h3,h4⟩=>⟨v,Fx,gx,h1,h2,h3,h4⟩;intro fn B C E G cB cC cE cG Hr hB F1 g1 w1 ca B1 B2 s1 G1 ext1 k2 b1 b2 b3 b4;clear hB;have tm0:=Ard (n:=n) k2 b1 b2 b3 b4 (s5:=.undef) (v5:=undef) Hk
 have simB:Vi Tryz.prog [{target:=.fn (.func 93) #[.pointer (some ⟨B1,0,none⟩),.pointer (some ⟨B2,0,none⟩)],args:=#[]}] F1 g1 (H++cL) w1 (Ku (.fn (.func n) [] cap) (.fn (.func 93) [] [.ptr H.length 0,.ptr (H.length+1) 0]) .undef .undef .undef .undef .undef .undef .undef H.length)
  {tmps:=#[.func (.func n) #[] ca,undef,.pointer (some ⟨B1,0,none⟩),.pointer (some ⟨B2,0,none⟩),.func (.func 93) #[] #[.pointer (some ⟨B1,0,none⟩),.pointer (some ⟨B2,0,none⟩)],undef,undef,undef,undef,undef,undef,undef],defers:=[{target:=.fn (.func 93) #[.pointer (some ⟨B1,0,none⟩),.pointer (some ⟨B2,0,none⟩)],args:=#[]}]}:=⟨s1,tm0,rfl,G1⟩
 refine wp_seq (wx cB simB (A6i _ _ rfl hl En) ?_ Kt.none);rintro F2 g2 H2 w2 t2 a2 ⟨s2,tm2,d2,G2⟩ ext2 ⟨rfl,rfl⟩;simp only[Exit.then];refine wp_seq (wp_seq (wx cC ⟨s2,tm2,d2,G2⟩ (A6j hfm _ _ _ _) ?_ Kt.none));rintro F3 g3 H3 w3 t3 a3 ⟨s3,tm3,d3,G3⟩ ext3 ⟨rfl,rfl⟩;simp only[Exit.then]
 have nb:a3.eval (.tmp 9)= .bool (!b):=by
  obtain⟨v,f1,f2⟩:=Vg (show RL F3 g3 w3 _ a3.tmps.toList from tm3) 9 (.bool !b) rfl;obtain rfl:=Wt f2;show a3.tmps.getD 9 undef=_;simp only[Mm]at f1;simp[Vb,f1]
 refine wp_cond nb ?_;have extA:=(ext1.trans ext2).trans ext3;cases b
 . simp only[pw,Bp];refine wp_seq (wx cE ⟨s3,tm3,d3,G3⟩ (A6k _ _ _ _ _ _ _) ?_ Kt.none);rintro F4 g4 H4 w4 t4 a4 ⟨s4,tm4,d4,G4⟩ ext4 ⟨rfl,rfl⟩;simp only[Exit.then];refine wp_ret ?_;show Leaves Tryz.prog fn a4.tmps _ a4.defers .returning w4;rw[d4];refine Atc ?_;obtain⟨v,Fx,gx,z1,z2,z3,z4⟩:=Abb (x:=D7) (e:=6) Hr s4 (extA.trans ext4) tm4 G4 rfl rfl A2y Hm.symm (eu hl.symm) A8 hs.beyond;exact⟨v,z1,Fx,gx,H',rfl,v,rfl,z2,z3,z4⟩
 simp only[Bool.not_true,Dp,Bq];refine wp_skip ?_;simp only[Exit.then];refine wp_seq (wx cG ⟨s3,tm3,d3,G3⟩ (A6l _ _ _ _ _ _ _) ?_ Kt.none);rintro F4 g4 H4 w4 t4 a4 ⟨s4,tm4,d4,G4⟩ ext4 ⟨rfl,rfl⟩;simp only[Exit.then];refine wp_ret ?_;show Leaves Tryz.prog fn a4.tmps _ a4.defers .returning w4;rw[d4];refine Atc ?_;obtain⟨v,Fx,gx,z1,z2,z3,z4⟩:=Abb (x:=x) (e:=0) Hr s4 (extA.trans ext4) tm4 G4 rfl rfl (A8a x) (A78 x) (eu hl.symm) A8 hs.beyond;exact⟨v,z1,Fx,gx,H',rfl,v,rfl,z2,z3,z4⟩
def Bbm{n:Nat}(hl:H'.length=H.length)(A8:Be H'.length H'=true)(En:HP n cap (H++cL) (As x) (H'++cL))(hx:Kv x):
 HP 25 [.fn (.func n) [] cap] H (Cr (caR x)) H':=Avd (Adh x hx) hl A8 En
end
def A4z:Ga T6 [Mr,Ch 0,Ch 1]=(N8,0):=A5
def A4y:E0 T6 3 3=(T6,0):=A5
def Aig:Kq:=fun f args H=>match Aa3 f args H with
 |some r=>some r
 |none=>match Nat.beq f 29,S2 (Ce args) [An T6,.int .i64 3,.int .i64 3]with
  |true,true=>some (An T6,H)
  |_,_=>match Nat.beq f 95,S2 (Ce args) [An T6,.sl .none ([Mr,Ch 0,Ch 1].map Ag)]with
   |true,true=>some (Db (N8,0),H)
   |_,_=>match Nat.beq f 98,S2 (Ce args) [An N8]with
    |true,true=>some (Db (N8,0),H)
    |_,_=>none
def A4m(f:FuncId)(args:Ao)(H:Ai)(v:AV)(H':Ai)(h:Aig f args H=some (v,H')):HP f args H v H':=by
 unfold Aig at h;split at h
 . rename_i r hr;simp only[Ay]at h;subst h;exact Wz _ _ _ _ _ hr
 split at h
 . rename_i hf ha;cases h;rw[Oy hf];have:=Adk T6 3 3 Aa4 Di Di Di Di;rw[A4y]at this;exact((this.1 rfl).lift Ab Ab H).args (W9 _ _ ha)
 split at h
 . rename_i hf ha;cases h;rw[Oy hf]
   have:=A0n T6 [Mr,Ch 0,Ch 1] Aa4 (fun x hx=>by
    simp only[Pp,Pq,Iy]at hx
    rcases hx with rfl|rfl|rfl<;>decide)
   rw[A4z]at this;exact(this.lift Ab (A01 _ 0) H).args (W9 _ _ ha)
 split at h
 . rename_i hf ha;cases h;rw[Oy hf];exact(A4n.lift Ab (A01 _ 0) H).args (W9 _ _ ha)
 cases h
def fm:List Kd:=[.mk [],.mk []]
def l6:Kd:=.mk [.mk [],.mk [.mk [],.mk []]]
def rk:Te:=.mk 10 0 [] A3 A3 (.mk []) [] []
def Vk:El:=⟨[l6],[Vj],true,N8,rk⟩
def Ym:List HB:=[.var (Es Sx),.var [.sl .none (fm.map Ak)],.var L4]
def A4w:HP 71 [.ptr 0 0,.ptr 1 0] (Ym++cL) (As Vk) (Ym++cL):=Vo mixed W0 A4m 40 _ _ _ _ _ A5
