/- Joined: T9 T10 Srt Bk. -/
import Derived.Test.YtemdkfnenjpioaaGreatDoorG22
import Derived.Test.YtemdkfnenjpioaaGreatDoorG23
import Derived.Test.YtemdkfnenjpioaaGreatDoorG20
import Derived.Sort.OwnSortedInts
import Derived.Lib.RowBridge
import Derived.Test.YtemdkfnenjpioaaGreatDoorG19
import Derived.WalkKit
import Derived.Shelf.Abstract
set_option linter.unusedSimpArgs false
set_option linter.unusedVariables false
set_option linter.unusedSectionVars false
set_option linter.all false
set_option maxHeartbeats 4000000
set_option maxRecDepth 10000
namespace Go.Proofs.YtemdkfnenjpioaaGreatDoor
open Go
attribute [local simp] Ar aev Ax A7 start AV.cells AV.undef Bc Be Bh Bl Bj AV.isCell Bf A1 Bi
attribute [local simp] fin A9 A8 Bb AV.strip Ay A5 AV.inScope Am A0 As
attribute [local simp] Ca Cg
attribute [-simp] Int.not_lt Int.not_le
theorem St.reserve {F:Addr→Prop} {g:Gh} {A B:List HB} {w:World} (h:St F g (A++ .var [.sl .nilT []] :: B) w):St F g (A++ .var [.sl (.lazy (A.length+(B.length+1))) []] :: (B++[.mp D1])) w:=by
 have hl:(A++HB.var [.sl .nilT []] :: B).length=A.length+(B.length+1):=by simp
 have hlow: ∀b,b≠A.length→b≠A.length+(B.length+1)→(A++ .var [.sl (.lazy (A.length+(B.length+1))) []] :: (B++[.mp D1]))[b]? =(A++ .var [.sl .nilT []] :: B)[b]?:=fun b h1 h2=>by
  by_cases hb:b < A.length
  · rw[List.getElem?_append_left hb,List.getElem?_append_left hb]
  · rw[List.getElem?_append_right (by omega),List.getElem?_append_right (by omega)]
    obtain⟨j,hj⟩: ∃j,b - A.length=j+1:=⟨b - A.length - 1,by omega⟩
    rw[hj,List.getElem?_cons_succ,List.getElem?_cons_succ]
    by_cases hj2:j < B.length
    · rw[List.getElem?_append_left hj2]
    · rw[List.getElem?_eq_none (by simp;omega),List.getElem?_eq_none (by omega)]
 have hat:(A++ .var [.sl (.lazy (A.length+(B.length+1))) []] :: (B++[.mp D1]))[A.length]? =some (.var [.sl (.lazy (A.length+(B.length+1))) []]):=by simp
 have hat0:(A++ .var [.sl .nilT []] :: B)[A.length]? =some (.var [.sl .nilT []]):=by simp
 have hend:(A++ .var [.sl (.lazy (A.length+(B.length+1))) []] :: (B++[.mp D1]))[A.length+(B.length+1)]? =some (.mp D1):=by simp
 refine⟨h.live,fun b hb=>h.beyond b (by simp at hb ⊢; omega),h.inj,fun b cs hb=>?_,fun t n k ty ht=>?_,h.spots,fun b e cs hb=>?_,fun b ks hb=>?_⟩
 · by_cases h1:b=A.length
   · subst h1
     rw[hat] at hb
     obtain⟨X,vs,e,q1,q2,q3,q4,q5⟩:=h.var _ _ hat0
     cases hb
     refine⟨X,vs,e,q1,q2,q3,?_,q5⟩
     simp only[RL,R] at q4 ⊢
     obtain⟨v,r,e1,⟨m0,m1⟩,m2⟩:=q4
     refine⟨v,r,e1,⟨m0,?_⟩,m2⟩
     rcases m1 with⟨m3,m4,_,_⟩ | ⟨_,_,_,_,_,_,_,_,_,m5⟩
     · exact .inl ⟨m3,m4,by simp,by simp⟩
     · exact absurd m5 (by simp[RT])
   · by_cases h2:b=A.length+(B.length+1)
     · subst h2;rw[hend] at hb;cases hb
     · exact h.var b cs (by rw[← hlow b h1 h2]; exact hb)
 · by_cases h1:t=A.length
   · subst h1;rw[hat] at ht;cases ht
   · by_cases h2:t=A.length+(B.length+1)
     · subst h2;rw[hend] at ht;cases ht
     · exact h.tok t n k ty (by rw[← hlow t h1 h2]; exact ht)
 · by_cases h1:b=A.length
   · subst h1;rw[hat] at hb;cases hb
   · by_cases h2:b=A.length+(B.length+1)
     · subst h2;rw[hend] at hb;cases hb
     · exact h.tvar b e cs (by rw[← hlow b h1 h2]; exact hb)
 · by_cases h1:b=A.length
   · subst h1;rw[hat] at hb;cases hb
   · by_cases h2:b=A.length+(B.length+1)
     · subst h2;rw[hend] at hb;cases hb
       have:=h.beyond (A.length+(B.length+1)) (by rw[hl]; exact Nat.le_refl _)
       exact .inl ⟨rfl,this⟩
     · exact h.mp b ks (by rw[← hlow b h1 h2]; exact hb)
theorem Ext.unreserve {F F':Addr→Prop} {g g':Gh} {A B H':List HB} {w w':World} {x y:HB} (hs:St F g (A++x :: B) w) (h:Ext F g (A++y :: (B++[.mp D1])) w F' g' H' w'):Ext F g (A++x :: B) w F' g' H' w' where
 sub:=h.sub
 keep:=h.keep
 gh:=h.gh
 size:=h.size
 frame X hX hn:=h.frame X hX fun b hb=>by
  by_cases h1:b < (A++x :: B).length
  · exact hn b h1
  · rw[(hs.beyond b (by omega)).1]; simp
 new a ha:=by
  rcases h.new a ha with h1 | h1 | ⟨t,h1,h2,h3⟩
  · exact .inl h1
  · exact .inr (.inl h1)
  · refine .inr (.inr ⟨t,?_,h2,h3⟩)
    rcases Nat.lt_or_ge t (A++x :: B).length with h4 | h4
    · exact h4
    · exact absurd (hs.beyond t h4).2 h2
 blks b X hb he:=by
  rcases h.blks b X hb he with⟨h1,h2⟩ | h1
  · rcases Nat.lt_or_ge b (A++x :: B).length with h4 | h4
    · exact .inl ⟨h4,h2⟩
    · rw[(hs.beyond b h4).1] at h2;cases h2
  · exact .inr h1
 len:=by have:=h.len;simp at this ⊢; omega
 io:=h.io
theorem AWp.reserve [Cc] {P:Program} {x:AC} {t:List AV} {A B:List HB} {Q:AX→List AV→List HB→Prop} (h:AWp P x t (A++ .var [.sl (.lazy (A.length+(B.length+1))) []] :: (B++[.mp D1])) Q):AWp P x t (A++ .var [.sl .nilT []] :: B) Q:=by
 intro c hc F g w a hs
 refine wp_mono (h c hc F g w a ⟨hs.1.reserve,hs.2⟩) fun e a' w' hp=>?_
 rcases hp with⟨x,t',H',F',g',h1,h2,h3,h4⟩ | ⟨v,u,H',F',g',h1,h2,h3,h4,h5,h6⟩
 · exact .inl ⟨x,t',H',F',g',h1,h2,h3,h4.unreserve hs.1⟩
 · exact .inr ⟨v,u,H',F',g',h1,h2,h3,h4,h5,h6.unreserve hs.1⟩
def Cj (l:List Int):List (List AV):=l.map fun n=>[.int .i64 n]
@[simp] theorem Asu (n:Nat): ∀l:List Int,A0 n (Cj l)=true
 | []=>rfl
 | x :: l=>by
   have:=Asu n l
   simp only[Cj] at this
   simp[Cj,A0,Am,AV.inScope,this]
@[simp] theorem Aus: ∀l:List Int,A5 (Cj l)=Cj l
 | []=>rfl
 | x :: l=>by
   have:=Aus l
   simp only[Cj] at this
   simp[Cj,A5,Ay,AV.strip,this]
@[simp] theorem Aqn (l:List Int):(Cj l).length=l.length:=by simp[Cj]
@[simp] theorem intRows_nil:Cj []=[]:=rfl
theorem A13 (l:List Int) (n:Int):Cj l++[[.int .i64 n]]=Cj (l++[n]):=by simp[Cj]
theorem Acm (l:List Int) (n:Int):Cj (n :: l)=[.int .i64 n] :: Cj l:=rfl
def frV:List Int→AV
 | []=>.sl (.lazy 2) []
 | x :: l=>.sl (.own 2) (Cj (x :: l))
def frB:List Int→HB
 | []=>.mp D1
 | _ :: l=>.tok (l.length+1) 1 3
def frS (c0:Cn) (x:List Int):List HB:=[.var (Ai c0),.var [frV x],frB x]
def Hk (c:Cn) (bd:Int) (x:List Int):List Int:=if c.op=1∧bd≤c.n then x++[c.n - bd] else x
theorem frS_hps (c0:Cn):Hps (frS c0) 3:=
 ⟨fun _=>rfl,fun x k hk=>by cases x<;>simp[frS,frV,frB,As,Am,AV.inScope]; omega⟩
theorem Azf (c0 c:Cn) (bd:Int) (x:List Int) (hn:c.op=1→0≤c.n∧c.n≤20000) (h0:0≤bd) (h1:bd≤1000) (hx:x.length < 20000):
 Ab Tryz.prog Oe ([Aa c,.int .i64 bd]++[.ptr 1 0]) (frS c0 x) (.tup []) (frS c0 (Hk c bd x)):=by
 by_cases hc:c.op=1∧bd≤c.n
 · rw[Hk,if_pos hc]
   obtain⟨hc1,hc2⟩:=hc
   have hb:=hn hc1
   have hw:=Ba (n:=c.n - bd) (by omega) (by omega)
   cases x with
   | nil=>
     refine Ab.go mixed Yv (by simp[frS]) fun hfit Q hQ=>?_
     clear hfit
     simp -implicitDefEqProofs[Ti,Aa,Ac c,frS,frV,frB,hc1,hc2,hw,C7,C0,A4,D1]
     refine hQ _ _ _ ?_
     simp -implicitDefEqProofs[frS,frV,frB,Ac c0,Acm]
   | cons y l=>
     simp only[List.length_cons] at hx
     have hl:(l.length+1)+1≤1073741824:=by omega
     refine Ab.go mixed Yv (by simp[frS]) fun hfit Q hQ=>?_
     clear hfit
     simp -implicitDefEqProofs[Ti,Aa,Ac c,frS,frV,frB,hc1,hc2,hw,C7,C0,A4,A13,Acm,hl]
     refine hQ _ _ _ ?_
     simp -implicitDefEqProofs[frS,frV,frB,Ac c0,Acm]
 · rw[Hk,if_neg hc]
   refine Ab.go mixed Yv (by simp[frS]) fun hfit Q hQ=>?_
   clear hfit
   by_cases hc1:c.op=1
   · have hc2: ¬bd≤c.n:=fun h=>hc ⟨hc1,h⟩
     simp -implicitDefEqProofs[Ti,Aa,Ac c,frS,hc1,hc2]
     refine hQ _ _ _ ?_
     cases x<;>simp -implicitDefEqProofs[frS,frV,frB,Ac c0]
   · simp -implicitDefEqProofs[Ti,Aa,Ac c,frS,hc1]
     refine hQ _ _ _ ?_
     cases x<;>simp -implicitDefEqProofs[frS,frV,frB,Ac c0]
mutual
theorem Agk: ∀(c:Cn) (bd:Int) (x:List Int),0≤bd→bd+Cp c≤1000→(∀ z ∈ x,0≤z∧z≤20000)→C4 c=true→∀z ∈ Fl Hk c bd x,0≤z∧z≤20000
 | .mk o n s k ns l,bd,x,h0,hd,hx,hf=>by
   rw[K9] at hd
   have hdl:(Cn.mk o n s k ns l).l=l:=rfl
   rw[hdl] at hd
   have hu:0≤Dn o bd∧Dn o bd≤bd+1:=by
    rw[Dn]; split
    · rw[Ba (by omega) (by omega)]; omega
    · omega
   rw[Fl]
   refine Aqz l _ _ hu.1 (by omega) ?_ fun y hy=>Wc hf hy
   split
   · unfold Hk
     split
     · rename_i h
       intro z hz
       rcases List.mem_append.1 hz with hz | hz
       · exact hx z hz
       · have h3:=Ad2 hf h.1
         simp only[List.mem_singleton] at hz
         have h2:=h.2
         omega
     · exact hx
   · exact hx
theorem Aqz: ∀(l:List Cn) (bd:Int) (x:List Int),0≤bd→bd+Eg l≤1000→(∀ z ∈ x,0≤z∧z≤20000)→(∀ y ∈ l,C4 y=true)→∀z ∈ Fh Hk l bd x,0≤z∧z≤20000
 | [],_,_,_,_,hx,_=>hx
 | c :: cs,bd,x,h0,hd,hx,hf=>by
   have h1:=S7 (l:=c :: cs) (x:=c) (by simp)
   have h2:Eg cs≤Eg (c :: cs):=by simp only[Eg]; omega
   rw[Fh]
   exact Aqz cs bd _ h0 (by omega) (Agk c bd x h0 (by omega) hx (hf c (by simp))) fun y hy=>hf y (by simp[hy])
end
end Go.Proofs.YtemdkfnenjpioaaGreatDoor
namespace Go.Proofs.YtemdkfnenjpioaaGreatDoor
open Go
attribute [local simp] Ar aev Ax A7 start AV.cells AV.undef Bc Be Bh Bl Bj AV.isCell Bf A1 Bi
attribute [local simp] fin A9 A8 Bb AV.strip Ay A5 AV.inScope Am A0 As
attribute [local simp] Ca Cg
attribute [-simp] Int.not_lt Int.not_le
mutual
def wkS {σ :Type} (f:Cn→Int→Int→σ→σ) (g:Int→Int→Int→σ→σ):Te→Int→Int→σ→σ
 | .mk op n s con tto k ns l,c,t,x=>Iz f g op l 0 c t (if op=1 then g n c t (if op=8 then f tto c t (if hcT op=true then f con c t x else x) else (if hcT op=true then f con c t x else x)) else
  (if op=8 then f tto c t (if hcT op=true then f con c t x else x) else (if hcT op=true then f con c t x else x)))
def Iz {σ :Type} (f:Cn→Int→Int→σ→σ) (g:Int→Int→Int→σ→σ) (op:Int):List Te→Nat→Int→Int→σ→σ
 | [],_,_,_,x=>x
 | y :: ys,i,c,t,x=>Iz f g op ys (i+1) c t (wkS f g y (C9 op i c t).1 (C9 op i c t).2 x)
end
theorem wkS_eq {σ :Type} (f:Cn→Int→Int→σ→σ) (g:Int→Int→Int→σ→σ) (z:Te) (c t:Int) (x x1 x2 x3: σ) (h1:x1=if hcT z.op=true then f z.con c t x else x) (h2:x2=if z.op=8 then f z.to c t x1 else x1) (h3:x3=if z.op=1 then g z.n c t x2 else x2):
 wkS f g z c t x=Iz f g z.op z.l 0 c t x3:=by
 subst h1 h2 h3
 cases z;rw[wkS]; rfl
structure Wlk {σ :Type} (S: σ→List HB) (M:Nat) (m1 m2:Nat) (p1 p2:List AV) (f:Cn→Int→Int→σ→σ) (g:Int→Int→Int→σ→σ):Prop where
 hps:Hps S M
 con: ∀(c:Cn) (a b:Int) (x: σ),A6 c=true→0≤a→0≤b→a≤1000→b≤1000→Ab Tryz.prog m1 ([Aa c,uAV a b]++p1) (S x) (.tup []) (S (f c a b x))
 var: ∀(n a b:Int) (x: σ),0≤n→n≤20000→0≤a→0≤b→a≤1000→b≤1000→Ab Tryz.prog m2 ([.int .i64 n,uAV a b]++p2) (S x) (.tup []) (S (g n a b x))
 c1: ∀n,M≤n→Am n p1=true
 c2: ∀n,M≤n→Am n p2=true
theorem keep_hi {σ :Type} {S: σ→List HB} {M:Nat} (hS:Hps S M) (s s': σ) (L:List HB):Cd (fun b=>decide (M≤b)) (S s++L) (S s'++L):=by
 intro b cs hV hb
 have hb':M≤b:=by simpa using hV
 obtain⟨j,rfl⟩: ∃j,b=M+j:=⟨b - M,by omega⟩
 rw[hS.get] at hb ⊢
 exact hb
set_option maxHeartbeats 400000 in
theorem Ast {σ :Type} {S: σ→List HB} {M m1 m2:Nat} {p1 p2:List AV} {f:Cn→Int→Int→σ→σ} {g:Int→Int→Int→σ→σ} (hW:Wlk S M m1 m2 p1 p2 f g)
 (h:Nat) (z:Te) (c t:Int) (x0: σ) (ht:tOk (h+1) z) (h0:0≤c) (h1:0≤t) (hc:c+(h+1:Nat)≤1000) (hd:t+(h+1:Nat)≤1000)
 (hrec: ∀y ∈ z.l,∀(c t:Int) (x: σ),0≤c→0≤t→c+h≤1000→t+h≤1000→Ab Tryz.prog N6 [uAV c t,Ae y,.fn (.func m1) [] p1,.fn (.func m2) [] p2] (S x) (.tup []) (S (wkS f g y c t x))):
 Ab Tryz.prog N6 [uAV c t,Ae z,.fn (.func m1) [] p1,.fn (.func m2) [] p2] (S x0) (.tup []) (S (wkS f g z c t x0)):=by
 have hS:=hW.hps
 have a1:=hS.len
 have a2:=hS.at0
 have a3:=hS.get
 have hsc:=fun s=>hS.sc s M (Nat.le_refl _)
 have hp1:=hW.c1 M (Nat.le_refl _)
 have hp2:=hW.c2 M (Nat.le_refl _)
 obtain⟨hn1,hn2,hn3⟩:=Tw ht.1
 have hins: ∀i,i < z.l.length→_:=fun i hi=>Zd ht hi h0 h1 (by omega) (by omega)
 obtain⟨x1,hx1⟩: ∃x1,x1=if hcT z.op=true then f z.con c t x0 else x0:=⟨_,rfl⟩
 obtain⟨x2,hx2⟩: ∃x2,x2=if z.op=8 then f z.to c t x1 else x1:=⟨_,rfl⟩
 obtain⟨x3,hx3⟩: ∃x3,x3=if z.op=1 then g z.n c t x2 else x2:=⟨_,rfl⟩
 have key:=wkS_eq f g z c t x0 x1 x2 x3 hx1 hx2 hx3
 have hcon:=fun (hh:hcT z.op=true) (L:List HB)=>(hW.con z.con c t x0 (hn1 hh) h0 h1 (by omega) (by omega)).suffix (by simp[a1]) (by simp[Am,a1,hp1,uAV]) (by rw[a1]; exact hsc _) L
 have hto:=fun (hh:z.op=8) (L:List HB)=>(hW.con z.to c t x1 (hn2 hh) h0 h1 (by omega) (by omega)).suffix (by simp[a1]) (by simp[Am,a1,hp1,uAV]) (by rw[a1]; exact hsc _) L
 have hvr:=fun (hh:z.op=1) (L:List HB)=>(hW.var z.n c t x2 (hn3 hh).1 (hn3 hh).2 h0 h1 (by omega) (by omega)).suffix (by simp[a1]) (by simp[Am,a1,hp2,uAV]) (by rw[a1]; exact hsc _) L
 refine Ab.go mixed At8 (by simp[a1]) fun hfit Q hQ=>?_
 have hf:=W7 (c:=z) (by simpa[Bn,Ae,AV.fits] using hfit.2.1)
 have hln:z.l.length≤1073741824:=by simpa[A4] using hf.2.2.2.2.1
 clear hfit hf
 simp -implicitDefEqProofs[-A3,Ami,uAV,Ae,Aj z,a1,a2,a3]
 rw[A3]
 simp -implicitDefEqProofs[-A3,a1,a2,a3]
 refine Qx (ι:=Unit) (fun _=>S x1++[.var [.int .i64 c,.int .i64 t],.var [.int .i64 z.op,.int .i64 z.n,.str z.s,.int .i64 z.con.op,.int .i64 z.con.n,.str z.con.s,.sl .none (z.con.k.l.map Ao),.sl .none (Af z.con.names),.sl .none (z.con.l.map Ai),.int .i64 z.to.op,.int .i64 z.to.n,.str z.to.s,.sl .none (z.to.k.l.map Ao),.sl .none (Af z.to.names),.sl .none (z.to.l.map Ai),.sl .none (z.k.l.map Ao),.sl .none (Af z.names),.sl .none (z.l.map Bm)]]) (fun _ _=>True) ?_ ?_
 · intro Q' hn hr
   rw[A3]
   simp -implicitDefEqProofs[-A3,a1,a2,a3]
   refine Ah (U0 z.op) (by simp) (by simp) (by simp[Ag,Aa,Ac,Al,Af,Kd.l,Ae,Aj]) ?_
   cases hh:hcT z.op
   · rw[if_neg (by simp[hh])] at hx1
     rw[hx1] at hn
     simp -implicitDefEqProofs 
     exact hn () _ (by simp -implicitDefEqProofs[AC.dsts,Au,At,Aq]) trivial
   · rw[if_pos hh] at hx1
     have hcon:=hcon hh
     rw[← hx1] at hcon
     simp -implicitDefEqProofs[a1,a2,a3]
     refine Fq (first:=[]) (r:=.tup []) (by simpa[uAV,Aa,Ac z.con] using hcon [_,_]) ?_
     simp -implicitDefEqProofs 
     exact hn () _ (by simp -implicitDefEqProofs[AC.dsts,Au,At,Aq]) trivial
 intro _ f1 _
 clear hcon hx1
 simp -implicitDefEqProofs[-A3,AC.dsts,Au,At,a1,a2,a3]
 refine Qx (ι:=Unit) (fun _=>S x2++[.var [.int .i64 c,.int .i64 t],.var [.int .i64 z.op,.int .i64 z.n,.str z.s,.int .i64 z.con.op,.int .i64 z.con.n,.str z.con.s,.sl .none (z.con.k.l.map Ao),.sl .none (Af z.con.names),.sl .none (z.con.l.map Ai),.int .i64 z.to.op,.int .i64 z.to.n,.str z.to.s,.sl .none (z.to.k.l.map Ao),.sl .none (Af z.to.names),.sl .none (z.to.l.map Ai),.sl .none (z.k.l.map Ao),.sl .none (Af z.names),.sl .none (z.l.map Bm)]]) (fun _ _=>True) ?_ ?_
 · intro Q' hn hr
   rw[A3]
   simp -implicitDefEqProofs[-A3,a1,a2,a3]
   by_cases hh:z.op=8
   · rw[if_pos hh] at hx2
     have hto:=hto hh
     rw[← hx2] at hto
     simp -implicitDefEqProofs[hh,a1,a2,a3]
     refine Fq (first:=[]) (r:=.tup []) (by simpa[uAV,Aa,Ac z.to,hh] using hto [_,_]) ?_
     simp -implicitDefEqProofs 
     rw[hh] at hn
     exact hn () _ (by simp -implicitDefEqProofs[AC.dsts,Au,At,Aq,hh]) trivial
   · rw[if_neg hh] at hx2
     rw[hx2] at hn
     simp -implicitDefEqProofs[hh]
     exact hn () _ (by simp -implicitDefEqProofs[AC.dsts,Au,At,Aq,hh]) trivial
 intro _ f2 _
 clear hto hx2
 simp -implicitDefEqProofs[-A3,AC.dsts,Au,At,a1,a2,a3]
 refine Qx (ι:=Unit) (fun _=>S x3++[.var [.int .i64 c,.int .i64 t],.var [.int .i64 z.op,.int .i64 z.n,.str z.s,.int .i64 z.con.op,.int .i64 z.con.n,.str z.con.s,.sl .none (z.con.k.l.map Ao),.sl .none (Af z.con.names),.sl .none (z.con.l.map Ai),.int .i64 z.to.op,.int .i64 z.to.n,.str z.to.s,.sl .none (z.to.k.l.map Ao),.sl .none (Af z.to.names),.sl .none (z.to.l.map Ai),.sl .none (z.k.l.map Ao),.sl .none (Af z.names),.sl .none (z.l.map Bm)]]) (fun _ _=>True) ?_ ?_
 · intro Q' hn hr
   rw[A3]
   simp -implicitDefEqProofs[-A3,a1,a2,a3]
   by_cases hh:z.op=1
   · rw[if_pos hh] at hx3
     have hvr:=hvr hh
     rw[← hx3] at hvr
     simp -implicitDefEqProofs[hh,a1,a2,a3]
     refine Fq (first:=[]) (r:=.tup []) (by simpa[uAV,hh] using hvr [_,_]) ?_
     simp -implicitDefEqProofs 
     rw[hh] at hn
     exact hn () _ (by simp -implicitDefEqProofs[AC.dsts,Au,At,Aq,hh]) trivial
   · rw[if_neg hh] at hx3
     rw[hx3] at hn
     simp -implicitDefEqProofs[hh]
     exact hn () _ (by simp -implicitDefEqProofs[AC.dsts,Au,At,Aq,hh]) trivial
 intro _ f3 _
 clear hvr hx3 hn1 hn2 hn3
 simp -implicitDefEqProofs[AC.dsts,Au,At,a1,a2,a3]
 refine B5 (AWp.loopS S (fun n f' s G=>∃k:Nat,k+n=z.l.length∧f' 37= .int .i64 k∧Iz f g z.op (z.l.drop k) k c t s=Iz f g z.op z.l 0 c t x3∧
  ∃G',G= .var [.int .i64 c,.int .i64 t] :: .var [.int .i64 z.op,.int .i64 z.n,.str z.s,.int .i64 z.con.op,.int .i64 z.con.n,.str z.con.s,.sl .none (z.con.k.l.map Ao),.sl .none (Af z.con.names),.sl .none (z.con.l.map Ai),.int .i64 z.to.op,.int .i64 z.to.n,.str z.to.s,.sl .none (z.to.k.l.map Ao),.sl .none (Af z.to.names),.sl .none (z.to.l.map Ai),.sl .none (z.k.l.map Ao),.sl .none (Af z.names),.sl .none (z.l.map Bm)] :: G') z.l.length x3 [.var [.int .i64 c,.int .i64 t],.var [.int .i64 z.op,.int .i64 z.n,.str z.s,.int .i64 z.con.op,.int .i64 z.con.n,.str z.con.s,.sl .none (z.con.k.l.map Ao),.sl .none (Af z.con.names),.sl .none (z.con.l.map Ai),.int .i64 z.to.op,.int .i64 z.to.n,.str z.to.s,.sl .none (z.to.k.l.map Ao),.sl .none (Af z.to.names),.sl .none (z.to.l.map Ai),.sl .none (z.k.l.map Ao),.sl .none (Af z.names),.sl .none (z.l.map Bm)]] rfl ⟨0,by simp,rfl,rfl,_,rfl⟩ ?_)
 rintro n f4 s G ⟨k,hk,h37,he,G',rfl⟩
 refine AWp.run mixed fun Q2 hQ2=>?_
 simp -implicitDefEqProofs[AC.dsts,Au,At,Bo,h37]
 by_cases hlt:k < z.l.length
 · have hd':=List.drop_eq_getElem_cons hlt
   obtain⟨i1,i2,i3,i4⟩:=hins k hlt
   have hr:=fun L=>(hrec z.l[k] (List.getElem_mem _) (C9 z.op k c t).1 (C9 z.op k c t).2 s i1 i3 (by omega) (by omega)).suffix (by simp[a1]) (by simp[Am,AV.inScope,a1,hp1,hp2,uAV]) (by rw[a1]; exact hsc _) L
   have hin:=Aop z k c t
   rw[hd',Iz] at he
   generalize C9 z.op k c t=u at hr hin he
   generalize wkS f g z.l[k] u.1 u.2 s=s' at hr he
   have a4:=hS.set
   have a6: ∀(a b c:HB) (L:List HB),(a :: b :: (L++[c]))[L.length+1+1]? =some c:=fun a b c L=>by simp
   have a7: ∀(a b c:HB) (L:List HB) (x:HB),(a :: b :: (L++[c])).set (L.length+1+1) x=a :: b :: (L++[x]):=fun a b c L x=>by simp
   have hlen: ∀(a b:HB) (L:List HB),(S s++a :: b :: L).length=M+(L.length+1+1):=fun a b L=>by simp[a1]
   simp -implicitDefEqProofs[hlt,a1,a2,a3,a4,a6,a7,hlen]
   refine Iy (fun b=>decide (M≤b)) [7] (by rfl) ?_
   simp -implicitDefEqProofs[a1,a2,a3,a4,a6,a7,hlen]
   refine Bp hin (by simp[uAV]) (Amf _ _ _) (by simp[uAV,Ae,Aj z]) ?_
   simp -implicitDefEqProofs[uAV,a1,a2,a3,a4,a6,a7,hlen]
   refine Hl (first:=[]) (cap:=[]) (r:=.tup []) (by simpa[uAV,Ae,Aj z] using hr (.var [.int .i64 c,.int .i64 t] :: .var [.int .i64 z.op,.int .i64 z.n,.str z.s,.int .i64 z.con.op,.int .i64 z.con.n,.str z.con.s,.sl .none (z.con.k.l.map Ao),.sl .none (Af z.con.names),.sl .none (z.con.l.map Ai),.int .i64 z.to.op,.int .i64 z.to.n,.str z.to.s,.sl .none (z.to.k.l.map Ao),.sl .none (Af z.to.names),.sl .none (z.to.l.map Ai),.sl .none (z.k.l.map Ao),.sl .none (Af z.names),.sl .none (z.l.map Bm)] :: (G'++[.var (Bm z.l[k])]))) (by simpa using keep_hi hS s s' (.var [.int .i64 c,.int .i64 t] :: .var [.int .i64 z.op,.int .i64 z.n,.str z.s,.int .i64 z.con.op,.int .i64 z.con.n,.str z.con.s,.sl .none (z.con.k.l.map Ao),.sl .none (Af z.con.names),.sl .none (z.con.l.map Ai),.int .i64 z.to.op,.int .i64 z.to.n,.str z.to.s,.sl .none (z.to.k.l.map Ao),.sl .none (Af z.to.names),.sl .none (z.to.l.map Ai),.sl .none (z.k.l.map Ao),.sl .none (Af z.names),.sl .none (z.l.map Bm)] :: (G'++[.var (Bm z.l[k])]))) ?_
   simp -implicitDefEqProofs[Ba (n:=(k:Int)+1) (by omega) (by omega)]
   refine hQ2 _ _ _ (Ia (n - 1) s' (G':=.var [.int .i64 c,.int .i64 t] :: .var [.int .i64 z.op,.int .i64 z.n,.str z.s,.int .i64 z.con.op,.int .i64 z.con.n,.str z.con.s,.sl .none (z.con.k.l.map Ao),.sl .none (Af z.con.names),.sl .none (z.con.l.map Ai),.int .i64 z.to.op,.int .i64 z.to.n,.str z.to.s,.sl .none (z.to.k.l.map Ao),.sl .none (Af z.to.names),.sl .none (z.to.l.map Ai),.sl .none (z.k.l.map Ao),.sl .none (Af z.names),.sl .none (z.l.map Bm)] :: (G'++[.var (Bm z.l[k])])) (by simp) (by omega) (by simp -implicitDefEqProofs[AC.dsts,Au,At,Aq]) ?_)
   exact⟨k+1,by omega,by simp[Aq],he,_,rfl⟩
 · have hs:s=wkS f g z c t x0:=by rw[key,← he,List.drop_eq_nil_of_le (by omega),Iz]
   simp -implicitDefEqProofs[hlt]
   refine hQ2 _ _ _ (Jm ?_)
   show KE _ 0 _ Q _ _
   simp -implicitDefEqProofs 
   refine hQ _ _ _ ?_
   simp -implicitDefEqProofs[hs,a1,hsc]
theorem Af0 {σ :Type} {S: σ→List HB} {M m1 m2:Nat} {p1 p2:List AV} {f:Cn→Int→Int→σ→σ} {g:Int→Int→Int→σ→σ} (hW:Wlk S M m1 m2 p1 p2 f g):
 ∀(h:Nat) (z:Te) (c t:Int) (x0: σ),tOk h z→0≤c→0≤t→c+h≤1000→t+h≤1000→Ab Tryz.prog N6 [uAV c t,Ae z,.fn (.func m1) [] p1,.fn (.func m2) [] p2] (S x0) (.tup []) (S (wkS f g z c t x0))
 | 0,_,_,_,_,ht,_,_,_,_=>ht.elim
 | h+1,z,c,t,x0,ht,h0,h1,hc,hd=>Ast hW h z c t x0 ht h0 h1 hc hd fun y hy c t x g0 g1 g2 g3=>Af0 hW h y c t x (ht.2 y hy) g0 g1 g2 g3
end Go.Proofs.YtemdkfnenjpioaaGreatDoor
namespace Go.Proofs.YtemdkfnenjpioaaGreatDoor
open Go Go.RowKit Go.Shelf Go.Proofs Go.Sort
structure Hr (w:World) (B:Nat) (w':World):Prop where
 size:w.heap.size≤w'.heap.size
 heap: ∀X,X < w.heap.size→X≠B→w'.heap[X]? =w.heap[X]?
 io:w'.os=w.os∧w'.output=w.output
theorem Hr.refl (w:World) (B:Nat):Hr w B w:=⟨Nat.le_refl _,fun _ _ _=>rfl,rfl,rfl⟩
theorem Hr.trans {w w1 w2:World} {B:Nat} (h:Hr w B w1) (h':Hr w1 B w2):Hr w B w2:=
 ⟨Nat.le_trans h.size h'.size,fun X h1 h2=>(h'.heap X (Nat.lt_of_lt_of_le h1 h.size) h2).trans (h.heap X h1 h2),h'.io.1.trans h.io.1,h'.io.2.trans h.io.2⟩
def G6 (w:World) (B:Nat) (zs:List Int):Prop:=∃cur e,w.heap[B]? =some (.cells cur e (0,0))∧cur.toList.take zs.length=zs.map (Value.int .i64)
theorem G6.get {w:World} {B:Nat} {zs:List Int} (h:G6 w B zs) {j:Nat} {z:Int} (hj:zs[j]? =some z):w.cell? ⟨B,j,none⟩=some (.int .i64 z):=by
 obtain⟨cur,e,h1,h2⟩:=h
 have hl:j < zs.length:=(List.getElem?_eq_some_iff.1 hj).1
 have:=(holds_of_blockI h1 h2 j (by simpa using hl)).1
 rw[Nat.zero_add] at this
 rw[this]
 have e2:=(List.getElem?_eq_some_iff.1 hj).2
 simp[hl,e2]
def Do (zs:List Int):List Int:=zs.mergeSort fun x y=>decide (x≤y)
theorem Jl (zs:List Int):(Do zs).length=zs.length:=by simp[Do]
theorem Ajc (B cap:Nat) (zs:List Int) (w:World) (h:G6 w B zs) (hl:zs.length < 4611686018427387904):
 Calls Tryz.prog 193 #[.slice (some ⟨B,0,none⟩) zs.length cap] w fun e w'=>e= .returned (.tuple #[])∧Hr w B w'∧G6 w' B (Do zs):=by
 obtain⟨cur,e,h1,h2⟩:=h
 have hB:B < w.heap.size:=(Array.getElem?_eq_some_iff.1 h1).1
 have hlen:zs.length≤cur.size:=by
  have:=congrArg List.length h2
  simp at this;omega
 have hc:Calls Tryz.prog 193 #[.slice (some ⟨B,0,none⟩) zs.length cap] w _:=Any.slices_Sort_int Tryz.lays189 B 0 cap zs w (holds_of_blockI h1 h2) hB hl
 refine hc.mono ?_
 rintro e' w' ⟨rfl,n,os,rfl⟩
 refine⟨rfl,⟨?_,fun X hX hne=>?_,rfl,rfl⟩,?_⟩
 · simp[putRow,mapBlock,Sort.ahead]
 · obtain⟨_,_,_,_,h5⟩:=grownBy_sortedI (w:=w) (g:=B) (n:=n) (os:=os) (Do zs).toArray
   exact h5 X hX (fun e=>hne (by cases e;rfl))
 · exact⟨_,e,heap_sortedI (Do zs).toArray h1,by rw[Jl,← Jl]; exact take_putCellsI cur (Do zs) (by rw[Jl]; exact hlen)⟩
theorem Aio (w:World) (a:Option Addr) (cap:Nat):Calls Tryz.prog 193 #[.slice a 0 cap] w fun e w'=>e= .returned (.tuple #[])∧w'=w:=
 Any.slices_Sort_int_none Tryz.lays189 a cap w
theorem A14 (B cap:Nat) (zs:List Int) (w:World) (h:G6 w B zs) (hl:zs.length≤cap) (hl2:zs.length < 4611686018427387904):
 Calls Tryz.prog 223 #[.slice (some ⟨B,0,none⟩) zs.length cap] w fun e w'=>e= .returned (.slice (some ⟨B,0,none⟩) (Lib.compact zs).length cap)∧Hr w B w'∧G6 w' B (Lib.compact zs):=by
 obtain⟨cur,e,h1,h2⟩:=h
 have hlen:zs.length≤cur.size:=by
  have:=congrArg List.length h2
  simp at this;omega
 have hcl:=Lib.compact_length_le zs
 have hc:Calls Tryz.prog 223 #[.slice (some ⟨B,0,none⟩) zs.length cap] w _:=Any.slices_Compact_int Tryz.laysNm220 B 0 cap zs w (holds_of_blockI h1 h2) (by omega) hl
 refine hc.mono ?_
 rintro e' w' ⟨rfl,q,rfl⟩
 generalize hd:Lib.compact zs++List.replicate (zs.length - (Lib.compact zs).length) 0=d
 have hdl:d.length=zs.length:=by rw[← hd]; simp;omega
 have hw:putRow (Value.int .i64) (Sort.ahead w q) B 0 d.toArray=Sort.grow (putRow (Value.int .i64) (Sort.ahead w q) B 0 d.toArray) #[]:=by simp
 rw[hw]
 refine⟨rfl,⟨?_,fun X hX hne=>?_,rfl,rfl⟩,?_⟩
 · simp[putRow,mapBlock,Sort.ahead]
 · obtain⟨_,_,_,_,h5⟩:=grownBy_sortedI (w:=w) (g:=B) (n:=q) (os:=#[]) d.toArray
   exact h5 X hX (fun e=>hne (by cases e;rfl))
 · refine⟨_,e,heap_sortedI d.toArray h1,?_⟩
   have:=take_putCellsI cur d (by omega)
   have h3:=congrArg (List.take (Lib.compact zs).length) this
   rw[List.take_take,Nat.min_eq_left (by omega)] at h3
   rw[h3,← hd]
   simp
theorem Ayf (w:World) (a:Option Addr) (cap:Nat):Calls Tryz.prog 223 #[.slice a 0 cap] w fun e w'=>e= .returned (.slice a 0 cap)∧w'=w:=
 Any.slices_Compact_int_empty Tryz.laysNm220 a cap w
theorem Ahg {zs:List Int} {x:Int} (h:x ∈ Lib.compact zs):x ∈ zs:=by
 unfold Lib.compact Lib.compactUpTo at h
 obtain⟨i,hi,rfl⟩:=List.mem_map.1 h
 have hi':i < zs.length:=List.mem_range.1 (List.mem_filter.1 hi).1
 simp[getElem!_pos,hi']
theorem Aat {zs:List Int} {x:Int} (h:x ∈ Do zs):x ∈ zs:=by simpa[Do] using h
theorem Un {P:Program} {x y:Code} {A:AC} {Q:Exit→Act→World→Prop} {F:Addr→Prop} {g:Gh} {H H2:List HB} {w:World} {t t2:List AV} {a:Act} (hc:B4 P x=some A) (hs:Sim P F g H w t a)
 (h:AWp P A t H fun e t' H'=>e= .normal∧t'=t2∧H'=H2) (hk: ∀F' g' w' a',Sim P F' g' H2 w' t2 a'→Ext F g H w F' g' H2 w'→y.wp P Q a' w'):(Code.seq x y).wp P Q a w:=by
 refine wp_seq (wp_mono (h.det x hc F g w a hs) ?_)
 rintro e a' w' ⟨x',t',H',F',g',rfl,⟨rfl,rfl,rfl⟩,hs',hx⟩
 exact hk F' g' w' a' hs' hx
theorem Ayj {P:Program} {F:Addr→Prop} {g:Gh} {H:List HB} {w:World} {args:List AV} {vs:List Value} {fn:Func} {n:Nat} (hn:fn.ntmps=n) (hG:Dr P F w) (hs:St F g H w) (hr:RL F g w args vs):
 Sim P F g H w (start args n) { tmps:=vs.toArray++Array.replicate (fn.ntmps - vs.toArray.size) undef,defers:=[] }:=by
 have hlen:=Dh hr
 refine⟨hs,?_,rfl,hG⟩
 show RL F g w _ _
 simp only[start,Array.toList_append,Array.toList_replicate,List.size_toArray,hn,hlen]
 exact E0 hr (Mg Dc _)
theorem ints_out {F F':Addr→Prop} {g g':Gh} {H':List HB} {w w' w2:World} (hs:St F g [] w) (hx:Ext F g [] w F' g' H' w') {B cap:Nat} {zs:List Int} (hB:w.heap.size≤B) (ha:Hr w' B w2) (hi:G6 w2 B zs) (hcap:zs.length≤cap) (hm:zs.length≤A4) (hr: ∀z ∈ zs,IntKind.i64.has z):
 ∃F2,R F2 g w2 (.sl .none (Cj zs)) (.slice (some ⟨B,0,none⟩) zs.length cap)∧St F2 g [] w2∧Ext F g [] w F2 g [] w2:=by
 have hBl:B < w2.heap.size:=by
  obtain⟨cur,e,h1,_⟩:=hi
  exact (Array.getElem?_eq_some_iff.1 h1).1
 have hcell: ∀a,F a→w2.cell? a=w.cell? a:=fun a ha'=>by
  have hlt:=hs.live a ha'
  have h1:w2.heap[a.block]? =w'.heap[a.block]?:=ha.heap a.block (Nat.lt_of_lt_of_le hlt hx.size) (by omega)
  exact (Fs h1).trans (hx.keep a ha')
 refine⟨fun a=>F a∨(a.block=B∧a.spot=none),?_,?_,?_⟩
 · simp only[R]
   refine⟨by simpa using hm,.inr ⟨B,0,none,cap,1,by simp,by simpa using hcap,⟨by omega,by simp⟩,?_,trivial⟩⟩
   have key: ∀(l:List Int) (k:Nat),(∀ j z,l[j]? =some z→zs[k+j]? =some z)→RE (fun a=>F a∨(a.block=B∧a.spot=none)) g w2 B k 1 (Cj l):=by
    intro l
    induction l with
    | nil=>intro k _;simp[Cj,RE]
    | cons z l ih=>
      intro k hk
      have h0:zs[k]? =some z:=by simpa using hk 0 z rfl
      have hmem:z ∈ zs:=List.mem_of_getElem? h0
      show RE _ _ _ _ _ _ ([.int .i64 z] :: Cj l)
      simp only[RE,RM]
      exact⟨rfl,⟨⟨rfl,.int .i64 z,.inr ⟨trivial,trivial⟩,hi.get h0,by simp only[R]; exact⟨trivial,hr z hmem⟩⟩,trivial⟩,ih (k+1) fun j y hy=>by
       have:=hk (j+1) y (by simpa using hy)
       rwa [show k+1+j=k+(j+1) by omega]⟩
   exact key zs 0 fun j z h=>by simpa using h
 · refine⟨fun a h=>?_,hs.beyond,hs.inj,fun b cs h=>by simp at h,fun t n k ty h=>by simp at h,fun b off s h=>?_,fun b e cs h=>by simp at h,fun b ks h=>by simp at h⟩
   · rcases h with h | h
     · exact Nat.lt_of_lt_of_le (hs.live a h) (Nat.le_trans hx.size ha.size)
     · rw[h.1]; exact hBl
   · rcases h with h | h
     · exact hs.spots b off s h
     · exact absurd h.2 (by simp)
 · refine⟨fun a h=>.inl h,hcell,Gh.le_refl g,Nat.le_trans hx.size ha.size,fun X hX hn=>?_,fun a h=>?_,fun b X hb h=>.inl ⟨hb,h⟩,Nat.le_refl _,ha.io.1.trans hx.io.1,ha.io.2.trans hx.io.2⟩
   · exact (ha.heap X (Nat.lt_of_lt_of_le hX hx.size) (by omega)).trans (hx.frame X hX hn)
   · rcases h with h | h
     · exact .inl h
     · exact .inr (.inl (by rw[h.1]; exact hB))
theorem A1x {F F':Addr→Prop} {g g':Gh} {H':List HB} {w w':World} (hs:St F g [] w) (hx:Ext F g [] w F' g' H' w'):St F g [] w'∧Ext F g [] w F g [] w':=
 ⟨⟨fun a h=>Nat.lt_of_lt_of_le (hs.live a h) hx.size,hs.beyond,hs.inj,fun b cs h=>by simp at h,fun t n k ty h=>by simp at h,hs.spots,fun b e cs h=>by simp at h,fun b ks h=>by simp at h⟩,
  ⟨fun a h=>h,hx.keep,Gh.le_refl g,hx.size,hx.frame,fun a h=>.inl h,fun b X hb h=>.inl ⟨hb,h⟩,Nat.le_refl _,hx.io⟩⟩
theorem own_ints {F:Addr→Prop} {g:Gh} {H:List HB} {w:World} (hs:St F g H w) {t:Nat} {zs:List Int} (hne:zs≠[]) (ht:H[t]? =some (.tok zs.length 1 3)) {v:Value} (hv:R F g w (.sl (.own t) (Cj zs)) v):
 ∃B cap,v= .slice (some ⟨B,0,none⟩) zs.length cap∧zs.length≤cap∧g.blk t=some B∧zs.length≤A4∧G6 w B zs:=by
 obtain⟨hmax,h | ⟨D,off,sp,cap,k,rfl,c1,c2,c3,c4⟩⟩:=Ep hv
 · exact absurd h.1 (by simpa[Cj] using hne)
 simp only[Aqn] at hmax c1 c4
 obtain⟨m,c,r1,r2,r3⟩:=c4
 obtain⟨X,cx,ws,el,fr,s1,s2,s3,⟨s4,s5,s6,s7⟩,s8,s9⟩:=hs.tok t _ _ _ ht
 rw[s2] at r1;cases r1
 obtain⟨d1,d2,d3,d4⟩:=r3 rfl
 rw[s1] at d1;cases d1
 simp only at d2 d4;subst d2 d3 d4
 obtain rfl:el=3:=s6 (by decide)
 obtain rfl:=s7 (.inr rfl)
 refine⟨D,cap,by rw[Aqn],c1,s1,hmax,ws,3,s3,?_⟩
 apply List.ext_getElem?
 intro j
 by_cases hj:j < zs.length
 · rw[List.getElem?_take_of_lt hj]
   obtain⟨e1,e2⟩:=Sh c3 j [.int .i64 zs[j]] (by simp[Cj,hj])
   have hk1:k=1:=by simpa using e1.symm
   subst hk1
   simp only[RM,Nat.mul_one,Nat.zero_add] at e2
   obtain⟨⟨_,v,_,f2,f3⟩,_⟩:=e2
   rw[(E1 f3).1] at f2
   simp only[World.cell?,s3,Option.isSome_none,Bool.false_eq_true,if_false] at f2
   rw[Array.getElem?_toList,f2]
   simp[hj]
 · rw[List.getElem?_take_eq_none (by omega),List.getElem?_eq_none (by simp;omega)]
structure V6 where
 a:Value
 b:Value
 c:Value
 d:Value
 e:Value
 f:Value
 h:a.oneCell'=true∧b.oneCell'=true∧c.oneCell'=true∧d.oneCell'=true∧e.oneCell'=true∧f.oneCell'=true
def Cs (x:V6):List Value:=[x.a,x.b,x.c,x.d,x.e,x.f]
instance:Inhabited V6:=⟨⟨.int .i64 0,.int .i64 0,.int .i64 0,.int .i64 0,.int .i64 0,.int .i64 0,by decide⟩⟩
theorem Ta (x:V6):(Cs x).length=6:=rfl
theorem Ap9 (x:V6): ∀v ∈ Cs x,v.oneCell'=true:=by
 obtain⟨h1,h2,h3,h4,h5,h6⟩:=x.h
 intro v hv
 simp only[Cs,List.mem_cons,List.not_mem_nil,or_false] at hv
 rcases hv with rfl | rfl | rfl | rfl | rfl | rfl<;>assumption
section
variable {F:Addr→Prop} {g:Gh} {w:World}
theorem U6 {k:IntKind} {n:Int} {v:Value} (h:R F g w (.int k n) v):v.oneCell'=true:=by rw[(E1 h).1]; rfl
theorem An0 {s:List UInt8} {v:Value} (h:R F g w (.str s) v):v.oneCell'=true:=by simp only[R] at h;rw[h.1]; rfl
theorem Qa {t:Tok} {l:List (List AV)} {v:Value} (h:R F g w (.sl t l) v):v.oneCell'=true:=by
 obtain⟨_,h | ⟨_,_,_,_,_,h,_⟩⟩:=Ep h
 · rw[h.2.1]; rfl
 · rw[h]; rfl
theorem Ao0 {B:Nat} : ∀(l:List Cn) (off:Nat),RE F g w B off 6 (l.map Ai)→∃ds:List V6,ds.length=l.length∧∀i c,l[i]? =some c→∃x,ds[i]? =some x∧RL F g w (Ai c) (Cs x)∧∀j u,(Cs x)[j]? =some u→w.cell? ⟨B,off+i * 6+j,none⟩=some u
 | [],_,_=>⟨[],rfl,fun i c h=>by simp at h⟩
 | c :: l,off,h=>by
   simp only[List.map_cons,RE] at h
   obtain⟨_,h1,h2⟩:=h
   obtain⟨ds,e1,e2⟩:=Ao0 l (off+6) h2
   rw[Ac] at h1
   simp only[RM] at h1
   obtain⟨⟨_,v0,_,c0,r0⟩,⟨_,v1,_,c1,r1⟩,⟨_,v2,_,c2,r2⟩,⟨_,v3,_,c3,r3⟩,⟨_,v4,_,c4,r4⟩,⟨_,v5,_,c5,r5⟩, -⟩:=h1
   refine⟨⟨v0,v1,v2,v3,v4,v5,U6 r0,U6 r1,An0 r2,Qa r3,Qa r4,Qa r5⟩ :: ds,by simp[e1],fun i c' hi=>?_⟩
   cases i with
   | zero=>
     simp only[List.getElem?_cons_zero,Option.some.injEq] at hi
     subst hi
     refine⟨_,rfl,?_,fun j u hj=>?_⟩
     · rw[Ac]
       exact⟨_,_,rfl,r0,_,_,rfl,r1,_,_,rfl,r2,_,_,rfl,r3,_,_,rfl,r4,_,_,rfl,r5,rfl⟩
     · match j,hj with
       | 0,hj=>cases hj;simpa using c0
       | 1,hj=>cases hj;simpa using c1
       | 2,hj=>cases hj;simpa using c2
       | 3,hj=>cases hj;simpa using c3
       | 4,hj=>cases hj;simpa using c4
       | 5,hj=>cases hj;simpa using c5
       | j+6,hj=>simp[Cs] at hj
   | succ i=>
     obtain⟨x,q1,q2,q3⟩:=e2 i c' (by simpa using hi)
     refine⟨x,by simpa using q1,q2,fun j u hj=>?_⟩
     have:=q3 j u hj
     rwa [show off+(i+1) * 6+j=off+6+i * 6+j by omega]
end
theorem Af8 (ds:List V6) {j:Nat} {u:Value} (h:(flatK Cs 6 ds.toArray).toList[j]? =some u): ∃x,ds[j / 6]? =some x∧(Cs x)[j % 6]? =some u:=by
 have hj:j < ds.length * 6:=by
  have:=(List.getElem?_eq_some_iff.1 h).1
  simpa using this
 have hd:j / 6 < ds.length:=by omega
 have e:(flatK Cs 6 ds.toArray).toList[j]? =some (flatK Cs 6 ds.toArray)[j]!:=by
  rw[Array.getElem?_toList,getElem!_pos _ j (by simpa using hj),Array.getElem?_eq_getElem (by simpa using hj)]
 rw[e,get_flatK _ _ _ _ (by simpa using hj)] at h
 refine⟨ds[j / 6],by rw[List.getElem?_eq_getElem hd],?_⟩
 have h2:(ds.toArray)[j / 6]! =ds[j / 6]:=by simp[hd]
 rw[h2] at h
 rw[List.getElem?_eq_getElem (by rw[Ta]; omega)]
 rw[getElem!_pos (Cs ds[j / 6]) (j % 6) (by rw[Ta]; omega)] at h
 exact h
theorem Atz (B off cap:Nat) (ds:List V6) (w:World) (hn:ds.length≤1073741824) (hc: ∀i x,ds[i]? =some x→∀j u,(Cs x)[j]? =some u→w.cell? ⟨B,off+i * 6+j,none⟩=some u):
 Calls Tryz.prog 83 #[.slice (some ⟨B,off,none⟩) ds.length cap] w fun e w'=>∃g cap',e= .returned (.slice (some ⟨g,0,none⟩) ds.length cap')∧w.heap.size≤g∧g < w'.heap.size∧ds.length≤cap'∧(∀ X,X < w.heap.size→w'.heap[X]? =w.heap[X]?)∧w'.os=w.os∧w'.output=w.output∧w.heap.size≤w'.heap.size∧
  HoldsK Cs 6 w' g 0 ds.reverse.toArray:=by
 have hcl:Calls Tryz.prog 130 #[.slice (some ⟨B,off,none⟩) ds.length cap] w fun e w'=>∃v',e= .returned v'∧w'.ownsRow w.heap.size 28 6 v' ds.length (flatK Cs 6 ds.toArray).toList∧v'≠.slice none 0 0∧Below w.heap.size w w':=
  AnyE.slices_Clone Tryz.lays41 Tryz.t28 (.agg #[.int .i64 0,.int .i64 0,.string ⟨#[]⟩,.slice none 0 0,.slice none 0 0,.slice none 0 0]) 6 104 (by kernel_rfl) (by kernel_rfl) (by kernel_rfl) (by kernel_rfl) (by kernel_rfl) (by decide) Tryz.sizeOf28 B off ds.length cap (flatK Cs 6 ds.toArray).toList w (by simp) (by simp only[maxLen]; omega)
   (by omega)
   (fun j u hj=>by
    obtain⟨x,h1,h2⟩:=Af8 ds hj
    have:=hc _ _ h1 _ _ h2
    rwa [show off+j / 6 * 6+j % 6=off+j by omega] at this)
   (fun u hu=>by
    obtain⟨j,hj⟩:=List.mem_iff_getElem?.1 hu
    obtain⟨x,_,h2⟩:=Af8 ds hj
    exact Ap9 x u (List.mem_of_getElem? h2))
 go_enter Tryz.func83,Tryz.ntmps83
 go_wp2_with (go_at_call 130;refine hcl.mono ?_)
 rintro e w1 ⟨v',rfl,hown,hnn,hbel⟩
 rcases hown.2 with⟨hnil,_⟩ | ⟨g,cap',cur,rfl,hbase,hb,h1,h2,h3,h4⟩
 · exact absurd hnil hnn
 have hH:HoldsK Cs 6 w1 g 0 ds.toArray:=by
  intro j hj
  rw[size_flatK] at hj
  have hj':j < (flatK Cs 6 ds.toArray).toList.length:=by simpa using hj
  refine⟨?_,by simp[World.frozen?,hb]⟩
  have h5:(cur.toList.take (ds.length * 6))[j]? =(flatK Cs 6 ds.toArray).toList[j]?:=by rw[h4]
  rw[List.getElem?_take_of_lt (by simpa using hj)] at h5
  simp only[World.cell?,hb,Nat.zero_add,Option.isSome_none,Bool.false_eq_true,if_false]
  rw[← Array.getElem?_toList,h5,Array.getElem?_toList,getElem!_pos _ j (by simpa using hj),Array.getElem?_eq_getElem (by simpa using hj)]
  rfl
 have hrv: ∀n,n=ds.length→Calls Tryz.prog 131 #[.slice (some ⟨g,0,none⟩) n cap'] w1 fun e w'=>e= .returned (.tuple #[])∧∃n,w'=putRowK Cs 6 (Sort.ahead w1 n) g 0 ds.toArray.reverse:=fun n hn'=>by
  subst hn'
  exact AnyQ.slices_Reverse Tryz.lays35 6 Tryz.isAgg28 Tryz.sizeOf28 Cs Ta Ap9 g 0 cap' ds.toArray w1 hH (by simp;omega)
 have hg:g < w1.heap.size:=(Array.getElem?_eq_some_iff.1 hb).1
 have hfin: ∀q,(fun e w'=>∃g cap',e=Ending.returned (.slice (some ⟨g,0,none⟩) ds.length cap')∧w.heap.size≤g∧g < w'.heap.size∧ds.length≤cap'∧(∀ X,X < w.heap.size→w'.heap[X]? =w.heap[X]?)∧w'.os=w.os∧w'.output=w.output∧w.heap.size≤w'.heap.size∧
  HoldsK Cs 6 w' g 0 ds.reverse.toArray) (Ending.returned (.slice (some ⟨g,0,none⟩) ds.length cap')) (putRowK Cs 6 (Sort.ahead w1 q) g 0 ds.toArray.reverse):=fun q=>by
  have hs:(putRowK Cs 6 (Sort.ahead w1 q) g 0 ds.toArray.reverse).heap.size=w1.heap.size:=by simp[putRowK,putRow,mapBlock,Sort.ahead]
  refine⟨g,cap',rfl,hbase,by rw[hs]; exact hg,h1,fun X hX=>?_,hbel.os,hbel.output,by rw[hs]; exact hbel.size,?_⟩
  · rw[← hbel.block X hX]
    have:g≠X:=by omega
    simp[putRowK,putRow,mapBlock,Sort.ahead,Array.getElem?_modify,this]
  · have:=holdsK_putRowK Cs 6 (Sort.ahead w1 q) g 0 ds.toArray ds.toArray.reverse (holdsK_ahead Cs 6 w1 q g 0 ds.toArray hH) (by simp)
    simpa using this
 clear hcl hown hnn hbel hH hc h1 h2 h3 h4 hb hbase
 go_wp2_with (go_at_call 131;refine (hrv _ rfl).mono ?_)
 rintro e w2 ⟨rfl,q,rfl⟩
 have hq:=hfin q
 clear hfin hrv
 go_wp2
 go_ret
 rw[List.reverse_toArray] at hq
 exact hq
end Go.Proofs.YtemdkfnenjpioaaGreatDoor
