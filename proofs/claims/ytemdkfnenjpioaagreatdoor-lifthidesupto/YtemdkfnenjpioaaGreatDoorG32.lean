/- Joined: FW FX FY. -/
import Derived.Test.YtemdkfnenjpioaaGreatDoorG17
set_option linter.unusedSimpArgs false
set_option linter.unusedVariables false
set_option linter.unusedSectionVars false
set_option linter.all false
set_option maxHeartbeats 4000000
set_option maxRecDepth 10000
namespace Go.Proofs.YtemdkfnenjpioaaGreatDoor
open Go
attribute [local simp] Ar aev Ax A7 start AV.cells AV.undef Bc Be Bh Bl Bj AV.isCell Bf A1 Bi
attribute [local simp] fin A9 A8 Bb AV.strip Ay A5 AV.inScope Am A0 As
structure Ctr (S:Int→List HB) (p m:Nat):Prop where
 h:Hps S m
 lt:p < m
 get: ∀s,(S s)[p]? =some (.var [.int .i64 s])
 set: ∀s s',(S s).set p (.var [.int .i64 s'])=S s'
section
variable {S:Int→List HB} {p m:Nat}
theorem Ctr.getA (h:Ctr S p m) (s:Int) (L:List HB):(S s++L)[p]? =some (.var [.int .i64 s]):=by rw[h.h.low s L h.lt]; exact h.get s
theorem Ctr.setA (h:Ctr S p m) (s s':Int) (L:List HB):(S s++L).set p (.var [.int .i64 s'])=S s'++L:=by rw[h.h.setLow s L h.lt,h.set]
theorem Ctr.more (h:Ctr S p m) (L:List HB) (hs: ∀k,m+L.length≤k→As k L=true):Ctr (fun s=>S s++L) p (m+L.length) where
 h:=h.h.more L hs
 lt:=by have:=h.lt;omega
 get s:=h.getA s L
 set s s':=h.setA s s' L
end
mutual
def fk:Kd→Int→Bool × Int
 | .mk l,n=>if IntKind.i64.wrap (n - 1) < 0 then (false,IntKind.i64.wrap (n - 1)) else (!(fks l (IntKind.i64.wrap (n - 1))).1,(fks l (IntKind.i64.wrap (n - 1))).2)
def fks:List Kd→Int→Bool × Int
 | [],n=>(false,n)
 | x :: l,n=>if (fk x n).1=true then fks l (fk x n).2 else (true,(fk x n).2)
end
def fkn (x:Kd) (n:Int):Bool × Int:=(!(fk x n).1,(fk x n).2)
theorem Ajp: ∀(l:List Kd) (n:Int),fks l n=Bw fkn l n
 | [],n=>by simp[fks,Bw]
 | x :: l,n=>by
   have:=Ajp l
   rw[fks,Bw,fkn]
   cases h:(fk x n).1<;>simp[this]
theorem fk_eq (k:Kd) (n:Int):fk k n=if IntKind.i64.wrap (n - 1) < 0 then (false,IntKind.i64.wrap (n - 1)) else (!(Bw fkn k.l (IntKind.i64.wrap (n - 1))).1,(Bw fkn k.l (IntKind.i64.wrap (n - 1))).2):=by
 cases k;rw[fk]; simp[Ajp,Kd.l]
def FewK (k:Kd):Prop:=∀(S:Int→List HB) (p m:Nat),Ctr S p m→∀n,Ab Tryz.prog M1 [Ag k,.ptr p 0] (S n) (.bool (fk k n).1) (S (fk k n).2)
theorem Awr {S:Int→List HB} {p m q:Nat} (hC:Ctr S p m) (hq:q < m) (hv: ∀s,(S s)[q]? =some (.var [.ptr p 0])) (x:Kd) (hx:FewK x) (s:Int):Ab Tryz.prog Va [Ag x,.ptr q 0] (S s) (.bool (fkn x s).1) (S (fkn x s).2):=by
 have hm:=hx _ p _ (hC.more [.var (Ao x)] (fun k _=>by simp)) s
 have a1:=hC.h.len
 have a2:=hC.h.at0
 have a4: ∀s L,(S s++L)[q]? =some (.var [.ptr p 0]):=fun s L=>(hC.h.low s L hq).trans (hv s)
 have hsc:=fun s=>hC.h.sc s m (Nat.le_refl _)
 refine Ab.go mixed As5 (by simp[a1]) fun hfit Q hQ=>?_
 clear hfit
 simp -implicitDefEqProofs[Aho,Ag,Al x,a1,a2,a4]
 refine Br (by simpa[Ag,Al x] using hm) ?_
 simp -implicitDefEqProofs
 refine hQ _ _ _ ?_
 simp -implicitDefEqProofs[a1,hsc,fkn]
theorem A0a {S:Int→List HB} {p m q:Nat} (hC:Ctr S p m) (hq:q < m) (hv: ∀s,(S s)[q]? =some (.var [.ptr p 0])) (x:Kd) (hx:FewK x) (s:Int):Ab Tryz.prog Uq [Ag x,.ptr q 0] (S s) (.bool (fkn x s).1) (S (fkn x s).2):=by
 have hm:=hx _ p _ (hC.more [.var (Ao x)] (fun k _=>by simp)) s
 have a1:=hC.h.len
 have a2:=hC.h.at0
 have a4: ∀s L,(S s++L)[q]? =some (.var [.ptr p 0]):=fun s L=>(hC.h.low s L hq).trans (hv s)
 have hsc:=fun s=>hC.h.sc s m (Nat.le_refl _)
 refine Ab.go mixed Azd (by simp[a1]) fun hfit Q hQ=>?_
 clear hfit
 simp -implicitDefEqProofs[Aiu,Ag,Al x,a1,a2,a4]
 refine Br (by simpa[Ag,Al x] using hm) ?_
 simp -implicitDefEqProofs
 refine hQ _ _ _ ?_
 simp -implicitDefEqProofs[a1,hsc,fkn]
theorem Ay5 (k:Kd) (hrec: ∀x ∈ k.l,FewK x):FewK k:=by
 intro S p m hC n
 have key:=fk_eq k n
 have a1:=hC.h.len
 have a2:=hC.h.at0
 have a3:=hC.h.get
 have a4:=hC.getA
 have a5:=hC.setA
 have hsc:=fun s=>hC.h.sc s m (Nat.le_refl _)
 have hlt:=hC.lt
 have hM:=hC.more [.var (Ao k),.var [.ptr p 0]] (fun k hk=>by simp at hk;simp[As,Am,AV.inScope]; omega)
 have hany:=fun s=>Aj0 hM.h k.l fkn Va [.ptr (m+1) 0] (by simp[Am,AV.inScope]) (fun x hx s=>Awr hM (by simp) (fun s=>by simpa using a3 s [.var (Ao k),.var [.ptr p 0]] 1) x (hrec x hx) s) s
 generalize hn1:IntKind.i64.wrap (n - 1)=n1 at key
 specialize hany n1
 generalize Bw fkn k.l n1=r at key hany
 refine Ab.go mixed Aud (by simp[a1]) fun hfit Q hQ=>?_
 clear hfit
 simp -implicitDefEqProofs[Ao2,Ag,Al k,a1,a2,a3,a4,a5,hn1]
 by_cases h:n1 < 0
 · rw[if_pos h] at key
   have h': ¬0≤n1:=by omega
   simp -implicitDefEqProofs[h,h']
   refine hQ _ _ _ ?_
   simp -implicitDefEqProofs[key,a1,hsc]
 · rw[if_neg h] at key
   have h':0≤n1:=by omega
   simp -implicitDefEqProofs[h',a2,a3]
   refine Br (by simpa[Al k] using hany) ?_
   simp -implicitDefEqProofs
   refine hQ _ _ _ ?_
   simp -implicitDefEqProofs[key,a1,hsc]
theorem Sp (k:Kd):FewK k:=Ay5 k fun x _=>Sp x
termination_by SizeOf.sizeOf k
decreasing_by exact Kd.lt_l ‹_›
def fkl (l:List Kd) (n:Int):Bool × Int:=if l.length≤20 then (!(Bw fkn l n).1,(Bw fkn l n).2) else (false,n)
theorem Yq (l:List Kd) {S:Int→List HB} {p m:Nat} (hC:Ctr S p m) (n:Int):Ab Tryz.prog Qr [.sl .none (l.map Ao),.ptr p 0] (S n) (.bool (fkl l n).1) (S (fkl l n).2):=by
 have a1:=hC.h.len
 have a2:=hC.h.at0
 have hsc:=fun s=>hC.h.sc s m (Nat.le_refl _)
 have hlt:=hC.lt
 have hM:=hC.more [.var [.ptr p 0]] (fun k hk=>by simp at hk;simp[As,Am,AV.inScope]; omega)
 have hany:=Aj0 hM.h l fkn Uq [.ptr m 0] (by simp[Am,AV.inScope]) (fun x hx s=>A0a hM (by simp) (fun s=>by simpa using a2 s [.var [.ptr p 0]]) x (Sp x) s) n
 have key:fkl l n=if l.length≤20 then (!(Bw fkn l n).1,(Bw fkn l n).2) else (false,n):=rfl
 generalize fkl l n=z at key
 generalize Bw fkn l n=r at key hany
 refine Ab.go mixed Aru (by simp[a1]) fun hfit Q hQ=>?_
 clear hfit
 simp -implicitDefEqProofs[Agz,a1,a2]
 by_cases h:l.length≤20
 · rw[if_pos h] at key
   have h':(l.length:Int)≤20:=by omega
   simp -implicitDefEqProofs[h']
   refine Br (by simpa using hany) ?_
   simp -implicitDefEqProofs
   refine hQ _ _ _ ?_
   simp -implicitDefEqProofs[key,a1,hsc]
 · rw[if_neg h] at key
   have h': ¬(l.length:Int)≤20:=by omega
   simp -implicitDefEqProofs[h']
   refine hQ _ _ _ ?_
   simp -implicitDefEqProofs[key,a1,hsc]
end Go.Proofs.YtemdkfnenjpioaaGreatDoor
namespace Go.Proofs.YtemdkfnenjpioaaGreatDoor
open Go
attribute [local simp] Ar aev Ax A7 start AV.cells AV.undef Bc Be Bh Bl Bj AV.isCell Bf A1 Bi
attribute [local simp] fin A9 A8 Bb AV.strip Ay A5 AV.inScope Am A0 As
def Kg (l:List (List UInt8)):Bool:=l.any fun s=>decide (60 < s.length)
theorem Aq8 (s:List UInt8):Ab Tryz.prog Adb [.str s] [] (.bool (decide (60 < s.length))) []:=by
 refine Ab.go mixed Ay0 (by simp) fun hfit Q hQ=>?_
 clear hfit
 simp -implicitDefEqProofs[Aj9]
 by_cases h:60 < s.length
 · have h':(60:Int) < s.length:=by omega
   simp -implicitDefEqProofs[h,h']
   refine hQ _ _ _ ?_
   simp -implicitDefEqProofs[h,h']
 · have h': ¬(60:Int) < s.length:=by omega
   simp -implicitDefEqProofs[h,h']
   refine hQ _ _ _ ?_
   simp -implicitDefEqProofs[h,h']
theorem Awk (s:List UInt8):Ab Tryz.prog Zj [.str s] [] (.bool (decide (60 < s.length))) []:=by
 refine Ab.go mixed A08 (by simp) fun hfit Q hQ=>?_
 clear hfit
 simp -implicitDefEqProofs[Apb]
 by_cases h:60 < s.length
 · have h':(60:Int) < s.length:=by omega
   simp -implicitDefEqProofs[h,h']
   refine hQ _ _ _ ?_
   simp -implicitDefEqProofs[h,h']
 · have h': ¬(60:Int) < s.length:=by omega
   simp -implicitDefEqProofs[h,h']
   refine hQ _ _ _ ?_
   simp -implicitDefEqProofs[h,h']
theorem Awq (s:List UInt8):Ab Tryz.prog Abm [.str s] [] (.bool (decide (60 < s.length))) []:=by
 refine Ab.go mixed Ay2 (by simp) fun hfit Q hQ=>?_
 clear hfit
 simp -implicitDefEqProofs[Ako]
 by_cases h:60 < s.length
 · have h':(60:Int) < s.length:=by omega
   simp -implicitDefEqProofs[h,h']
   refine hQ _ _ _ ?_
   simp -implicitDefEqProofs[h,h']
 · have h': ¬(60:Int) < s.length:=by omega
   simp -implicitDefEqProofs[h,h']
   refine hQ _ _ _ ?_
   simp -implicitDefEqProofs[h,h']
mutual
def fc:Cn→Int→Int→Bool × Int
 | .mk _ _ s k ns l,n,d=>if IntKind.i64.wrap (n - 1) < 0∨60 < d∨60 < s.length∨20 < ns.length∨Kg ns=true then (false,IntKind.i64.wrap (n - 1)) else
   if (fk k (IntKind.i64.wrap (n - 1))).1=false then fk k (IntKind.i64.wrap (n - 1)) else
    (!(fcs l (fk k (IntKind.i64.wrap (n - 1))).2 (IntKind.i64.wrap (d+1))).1,(fcs l (fk k (IntKind.i64.wrap (n - 1))).2 (IntKind.i64.wrap (d+1))).2)
def fcs:List Cn→Int→Int→Bool × Int
 | [],n,_=>(false,n)
 | x :: l,n,d=>if (fc x n d).1=true then fcs l (fc x n d).2 d else (true,(fc x n d).2)
end
def fcn (d:Int) (x:Cn) (n:Int):Bool × Int:=(!(fc x n d).1,(fc x n d).2)
theorem Ah3: ∀(l:List Cn) (n d:Int),fcs l n d=Bw (fcn d) l n
 | [],n,d=>by simp[fcs,Bw]
 | x :: l,n,d=>by
   have:=fun n=>Ah3 l n d
   rw[fcs,Bw,fcn]
   cases h:(fc x n d).1<;>simp[this]
theorem fc_eq (c:Cn) (n d:Int):fc c n d=if IntKind.i64.wrap (n - 1) < 0∨60 < d∨60 < c.s.length∨20 < c.names.length∨Kg c.names=true then (false,IntKind.i64.wrap (n - 1)) else
 if (fk c.k (IntKind.i64.wrap (n - 1))).1=false then fk c.k (IntKind.i64.wrap (n - 1)) else
  (!(Bw (fcn (IntKind.i64.wrap (d+1))) c.l (fk c.k (IntKind.i64.wrap (n - 1))).2).1,(Bw (fcn (IntKind.i64.wrap (d+1))) c.l (fk c.k (IntKind.i64.wrap (n - 1))).2).2):=by
 cases c;rw[fc]; simp only[Ah3,Cn.s,Cn.k,Cn.names,Cn.l]; rfl
def FewC (c:Cn):Prop:=∀(S:Int→List HB) (p m:Nat),Ctr S p m→∀n d,Ab Tryz.prog M2 [Aa c,.ptr p 0,.int .i64 d] (S n) (.bool (fc c n d).1) (S (fc c n d).2)
theorem Au2 {S:Int→List HB} {p m q r:Nat} (hC:Ctr S p m) (hq:q < m) (hv: ∀s,(S s)[q]? =some (.var [.ptr p 0])) (d:Int) (hr:r < m) (hw: ∀s,(S s)[r]? =some (.var [.int .i64 d])) (x:Cn) (hx:FewC x) (s:Int):
 Ab Tryz.prog X3 [Aa x,.ptr q 0,.ptr r 0] (S s) (.bool (fcn (IntKind.i64.wrap (d+1)) x s).1) (S (fcn (IntKind.i64.wrap (d+1)) x s).2):=by
 have hm:=hx _ p _ (hC.more [.var (Ai x)] (fun k _=>by simp)) s (IntKind.i64.wrap (d+1))
 have a1:=hC.h.len
 have a2:=hC.h.at0
 have a4: ∀s L,(S s++L)[q]? =some (.var [.ptr p 0]):=fun s L=>(hC.h.low s L hq).trans (hv s)
 have a5: ∀s L,(S s++L)[r]? =some (.var [.int .i64 d]):=fun s L=>(hC.h.low s L hr).trans (hw s)
 have hsc:=fun s=>hC.h.sc s m (Nat.le_refl _)
 refine Ab.go mixed Awi (by simp[a1]) fun hfit Q hQ=>?_
 clear hfit
 simp -implicitDefEqProofs[Ai3,Aa,a1,a2,a4,a5]
 refine Br (by simpa[Aa] using hm) ?_
 simp -implicitDefEqProofs
 refine hQ _ _ _ ?_
 simp -implicitDefEqProofs[a1,hsc,fcn]
theorem A1l {S:Int→List HB} {p m q:Nat} (hC:Ctr S p m) (hq:q < m) (hv: ∀s,(S s)[q]? =some (.var [.ptr p 0])) (x:Cn) (hx:FewC x) (s:Int):
 Ab Tryz.prog Vi [Aa x,.ptr q 0] (S s) (.bool (fcn 0 x s).1) (S (fcn 0 x s).2):=by
 have hm:=hx _ p _ (hC.more [.var (Ai x)] (fun k _=>by simp)) s 0
 have a1:=hC.h.len
 have a2:=hC.h.at0
 have a4: ∀s L,(S s++L)[q]? =some (.var [.ptr p 0]):=fun s L=>(hC.h.low s L hq).trans (hv s)
 have hsc:=fun s=>hC.h.sc s m (Nat.le_refl _)
 refine Ab.go mixed Ava (by simp[a1]) fun hfit Q hQ=>?_
 clear hfit
 simp -implicitDefEqProofs[Aff,Aa,a1,a2,a4]
 refine Br (by simpa[Aa] using hm) ?_
 simp -implicitDefEqProofs
 refine hQ _ _ _ ?_
 simp -implicitDefEqProofs[a1,hsc,fcn]
theorem A09 (c:Cn) (hrec: ∀x ∈ c.l,FewC x):FewC c:=by
 intro S p m hC n d
 have key:=fc_eq c n d
 have a1:=hC.h.len
 have a2:=hC.h.at0
 have a3:=hC.h.get
 have a4:=hC.getA
 have a5:=hC.setA
 have hsc:=fun s=>hC.h.sc s m (Nat.le_refl _)
 have hlt:=hC.lt
 have hM:=hC.more [.var (Ai c),.var [.ptr p 0],.var [.int .i64 d]] (fun k hk=>by simp at hk;simp[As,Am,AV.inScope]; omega)
 have hany:=fun s=>Abw hM.h c.l (fcn (IntKind.i64.wrap (d+1))) X3 [.ptr (m+1) 0,.ptr (m+2) 0] (by simp[Am,AV.inScope])
  (fun x hx s=>Au2 hM (by simp) (fun s=>by simpa using a3 s [.var (Ai c),.var [.ptr p 0],.var [.int .i64 d]] 1) d (by simp) (fun s=>by simpa using a3 s [.var (Ai c),.var [.ptr p 0],.var [.int .i64 d]] 2) x (hrec x hx) s) s
 have hkd:=Sp c.k _ _ _ hM
 have hnm:=Tq c.names _ _ fun x _=>Aq8 x
 have hsl:(Af c.names).length=c.names.length:=by simp[Af]
 generalize hn1:IntKind.i64.wrap (n - 1)=n1 at key
 specialize hkd n1
 generalize fk c.k n1=a at key hkd
 specialize hany a.2
 generalize Bw (fcn (IntKind.i64.wrap (d+1))) c.l a.2=r at key hany
 have hl:Kg c.names=c.names.any fun s=>decide (60 < s.length):=rfl
 generalize (c.names.any fun s=>decide (60 < s.length))=lg at hl hnm
 rw[hl] at key
 clear hl
 refine Ab.go mixed Aw8 (by simp[a1]) fun hfit Q hQ=>?_
 clear hfit
 simp -implicitDefEqProofs[-A3,Ao8,Aa,Ac c]
 rw[A3]
 simp -implicitDefEqProofs[-A3,a1,a2,a3,a4,a5,hn1]
 rw[A3]
 simp -implicitDefEqProofs[-A3,a1,a2,a3,a4,a5,hn1]
 by_cases h1:n1 < 0
 · rw[if_pos (.inl h1)] at key
   simp -implicitDefEqProofs[h1,a3,a4]
   refine hQ _ _ _ ?_
   simp -implicitDefEqProofs[key,a1,hsc]
 by_cases h2:60 < d
 · rw[if_pos (.inr (.inl h2))] at key
   simp -implicitDefEqProofs[h1,h2,a3,a4]
   refine hQ _ _ _ ?_
   simp -implicitDefEqProofs[key,a1,hsc]
 by_cases h3:60 < c.s.length
 · rw[if_pos (.inr (.inr (.inl h3)))] at key
   have h3':(60:Int) < c.s.length:=by omega
   simp -implicitDefEqProofs[h1,h2,h3',a2,a3,a4]
   refine hQ _ _ _ ?_
   simp -implicitDefEqProofs[key,a1,hsc]
 have h3': ¬(60:Int) < c.s.length:=by omega
 by_cases h4:20 < c.names.length
 · rw[if_pos (.inr (.inr (.inr (.inl h4))))] at key
   have h4':(20:Int) < c.names.length:=by omega
   simp -implicitDefEqProofs[h1,h2,h3',h4',a2,a3,a4,hsl]
   refine hQ _ _ _ ?_
   simp -implicitDefEqProofs[key,a1,hsc]
 have h4': ¬(20:Int) < c.names.length:=by omega
 simp -implicitDefEqProofs[h1,h2,h3',h4',a2,a3,a4,hsl]
 refine Ah (hnm) (by simp) (by simp) (by simp[Ag,Aa,Ac,Al,Af,Kd.l]) ?_
 cases lg
 · rw[if_neg (by simp[h1,h2,h3,h4])] at key
   simp -implicitDefEqProofs[a2,a3,a4]
   refine Br (by simpa[Ag,Al,Ac c] using hkd) ?_
   obtain⟨b,n2⟩:=a
   simp only at key hany ⊢
   cases b
   · rw[if_pos rfl] at key
     simp -implicitDefEqProofs
     refine hQ _ _ _ ?_
     simp -implicitDefEqProofs[key,a1,hsc]
   · rw[if_neg (by simp)] at key
     simp -implicitDefEqProofs[a2,a3,a4]
     refine Br (by simpa[Ac c] using hany) ?_
     simp -implicitDefEqProofs
     refine hQ _ _ _ ?_
     simp -implicitDefEqProofs[key,a1,hsc]
 · rw[if_pos (by simp)] at key
   simp -implicitDefEqProofs[a2,a3,a4]
   refine hQ _ _ _ ?_
   simp -implicitDefEqProofs[key,a1,hsc]
theorem Si (c:Cn):FewC c:=A09 c fun x _=>Si x
termination_by SizeOf.sizeOf c
decreasing_by exact Cn.lt_l ‹_›
def fcl (l:List Cn) (n:Int):Bool × Int:=if l.length≤20 then (!(Bw (fcn 0) l n).1,(Bw (fcn 0) l n).2) else (false,n)
theorem Ajz (l:List Cn) {S:Int→List HB} {p m:Nat} (hC:Ctr S p m) (n:Int):Ab Tryz.prog Xi [.sl .none (l.map Ai),.ptr p 0] (S n) (.bool (fcl l n).1) (S (fcl l n).2):=by
 have a1:=hC.h.len
 have a2:=hC.h.at0
 have hsc:=fun s=>hC.h.sc s m (Nat.le_refl _)
 have hlt:=hC.lt
 have hM:=hC.more [.var [.ptr p 0]] (fun k hk=>by simp at hk;simp[As,Am,AV.inScope]; omega)
 have hany:=Abw hM.h l (fcn 0) Vi [.ptr m 0] (by simp[Am,AV.inScope]) (fun x hx s=>A1l hM (by simp) (fun s=>by simpa using a2 s [.var [.ptr p 0]]) x (Si x) s) n
 have key:fcl l n=if l.length≤20 then (!(Bw (fcn 0) l n).1,(Bw (fcn 0) l n).2) else (false,n):=rfl
 generalize fcl l n=z at key
 generalize Bw (fcn 0) l n=r at key hany
 refine Ab.go mixed Arv (by simp[a1]) fun hfit Q hQ=>?_
 clear hfit
 simp -implicitDefEqProofs[Afs,a1,a2]
 by_cases h:l.length≤20
 · rw[if_pos h] at key
   have h':(l.length:Int)≤20:=by omega
   simp -implicitDefEqProofs[h']
   refine Br (by simpa using hany) ?_
   simp -implicitDefEqProofs
   refine hQ _ _ _ ?_
   simp -implicitDefEqProofs[key,a1,hsc]
 · rw[if_neg h] at key
   have h': ¬(l.length:Int)≤20:=by omega
   simp -implicitDefEqProofs[h']
   refine hQ _ _ _ ?_
   simp -implicitDefEqProofs[key,a1,hsc]
end Go.Proofs.YtemdkfnenjpioaaGreatDoor
namespace Go.Proofs.YtemdkfnenjpioaaGreatDoor
open Go
attribute [local simp] Ar aev Ax A7 start AV.cells AV.undef Bc Be Bh Bl Bj AV.isCell Bf A1 Bi
attribute [local simp] fin A9 A8 Bb AV.strip Ay A5 AV.inScope Am A0 As
theorem Sm.lt_l' {c x:Sm} (h:x ∈ c.l):SizeOf.sizeOf x < SizeOf.sizeOf c:=by
 cases c;simp only[Sm.l] at h
 have:=List.sizeOf_lt_of_mem h
 simp;omega
def B7 (a:Bool × Int) (f:Int→Bool × Int):Bool × Int:=if a.1=true then f a.2 else a
mutual
def fs:Sm→Int→Int→Bool × Int
 | .mk _ _ s con k ks more ns l,n,d=>if (IntKind.i64.wrap (n - 1)) < 0∨60 < d∨60 < s.length∨20 < ns.length∨Kg ns=true then (false,(IntKind.i64.wrap (n - 1))) else B7 (fc con (IntKind.i64.wrap (n - 1)) 0) fun n=>B7 (fk k n) fun n=>B7 (fkl ks n) fun n=>B7 (fkl more n) fun n=>(!(fsl l n (IntKind.i64.wrap (d+1))).1,(fsl l n (IntKind.i64.wrap (d+1))).2)
def fsl:List Sm→Int→Int→Bool × Int
 | [],n,_=>(false,n)
 | x :: l,n,d=>if (fs x n d).1=true then fsl l (fs x n d).2 d else (true,(fs x n d).2)
end
def fsn (d:Int) (x:Sm) (n:Int):Bool × Int:=(!(fs x n d).1,(fs x n d).2)
theorem Aiw: ∀(l:List Sm) (n d:Int),fsl l n d=Bw (fsn d) l n
 | [],n,d=>by simp[fsl,Bw]
 | x :: l,n,d=>by
   have:=fun n=>Aiw l n d
   rw[fsl,Bw,fsn]
   cases h:(fs x n d).1<;>simp[this]
theorem fs_eq (c:Sm) (n d:Int):fs c n d=if (IntKind.i64.wrap (n - 1)) < 0∨60 < d∨60 < c.s.length∨20 < c.names.length∨Kg c.names=true then (false,(IntKind.i64.wrap (n - 1))) else B7 (fc c.con (IntKind.i64.wrap (n - 1)) 0) fun n=>B7 (fk c.k n) fun n=>B7 (fkl c.ks n) fun n=>B7 (fkl c.more n) fun n=>(!(Bw (fsn (IntKind.i64.wrap (d+1))) c.l n).1,(Bw (fsn (IntKind.i64.wrap (d+1))) c.l n).2):=by
 cases c;rw[fs]; simp only[Aiw,Sm.s,Sm.names,Sm.l,Sm.con,Sm.k,Sm.ks,Sm.more]; rfl
def X8 (c:Sm):Prop:=∀(S:Int→List HB) (p m:Nat),Ctr S p m→∀n d,Ab Tryz.prog Ss [An c,.ptr p 0,.int .i64 d] (S n) (.bool (fs c n d).1) (S (fs c n d).2)
theorem Atm {S:Int→List HB} {p m q r:Nat} (hC:Ctr S p m) (hq:q < m) (hv: ∀s,(S s)[q]? =some (.var [.ptr p 0])) (d:Int) (hr:r < m) (hw: ∀s,(S s)[r]? =some (.var [.int .i64 d])) (x:Sm) (hx:X8 x) (s:Int):
 Ab Tryz.prog X0 [An x,.ptr q 0,.ptr r 0] (S s) (.bool (fsn (IntKind.i64.wrap (d+1)) x s).1) (S (fsn (IntKind.i64.wrap (d+1)) x s).2):=by
 have hm:=hx _ p _ (hC.more [.var (B6 x)] (fun k _=>by simp)) s (IntKind.i64.wrap (d+1))
 have a1:=hC.h.len
 have a2:=hC.h.at0
 have a4: ∀s L,(S s++L)[q]? =some (.var [.ptr p 0]):=fun s L=>(hC.h.low s L hq).trans (hv s)
 have a5: ∀s L,(S s++L)[r]? =some (.var [.int .i64 d]):=fun s L=>(hC.h.low s L hr).trans (hw s)
 have hsc:=fun s=>hC.h.sc s m (Nat.le_refl _)
 refine Ab.go mixed Arc (by simp[a1]) fun hfit Q hQ=>?_
 clear hfit
 simp -implicitDefEqProofs[Akl,An,a1,a2,a4,a5]
 refine Br (by simpa[An] using hm) ?_
 simp -implicitDefEqProofs
 refine hQ _ _ _ ?_
 simp -implicitDefEqProofs[a1,hsc,fsn]
theorem As1 (c:Sm) (hrec: ∀x ∈ c.l,X8 x):X8 c:=by
 intro S p m hC n d
 have key:=fs_eq c n d
 have a1:=hC.h.len
 have a2:=hC.h.at0
 have a3:=hC.h.get
 have a4:=hC.getA
 have a5:=hC.setA
 have hsc:=fun s=>hC.h.sc s m (Nat.le_refl _)
 have hlt:=hC.lt
 have hM:=hC.more [.var (B6 c),.var [.ptr p 0],.var [.int .i64 d]] (fun k hk=>by simp at hk;simp[As,Am,AV.inScope]; omega)
 have hany:=fun s=>Axc hM.h c.l (fsn (IntKind.i64.wrap (d+1))) X0 [.ptr (m+1) 0,.ptr (m+2) 0] (by simp[Am,AV.inScope])
  (fun x hx s=>Atm hM (by simp) (fun s=>by simpa using a3 s [.var (B6 c),.var [.ptr p 0],.var [.int .i64 d]] 1) d (by simp) (fun s=>by simpa using a3 s [.var (B6 c),.var [.ptr p 0],.var [.int .i64 d]] 2) x (hrec x hx) s) s
 have hnm:=Tq c.names _ _ fun x _=>Awk x
 have hsl:(Af c.names).length=c.names.length:=by simp[Af]
 generalize hn1:IntKind.i64.wrap (n - 1)=n1 at key
 have hl:Kg c.names=c.names.any fun s=>decide (60 < s.length):=rfl
 generalize (c.names.any fun s=>decide (60 < s.length))=lg at hl hnm
 rw[hl] at key
 clear hl
 refine Ab.go mixed A2t (by simp[a1]) fun hfit Q hQ=>?_
 clear hfit
 simp -implicitDefEqProofs[-A3,Ah2,An,Ak c]
 rw[A3]
 simp -implicitDefEqProofs[-A3,a1,a2,a3,a4,a5,hn1]
 rw[A3]
 simp -implicitDefEqProofs[-A3,a1,a2,a3,a4,a5,hn1]
 by_cases h1:n1 < 0
 · rw[if_pos (.inl h1)] at key
   simp -implicitDefEqProofs[h1,a3,a4]
   refine hQ _ _ _ ?_
   simp -implicitDefEqProofs[key,a1,hsc]
 by_cases h2:60 < d
 · rw[if_pos (.inr (.inl h2))] at key
   simp -implicitDefEqProofs[h1,h2,a3,a4]
   refine hQ _ _ _ ?_
   simp -implicitDefEqProofs[key,a1,hsc]
 by_cases h3:60 < c.s.length
 · rw[if_pos (.inr (.inr (.inl h3)))] at key
   have h3':(60:Int) < c.s.length:=by omega
   simp -implicitDefEqProofs[h1,h2,h3',a2,a3,a4]
   refine hQ _ _ _ ?_
   simp -implicitDefEqProofs[key,a1,hsc]
 have h3': ¬(60:Int) < c.s.length:=by omega
 by_cases h4:20 < c.names.length
 · rw[if_pos (.inr (.inr (.inr (.inl h4))))] at key
   have h4':(20:Int) < c.names.length:=by omega
   simp -implicitDefEqProofs[h1,h2,h3',h4',a2,a3,a4,hsl]
   refine hQ _ _ _ ?_
   simp -implicitDefEqProofs[key,a1,hsc]
 have h4': ¬(20:Int) < c.names.length:=by omega
 simp -implicitDefEqProofs[h1,h2,h3',h4',a2,a3,a4,hsl]
 refine Ah (hnm) (by simp) (by simp) (by simp[Ag,Aa,Ac,Al,Af,Kd.l]) ?_
 cases lg
 case true=>
  rw[if_pos (by simp)] at key
  simp -implicitDefEqProofs[a2,a3,a4]
  refine hQ _ _ _ ?_
  simp -implicitDefEqProofs[key,a1,hsc]
 rw[if_neg (by simp[h1,h2,h3,h4])] at key
 simp -implicitDefEqProofs[a2,a3,a4]
 have hk0:=Si c.con _ _ _ hM n1 0
 generalize fc c.con n1 0=r0 at key hk0
 obtain⟨b0,m0⟩:=r0
 refine Br (by simpa[Ag,Al,Aa,Ac,Ak c] using hk0) ?_
 cases b0
 · rw[B7,if_neg (by simp)] at key
   simp -implicitDefEqProofs[a2,a3,a4]
   refine hQ _ _ _ ?_
   simp -implicitDefEqProofs[key,a1,hsc]
 rw[B7,if_pos rfl] at key
 simp only at key ⊢
 simp -implicitDefEqProofs[a2,a3,a4]
 have hk1:=Sp c.k _ _ _ hM m0
 generalize fk c.k m0=r1 at key hk1
 obtain⟨b1,m1⟩:=r1
 refine Br (by simpa[Ag,Al,Aa,Ac,Ak c] using hk1) ?_
 cases b1
 · rw[B7,if_neg (by simp)] at key
   simp -implicitDefEqProofs[a2,a3,a4]
   refine hQ _ _ _ ?_
   simp -implicitDefEqProofs[key,a1,hsc]
 rw[B7,if_pos rfl] at key
 simp only at key ⊢
 simp -implicitDefEqProofs[a2,a3,a4]
 have hk2:=Yq c.ks hM m1
 generalize fkl c.ks m1=r2 at key hk2
 obtain⟨b2,m2⟩:=r2
 refine Br (by simpa[Ag,Al,Aa,Ac,Ak c] using hk2) ?_
 cases b2
 · rw[B7,if_neg (by simp)] at key
   simp -implicitDefEqProofs[a2,a3,a4]
   refine hQ _ _ _ ?_
   simp -implicitDefEqProofs[key,a1,hsc]
 rw[B7,if_pos rfl] at key
 simp only at key ⊢
 simp -implicitDefEqProofs[a2,a3,a4]
 have hk3:=Yq c.more hM m2
 generalize fkl c.more m2=r3 at key hk3
 obtain⟨b3,m3⟩:=r3
 refine Br (by simpa[Ag,Al,Aa,Ac,Ak c] using hk3) ?_
 cases b3
 · rw[B7,if_neg (by simp)] at key
   simp -implicitDefEqProofs[a2,a3,a4]
   refine hQ _ _ _ ?_
   simp -implicitDefEqProofs[key,a1,hsc]
 rw[B7,if_pos rfl] at key
 simp only at key ⊢
 simp -implicitDefEqProofs[a2,a3,a4]
 have hany:=hany m3
 generalize Bw (fsn (IntKind.i64.wrap (d+1))) c.l m3=r at key hany
 refine Br (by simpa[Ak c] using hany) ?_
 simp -implicitDefEqProofs
 refine hQ _ _ _ ?_
 simp -implicitDefEqProofs[key,a1,hsc]
theorem Z1 (c:Sm):X8 c:=As1 c fun x _=>Z1 x
termination_by SizeOf.sizeOf c
decreasing_by exact Sm.lt_l' ‹_›
mutual
def ft:Te→Int→Int→Bool × Int
 | .mk _ _ s con tto k ns l,n,d=>if (IntKind.i64.wrap (n - 1)) < 0∨60 < d∨200 < s.length∨20 < ns.length∨Kg ns=true then (false,(IntKind.i64.wrap (n - 1))) else B7 (fc con (IntKind.i64.wrap (n - 1)) 0) fun n=>B7 (fc tto n 0) fun n=>B7 (fk k n) fun n=>(!(ftl l n (IntKind.i64.wrap (d+1))).1,(ftl l n (IntKind.i64.wrap (d+1))).2)
def ftl:List Te→Int→Int→Bool × Int
 | [],n,_=>(false,n)
 | x :: l,n,d=>if (ft x n d).1=true then ftl l (ft x n d).2 d else (true,(ft x n d).2)
end
def ftn (d:Int) (x:Te) (n:Int):Bool × Int:=(!(ft x n d).1,(ft x n d).2)
theorem Aih: ∀(l:List Te) (n d:Int),ftl l n d=Bw (ftn d) l n
 | [],n,d=>by simp[ftl,Bw]
 | x :: l,n,d=>by
   have:=fun n=>Aih l n d
   rw[ftl,Bw,ftn]
   cases h:(ft x n d).1<;>simp[this]
theorem ft_eq (c:Te) (n d:Int):ft c n d=if (IntKind.i64.wrap (n - 1)) < 0∨60 < d∨200 < c.s.length∨20 < c.names.length∨Kg c.names=true then (false,(IntKind.i64.wrap (n - 1))) else B7 (fc c.con (IntKind.i64.wrap (n - 1)) 0) fun n=>B7 (fc c.to n 0) fun n=>B7 (fk c.k n) fun n=>(!(Bw (ftn (IntKind.i64.wrap (d+1))) c.l n).1,(Bw (ftn (IntKind.i64.wrap (d+1))) c.l n).2):=by
 cases c;rw[ft]; simp only[Aih,Te.s,Te.names,Te.l,Te.con,Te.to,Te.k]; rfl
def Yr (c:Te):Prop:=∀(S:Int→List HB) (p m:Nat),Ctr S p m→∀n d,Ab Tryz.prog T2 [Ae c,.ptr p 0,.int .i64 d] (S n) (.bool (ft c n d).1) (S (ft c n d).2)
theorem Ayn {S:Int→List HB} {p m q r:Nat} (hC:Ctr S p m) (hq:q < m) (hv: ∀s,(S s)[q]? =some (.var [.ptr p 0])) (d:Int) (hr:r < m) (hw: ∀s,(S s)[r]? =some (.var [.int .i64 d])) (x:Te) (hx:Yr x) (s:Int):
 Ab Tryz.prog Yf [Ae x,.ptr q 0,.ptr r 0] (S s) (.bool (ftn (IntKind.i64.wrap (d+1)) x s).1) (S (ftn (IntKind.i64.wrap (d+1)) x s).2):=by
 have hm:=hx _ p _ (hC.more [.var (Bm x)] (fun k _=>by simp)) s (IntKind.i64.wrap (d+1))
 have a1:=hC.h.len
 have a2:=hC.h.at0
 have a4: ∀s L,(S s++L)[q]? =some (.var [.ptr p 0]):=fun s L=>(hC.h.low s L hq).trans (hv s)
 have a5: ∀s L,(S s++L)[r]? =some (.var [.int .i64 d]):=fun s L=>(hC.h.low s L hr).trans (hw s)
 have hsc:=fun s=>hC.h.sc s m (Nat.le_refl _)
 refine Ab.go mixed Ax4 (by simp[a1]) fun hfit Q hQ=>?_
 clear hfit
 simp -implicitDefEqProofs[Alm,Ae,a1,a2,a4,a5]
 refine Br (by simpa[Ae] using hm) ?_
 simp -implicitDefEqProofs
 refine hQ _ _ _ ?_
 simp -implicitDefEqProofs[a1,hsc,ftn]
theorem Axu (c:Te) (hrec: ∀x ∈ c.l,Yr x):Yr c:=by
 intro S p m hC n d
 have key:=ft_eq c n d
 have a1:=hC.h.len
 have a2:=hC.h.at0
 have a3:=hC.h.get
 have a4:=hC.getA
 have a5:=hC.setA
 have hsc:=fun s=>hC.h.sc s m (Nat.le_refl _)
 have hlt:=hC.lt
 have hM:=hC.more [.var (Bm c),.var [.ptr p 0],.var [.int .i64 d]] (fun k hk=>by simp at hk;simp[As,Am,AV.inScope]; omega)
 have hany:=fun s=>Arq hM.h c.l (ftn (IntKind.i64.wrap (d+1))) Yf [.ptr (m+1) 0,.ptr (m+2) 0] (by simp[Am,AV.inScope])
  (fun x hx s=>Ayn hM (by simp) (fun s=>by simpa using a3 s [.var (Bm c),.var [.ptr p 0],.var [.int .i64 d]] 1) d (by simp) (fun s=>by simpa using a3 s [.var (Bm c),.var [.ptr p 0],.var [.int .i64 d]] 2) x (hrec x hx) s) s
 have hnm:=Tq c.names _ _ fun x _=>Awq x
 have hsl:(Af c.names).length=c.names.length:=by simp[Af]
 generalize hn1:IntKind.i64.wrap (n - 1)=n1 at key
 have hl:Kg c.names=c.names.any fun s=>decide (60 < s.length):=rfl
 generalize (c.names.any fun s=>decide (60 < s.length))=lg at hl hnm
 rw[hl] at key
 clear hl
 refine Ab.go mixed Atc (by simp[a1]) fun hfit Q hQ=>?_
 clear hfit
 simp -implicitDefEqProofs[-A3,Aoi,Ae,Aj c]
 rw[A3]
 simp -implicitDefEqProofs[-A3,a1,a2,a3,a4,a5,hn1]
 rw[A3]
 simp -implicitDefEqProofs[-A3,a1,a2,a3,a4,a5,hn1]
 by_cases h1:n1 < 0
 · rw[if_pos (.inl h1)] at key
   simp -implicitDefEqProofs[h1,a3,a4]
   refine hQ _ _ _ ?_
   simp -implicitDefEqProofs[key,a1,hsc]
 by_cases h2:60 < d
 · rw[if_pos (.inr (.inl h2))] at key
   simp -implicitDefEqProofs[h1,h2,a3,a4]
   refine hQ _ _ _ ?_
   simp -implicitDefEqProofs[key,a1,hsc]
 by_cases h3:200 < c.s.length
 · rw[if_pos (.inr (.inr (.inl h3)))] at key
   have h3':(200:Int) < c.s.length:=by omega
   simp -implicitDefEqProofs[h1,h2,h3',a2,a3,a4]
   refine hQ _ _ _ ?_
   simp -implicitDefEqProofs[key,a1,hsc]
 have h3': ¬(200:Int) < c.s.length:=by omega
 by_cases h4:20 < c.names.length
 · rw[if_pos (.inr (.inr (.inr (.inl h4))))] at key
   have h4':(20:Int) < c.names.length:=by omega
   simp -implicitDefEqProofs[h1,h2,h3',h4',a2,a3,a4,hsl]
   refine hQ _ _ _ ?_
   simp -implicitDefEqProofs[key,a1,hsc]
 have h4': ¬(20:Int) < c.names.length:=by omega
 simp -implicitDefEqProofs[h1,h2,h3',h4',a2,a3,a4,hsl]
 refine Ah (hnm) (by simp) (by simp) (by simp[Ag,Aa,Ac,Al,Af,Kd.l]) ?_
 cases lg
 case true=>
  rw[if_pos (by simp)] at key
  simp -implicitDefEqProofs[a2,a3,a4]
  refine hQ _ _ _ ?_
  simp -implicitDefEqProofs[key,a1,hsc]
 rw[if_neg (by simp[h1,h2,h3,h4])] at key
 simp -implicitDefEqProofs[a2,a3,a4]
 have hk0:=Si c.con _ _ _ hM n1 0
 generalize fc c.con n1 0=r0 at key hk0
 obtain⟨b0,m0⟩:=r0
 refine Br (by simpa[Ag,Al,Aa,Ac,Aj c] using hk0) ?_
 cases b0
 · rw[B7,if_neg (by simp)] at key
   simp -implicitDefEqProofs[a2,a3,a4]
   refine hQ _ _ _ ?_
   simp -implicitDefEqProofs[key,a1,hsc]
 rw[B7,if_pos rfl] at key
 simp only at key ⊢
 simp -implicitDefEqProofs[a2,a3,a4]
 have hk1:=Si c.to _ _ _ hM m0 0
 generalize fc c.to m0 0=r1 at key hk1
 obtain⟨b1,m1⟩:=r1
 refine Br (by simpa[Ag,Al,Aa,Ac,Aj c] using hk1) ?_
 cases b1
 · rw[B7,if_neg (by simp)] at key
   simp -implicitDefEqProofs[a2,a3,a4]
   refine hQ _ _ _ ?_
   simp -implicitDefEqProofs[key,a1,hsc]
 rw[B7,if_pos rfl] at key
 simp only at key ⊢
 simp -implicitDefEqProofs[a2,a3,a4]
 have hk2:=Sp c.k _ _ _ hM m1
 generalize fk c.k m1=r2 at key hk2
 obtain⟨b2,m2⟩:=r2
 refine Br (by simpa[Ag,Al,Aa,Ac,Aj c] using hk2) ?_
 cases b2
 · rw[B7,if_neg (by simp)] at key
   simp -implicitDefEqProofs[a2,a3,a4]
   refine hQ _ _ _ ?_
   simp -implicitDefEqProofs[key,a1,hsc]
 rw[B7,if_pos rfl] at key
 simp only at key ⊢
 simp -implicitDefEqProofs[a2,a3,a4]
 have hany:=hany m2
 generalize Bw (ftn (IntKind.i64.wrap (d+1))) c.l m2=r at key hany
 refine Br (by simpa[Aj c] using hany) ?_
 simp -implicitDefEqProofs
 refine hQ _ _ _ ?_
 simp -implicitDefEqProofs[key,a1,hsc]
theorem Ad4 (c:Te):Yr c:=Axu c fun x _=>Ad4 x
termination_by SizeOf.sizeOf c
decreasing_by exact Te.lt_l ‹_›
def few (e:El) (n:Int):Bool × Int:=B7 (fkl e.ks n) fun n=>B7 (fcl e.w n) fun n=>B7 (fs e.s n 0) fun n=>ft e.t n 0
def Kc (e:El) (n:Int):Bool × Int:=(!(few e n).1,(few e n).2)
theorem few_call (e:El) {S:Int→List HB} {p m:Nat} (hC:Ctr S p m) (n:Int):Ab Tryz.prog Aar [Av e,.ptr p 0] (S n) (.bool (few e n).1) (S (few e n).2):=by
 have key:few e n=B7 (fkl e.ks n) fun n=>B7 (fcl e.w n) fun n=>B7 (fs e.s n 0) fun n=>ft e.t n 0:=rfl
 have a1:=hC.h.len
 have a2:=hC.h.at0
 have hsc:=fun s=>hC.h.sc s m (Nat.le_refl _)
 have hM:=hC.more [.var (Bx e)] (fun k hk=>by simp)
 generalize few e n=z at key
 refine Ab.go mixed At2 (by simp[a1]) fun hfit Q hQ=>?_
 clear hfit
 simp -implicitDefEqProofs[Aph,Av,Bd e,a1,a2]
 have hk0:=Yq e.ks hM n
 generalize fkl e.ks n=r0 at key hk0
 obtain⟨b0,m0⟩:=r0
 refine Br (by simpa[Bd e] using hk0) ?_
 cases b0
 · rw[B7,if_neg (by simp)] at key
   simp -implicitDefEqProofs[a2]
   refine hQ _ _ _ ?_
   simp -implicitDefEqProofs[key,a1,hsc]
 rw[B7,if_pos rfl] at key
 simp only at key ⊢
 simp -implicitDefEqProofs[a2]
 have hk1:=Ajz e.w hM m0
 generalize fcl e.w m0=r1 at key hk1
 obtain⟨b1,m1⟩:=r1
 refine Br (by simpa[Bd e] using hk1) ?_
 cases b1
 · rw[B7,if_neg (by simp)] at key
   simp -implicitDefEqProofs[a2]
   refine hQ _ _ _ ?_
   simp -implicitDefEqProofs[key,a1,hsc]
 rw[B7,if_pos rfl] at key
 simp only at key ⊢
 simp -implicitDefEqProofs[a2]
 have hk2:=Z1 e.s _ _ _ hM m1 0
 generalize fs e.s m1 0=r2 at key hk2
 obtain⟨b2,m2⟩:=r2
 refine Br (by simpa[Bd e,An,Ak] using hk2) ?_
 cases b2
 · rw[B7,if_neg (by simp)] at key
   simp -implicitDefEqProofs[a2]
   refine hQ _ _ _ ?_
   simp -implicitDefEqProofs[key,a1,hsc]
 rw[B7,if_pos rfl] at key
 simp only at key ⊢
 simp -implicitDefEqProofs[a2]
 have hk3:=Ad4 e.t _ _ _ hM m2 0
 generalize ft e.t m2 0=r3 at key hk3
 refine Br (by simpa[Bd e,Ae,Aj] using hk3) ?_
 simp -implicitDefEqProofs
 refine hQ _ _ _ ?_
 simp -implicitDefEqProofs[key,a1,hsc]
theorem Ats {S:Int→List HB} {p m:Nat} (hC:Ctr S p m) (x:El) (s:Int):Ab Tryz.prog V3 [Av x,.ptr p 0] (S s) (.bool (Kc x s).1) (S (Kc x s).2):=by
 have a1:=hC.h.len
 have a2:=hC.h.at0
 have hsc:=fun s=>hC.h.sc s m (Nat.le_refl _)
 have hm:=few_call x (hC.more [.var (Bx x)] (fun k hk=>by simp)) s
 refine Ab.go mixed Asf (by simp[a1]) fun hfit Q hQ=>?_
 clear hfit
 simp -implicitDefEqProofs[Af5,Av,a1,a2]
 refine Br (by simpa[Av] using hm) ?_
 simp -implicitDefEqProofs
 refine hQ _ _ _ ?_
 simp -implicitDefEqProofs[a1,hsc,Kc]
theorem Arm (ks:List Kd) (s:Sm) (l:List Cn) (c:Te) (all:List El): ∃b,Ab Tryz.prog Lq [Aw ks s,.sl .none (l.map Ai),Ae c,.sl .none (all.map Bx)] [] (.bool b) []:=by
 have hC:Ctr (fun n=>[.var (.sl .none (ks.map Ao) :: B6 s),.var (Bm c),.var [.int .i64 n]]) 2 3:=
  ⟨⟨fun _=>rfl,fun n k _=>by simp[As,Am,AV.inScope]⟩,by omega,fun _=>rfl,fun _ _=>rfl⟩
 refine⟨(B7 (fkl ks 3000) fun n=>B7 (fs s n 0) fun n=>B7 (fcl l n) fun n=>B7 (ft c n 0) fun n=>(!(Bw Kc all n).1,(Bw Kc all n).2)).1,?_⟩
 obtain⟨z,key⟩: ∃z,z=(B7 (fkl ks 3000) fun n=>B7 (fs s n 0) fun n=>B7 (fcl l n) fun n=>B7 (ft c n 0) fun n=>(!(Bw Kc all n).1,(Bw Kc all n).2)):=⟨_,rfl⟩
 rw[← key]
 refine Ab.go mixed Ayl (by simp) fun hfit Q hQ=>?_
 clear hfit
 simp -implicitDefEqProofs[Al0,Aw,Ae,Aj c,Ak s]
 have hk0:=Yq ks hC 3000
 generalize fkl ks 3000=r0 at key hk0
 obtain⟨b0,m0⟩:=r0
 refine Br (by simpa[Aj c,Ak s] using hk0) ?_
 cases b0
 · rw[B7,if_neg (by simp)] at key
   simp -implicitDefEqProofs
   refine hQ _ _ _ ?_
   simp -implicitDefEqProofs[key]
 rw[B7,if_pos rfl] at key
 simp only at key ⊢
 simp -implicitDefEqProofs
 have hk1:=Z1 s _ _ _ hC m0 0
 generalize fs s m0 0=r1 at key hk1
 obtain⟨b1,m1⟩:=r1
 refine Br (by simpa[An,Aj c,Ak s] using hk1) ?_
 cases b1
 · rw[B7,if_neg (by simp)] at key
   simp -implicitDefEqProofs
   refine hQ _ _ _ ?_
   simp -implicitDefEqProofs[key]
 rw[B7,if_pos rfl] at key
 simp only at key ⊢
 simp -implicitDefEqProofs
 have hk2:=Ajz l hC m1
 generalize fcl l m1=r2 at key hk2
 obtain⟨b2,m2⟩:=r2
 refine Br (by simpa[Aj c,Ak s] using hk2) ?_
 cases b2
 · rw[B7,if_neg (by simp)] at key
   simp -implicitDefEqProofs
   refine hQ _ _ _ ?_
   simp -implicitDefEqProofs[key]
 rw[B7,if_pos rfl] at key
 simp only at key ⊢
 simp -implicitDefEqProofs
 have hk3:=Ad4 c _ _ _ hC m2 0
 generalize ft c m2 0=r3 at key hk3
 obtain⟨b3,m3⟩:=r3
 refine Br (by simpa[Ae,Aj c,Ak s] using hk3) ?_
 cases b3
 · rw[B7,if_neg (by simp)] at key
   simp -implicitDefEqProofs
   refine hQ _ _ _ ?_
   simp -implicitDefEqProofs[key]
 rw[B7,if_pos rfl] at key
 simp only at key ⊢
 simp -implicitDefEqProofs
 have hk4:=A04 hC.h all Kc V3 [.ptr 2 0] (by simp[Am,AV.inScope]) (fun x _ s=>Ats hC x s) m3
 generalize Bw Kc all m3=r4 at key hk4
 refine Br (by simpa[Aj c,Ak s] using hk4) ?_
 simp -implicitDefEqProofs
 refine hQ _ _ _ ?_
 simp -implicitDefEqProofs[key]
end Go.Proofs.YtemdkfnenjpioaaGreatDoor
