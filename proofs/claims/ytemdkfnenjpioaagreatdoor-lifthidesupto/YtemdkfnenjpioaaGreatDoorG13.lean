/- Joined: Data2 Data3. -/
import Derived.Test.YtemdkfnenjpioaaGreatDoorG12
set_option linter.unusedSimpArgs false
set_option linter.unusedVariables false
set_option linter.unusedSectionVars false
set_option linter.all false
set_option maxHeartbeats 4000000
set_option maxRecDepth 10000
namespace Go.Proofs.YtemdkfnenjpioaaGreatDoor
open Go
def Sm.op:Sm→Int | .mk op _ _ _ _ _ _ _ _=>op
def Sm.n:Sm→Int | .mk _ n _ _ _ _ _ _ _=>n
def Sm.s:Sm→List UInt8 | .mk _ _ s _ _ _ _ _ _=>s
def Sm.con:Sm→Cn | .mk _ _ _ c _ _ _ _ _=>c
def Sm.k:Sm→Kd | .mk _ _ _ _ k _ _ _ _=>k
def Sm.ks:Sm→List Kd | .mk _ _ _ _ _ ks _ _ _=>ks
def Sm.more:Sm→List Kd | .mk _ _ _ _ _ _ m _ _=>m
def Sm.names:Sm→List (List UInt8) | .mk _ _ _ _ _ _ _ ns _=>ns
def Sm.l:Sm→List Sm | .mk _ _ _ _ _ _ _ _ l=>l
mutual
def B6:Sm→List AV
 | .mk op n s c k ks more names l=>.int .i64 op :: .int .i64 n :: .str s :: (Ai c++Ao k++[.sl .none (Iw ks),.sl .none (Iw more),.sl .none (Af names),.sl .none (Kh l)])
def Kh:List Sm→List (List AV)
 | []=>[]
 | c :: cs=>B6 c :: Kh cs
end
theorem Adm (l:List Sm):Kh l=l.map B6:=by
 induction l with
 | nil=>rfl
 | cons k l ih=>simp[Kh,ih]
theorem Ak (s:Sm):B6 s=[.int .i64 s.op,.int .i64 s.n,.str s.s,.int .i64 s.con.op,.int .i64 s.con.n,.str s.con.s,.sl .none (s.con.k.l.map Ao),.sl .none (Af s.con.names),.sl .none (s.con.l.map Ai),
 .sl .none (s.k.l.map Ao),.sl .none (s.ks.map Ao),.sl .none (s.more.map Ao),.sl .none (Af s.names),.sl .none (s.l.map B6)]:=by
 cases s;simp[B6,Adm,Al,Ac,Wp,Sm.op,Sm.n,Sm.s,Sm.con,Sm.k,Sm.ks,Sm.more,Sm.names,Sm.l]
theorem Aw9 (s:Sm):B6 s= .int .i64 s.op :: .int .i64 s.n :: .str s.s :: (Ai s.con++[.sl .none (s.k.l.map Ao),.sl .none (s.ks.map Ao),.sl .none (s.more.map Ao),.sl .none (Af s.names),.sl .none (s.l.map B6)]):=by
 rw[Ak,Ac]; rfl
@[simp] theorem Amc (c:Sm):(B6 c).length=14:=by simp[Ak]
@[simp] theorem smCells_take (c:Sm):(B6 c).take 14=B6 c:=by simp[Ak]
@[simp] theorem Av2 (c:Sm):(B6 c).all AV.isCell=true:=by simp[Ak,AV.isCell]
@[simp] theorem smCells_drop (c:Sm):(B6 c).drop 14=[]:=by simp[Ak]
mutual
@[simp] theorem A0k: ∀c:Sm,Ay (B6 c)=B6 c
 | .mk op n s (.mk o2 n2 s2 (.mk kl2) ns2 l2) (.mk kl) ks more names l=>by
   simp[B6,Ai,Ao,Ay,AV.strip,Acz l,It kl,It kl2,It ks,It more,P2 l2]
theorem Acz: ∀l:List Sm,A5 (Kh l)=Kh l
 | []=>rfl
 | k :: ks=>by simp[Kh,A5,A0k k,Acz ks]
end
mutual
@[simp] theorem A1m (n:Nat): ∀c:Sm,Am n (B6 c)=true
 | .mk op m s (.mk o2 n2 s2 (.mk kl2) ns2 l2) (.mk kl) ks more names l=>by
   simp[B6,Ai,Ao,Am,AV.inScope,Zc n l,Ix n kl,Ix n kl2,Ix n ks,Ix n more,Oz n l2]
theorem Zc (n:Nat): ∀l:List Sm,A0 n (Kh l)=true
 | []=>rfl
 | k :: ks=>by simp[Kh,A0,A1m n k,Zc n ks]
end
@[simp] theorem smMap_strip (l:List Sm):A5 (l.map B6)=l.map B6:=by rw[← Adm]; exact Acz l
@[simp] theorem smMap_scoped (n:Nat) (l:List Sm):A0 n (l.map B6)=true:=by rw[← Adm]; exact Zc n l
theorem Sm.lt_l {c x:Sm} (h:x ∈ c.l):SizeOf.sizeOf x < SizeOf.sizeOf c:=by
 cases c;simp only[Sm.l] at h
 have:=List.sizeOf_lt_of_mem h
 simp;omega
def An (c:Sm):AV:=.agg (B6 c)
@[simp] theorem smAV_scoped (n:Nat) (k:Sm):(An k).inScope n=true:=by simp[An,AV.inScope]
@[simp] theorem smAV_strip (k:Sm):(An k).strip=An k:=by simp[An,AV.strip]
theorem Rh {c:Sm} (h:Bn (B6 c)):c.s.length≤A4∧c.ks.length≤A4∧c.more.length≤A4∧c.names.length≤A4∧c.l.length≤A4∧(∀ x ∈ c.l,Bn (B6 x)):=by
 rw[Ak c] at h
 simp only[Bn,AV.fits,List.length_map,Af] at h
 obtain⟨h1,h2,h3,_,_,_,_,_,_,h4,h5,h6,h7,h8,_⟩:=h
 exact⟨h3,h5.1,h6.1,h7.1,h8.1,M3 h8.2⟩
end Go.Proofs.YtemdkfnenjpioaaGreatDoor
namespace Go.Proofs.YtemdkfnenjpioaaGreatDoor
open Go
inductive Te where
 | mk (op n:Int) (s:List UInt8) (con to:Cn) (k:Kd) (names:List (List UInt8)) (l:List Te)
def Te.op:Te→Int | .mk op _ _ _ _ _ _ _=>op
def Te.n:Te→Int | .mk _ n _ _ _ _ _ _=>n
def Te.s:Te→List UInt8 | .mk _ _ s _ _ _ _ _=>s
def Te.con:Te→Cn | .mk _ _ _ c _ _ _ _=>c
def Te.to:Te→Cn | .mk _ _ _ _ c _ _ _=>c
def Te.k:Te→Kd | .mk _ _ _ _ _ k _ _=>k
def Te.names:Te→List (List UInt8) | .mk _ _ _ _ _ _ ns _=>ns
def Te.l:Te→List Te | .mk _ _ _ _ _ _ _ l=>l
mutual
def Bm:Te→List AV
 | .mk op n s c d k names l=>.int .i64 op :: .int .i64 n :: .str s :: (Ai c++Ai d++Ao k++[.sl .none (Af names),.sl .none (J5 l)])
def J5:List Te→List (List AV)
 | []=>[]
 | c :: cs=>Bm c :: J5 cs
end
theorem Adw (l:List Te):J5 l=l.map Bm:=by
 induction l with
 | nil=>rfl
 | cons k l ih=>simp[J5,ih]
theorem Aj (s:Te):Bm s=[.int .i64 s.op,.int .i64 s.n,.str s.s,.int .i64 s.con.op,.int .i64 s.con.n,.str s.con.s,.sl .none (s.con.k.l.map Ao),.sl .none (Af s.con.names),.sl .none (s.con.l.map Ai),
 .int .i64 s.to.op,.int .i64 s.to.n,.str s.to.s,.sl .none (s.to.k.l.map Ao),.sl .none (Af s.to.names),.sl .none (s.to.l.map Ai),.sl .none (s.k.l.map Ao),.sl .none (Af s.names),.sl .none (s.l.map Bm)]:=by
 cases s;simp[Bm,Adw,Al,Ac,Te.op,Te.n,Te.s,Te.con,Te.to,Te.k,Te.names,Te.l]
theorem Axs (s:Te):Bm s= .int .i64 s.op :: .int .i64 s.n :: .str s.s :: (Ai s.con++(Ai s.to++[.sl .none (s.k.l.map Ao),.sl .none (Af s.names),.sl .none (s.l.map Bm)])):=by
 rw[Aj,Ac,Ac]; rfl
@[simp] theorem A0g (c:Te):(Bm c).length=18:=by simp[Aj]
@[simp] theorem teCells_take (c:Te):(Bm c).take 18=Bm c:=by simp[Aj]
@[simp] theorem Asw (c:Te):(Bm c).all AV.isCell=true:=by simp[Aj,AV.isCell]
@[simp] theorem teCells_drop (c:Te):(Bm c).drop 18=[]:=by simp[Aj]
mutual
@[simp] theorem A11: ∀c:Te,Ay (Bm c)=Bm c
 | .mk op n s (.mk o2 n2 s2 (.mk kl2) ns2 l2) (.mk o3 n3 s3 (.mk kl3) ns3 l3) (.mk kl) names l=>by
   simp[Bm,Ai,Ao,Ay,AV.strip,Aaj l,It kl,It kl2,It kl3,P2 l2,P2 l3]
theorem Aaj: ∀l:List Te,A5 (J5 l)=J5 l
 | []=>rfl
 | k :: ks=>by simp[J5,A5,A11 k,Aaj ks]
end
mutual
@[simp] theorem Axa (n:Nat): ∀c:Te,Am n (Bm c)=true
 | .mk op m s (.mk o2 n2 s2 (.mk kl2) ns2 l2) (.mk o3 n3 s3 (.mk kl3) ns3 l3) (.mk kl) names l=>by
   simp[Bm,Ai,Ao,Am,AV.inScope,Aab n l,Ix n kl,Ix n kl2,Ix n kl3,Oz n l2,Oz n l3]
theorem Aab (n:Nat): ∀l:List Te,A0 n (J5 l)=true
 | []=>rfl
 | k :: ks=>by simp[J5,A0,Axa n k,Aab n ks]
end
@[simp] theorem teMap_strip (l:List Te):A5 (l.map Bm)=l.map Bm:=by rw[← Adw]; exact Aaj l
@[simp] theorem teMap_scoped (n:Nat) (l:List Te):A0 n (l.map Bm)=true:=by rw[← Adw]; exact Aab n l
theorem Te.lt_l {c x:Te} (h:x ∈ c.l):SizeOf.sizeOf x < SizeOf.sizeOf c:=by
 cases c;simp only[Te.l] at h
 have:=List.sizeOf_lt_of_mem h
 simp;omega
def Ae (c:Te):AV:=.agg (Bm c)
@[simp] theorem teAV_scoped (n:Nat) (k:Te):(Ae k).inScope n=true:=by simp[Ae,AV.inScope]
@[simp] theorem teAV_strip (k:Te):(Ae k).strip=Ae k:=by simp[Ae,AV.strip]
theorem W7 {c:Te} (h:Bn (Bm c)):IntKind.i64.has c.n∧c.s.length≤A4∧c.names.length≤A4∧(∀ x ∈ c.names,x.length≤A4)∧c.l.length≤A4∧∀x ∈ c.l,Bn (Bm x):=by
 rw[Aj c] at h
 simp only[Bn,AV.fits,List.length_map,Af] at h
 obtain⟨_,h2,h3,_,_,_,_,_,_,_,_,_,_,_,_,_,h4,h5,_⟩:=h
 exact⟨h2,h3,h4.1,fun x hx=>by simpa[Bn,AV.fits] using M3 h4.2 x hx,h5.1,M3 h5.2⟩
structure El where
 ks:List Kd
 w:List Cn
 pure:Bool
 s:Sm
 t:Te
def Bx (e:El):List AV:=.sl .none (e.ks.map Ao) :: .sl .none (e.w.map Ai) :: .bool e.pure :: (B6 e.s++Bm e.t)
@[simp] theorem elCells_length (e:El):(Bx e).length=35:=by simp[Bx]
@[simp] theorem elCells_take (e:El):(Bx e).take 35=Bx e:=List.take_of_length_le (by simp)
@[simp] theorem elCells_drop (e:El):(Bx e).drop 35=[]:=List.drop_of_length_le (by simp)
@[simp] theorem elCells_all (e:El):(Bx e).all AV.isCell=true:=by
 simp only[Bx,List.all_cons,List.all_append,Av2,Asw]; rfl
theorem Akf: ∀(a b:List AV),Ay (a++b)=Ay a++Ay b
 | [],b=>rfl
 | x :: xs,b=>by simp[Ay,Akf xs b]
theorem Na (n:Nat): ∀(a b:List AV),Am n (a++b)=(Am n a && Am n b)
 | [],b=>rfl
 | x :: xs,b=>by simp[Am,Na n xs b,Bool.and_assoc]
@[simp] theorem Axg (e:El):Ay (Bx e)=Bx e:=by
 simp[Bx,Ay,AV.strip,Akf]
@[simp] theorem elCells_scoped (n:Nat) (e:El):Am n (Bx e)=true:=by
 simp[Bx,Am,AV.inScope,Na]
def Av (e:El):AV:=.agg (Bx e)
@[simp] theorem elAV_scoped (n:Nat) (e:El):(Av e).inScope n=true:=by simp[Av,AV.inScope]
@[simp] theorem elAV_strip (e:El):(Av e).strip=Av e:=by simp[Av,AV.strip]
theorem Bd (e:El):Bx e=[.sl .none (e.ks.map Ao),.sl .none (e.w.map Ai),.bool e.pure,
 .int .i64 e.s.op,.int .i64 e.s.n,.str e.s.s,.int .i64 e.s.con.op,.int .i64 e.s.con.n,.str e.s.con.s,.sl .none (e.s.con.k.l.map Ao),.sl .none (Af e.s.con.names),.sl .none (e.s.con.l.map Ai),
 .sl .none (e.s.k.l.map Ao),.sl .none (e.s.ks.map Ao),.sl .none (e.s.more.map Ao),.sl .none (Af e.s.names),.sl .none (e.s.l.map B6),
 .int .i64 e.t.op,.int .i64 e.t.n,.str e.t.s,.int .i64 e.t.con.op,.int .i64 e.t.con.n,.str e.t.con.s,.sl .none (e.t.con.k.l.map Ao),.sl .none (Af e.t.con.names),.sl .none (e.t.con.l.map Ai),
 .int .i64 e.t.to.op,.int .i64 e.t.to.n,.str e.t.to.s,.sl .none (e.t.to.k.l.map Ao),.sl .none (Af e.t.to.names),.sl .none (e.t.to.l.map Ai),.sl .none (e.t.k.l.map Ao),.sl .none (Af e.t.names),.sl .none (e.t.l.map Bm)]:=by
 rw[Bx,Ak,Aj]; rfl
end Go.Proofs.YtemdkfnenjpioaaGreatDoor
