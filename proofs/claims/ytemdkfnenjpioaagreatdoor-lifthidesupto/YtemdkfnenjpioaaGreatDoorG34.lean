/- Joined: Itr2. -/
import Derived.Test.YtemdkfnenjpioaaGreatDoorG24
import Derived.Test.YtemdkfnenjpioaaGreatDoorG33
set_option linter.unusedSimpArgs false
set_option linter.unusedVariables false
set_option linter.unusedSectionVars false
set_option linter.all false
set_option maxHeartbeats 4000000
set_option maxRecDepth 10000
namespace Go.Proofs.YtemdkfnenjpioaaGreatDoor
open Go Go.RowKit Go.Shelf Go.Proofs
attribute [local go_sem] Oper.semAt_some
set_option maxRecDepth 100000 in
set_option maxHeartbeats 4000000 in
theorem backc_in {α :Type} (Dm: α→Array Value) (el:Nat→α) (zs:Nat→V6) (Kp:World→World→Prop) (F:Fence) (n:Nat) (h148:F.fn 158) (hro:F.round=none) (hn:1≤n) (l Bs b off len cap:Nat) (hlen:len≤1073741824)
 (hel: ∀k,k < len→Dm (el k)= #[.int .i64 k,.agg #[(zs k).a,(zs k).b,(zs k).c,(zs k).d,(zs k).e,(zs k).f]])
 (hK1: ∀W W',Kp W W'→W'.cell? ⟨Bs,0,none⟩=W.cell? ⟨Bs,0,none⟩) (hK2: ∀W W' k i,k < len→i < 6→Kp W W'→W'.cell? ⟨b,off+k * 6+i,none⟩=W.cell? ⟨b,off+k * 6+i,none⟩) (J Jx:List α→World→Prop)
 (hY: ∀pre x W,J pre W→pre.length < len→YieldAt F (n - 1) Tryz.prog l (Dm x) W fun e W'=>
  (e= .returned (.bool true)∧J (pre++[x]) W'∧Kp W W')∨(e= .returned (.bool false)∧Jx (pre++[x]) W'))
 (W:World) (hBs:W.cell? ⟨Bs,0,none⟩=some (.slice (some ⟨b,off,none⟩) len cap)) (hc: ∀j i u,j < len→(Cs (zs j))[i]? =some u→W.cell? ⟨b,off+j * 6+i,none⟩=some u) (h0:J [] W):
 CallsIn F n Tryz.prog 158 #[.func (.yield l) #[] #[],.pointer (some ⟨Bs,0,none⟩)] W fun e W'=>(∃ v,e= .returned v)∧
  ((∃ ys,ys=Gl el len len∧J ys W')∨(∃ pre,Jx pre W')):=by
 refine callsIn_of_wp Tryz.func158 rfl h148 ?_ hro
 simp only[Tryz.ntmps158,List.size_toArray,List.length_cons,List.length_nil,Nat.reduceAdd,Nat.reduceSub,Array.replicate_succ,Array.replicate_zero,List.push_toArray,List.append_toArray,List.nil_append,List.cons_append]
 gi_wp2
 gi_loopw [3] (fun i wr=>∃k:Nat,k≤len∧i= .int .i64 ((len:Int) - 1 - k)∧J (Gl el len k) wr∧wr.cell? ⟨Bs,0,none⟩=some (.slice (some ⟨b,off,none⟩) len cap)∧∀j i u,j < len→(Cs (zs j))[i]? =some u→wr.cell? ⟨b,off+j * 6+i,none⟩=some u)
  (fun i _=>(intOf i+1).toNat)
 case atStart=>exact⟨0,Nat.zero_le _,by simp,h0,hBs,hc⟩
 case round=>
  obtain⟨k,hk,rfl,hJs,hB1,hB2⟩:=hrel
  by_cases hlt:k < len
  · obtain⟨fn,tmps,assign,body,hy,hR⟩:=hY _ (el (len - 1 - k)) wr hJs (by rw[Ajf]; exact hlt)
    have c0:=hB2 (len - 1 - k) 0 _ (by omega) rfl
    rw[Nat.add_zero] at c0
    have c1:=hB2 (len - 1 - k) 1 _ (by omega) rfl
    have c2:=hB2 (len - 1 - k) 2 _ (by omega) rfl
    have c3:=hB2 (len - 1 - k) 3 _ (by omega) rfl
    have c4:=hB2 (len - 1 - k) 4 _ (by omega) rfl
    have c5:=hB2 (len - 1 - k) 5 _ (by omega) rfl
    rw[hel _ (by omega)] at hy
    have he:((len - 1 - k:Nat):Int)=(len:Int) - 1 - k:=by omega
    rw[he] at hy
    gi_wp2
    refine hR.mono ?_
    rintro e W3 (⟨rfl,hJ3,hk3⟩ | ⟨rfl,hJx3⟩)
    · gi_wp2
      go_roundw
      case rel=>exact⟨k+1,by omega,by congr 1;omega,by rw[Ag9]; exact hJ3,(hK1 _ _ hk3).trans hB1,fun j i u hj hi=>(hK2 _ _ j i hj (by have:=(List.getElem?_eq_some_iff.1 hi).1;simpa[Cs] using this) hk3).trans (hB2 j i u hj hi)⟩
      case measure=>simp[intOf]; omega
    · gi_wp2
      refine bodyPost_ret (results_none rfl _ _ _) rfl ?_
      exact⟨⟨_,rfl⟩,.inr ⟨_,hJx3⟩⟩
  · obtain rfl:k=len:=by omega
    gi_wp2
    go_end0
    exact⟨⟨_,rfl⟩,.inl ⟨_,rfl,hJs⟩⟩
end Go.Proofs.YtemdkfnenjpioaaGreatDoor
