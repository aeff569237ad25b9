/- Joined: Itr. -/
import Derived.RangeFuncBox
import Derived.RangeFuncLeaves
import Derived.Shelf.Abstract
import Derived.WalkKit
import Derived.OwnWalkIn
import Derived.TacticsInMore
import Derived.LoopNIn
import Derived.LoopIn
import Derived.Test.YtblbepjnkehoaaaGreatDoorProg
set_option linter.unusedSimpArgs false
set_option linter.unusedVariables false
set_option maxHeartbeats 4000000
/- The iterator of slices.Backward over kinds: its contract, for every loop body that keeps its cells. -/
namespace Go.Proofs.YtblbepjnkehoaaaGreatDoor
open Go Go.RowKit Go.Shelf Go.Proofs
attribute [local go_sem] Oper.semAt_some

/-- What has come when k rounds are over. -/
def downs {α : Type} (f : Nat → α) (n k : Nat) : List α := (List.range k).map fun j => f (n - 1 - j)
theorem downs_succ {α : Type} (f : Nat → α) (n k : Nat) : downs f n (k + 1) = downs f n k ++ [f (n - 1 - k)] := by simp [downs, List.range_succ]
theorem downs_length {α : Type} (f : Nat → α) (n k : Nat) : (downs f n k).length = k := by simp [downs]

set_option maxRecDepth 100000 in
set_option maxHeartbeats 4000000 in
theorem back1_in {α : Type} (encs : α → Array Value) (el : Nat → α) (zs : Nat → Value) (Kp : World → World → Prop) (F : Fence) (n : Nat) (h148 : F.fn 148) (hro : F.round = none) (hn : 1 ≤ n) (l Bs b off len cap : Nat) (hlen : len ≤ 1073741824)
    (hel : ∀ k, k < len → encs (el k) = #[.int .i64 k, .agg #[zs k]])
    (hK1 : ∀ W W', Kp W W' → W'.cell? ⟨Bs, 0, none⟩ = W.cell? ⟨Bs, 0, none⟩) (hK2 : ∀ W W' k, k < len → Kp W W' → W'.cell? ⟨b, off + k, none⟩ = W.cell? ⟨b, off + k, none⟩) (J Jx : List α → World → Prop)
    (hY : ∀ pre x W, J pre W → pre.length < len → YieldAt F (n - 1) Go.Proofs.Tryz.prog l (encs x) W fun e W' =>
      (e = .returned (.bool true) ∧ J (pre ++ [x]) W' ∧ Kp W W') ∨ (e = .returned (.bool false) ∧ Jx (pre ++ [x]) W'))
    (W : World) (hBs : W.cell? ⟨Bs, 0, none⟩ = some (.slice (some ⟨b, off, none⟩) len cap)) (hc : ∀ j, j < len → W.cell? ⟨b, off + j, none⟩ = some (zs j)) (h0 : J [] W) :
    CallsIn F n Go.Proofs.Tryz.prog 148 #[.func (.yield l) #[] #[], .pointer (some ⟨Bs, 0, none⟩)] W fun e W' => (∃ v, e = .returned v) ∧
      ((∃ ys, ys = downs el len len ∧ J ys W') ∨ (∃ pre, Jx pre W')) := by
  refine callsIn_of_wp Go.Proofs.Tryz.func148 rfl h148 ?_ hro
  simp only [Go.Proofs.Tryz.ntmps148, List.size_toArray, List.length_cons, List.length_nil, Nat.reduceAdd, Nat.reduceSub, Array.replicate_succ, Array.replicate_zero, List.push_toArray, List.append_toArray, List.nil_append, List.cons_append]
  gi_wp2
  gi_loopw [3] (fun i wr => ∃ k : Nat, k ≤ len ∧ i = .int .i64 ((len : Int) - 1 - k) ∧ J (downs el len k) wr ∧ wr.cell? ⟨Bs, 0, none⟩ = some (.slice (some ⟨b, off, none⟩) len cap) ∧ ∀ j, j < len → wr.cell? ⟨b, off + j, none⟩ = some (zs j))
    (fun i _ => (intOf i + 1).toNat)
  case atStart => exact ⟨0, Nat.zero_le _, by simp, h0, hBs, hc⟩
  case round =>
    obtain ⟨k, hk, rfl, hJs, hB1, hB2⟩ := hrel
    by_cases hlt : k < len
    · obtain ⟨fn, tmps, assign, body, hy, hR⟩ := hY _ (el (len - 1 - k)) wr hJs (by rw [downs_length]; exact hlt)
      have hcx' := hB2 (len - 1 - k) (by omega)
      rw [hel _ (by omega)] at hy
      have he : ((len - 1 - k : Nat) : Int) = (len : Int) - 1 - k := by omega
      rw [he] at hy
      gi_wp2
      refine hR.mono ?_
      rintro e W3 (⟨rfl, hJ3, hk3⟩ | ⟨rfl, hJx3⟩)
      · gi_wp2
        go_roundw
        case rel => exact ⟨k + 1, by omega, by congr 1; omega, by rw [downs_succ]; exact hJ3, (hK1 _ _ hk3).trans hB1, fun j hj => (hK2 _ _ j hj hk3).trans (hB2 j hj)⟩
        case measure => simp [intOf]; omega
      · gi_wp2
        refine bodyPost_ret (results_none rfl _ _ _) rfl ?_
        exact ⟨⟨_, rfl⟩, .inr ⟨_, hJx3⟩⟩
    · obtain rfl : k = len := by omega
      gi_wp2
      go_end0
      exact ⟨⟨_, rfl⟩, .inl ⟨_, rfl, hJs⟩⟩

set_option maxRecDepth 100000 in
set_option maxHeartbeats 4000000 in
/-- .. at the nil slice: no round. -/
theorem back1_nil_in {α : Type} (F : Fence) (n : Nat) (h148 : F.fn 148) (hro : F.round = none) (l Bs : Nat) (J : List α → World → Prop) (W : World) (o : Option Addr) (cp : Nat) (hBs : W.cell? ⟨Bs, 0, none⟩ = some (.slice o 0 cp)) (h0 : J [] W) :
    CallsIn F n Go.Proofs.Tryz.prog 148 #[.func (.yield l) #[] #[], .pointer (some ⟨Bs, 0, none⟩)] W fun e W' => (∃ v, e = .returned v) ∧ J [] W' := by
  refine callsIn_of_wp Go.Proofs.Tryz.func148 rfl h148 ?_ hro
  simp only [Go.Proofs.Tryz.ntmps148, List.size_toArray, List.length_cons, List.length_nil, Nat.reduceAdd, Nat.reduceSub, Array.replicate_succ, Array.replicate_zero, List.push_toArray, List.append_toArray, List.nil_append, List.cons_append]
  gi_wp2
  gi_loopw [3] (fun i wr => i = .int .i64 (-1) ∧ J [] wr) (fun _ _ => 0)
  case atStart => exact ⟨by simp, h0⟩
  case round =>
    obtain ⟨rfl, hJs⟩ := hrel
    gi_wp2
    go_end0
    exact ⟨⟨_, rfl⟩, hJs⟩
end Go.Proofs.YtblbepjnkehoaaaGreatDoor
