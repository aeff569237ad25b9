/- Joined: D29. -/
import Derived.Test.YtblbepjnkehoaaaGreatDoorG11
set_option linter.unusedSimpArgs false
set_option linter.unusedVariables false
set_option maxHeartbeats 4000000
/- Semantic signatures: what sizes and well-formedness are. -/
namespace Go.Proofs.YtblbepjnkehoaaaGreatDoor
open Go
attribute [local simp] astep aev putA guardA start AV.cells AV.undef takeCells splice intBin strBin abin AV.isCell loadV fillR fillA
attribute [local simp] fin aRes aResL aRes1 AV.strip stripL stripE AV.inScope scopedL scopedE scopedH
set_option maxRecDepth 10000
set_option linter.unusedSimpArgs false
/-- The constructors of a signature are of sizes that can be counted. -/
def conB : Sm → Prop
  | .mk _ _ _ c _ _ _ _ l => cnSize c ≤ 1000000000000 ∧ ∀ x ∈ l, conB x
theorem conB_eq (s : Sm) : conB s ↔ cnSize s.con ≤ 1000000000000 ∧ ∀ x ∈ s.l, conB x := by
  cases s; rw [conB]; rfl
mutual
def mS : Sm → Int → Int → Int × Bool
  | .mk o n s c k ks more names l, left, depth => if left ≤ 0 ∨ 400 < depth ∨ nodeM (.mk o n s c k ks more names l) = false then (0, false) else mSs l left depth (1 + (if opC3 o = true then (cnSize c : Int) else 0))
def mSs : List Sm → Int → Int → Int → Int × Bool
  | [], left, _, n => (n, decide (n ≤ left))
  | x :: xs, left, depth, n => if (mS x (left - n) (depth + 1)).2 = true then mSs xs left depth (n + (mS x (left - n) (depth + 1)).1) else (0, false)
end
theorem mS_eq (s : Sm) (left depth : Int) : mS s left depth = if left ≤ 0 ∨ 400 < depth ∨ nodeM s = false then (0, false) else mSs s.l left depth (1 + (if opC3 s.op = true then (cnSize s.con : Int) else 0)) := by
  cases s; rw [mS]; rfl
mutual
theorem mS_le : ∀ (s : Sm) (left depth : Int), (mS s left depth).2 = true → 1 ≤ (mS s left depth).1 ∧ (mS s left depth).1 ≤ left
  | .mk o n s c k ks more names l, left, depth, h => by
    rw [mS] at h ⊢
    split
    · rename_i hc; rw [if_pos hc] at h; cases h
    · rename_i hc; rw [if_neg hc] at h
      exact mSs_le l left depth _ (by split <;> omega) h
theorem mSs_le : ∀ (l : List Sm) (left depth n : Int), 1 ≤ n → (mSs l left depth n).2 = true → 1 ≤ (mSs l left depth n).1 ∧ (mSs l left depth n).1 ≤ left
  | [], left, depth, n, hn, h => by simp only [mSs, decide_eq_true_eq] at h ⊢; omega
  | x :: xs, left, depth, n, hn, h => by
    rw [mSs] at h ⊢
    split
    · rename_i hc; rw [if_pos hc] at h
      have := mS_le x (left - n) (depth + 1) hc
      exact mSs_le xs left depth _ (by omega) h
    · rename_i hc; rw [if_neg hc] at h; cases h
end
def okAV (p : Int × Bool) : AV := .tup [.int .i64 p.1, .bool p.2]
theorem okAV_scoped (p : Int × Bool) (n : Nat) : (okAV p).inScope n = true := by simp [okAV]
theorem valid_size {c : Cn} (h : cnValid c = true) : cnSize c ≤ 20000 := by
  simp only [cnValid, Bool.and_eq_true, decide_eq_true_eq] at h; exact h.1
theorem nodeM_con {s : Sm} (h : nodeM s = true) (ho : opC3 s.op = true) : cnSize s.con ≤ 20000 := by
  simp only [nodeM, Bool.and_eq_true] at h
  have := h.2.1
  rw [m2, if_pos ho] at this
  exact valid_size this
def formM (s : Sm) : Bool := (mS s 20000 1).2
def sizeM (s : Sm) : Int := if formM s = true then (mS s 20000 1).1 else 0
mutual
def cS : Sm → Int → Int → Int
  | .mk o n s c k ks more names l, left, d => if left < 1 ∨ d < 1 ∨ nodeM (.mk o n s c k ks more names l) = false then -1 else cSs l (left - 1 - (if opC3 o = true then (cnSize c : Int) else 0)) d
def cSs : List Sm → Int → Int → Int
  | [], left, _ => left
  | x :: xs, left, d => if 0 ≤ left then cSs xs (cS x left (d - 1)) d else left
end
theorem cS_eq (s : Sm) (left d : Int) : cS s left d = if left < 1 ∨ d < 1 ∨ nodeM s = false then -1 else cSs s.l (left - 1 - (if opC3 s.op = true then (cnSize s.con : Int) else 0)) d := by
  cases s; rw [cS]; rfl
theorem cSs_neg {l : List Sm} {left d : Int} (h : left < 0) : cSs l left d = left := by
  cases l with
  | nil => rw [cSs]
  | cons x xs => rw [cSs, if_neg (by omega)]
mutual
theorem cS_mS : ∀ (s : Sm) (left d : Int), ((mS s left (401 - d)).2 = true → cS s left d = left - (mS s left (401 - d)).1) ∧ ((mS s left (401 - d)).2 = false → cS s left d < 0)
  | .mk o n s c k ks more names l, left, d => by
    rw [mS, cS]
    by_cases h : left < 1 ∨ d < 1 ∨ nodeM (.mk o n s c k ks more names l) = false
    · rw [if_pos h, if_pos (h.imp (fun h => (by omega)) (Or.imp_left fun h => (by omega)))]
      exact ⟨fun h => (by cases h), fun _ => (by omega)⟩
    · rw [if_neg h, if_neg (fun h2 => h (h2.imp (fun h => (by omega)) (Or.imp_left fun h => (by omega))))]
      have := cSs_mSs l left d (1 + (if opC3 o = true then (cnSize c : Int) else 0))
      rw [show left - (1 + (if opC3 o = true then (cnSize c : Int) else 0)) = left - 1 - (if opC3 o = true then (cnSize c : Int) else 0) by omega] at this
      exact this
theorem cSs_mSs : ∀ (l : List Sm) (left d n : Int), ((mSs l left (401 - d) n).2 = true → cSs l (left - n) d = left - (mSs l left (401 - d) n).1) ∧ ((mSs l left (401 - d) n).2 = false → cSs l (left - n) d < 0)
  | [], left, d, n => by
    rw [mSs, cSs]
    simp only [decide_eq_true_eq, decide_eq_false_iff_not]
    exact ⟨fun _ => trivial, fun h => (by omega)⟩
  | x :: xs, left, d, n => by
    rw [mSs]
    have hx := cS_mS x (left - n) (d - 1)
    rw [show 401 - (d - 1) = 401 - d + 1 by omega] at hx
    by_cases h : (mS x (left - n) (401 - d + 1)).2 = true
    · rw [if_pos h, cSs]
      have h2 := mS_le x _ _ h
      rw [if_pos (by omega), hx.1 h, show left - n - (mS x (left - n) (401 - d + 1)).1 = left - (n + (mS x (left - n) (401 - d + 1)).1) by omega]
      exact cSs_mSs xs left d _
    · rw [if_neg h, cSs]
      refine ⟨fun h => (by cases h), fun _ => ?_⟩
      have h3 := hx.2 (by simpa using h)
      split
      · rw [cSs_neg h3]; exact h3
      · omega
end
theorem cS_form (s : Sm) : decide (0 ≤ cS s 20000 400) = formM s := by
  have h := cS_mS s 20000 400
  rw [show (401 : Int) - 400 = 1 by rfl] at h
  unfold formM
  cases hb : (mS s 20000 1).2
  · have := h.2 hb; simpa using this
  · have := mS_le s _ _ hb
    have := h.1 hb
    simp; omega
mutual
theorem cS_ge : ∀ (s : Sm) (left d : Int), -20001 ≤ cS s left d ∧ (cS s left d ≤ left ∨ cS s left d = -1)
  | .mk o n s c k ks more names l, left, d => by
    rw [cS]
    split
    · exact ⟨by omega, .inr rfl⟩
    · rename_i h
      have hz : (if opC3 o = true then (cnSize c : Int) else 0) ≤ 20000 ∧ 0 ≤ (if opC3 o = true then (cnSize c : Int) else 0) := by
        split
        · rename_i ho
          have := nodeM_con (s := .mk o n s c k ks more names l) (by cases hn : nodeM (.mk o n s c k ks more names l) <;> simp_all) ho
          have h2 : cnSize c ≤ 20000 := this
          omega
        · omega
      have := cSs_ge l (left - 1 - (if opC3 o = true then (cnSize c : Int) else 0)) d (by omega)
      omega
theorem cSs_ge : ∀ (l : List Sm) (left d : Int), -20001 ≤ left → -20001 ≤ cSs l left d ∧ (cSs l left d ≤ left ∨ cSs l left d = -1)
  | [], left, d, h => by rw [cSs]; omega
  | x :: xs, left, d, h => by
    rw [cSs]
    split
    · have h1 := cS_ge x left (d - 1)
      have h2 := cSs_ge xs (cS x left (d - 1)) d h1.1
      omega
    · omega
end
end Go.Proofs.YtblbepjnkehoaaaGreatDoor
