/- Joined: K1 K2 K3 K4 K5 K6 K8 K9 K10 K11 K12 K13 K14. -/
import Derived.Test.YtblbepjnkehoaaaGreatDoorG07
import Derived.Test.YtblbepjnkehoaaaGreatDoorG06
import Derived.Test.YtblbepjnkehoaaaGreatDoorG03
import Derived.Test.YtblbepjnkehoaaaGreatDoorG05
import Derived.Test.YtblbepjnkehoaaaGreatDoorG08
set_option linter.unusedSimpArgs false
set_option linter.unusedVariables false
/- Kinds: copies. -/
namespace Go.Proofs.YtblbepjnkehoaaaGreatDoor
open Go
attribute [local simp] astep aev putA guardA start AV.cells AV.undef takeCells splice intBin abin AV.isCell loadV
set_option maxRecDepth 10000
theorem encode_copyKind_step (c : Kd) (hrec : ∀ x ∈ c.l, HCall Go.Proofs.Tryz.prog i_encode_copyKind [kdAV x] [] (kdAV x) []) : HCall Go.Proofs.Tryz.prog i_encode_copyKind [kdAV c] [] (kdAV c) [] := by
  refine HCall.go mixed ok_encode_copyKind (by simp) fun hfit Q hQ => ?_
  have hf := kd_fits (k := c) (by simpa [fitsL, kdAV, AV.fits] using hfit)
  have hln : c.l.length ≤ 1073741824 := hf.1
  clear hfit hf
  simp -implicitDefEqProofs [c_encode_copyKind, kdAV, kdCells_eq c]
  refine WP_loop (AWp.loopI [2] (fun n f h G => ∃ k tok, k + n = c.l.length ∧ f 9 = .int .i64 k ∧ h 2 = [.sl tok ((c.l.map kdCells).take k)] ∧ owns 3 G tok ((c.l.map kdCells).take k) 1) c.l.length (by simp) ⟨0, .nilT, by simp, rfl, by simp [varsOf], owns_nil _ _ _⟩ ?_)
  rintro n f h G ⟨k, tok, hk, h9, h2, hown⟩
  refine AWp.run mixed fun Q2 hQ2 => ?_
  simp -implicitDefEqProofs [AC.dsts, aoDsts, updT, updH, h9, h2]
  by_cases hlt : k < c.l.length
  · have hrec := hrec c.l[k] (List.getElem_mem _)
    simp -implicitDefEqProofs [hlt]
    refine WP_draw (by rfl) ?_
    simp -implicitDefEqProofs
    refine DCALL_of (fun H => hrec.lift (by simp [kdAV, scopedL, AV.inScope]) (by simp [kdAV, AV.inScope]) H) ?_
    simp -implicitDefEqProofs [kdAV, fillR]
    refine DOPT_append (A := [_, _, _]) (owns_more hown) (by simp [maxL]; omega) (headK_take (headK_map _ _ kdCells_length)) (by simp) fun tok' G' hown' hG' => ?_
    simp -implicitDefEqProofs [wrap_i64 (n := (k : Int) + 1) (by omega) (by omega)]
    refine hQ2 _ _ _ (loop_next (n - 1) (fun _ => [.sl tok' ((c.l.map kdCells).take k ++ [kdCells c.l[k]])]) rfl ?_ ?_ ?_)
    · omega
    · simp -implicitDefEqProofs [AC.dsts, aoDsts, updT, slots]
    · have e : (c.l.map kdCells).take (k + 1) = (c.l.map kdCells).take k ++ [kdCells c.l[k]] := by simp [List.take_add_one, hlt]
      refine ⟨k + 1, tok', by omega, by simp [slots], by rw [e], ?_⟩
      rw [e]; exact hown'
  · have hkl : (c.l.map kdCells).take k = c.l.map kdCells := List.take_of_length_le (by simp; omega)
    simp -implicitDefEqProofs [hlt]
    refine hQ2 _ _ _ (loop_exit ?_)
    show KE _ 0 _ Q _ _
    simp -implicitDefEqProofs [hkl]
    refine hQ _ _ _ ?_
    simp -implicitDefEqProofs [fin, aRes, aResL, aRes1, AV.strip, stripL, AV.inScope, scopedL, scopedH, kdAV, kdCells_eq c]
theorem encode_copyKind_call (c : Kd) : HCall Go.Proofs.Tryz.prog i_encode_copyKind [kdAV c] [] (kdAV c) [] := encode_copyKind_step c fun x _ => encode_copyKind_call x
termination_by SizeOf.sizeOf c
decreasing_by exact Kd.lt_l ‹_›
end Go.Proofs.YtblbepjnkehoaaaGreatDoor
/- Kinds: validity. -/
namespace Go.Proofs.YtblbepjnkehoaaaGreatDoor
open Go
attribute [local simp] astep aev putA guardA start AV.cells AV.undef takeCells splice intBin abin AV.isCell loadV
set_option maxRecDepth 10000
mutual
def kSize : Kd → Int → Int → Option Int
  | .mk l, left, depth => if left ≤ 0 ∨ 400 < depth ∨ (l.length ≠ 0 ∧ l.length ≠ 2) then none else kSizes l left depth 1
def kSizes : List Kd → Int → Int → Int → Option Int
  | [], _, _, acc => some acc
  | x :: xs, left, depth, acc => match kSize x (left - acc) (depth + 1) with
    | none => none
    | some m => kSizes xs left depth (acc + m)
end
theorem kSize_eq (c : Kd) (left depth : Int) : kSize c left depth = if left ≤ 0 ∨ 400 < depth ∨ (c.l.length ≠ 0 ∧ c.l.length ≠ 2) then none else kSizes c.l left depth 1 := by cases c; simp [kSize, Kd.l]
mutual
theorem kSize_le : ∀ (c : Kd) (left depth n : Int), kSize c left depth = some n → 1 ≤ n ∧ n ≤ left
  | .mk l, left, depth, n, h => by
    simp only [kSize] at h
    split at h
    · cases h
    · rename_i hn
      have := kSizes_le l left depth 1 n h (by omega)
      omega
theorem kSizes_le : ∀ (l : List Kd) (left depth acc n : Int), kSizes l left depth acc = some n → acc ≤ left → acc ≤ n ∧ n ≤ left
  | [], left, depth, acc, n, h, ha => by simp only [kSizes, Option.some.injEq] at h; omega
  | x :: xs, left, depth, acc, n, h, ha => by
    simp only [kSizes] at h
    split at h
    · cases h
    · rename_i m hm
      have h1 := kSize_le x _ _ m hm
      have h2 := kSizes_le xs left depth (acc + m) n h (by omega)
      omega
end
def okInt (o : Option Int) : AV := .tup [.int .i64 (o.getD 0), .bool o.isSome]
theorem kind_size_step (c : Kd) (left depth : Int) (hl : left ≤ 20000) (hl0 : -1 ≤ left) (hd0 : 0 ≤ depth) (hd : depth ≤ 1000)
    (hrec : ∀ x ∈ c.l, ∀ left depth, left ≤ 20000 → -1 ≤ left → 0 ≤ depth → depth ≤ 401 → HCall Go.Proofs.Tryz.prog i_kind_size [kdAV x, .int .i64 left, .int .i64 depth] [] (okInt (kSize x left depth)) []) :
    HCall Go.Proofs.Tryz.prog i_kind_size [kdAV c, .int .i64 left, .int .i64 depth] [] (okInt (kSize c left depth)) [] := by
  refine HCall.go mixed ok_kind_size (by simp) fun hfit Q hQ => ?_
  have hf := kd_fits (k := c) (by simpa [fitsL, kdAV, AV.fits] using hfit.1)
  have hln : c.l.length ≤ 1073741824 := hf.1
  clear hfit hf
  simp -implicitDefEqProofs [c_kind_size, kdAV, kdCells_eq c]
  by_cases h1 : left ≤ 0
  · have e : kSize c left depth = none := by rw [kSize_eq]; simp [h1]
    simp -implicitDefEqProofs [h1]
    refine hQ _ _ _ ?_
    simp -implicitDefEqProofs [fin, aRes, aResL, aRes1, AV.strip, stripL, AV.inScope, scopedL, scopedH, e, okInt]
  by_cases h2 : 400 < depth
  · have e : kSize c left depth = none := by rw [kSize_eq]; simp [h2]
    simp -implicitDefEqProofs [h1, h2]
    refine hQ _ _ _ ?_
    simp -implicitDefEqProofs [fin, aRes, aResL, aRes1, AV.strip, stripL, AV.inScope, scopedL, scopedH, e, okInt]
  simp -implicitDefEqProofs [h1, h2]
  have key : ∀ b, ((c.l.length : Int) != 0) = b → (b = true → (c.l.length : Int) = 2) → kSize c left depth = kSizes c.l left depth 1 := fun b hb h => by
    rw [kSize_eq, if_neg]
    cases b
    · simp only [bne_eq_false_iff_eq] at hb; omega
    · have := h rfl; omega
  refine GRD_split (fun hb => ?_) (fun hb => ?_) <;> simp -implicitDefEqProofs [hb]
  refine COND_split (fun hb2 => ?_) (fun hb2 => ?_)
  · have e : kSize c left depth = none := by
      rw [kSize_eq, if_pos]
      simp only [bne_iff_ne, ne_eq] at hb hb2
      omega
    simp -implicitDefEqProofs
    refine hQ _ _ _ ?_
    simp -implicitDefEqProofs [fin, aRes, aResL, aRes1, AV.strip, stripL, AV.inScope, scopedL, scopedH, e, okInt]
  · have key := key _ hb (fun _ => by simpa only [bne_eq_false_iff_eq] using hb2)
    simp -implicitDefEqProofs
    refine WP_loop (AWp.loopI [] (fun n f h G => ∃ (k : Nat) (acc : Int), k + n = c.l.length ∧ f 34 = .int .i64 k ∧ f 8 = .int .i64 acc ∧ 1 ≤ acc ∧ acc ≤ left ∧ kSizes (c.l.drop k) left depth acc = kSizes c.l left depth 1) c.l.length (by simp) ⟨0, 1, by simp, rfl, rfl, by omega, by omega, by simp⟩ ?_)
    rintro n f h G ⟨k, acc, hk, h34, h8, ha1, hal, hs⟩
    refine AWp.run mixed fun Q2 hQ2 => ?_
    simp -implicitDefEqProofs [AC.dsts, aoDsts, updT, updH, h34, h8]
    by_cases hlt : k < c.l.length
    · have hd := List.drop_eq_getElem_cons hlt
      have hrec := hrec c.l[k] (List.getElem_mem _) (left - acc) (depth + 1) (by omega) (by omega) (by omega) (by omega)
      simp -implicitDefEqProofs [hlt, wrap_i64 (n := left - acc) (by omega) (by omega), wrap_i64 (n := depth + 1) (by omega) (by omega)]
      refine CALL_of (hrec.lift (by simp [kdAV, scopedL, AV.inScope]) (by simp [okInt, AV.inScope, scopedL]) _) ?_
      simp -implicitDefEqProofs [okInt]
      cases hm : kSize c.l[k] (left - acc) (depth + 1) with
      | none =>
        have e : kSize c left depth = none := by rw [key, ← hs, hd]; simp [kSizes, hm]
        simp -implicitDefEqProofs
        refine hQ2 _ _ _ (loop_ret ?_)
        show KR _ _ Q _ _
        simp -implicitDefEqProofs
        refine hQ _ _ _ ?_
        simp -implicitDefEqProofs [fin, aRes, aResL, aRes1, AV.strip, stripL, AV.inScope, scopedL, scopedH, e, okInt]
      | some m =>
        have hm2 := kSize_le _ _ _ _ hm
        simp -implicitDefEqProofs [wrap_i64 (n := (k : Int) + 1) (by omega) (by omega), wrap_i64 (n := acc + m) (by omega) (by omega)]
        refine hQ2 _ _ _ (loop_next (n - 1) h rfl ?_ ?_ ?_)
        · omega
        · simp -implicitDefEqProofs [AC.dsts, aoDsts, updT, slots]
        · refine ⟨k + 1, acc + m, by omega, by simp [slots], by simp [slots], by omega, by omega, ?_⟩
          rw [← hs, hd]; simp [kSizes, hm]
    · have e : kSize c left depth = some acc := by
        rw [key, ← hs, List.drop_eq_nil_of_le (by omega)]; simp [kSizes]
      simp -implicitDefEqProofs [hlt]
      refine hQ2 _ _ _ (loop_exit ?_)
      show KE _ 0 _ Q _ _
      simp -implicitDefEqProofs
      refine hQ _ _ _ ?_
      simp -implicitDefEqProofs [fin, aRes, aResL, aRes1, AV.strip, stripL, AV.inScope, scopedL, scopedH, e, okInt]
  · have key := key _ hb (by simp)
    refine WP_loop (AWp.loopI [] (fun n f h G => ∃ (k : Nat) (acc : Int), k + n = c.l.length ∧ f 34 = .int .i64 k ∧ f 8 = .int .i64 acc ∧ 1 ≤ acc ∧ acc ≤ left ∧ kSizes (c.l.drop k) left depth acc = kSizes c.l left depth 1) c.l.length (by simp) ⟨0, 1, by simp, rfl, rfl, by omega, by omega, by simp⟩ ?_)
    rintro n f h G ⟨k, acc, hk, h34, h8, ha1, hal, hs⟩
    refine AWp.run mixed fun Q2 hQ2 => ?_
    simp -implicitDefEqProofs [AC.dsts, aoDsts, updT, updH, h34, h8]
    by_cases hlt : k < c.l.length
    · have hd := List.drop_eq_getElem_cons hlt
      have hrec := hrec c.l[k] (List.getElem_mem _) (left - acc) (depth + 1) (by omega) (by omega) (by omega) (by omega)
      simp -implicitDefEqProofs [hlt, wrap_i64 (n := left - acc) (by omega) (by omega), wrap_i64 (n := depth + 1) (by omega) (by omega)]
      refine CALL_of (hrec.lift (by simp [kdAV, scopedL, AV.inScope]) (by simp [okInt, AV.inScope, scopedL]) _) ?_
      simp -implicitDefEqProofs [okInt]
      cases hm : kSize c.l[k] (left - acc) (depth + 1) with
      | none =>
        have e : kSize c left depth = none := by rw [key, ← hs, hd]; simp [kSizes, hm]
        simp -implicitDefEqProofs
        refine hQ2 _ _ _ (loop_ret ?_)
        show KR _ _ Q _ _
        simp -implicitDefEqProofs
        refine hQ _ _ _ ?_
        simp -implicitDefEqProofs [fin, aRes, aResL, aRes1, AV.strip, stripL, AV.inScope, scopedL, scopedH, e, okInt]
      | some m =>
        have hm2 := kSize_le _ _ _ _ hm
        simp -implicitDefEqProofs [wrap_i64 (n := (k : Int) + 1) (by omega) (by omega), wrap_i64 (n := acc + m) (by omega) (by omega)]
        refine hQ2 _ _ _ (loop_next (n - 1) h rfl ?_ ?_ ?_)
        · omega
        · simp -implicitDefEqProofs [AC.dsts, aoDsts, updT, slots]
        · refine ⟨k + 1, acc + m, by omega, by simp [slots], by simp [slots], by omega, by omega, ?_⟩
          rw [← hs, hd]; simp [kSizes, hm]
    · have e : kSize c left depth = some acc := by
        rw [key, ← hs, List.drop_eq_nil_of_le (by omega)]; simp [kSizes]
      simp -implicitDefEqProofs [hlt]
      refine hQ2 _ _ _ (loop_exit ?_)
      show KE _ 0 _ Q _ _
      simp -implicitDefEqProofs
      refine hQ _ _ _ ?_
      simp -implicitDefEqProofs [fin, aRes, aResL, aRes1, AV.strip, stripL, AV.inScope, scopedL, scopedH, e, okInt]
theorem kind_size_call (c : Kd) (left depth : Int) (hl : left ≤ 20000) (hl0 : -1 ≤ left) (hd0 : 0 ≤ depth) (hd : depth ≤ 1000) : HCall Go.Proofs.Tryz.prog i_kind_size [kdAV c, .int .i64 left, .int .i64 depth] [] (okInt (kSize c left depth)) [] :=
  kind_size_step c left depth hl hl0 hd0 hd fun x _ left depth h1 h2 h3 h4 => kind_size_call x left depth h1 h2 h3 (by omega)
termination_by SizeOf.sizeOf c
decreasing_by exact Kd.lt_l ‹_›
end Go.Proofs.YtblbepjnkehoaaaGreatDoor
/- slices.IndexFunc and slices.ContainsFunc. -/
namespace Go.Proofs.YtblbepjnkehoaaaGreatDoor
open Go
attribute [local simp] astep aev putA guardA start AV.cells AV.undef takeCells splice intBin abin AV.isCell loadV
set_option maxRecDepth 10000
def idxFrom {α : Type} (p : α → Bool) : List α → Nat → Int
  | [], _ => -1
  | x :: xs, i => if p x then i else idxFrom p xs (i + 1)
theorem idxFrom_any {α : Type} (p : α → Bool) : ∀ (l : List α) (i : Nat), decide (0 ≤ idxFrom p l i) = l.any p
  | [], i => by simp [idxFrom]
  | x :: xs, i => by
    have := idxFrom_any p xs (i + 1)
    cases h : p x <;> simp [idxFrom, h, this]
theorem slices_IndexFunc_Kind_call (l : List Kd) (p : Kd → Bool) (n : Nat) (hp : ∀ x ∈ l, HCall Go.Proofs.Tryz.prog n [kdAV x] [] (.bool (p x)) []) :
    HCall Go.Proofs.Tryz.prog i_slices_IndexFunc_Kind [.sl .none (l.map kdCells), .fn (.func n) [] []] [] (.int .i64 (idxFrom p l 0)) [] := by
  refine HCall.go mixed ok_slices_IndexFunc_Kind (by simp) fun hfit Q hQ => ?_
  have hln : l.length ≤ 1073741824 := by simpa [fitsL, AV.fits, maxL] using hfit.1.1
  clear hfit
  simp -implicitDefEqProofs [c_slices_IndexFunc_Kind]
  refine WP_loop (AWp.loopI [] (fun n f h G => ∃ k : Nat, k + n = l.length ∧ f 8 = .int .i64 k ∧ idxFrom p (l.drop k) k = idxFrom p l 0) l.length (by simp) ⟨0, by simp, rfl, by simp⟩ ?_)
  rintro n f h G ⟨k, hk, h8, hs⟩
  refine AWp.run mixed fun Q2 hQ2 => ?_
  simp -implicitDefEqProofs [AC.dsts, aoDsts, updT, updH, h8]
  by_cases hlt : k < l.length
  · have hd := List.drop_eq_getElem_cons hlt
    have hp := hp l[k] (List.getElem_mem _)
    simp -implicitDefEqProofs [hlt]
    refine CALL_of (hp.lift (by simp [kdAV, scopedL, AV.inScope]) (by simp [AV.inScope]) _) ?_
    simp -implicitDefEqProofs
    refine COND_split (fun hb => ?_) (fun hb => ?_)
    · have e : idxFrom p l 0 = k := by rw [← hs, hd]; simp [idxFrom, hb]
      simp -implicitDefEqProofs
      refine hQ2 _ _ _ (loop_ret ?_)
      show KR _ _ Q _ _
      simp -implicitDefEqProofs
      refine hQ _ _ _ ?_
      simp -implicitDefEqProofs [fin, aRes, aResL, aRes1, AV.strip, stripL, AV.inScope, scopedL, scopedH, e]
    · simp -implicitDefEqProofs [wrap_i64 (n := (k : Int) + 1) (by omega) (by omega)]
      refine hQ2 _ _ _ (loop_next (n - 1) h rfl ?_ ?_ ?_)
      · omega
      · simp -implicitDefEqProofs [AC.dsts, aoDsts, updT, slots]
      · refine ⟨k + 1, by omega, by simp [slots], ?_⟩
        rw [← hs, hd]; simp [idxFrom, hb]
  · have e : idxFrom p l 0 = -1 := by rw [← hs, List.drop_eq_nil_of_le (by omega)]; simp [idxFrom]
    simp -implicitDefEqProofs [hlt]
    refine hQ2 _ _ _ (loop_exit ?_)
    show KE _ 0 _ Q _ _
    simp -implicitDefEqProofs
    refine hQ _ _ _ ?_
    simp -implicitDefEqProofs [fin, aRes, aResL, aRes1, AV.strip, stripL, AV.inScope, scopedL, scopedH, e]
theorem slices_ContainsFunc_Kind_call (l : List Kd) (p : Kd → Bool) (n : Nat) (hp : ∀ x ∈ l, HCall Go.Proofs.Tryz.prog n [kdAV x] [] (.bool (p x)) []) :
    HCall Go.Proofs.Tryz.prog i_slices_ContainsFunc_Kind [.sl .none (l.map kdCells), .fn (.func n) [] []] [] (.bool (l.any p)) [] := by
  refine HCall.go mixed ok_slices_ContainsFunc_Kind (by simp) fun hfit Q hQ => ?_
  clear hfit
  simp -implicitDefEqProofs [c_slices_ContainsFunc_Kind]
  refine CALL_of ((slices_IndexFunc_Kind_call l p n hp).lift (by simp [scopedL, AV.inScope]) (by simp [AV.inScope]) _) ?_
  simp -implicitDefEqProofs
  refine hQ _ _ _ ?_
  simp -implicitDefEqProofs [fin, aRes, aResL, aRes1, AV.strip, stripL, AV.inScope, scopedL, scopedH, idxFrom_any]
def kValid (c : Kd) : Bool := (kSize c 20000 1).isSome
theorem kind_Valid_call (c : Kd) : HCall Go.Proofs.Tryz.prog i_kind_Valid [kdAV c] [] (.bool (kValid c)) [] := by
  refine HCall.go mixed ok_kind_Valid (by simp) fun hfit Q hQ => ?_
  clear hfit
  simp -implicitDefEqProofs [c_kind_Valid, kdAV]
  refine CALL_of ((kind_size_call c 20000 1 (by omega) (by omega) (by omega) (by omega)).lift (by simp [kdAV, scopedL, AV.inScope]) (by simp [okInt, AV.inScope, scopedL]) _) ?_
  simp -implicitDefEqProofs [okInt]
  refine hQ _ _ _ ?_
  simp -implicitDefEqProofs [fin, aRes, aResL, aRes1, AV.strip, stripL, AV.inScope, scopedL, scopedH, kValid]
theorem encode_kinds_1_call (c : Kd) : HCall Go.Proofs.Tryz.prog i_encode_kinds_1 [kdAV c] [] (.bool !kValid c) [] := by
  refine HCall.go mixed ok_encode_kinds_1 (by simp) fun hfit Q hQ => ?_
  clear hfit
  simp -implicitDefEqProofs [c_encode_kinds_1, kdAV]
  refine CALL_of ((kind_Valid_call c).lift (by simp [kdAV, scopedL, AV.inScope]) (by simp [AV.inScope, scopedL]) _) ?_
  simp -implicitDefEqProofs
  refine hQ _ _ _ ?_
  simp -implicitDefEqProofs [fin, aRes, aResL, aRes1, AV.strip, stripL, AV.inScope, scopedL, scopedH]
theorem encode_kinds_call (l : List Kd) : HCall Go.Proofs.Tryz.prog i_encode_kinds [.sl .none (l.map kdCells)] [] (.bool (l.all kValid)) [] := by
  refine HCall.go mixed ok_encode_kinds (by simp) fun hfit Q hQ => ?_
  clear hfit
  simp -implicitDefEqProofs [c_encode_kinds]
  refine CALL_of ((slices_ContainsFunc_Kind_call l _ _ fun x _ => encode_kinds_1_call x).lift (by simp [scopedL, AV.inScope]) (by simp [AV.inScope, scopedL]) _) ?_
  simp -implicitDefEqProofs
  refine hQ _ _ _ ?_
  simp -implicitDefEqProofs [fin, aRes, aResL, aRes1, AV.strip, stripL, AV.inScope, scopedL, scopedH, List.all_eq_not_any_not]
end Go.Proofs.YtblbepjnkehoaaaGreatDoor
/- Kinds: the reference's count, pairs, lists. -/
namespace Go.Proofs.YtblbepjnkehoaaaGreatDoor
open Go
attribute [local simp] astep aev putA guardA start AV.cells AV.undef takeCells splice intBin strBin abin AV.isCell loadV fillR fillA
attribute [local simp] fin aRes aResL aRes1 AV.strip stripL stripE AV.inScope scopedL scopedE scopedH
set_option maxRecDepth 10000
set_option linter.unusedSimpArgs false
mutual
def kCount : Kd → Int → Int → Int
  | .mk l, left, depth => if left < 1 ∨ depth < 1 ∨ (l.length ≠ 0 ∧ l.length ≠ 2) then -1 else kCounts l (left - 1) depth
def kCounts : List Kd → Int → Int → Int
  | [], left, _ => left
  | x :: xs, left, depth => if 0 ≤ left then kCounts xs (kCount x left (depth - 1)) depth else left
end
theorem kCount_eq (c : Kd) (left depth : Int) : kCount c left depth = if left < 1 ∨ depth < 1 ∨ (c.l.length ≠ 0 ∧ c.l.length ≠ 2) then -1 else kCounts c.l (left - 1) depth := by cases c; simp [kCount, Kd.l]
mutual
theorem kCount_size : ∀ (c : Kd) (left d : Int), (∀ n, kSize c left d = some n → kCount c left (401 - d) = left - n) ∧ (kSize c left d = none → kCount c left (401 - d) < 0)
  | .mk l, left, d => by
    simp only [kSize, kCount]
    by_cases h : left ≤ 0 ∨ 400 < d ∨ (l.length ≠ 0 ∧ l.length ≠ 2)
    · rw [if_pos h, if_pos (by omega)]; simp
    · rw [if_neg h, if_neg (by omega)]
      have := kCounts_size l left d 1 (by omega)
      exact this
theorem kCounts_size : ∀ (l : List Kd) (left d acc : Int), acc ≤ left → (∀ n, kSizes l left d acc = some n → kCounts l (left - acc) (401 - d) = left - n) ∧ (kSizes l left d acc = none → kCounts l (left - acc) (401 - d) < 0)
  | [], left, d, acc, ha => by simp [kSizes, kCounts]
  | x :: xs, left, d, acc, ha => by
    have h1 := kCount_size x (left - acc) (d + 1)
    have e : (401 : Int) - (d + 1) = 401 - d - 1 := by omega
    rw [e] at h1
    simp only [kSizes, kCounts]
    rw [if_pos (by omega)]
    cases hm : kSize x (left - acc) (d + 1) with
    | none =>
      have h2 := h1.2 hm
      simp only [reduceCtorEq, false_implies, implies_true, true_and]
      intro _
      cases xs with
      | nil => simpa [kCounts] using h2
      | cons y ys => simp only [kCounts]; rw [if_neg (by omega)]; exact h2
    | some m =>
      have h2 := h1.1 m hm
      have h3 := kSize_le _ _ _ _ hm
      have h4 := kCounts_size xs left d (acc + m) (by omega)
      have e2 : left - acc - m = left - (acc + m) := by omega
      simp only [h2, e2]
      exact h4
end
theorem kCount_bound (c : Kd) (left d : Int) (hl : 0 ≤ left) : kCount c left d ≤ left := by
  have h := kCount_size c left (401 - d)
  have e : (401 : Int) - (401 - d) = d := by omega
  rw [e] at h
  cases hs : kSize c left (401 - d) with
  | none => have := h.2 hs; omega
  | some n => have := h.1 n hs; have := kSize_le _ _ _ _ hs; omega
mutual
theorem kCount_low : ∀ (c : Kd) (left depth : Int), 0 ≤ left → -1 ≤ kCount c left depth
  | .mk l, left, depth, h => by
    simp only [kCount]
    split
    · omega
    · exact kCounts_low l (left - 1) depth (by omega)
theorem kCounts_low : ∀ (l : List Kd) (left depth : Int), -1 ≤ left → -1 ≤ kCounts l left depth
  | [], left, depth, h => by simpa [kCounts] using h
  | x :: xs, left, depth, h => by
    simp only [kCounts]
    split
    · exact kCounts_low xs _ depth (kCount_low x left _ (by omega))
    · exact h
end
theorem kCount_valid (c : Kd) : decide (0 ≤ kCount c 20000 400) = kValid c := by
  have h := kCount_size c 20000 1
  rw [show (401 : Int) - 1 = 400 from rfl] at h
  unfold kValid
  cases hs : kSize c 20000 1 with
  | none => have := h.2 hs; simp; omega
  | some n =>
    have h1 := h.1 n hs
    have := kSize_le _ _ _ _ hs
    simp; omega
def kPair (a b : Kd) : Kd := .mk [a, b]
theorem pilasterref08_Pair_call (a b : Kd) : HCall Go.Proofs.Tryz.prog i_pilasterref08_Pair [kdAV a, kdAV b] [] (kdAV (kPair a b)) [] := by
  refine HCall.go mixed ok_pilasterref08_Pair (by simp) fun hfit Q hQ => ?_
  clear hfit
  simp -implicitDefEqProofs [c_pilasterref08_Pair, kdAV]
  refine hQ _ _ _ ?_
  simp -implicitDefEqProofs [kdAV, kdCells_mk, kPair]
theorem encode_over_call (a : Kd) : HCall Go.Proofs.Tryz.prog i_encode_over [kdAV a] [] (kdAV (kPair a (.mk []))) [] := by
  refine HCall.go mixed ok_encode_over (by simp) fun hfit Q hQ => ?_
  clear hfit
  simp -implicitDefEqProofs [c_encode_over, kdAV]
  refine CALL_pure (encode_copyKind_call a) (by simp) (by simp) (by simp [kdAV, cnAV, cnCells_eq, kdCells_eq, strRows, Kd.l]) ?_
  simp -implicitDefEqProofs [kdAV]
  refine hQ _ _ _ ?_
  simp -implicitDefEqProofs [kdAV, kdCells_mk, kPair]
theorem pilasterref25_star_call (a : Kd) : HCall Go.Proofs.Tryz.prog i_pilasterref25_star [kdAV a] [] (kdAV (kPair a (.mk []))) [] := by
  refine HCall.go mixed ok_pilasterref25_star (by simp) fun hfit Q hQ => ?_
  clear hfit
  simp -implicitDefEqProofs [c_pilasterref25_star, kdAV]
  refine CALL_pure (pilasterref08_Pair_call a (.mk [])) (by simp) (by simp) (by simp [kdAV, cnAV, cnCells_eq, kdCells_eq, strRows, Kd.l]) ?_
  simp -implicitDefEqProofs [kdAV]
  refine hQ _ _ _ ?_
  simp -implicitDefEqProofs [kdAV, kdCells_mk, kPair]
theorem pilasterref08_count_step (c : Kd) (left depth : Int) (hl : left ≤ 20000) (hl0 : -1 ≤ left) (hd0 : 0 ≤ depth) (hd : depth ≤ 1000)
    (hrec : ∀ x ∈ c.l, ∀ left depth, left ≤ 20000 → -1 ≤ left → 0 ≤ depth → depth ≤ 1000 → HCall Go.Proofs.Tryz.prog i_pilasterref08_count [kdAV x, .int .i64 left, .int .i64 depth] [] (.int .i64 (kCount x left depth)) []) :
    HCall Go.Proofs.Tryz.prog i_pilasterref08_count [kdAV c, .int .i64 left, .int .i64 depth] [] (.int .i64 (kCount c left depth)) [] := by
  refine HCall.go mixed ok_pilasterref08_count (by simp) fun hfit Q hQ => ?_
  have hf := kd_fits (k := c) (by simpa [fitsL, kdAV, AV.fits] using hfit.1)
  have hln : c.l.length ≤ 1073741824 := hf.1
  clear hfit hf
  simp -implicitDefEqProofs [c_pilasterref08_count, kdAV, kdCells_eq c]
  by_cases h1 : left < 1
  · have e : kCount c left depth = -1 := by rw [kCount_eq]; simp [h1]
    simp -implicitDefEqProofs [h1]
    refine hQ _ _ _ ?_
    simp -implicitDefEqProofs [e]
  by_cases h2 : depth < 1
  · have e : kCount c left depth = -1 := by rw [kCount_eq]; simp [h2]
    simp -implicitDefEqProofs [h1, h2]
    refine hQ _ _ _ ?_
    simp -implicitDefEqProofs [e]
  simp -implicitDefEqProofs [h1, h2]
  have key : ∀ b, ((c.l.length : Int) != 0) = b → (b = true → (c.l.length : Int) = 2) → kCount c left depth = kCounts c.l (left - 1) depth := fun b hb h => by
    rw [kCount_eq, if_neg]
    cases b
    · simp only [bne_eq_false_iff_eq] at hb; omega
    · have := h rfl; omega
  refine GRD_split (fun hb => ?_) (fun hb => ?_) <;> simp -implicitDefEqProofs [hb]
  refine COND_split (fun hb2 => ?_) (fun hb2 => ?_)
  · have e : kCount c left depth = -1 := by
      rw [kCount_eq, if_pos]
      simp only [bne_iff_ne, ne_eq] at hb hb2
      omega
    simp -implicitDefEqProofs
    refine hQ _ _ _ ?_
    simp -implicitDefEqProofs [e]
  · have key := key _ hb (fun _ => by simpa only [bne_eq_false_iff_eq] using hb2)
    simp -implicitDefEqProofs [wrap_i64 (n := left - 1) (by omega) (by omega)]
    refine WP_loop (AWp.loopI [] (fun n f h G => ∃ (k : Nat) (m : Int), k + n = c.l.length ∧ f 7 = .int .i64 k ∧ f 1 = .int .i64 m ∧ -1 ≤ m ∧ m ≤ left ∧ kCounts (c.l.drop k) m depth = kCounts c.l (left - 1) depth) (c.l.length) (by simp) ⟨0, left - 1, by simp, rfl, rfl, by omega, by omega, by simp⟩ ?_)
    rintro n f h G ⟨k, m, hk, h7, h1m, hm0, hml, hs⟩
    refine AWp.run mixed fun Q2 hQ2 => ?_
    simp -implicitDefEqProofs [AC.dsts, aoDsts, updT, updH, h7, h1m]
    by_cases hlt : k < c.l.length
    · have hd' := List.drop_eq_getElem_cons hlt
      simp -implicitDefEqProofs [hlt]
      refine COND_split (fun hb3 => ?_) (fun hb3 => ?_)
      · have hm : 0 ≤ m := by simpa using hb3
        have hrec := hrec c.l[k] (List.getElem_mem _) m (depth - 1) (by omega) (by omega) (by omega) (by omega)
        simp -implicitDefEqProofs [hlt, wrap_i64 (n := depth - 1) (by omega) (by omega)]
        refine CALL_pure (hrec) (by simp) (by simp) (by simp [kdAV, cnAV, cnCells_eq, kdCells_eq, strRows, Kd.l]) ?_
        simp -implicitDefEqProofs [wrap_i64 (n := (k : Int) + 1) (by omega) (by omega)]
        refine hQ2 _ _ _ (loop_next (n - 1) (h) rfl (by omega) (by simp -implicitDefEqProofs [AC.dsts, aoDsts, updT, slots]) ?_)
        have hb5 := kCount_bound c.l[k] m (depth - 1) hm
        have hb6 := kCount_low c.l[k] m (depth - 1) hm
        refine ⟨k + 1, _, by omega, by simp [slots], by simp [slots]; rfl, by omega, by omega, ?_⟩
        rw [← hs, hd']; simp [kCounts, hm]
      · have hm : ¬ 0 ≤ m := by simpa using hb3
        have e : kCount c left depth = m := by rw [key, ← hs, hd']; simp [kCounts, hm]
        simp -implicitDefEqProofs
        refine hQ2 _ _ _ (loop_exit ?_)
        show KE _ 0 _ Q _ _
        simp -implicitDefEqProofs
        refine hQ _ _ _ ?_
        simp -implicitDefEqProofs [e]
    · have e : kCount c left depth = m := by rw [key, ← hs, List.drop_eq_nil_of_le (by omega)]; simp [kCounts]
      simp -implicitDefEqProofs [hlt]
      refine hQ2 _ _ _ (loop_exit ?_)
      show KE _ 0 _ Q _ _
      simp -implicitDefEqProofs
      refine hQ _ _ _ ?_
      simp -implicitDefEqProofs [e]
  · have key := key _ hb (by simp)
    simp -implicitDefEqProofs [wrap_i64 (n := left - 1) (by omega) (by omega)]
    refine WP_loop (AWp.loopI [] (fun n f h G => ∃ (k : Nat) (m : Int), k + n = c.l.length ∧ f 7 = .int .i64 k ∧ f 1 = .int .i64 m ∧ -1 ≤ m ∧ m ≤ left ∧ kCounts (c.l.drop k) m depth = kCounts c.l (left - 1) depth) (c.l.length) (by simp) ⟨0, left - 1, by simp, rfl, rfl, by omega, by omega, by simp⟩ ?_)
    rintro n f h G ⟨k, m, hk, h7, h1m, hm0, hml, hs⟩
    refine AWp.run mixed fun Q2 hQ2 => ?_
    simp -implicitDefEqProofs [AC.dsts, aoDsts, updT, updH, h7, h1m]
    by_cases hlt : k < c.l.length
    · have hd' := List.drop_eq_getElem_cons hlt
      simp -implicitDefEqProofs [hlt]
      refine COND_split (fun hb3 => ?_) (fun hb3 => ?_)
      · have hm : 0 ≤ m := by simpa using hb3
        have hrec := hrec c.l[k] (List.getElem_mem _) m (depth - 1) (by omega) (by omega) (by omega) (by omega)
        simp -implicitDefEqProofs [hlt, wrap_i64 (n := depth - 1) (by omega) (by omega)]
        refine CALL_pure (hrec) (by simp) (by simp) (by simp [kdAV, cnAV, cnCells_eq, kdCells_eq, strRows, Kd.l]) ?_
        simp -implicitDefEqProofs [wrap_i64 (n := (k : Int) + 1) (by omega) (by omega)]
        refine hQ2 _ _ _ (loop_next (n - 1) (h) rfl (by omega) (by simp -implicitDefEqProofs [AC.dsts, aoDsts, updT, slots]) ?_)
        have hb5 := kCount_bound c.l[k] m (depth - 1) hm
        have hb6 := kCount_low c.l[k] m (depth - 1) hm
        refine ⟨k + 1, _, by omega, by simp [slots], by simp [slots]; rfl, by omega, by omega, ?_⟩
        rw [← hs, hd']; simp [kCounts, hm]
      · have hm : ¬ 0 ≤ m := by simpa using hb3
        have e : kCount c left depth = m := by rw [key, ← hs, hd']; simp [kCounts, hm]
        simp -implicitDefEqProofs
        refine hQ2 _ _ _ (loop_exit ?_)
        show KE _ 0 _ Q _ _
        simp -implicitDefEqProofs
        refine hQ _ _ _ ?_
        simp -implicitDefEqProofs [e]
    · have e : kCount c left depth = m := by rw [key, ← hs, List.drop_eq_nil_of_le (by omega)]; simp [kCounts]
      simp -implicitDefEqProofs [hlt]
      refine hQ2 _ _ _ (loop_exit ?_)
      show KE _ 0 _ Q _ _
      simp -implicitDefEqProofs
      refine hQ _ _ _ ?_
      simp -implicitDefEqProofs [e]
theorem pilasterref08_count_call (c : Kd) (left depth : Int) (hl : left ≤ 20000) (hl0 : -1 ≤ left) (hd0 : 0 ≤ depth) (hd : depth ≤ 1000) : HCall Go.Proofs.Tryz.prog i_pilasterref08_count [kdAV c, .int .i64 left, .int .i64 depth] [] (.int .i64 (kCount c left depth)) [] :=
  pilasterref08_count_step c left depth hl hl0 hd0 hd fun x _ left depth h1 h2 h3 h4 => pilasterref08_count_call x left depth h1 h2 h3 (by omega)
termination_by SizeOf.sizeOf c
decreasing_by exact Kd.lt_l ‹_›
end Go.Proofs.YtblbepjnkehoaaaGreatDoor
/- Kinds: lists, equality. -/
namespace Go.Proofs.YtblbepjnkehoaaaGreatDoor
open Go
attribute [local simp] astep aev putA guardA start AV.cells AV.undef takeCells splice intBin strBin abin AV.isCell loadV fillR fillA
attribute [local simp] fin aRes aResL aRes1 AV.strip stripL stripE AV.inScope scopedL scopedE scopedH
set_option maxRecDepth 10000
set_option linter.unusedSimpArgs false
theorem pilasterref08_Valid_call (c : Kd) : HCall Go.Proofs.Tryz.prog i_pilasterref08_Valid [kdAV c] [] (.bool (kValid c)) [] := by
  refine HCall.go mixed ok_pilasterref08_Valid (by simp) fun hfit Q hQ => ?_
  clear hfit
  simp -implicitDefEqProofs [c_pilasterref08_Valid, kdAV]
  refine CALL_pure (pilasterref08_count_call c 20000 400 (by omega) (by omega) (by omega) (by omega)) (by simp) (by simp) (by simp [kdAV, cnAV, cnCells_eq, kdCells_eq, strRows, Kd.l]) ?_
  simp -implicitDefEqProofs
  refine hQ _ _ _ ?_
  simp -implicitDefEqProofs [kCount_valid]
theorem pilasterref08_All_call (l : List Kd) : HCall Go.Proofs.Tryz.prog i_pilasterref08_All [.sl .none (l.map kdCells)] [] (.bool (l.all kValid)) [] := by
  refine HCall.go mixed ok_pilasterref08_All (by simp) fun hfit Q hQ => ?_
  have hln : l.length ≤ 1073741824 := by simpa [fitsL, AV.fits, maxL] using hfit.1.1
  clear hfit
  simp -implicitDefEqProofs [c_pilasterref08_All]
  refine WP_loop (AWp.loopI [] (fun n f h G => ∃ k : Nat, k + n = l.length ∧ f 3 = .int .i64 k ∧ (l.drop k).all kValid = l.all kValid) (l.length) (by simp) ⟨0, by simp, rfl, by simp⟩ ?_)
  rintro n f h G ⟨k, hk, h3, hs⟩
  refine AWp.run mixed fun Q2 hQ2 => ?_
  simp -implicitDefEqProofs [AC.dsts, aoDsts, updT, updH, h3]
  by_cases hlt : k < l.length
  · have hd := List.drop_eq_getElem_cons hlt
    simp -implicitDefEqProofs [hlt]
    refine CALL_pure (pilasterref08_Valid_call l[k]) (by simp) (by simp) (by simp [kdAV, cnAV, cnCells_eq, kdCells_eq, strRows, Kd.l]) ?_
    simp -implicitDefEqProofs
    cases hv : kValid l[k]
    · have e : l.all kValid = false := by rw [← hs, hd, List.all_cons, hv]; simp
      simp -implicitDefEqProofs
      refine hQ2 _ _ _ (loop_ret ?_)
      show KR _ _ Q _ _
      simp -implicitDefEqProofs
      refine hQ _ _ _ ?_
      simp -implicitDefEqProofs [e]
    · simp -implicitDefEqProofs [wrap_i64 (n := (k : Int) + 1) (by omega) (by omega)]
      refine hQ2 _ _ _ (loop_next (n - 1) (h) rfl (by omega) (by simp -implicitDefEqProofs [AC.dsts, aoDsts, updT, slots]) ?_)
      refine ⟨k + 1, by omega, by simp [slots], ?_⟩
      rw [← hs, hd, List.all_cons, hv]; simp
  · have e : l.all kValid = true := by rw [← hs, List.drop_eq_nil_of_le (by omega)]; simp
    simp -implicitDefEqProofs [hlt]
    refine hQ2 _ _ _ (loop_exit ?_)
    show KE _ 0 _ Q _ _
    simp -implicitDefEqProofs
    refine hQ _ _ _ ?_
    simp -implicitDefEqProofs [e]
def kinds1000 (l : List Kd) : Bool := decide (l.length ≤ 1000) && l.all kValid
theorem pilasterref25_Kinds_call (l : List Kd) : HCall Go.Proofs.Tryz.prog i_pilasterref25_Kinds [.sl .none (l.map kdCells)] [] (.bool (kinds1000 l)) [] := by
  refine HCall.go mixed ok_pilasterref25_Kinds (by simp) fun hfit Q hQ => ?_
  clear hfit
  simp -implicitDefEqProofs [c_pilasterref25_Kinds]
  by_cases h : l.length ≤ 1000
  · have h' : (l.length : Int) ≤ 1000 := by omega
    simp -implicitDefEqProofs [h, h']
    refine CALL_pure (pilasterref08_All_call l) (by simp) (by simp) (by simp [kdAV, cnAV, cnCells_eq, kdCells_eq, strRows, Kd.l]) ?_
    simp -implicitDefEqProofs
    refine hQ _ _ _ ?_
    simp -implicitDefEqProofs [kinds1000, h]
  · have h' : ¬ (l.length : Int) ≤ 1000 := by omega
    simp -implicitDefEqProofs [h, h']
    refine hQ _ _ _ ?_
    simp -implicitDefEqProofs [kinds1000, h]
theorem pilasterref24_kinds_call (l : List Kd) : HCall Go.Proofs.Tryz.prog i_pilasterref24_kinds [.sl .none (l.map kdCells)] [] (.bool (kinds1000 l)) [] := by
  refine HCall.go mixed ok_pilasterref24_kinds (by simp) fun hfit Q hQ => ?_
  clear hfit
  simp -implicitDefEqProofs [c_pilasterref24_kinds]
  by_cases h : l.length ≤ 1000
  · have h' : (l.length : Int) ≤ 1000 := by omega
    simp -implicitDefEqProofs [h, h']
    refine CALL_pure (pilasterref08_All_call l) (by simp) (by simp) (by simp [kdAV, cnAV, cnCells_eq, kdCells_eq, strRows, Kd.l]) ?_
    simp -implicitDefEqProofs
    refine hQ _ _ _ ?_
    simp -implicitDefEqProofs [kinds1000, h]
  · have h' : ¬ (l.length : Int) ≤ 1000 := by omega
    simp -implicitDefEqProofs [h, h']
    refine hQ _ _ _ ?_
    simp -implicitDefEqProofs [kinds1000, h]
theorem sem_kinds_1_call (c : Kd) : HCall Go.Proofs.Tryz.prog i_sem_kinds_1 [kdAV c] [] (.bool !kValid c) [] := by
  refine HCall.go mixed ok_sem_kinds_1 (by simp) fun hfit Q hQ => ?_
  clear hfit
  simp -implicitDefEqProofs [c_sem_kinds_1, kdAV]
  refine CALL_pure (kind_Valid_call c) (by simp) (by simp) (by simp [kdAV, cnAV, cnCells_eq, kdCells_eq, strRows, Kd.l]) ?_
  simp -implicitDefEqProofs
  refine hQ _ _ _ ?_
  simp -implicitDefEqProofs
theorem sem_kinds_call (l : List Kd) : HCall Go.Proofs.Tryz.prog i_sem_kinds [.sl .none (l.map kdCells)] [] (.bool (kinds1000 l)) [] := by
  refine HCall.go mixed ok_sem_kinds (by simp) fun hfit Q hQ => ?_
  clear hfit
  simp -implicitDefEqProofs [c_sem_kinds]
  by_cases h : l.length ≤ 1000
  · have h' : (l.length : Int) ≤ 1000 := by omega
    simp -implicitDefEqProofs [h, h']
    refine CALL_pure (slices_ContainsFunc_Kind_call l _ _ fun x _ => sem_kinds_1_call x) (by simp) (by simp) (by simp [kdAV, cnAV, cnCells_eq, kdCells_eq, strRows, Kd.l]) ?_
    simp -implicitDefEqProofs
    refine hQ _ _ _ ?_
    simp -implicitDefEqProofs [kinds1000, h, List.all_eq_not_any_not]
  · have h' : ¬ (l.length : Int) ≤ 1000 := by omega
    simp -implicitDefEqProofs [h, h']
    refine hQ _ _ _ ?_
    simp -implicitDefEqProofs [kinds1000, h]
def eqBy {α β : Type} (p : α → β → Bool) : List α → List β → Bool
  | [], [] => true
  | x :: xs, y :: ys => p x y && eqBy p xs ys
  | _, _ => false
theorem eqBy_len {α β : Type} (p : α → β → Bool) : ∀ (a : List α) (b : List β), a.length ≠ b.length → eqBy p a b = false
  | [], [], h => by simp at h
  | x :: xs, y :: ys, h => by simp [eqBy, eqBy_len p xs ys (by simpa using h)]
  | [], _ :: _, _ => rfl
  | _ :: _, [], _ => rfl
mutual
def kEq : Kd → Kd → Bool
  | .mk a, .mk b => kEqs a b
def kEqs : List Kd → List Kd → Bool
  | [], [] => true
  | x :: xs, y :: ys => kEq x y && kEqs xs ys
  | [], _ :: _ => false
  | _ :: _, [] => false
end
theorem kEqs_eq : ∀ (a b : List Kd), kEqs a b = eqBy kEq a b
  | [], [] => by simp [kEqs, eqBy]
  | x :: xs, y :: ys => by simp [kEqs, eqBy, kEqs_eq xs ys]
  | [], _ :: _ => by simp [kEqs, eqBy]
  | _ :: _, [] => by simp [kEqs, eqBy]
theorem kEq_eq (a b : Kd) : kEq a b = eqBy kEq a.l b.l := by cases a; cases b; simp [kEq, kEqs_eq, Kd.l]
theorem pilasterref09_SameKind_step (a b : Kd) (hrec : ∀ x ∈ a.l, ∀ y, HCall Go.Proofs.Tryz.prog i_pilasterref09_SameKind [kdAV x, kdAV y] [] (.bool (kEq x y)) []) :
    HCall Go.Proofs.Tryz.prog i_pilasterref09_SameKind [kdAV a, kdAV b] [] (.bool (kEq a b)) [] := by
  refine HCall.go mixed ok_pilasterref09_SameKind (by simp) fun hfit Q hQ => ?_
  have hln : a.l.length ≤ 1073741824 := (kd_fits (k := a) (by simpa [fitsL, kdAV, AV.fits] using hfit.1)).1
  clear hfit
  simp -implicitDefEqProofs [c_pilasterref09_SameKind, kdAV, kdCells_eq a, kdCells_eq b]
  refine COND_split (fun hb => ?_) (fun hb => ?_)
  · have e : kEq a b = false := by rw [kEq_eq]; exact eqBy_len _ _ _ (by simp at hb; omega)
    simp -implicitDefEqProofs
    refine hQ _ _ _ ?_
    simp -implicitDefEqProofs [e]
  have hab : a.l.length = b.l.length := by simp at hb; omega
  simp -implicitDefEqProofs
  refine WP_loop (AWp.loopI [] (fun n f h G => ∃ k : Nat, k + n = a.l.length ∧ f 5 = .int .i64 k ∧ eqBy kEq (a.l.drop k) (b.l.drop k) = kEq a b) (a.l.length) (by simp) ⟨0, by simp, rfl, by simp [kEq_eq]⟩ ?_)
  rintro n f h G ⟨k, hk, h5, hs⟩
  refine AWp.run mixed fun Q2 hQ2 => ?_
  simp -implicitDefEqProofs [AC.dsts, aoDsts, updT, updH, h5]
  by_cases hlt : k < a.l.length
  · have hlt2 : k < b.l.length := by omega
    have hd := List.drop_eq_getElem_cons hlt
    have hd2 := List.drop_eq_getElem_cons hlt2
    simp -implicitDefEqProofs [hlt]
    refine WP_draw (by rfl) ?_
    simp -implicitDefEqProofs [hlt, hlt2]
    refine DCALL_pure (hrec a.l[k] (List.getElem_mem _) b.l[k]) (by simp) (by simp) (by simp [kdAV, cnAV, cnCells_eq, kdCells_eq, strRows, Kd.l]) ?_
    simp -implicitDefEqProofs
    cases hv : kEq a.l[k] b.l[k]
    · have e : kEq a b = false := by rw [← hs, hd, hd2]; simp [eqBy, hv]
      simp -implicitDefEqProofs
      refine hQ2 _ _ _ (loop_ret ?_)
      show KR _ _ Q _ _
      simp -implicitDefEqProofs
      refine hQ _ _ _ ?_
      simp -implicitDefEqProofs [e]
    · simp -implicitDefEqProofs [wrap_i64 (n := (k : Int) + 1) (by omega) (by omega)]
      refine hQ2 _ _ _ (loop_next (n - 1) (h) rfl (by omega) (by simp -implicitDefEqProofs [AC.dsts, aoDsts, updT, slots]) ?_)
      refine ⟨k + 1, by omega, by simp [slots], ?_⟩
      rw [← hs, hd, hd2]; simp [eqBy, hv]
  · have e : kEq a b = true := by rw [← hs, List.drop_eq_nil_of_le (by omega), List.drop_eq_nil_of_le (by omega)]; simp [eqBy]
    simp -implicitDefEqProofs [hlt]
    refine hQ2 _ _ _ (loop_exit ?_)
    show KE _ 0 _ Q _ _
    simp -implicitDefEqProofs
    refine hQ _ _ _ ?_
    simp -implicitDefEqProofs [e]
theorem pilasterref09_SameKind_call (a b : Kd) : HCall Go.Proofs.Tryz.prog i_pilasterref09_SameKind [kdAV a, kdAV b] [] (.bool (kEq a b)) [] :=
  pilasterref09_SameKind_step a b fun x _ y => pilasterref09_SameKind_call x y
termination_by SizeOf.sizeOf a
decreasing_by exact Kd.lt_l ‹_›
end Go.Proofs.YtblbepjnkehoaaaGreatDoor
/- Kinds: equality by EqualFunc, counting. -/
namespace Go.Proofs.YtblbepjnkehoaaaGreatDoor
open Go
attribute [local simp] astep aev putA guardA start AV.cells AV.undef takeCells splice intBin strBin abin AV.isCell loadV fillR fillA
attribute [local simp] fin aRes aResL aRes1 AV.strip stripL stripE AV.inScope scopedL scopedE scopedH
set_option maxRecDepth 10000
set_option linter.unusedSimpArgs false
theorem slices_EqualFunc_Kind_call (a b : List Kd) (p : Kd → Kd → Bool) (m : Nat) (hp : ∀ x ∈ a, ∀ y, HCall Go.Proofs.Tryz.prog m [kdAV x, kdAV y] [] (.bool (p x y)) []) :
    HCall Go.Proofs.Tryz.prog i_slices_EqualFunc_Kind [.sl .none (a.map kdCells), .sl .none (b.map kdCells), .fn (.func m) [] []] [] (.bool (eqBy p a b)) [] := by
  refine HCall.go mixed ok_slices_EqualFunc_Kind (by simp) fun hfit Q hQ => ?_
  have hln : a.length ≤ 1073741824 := by simpa [fitsL, AV.fits, maxL] using hfit.1.1
  clear hfit
  simp -implicitDefEqProofs [c_slices_EqualFunc_Kind]
  refine COND_split (fun hb => ?_) (fun hb => ?_)
  · have e : eqBy p a b = false := eqBy_len _ _ _ (by simp at hb; omega)
    simp -implicitDefEqProofs
    refine hQ _ _ _ ?_
    simp -implicitDefEqProofs [e]
  have hab : a.length = b.length := by simp at hb; omega
  simp -implicitDefEqProofs
  refine WP_loop (AWp.loopI [] (fun n f h G => ∃ k : Nat, k + n = a.length ∧ f 17 = .int .i64 k ∧ eqBy p (a.drop k) (b.drop k) = eqBy p a b) (a.length) (by simp) ⟨0, by simp, rfl, by simp⟩ ?_)
  rintro n f h G ⟨k, hk, h17, hs⟩
  refine AWp.run mixed fun Q2 hQ2 => ?_
  simp -implicitDefEqProofs [AC.dsts, aoDsts, updT, updH, h17]
  by_cases hlt : k < a.length
  · have hlt2 : k < b.length := by omega
    have hd := List.drop_eq_getElem_cons hlt
    have hd2 := List.drop_eq_getElem_cons hlt2
    simp -implicitDefEqProofs [hlt, hlt2]
    refine CALL_pure (hp a[k] (List.getElem_mem _) b[k]) (by simp) (by simp) (by simp [kdAV, cnAV, cnCells_eq, kdCells_eq, strRows, Kd.l]) ?_
    simp -implicitDefEqProofs
    cases hv : p a[k] b[k]
    · have e : eqBy p a b = false := by rw [← hs, hd, hd2]; simp [eqBy, hv]
      simp -implicitDefEqProofs
      refine hQ2 _ _ _ (loop_ret ?_)
      show KR _ _ Q _ _
      simp -implicitDefEqProofs
      refine hQ _ _ _ ?_
      simp -implicitDefEqProofs [e]
    · simp -implicitDefEqProofs [wrap_i64 (n := (k : Int) + 1) (by omega) (by omega)]
      refine hQ2 _ _ _ (loop_next (n - 1) (h) rfl (by omega) (by simp -implicitDefEqProofs [AC.dsts, aoDsts, updT, slots]) ?_)
      refine ⟨k + 1, by omega, by simp [slots], ?_⟩
      rw [← hs, hd, hd2]; simp [eqBy, hv]
  · have e : eqBy p a b = true := by rw [← hs, List.drop_eq_nil_of_le (by omega), List.drop_eq_nil_of_le (by omega)]; simp [eqBy]
    simp -implicitDefEqProofs [hlt]
    refine hQ2 _ _ _ (loop_exit ?_)
    show KE _ 0 _ Q _ _
    simp -implicitDefEqProofs
    refine hQ _ _ _ ?_
    simp -implicitDefEqProofs [e]
theorem tycon_same_step (a b : Kd) (hrec : ∀ x ∈ a.l, ∀ y, HCall Go.Proofs.Tryz.prog i_tycon_same [kdAV x, kdAV y] [] (.bool (kEq x y)) []) :
    HCall Go.Proofs.Tryz.prog i_tycon_same [kdAV a, kdAV b] [] (.bool (kEq a b)) [] := by
  refine HCall.go mixed ok_tycon_same (by simp) fun hfit Q hQ => ?_
  clear hfit
  simp -implicitDefEqProofs [c_tycon_same, kdAV, kdCells_eq a, kdCells_eq b]
  refine CALL_pure (slices_EqualFunc_Kind_call a.l b.l kEq _ hrec) (by simp) (by simp) (by simp [kdAV, cnAV, cnCells_eq, kdCells_eq, strRows, Kd.l]) ?_
  simp -implicitDefEqProofs
  refine hQ _ _ _ ?_
  simp -implicitDefEqProofs [kEq_eq a b]
theorem tycon_same_call (a b : Kd) : HCall Go.Proofs.Tryz.prog i_tycon_same [kdAV a, kdAV b] [] (.bool (kEq a b)) [] :=
  tycon_same_step a b fun x _ y => tycon_same_call x y
termination_by SizeOf.sizeOf a
decreasing_by exact Kd.lt_l ‹_›
mutual
def kNodes : Kd → Int → Int → Int
  | .mk l, most, depth => if 60 < depth then most else kNodesG l most depth l.length
def kNodesG : List Kd → Int → Int → Int → Int
  | [], most, _, n => if most < n then most else n
  | x :: xs, most, depth, n => if most ≤ n then most else kNodesG xs most depth (IntKind.i64.wrap (n + kNodes x (IntKind.i64.wrap (most - n)) (IntKind.i64.wrap (depth + 1))))
end
theorem kNodes_eq (c : Kd) (most depth : Int) : kNodes c most depth = if 60 < depth then most else kNodesG c.l most depth c.l.length := by cases c; simp [kNodes, Kd.l]
theorem pilasterlaw25_kinds_step (c : Kd) (most depth : Int)
    (hrec : ∀ x ∈ c.l, ∀ most depth, HCall Go.Proofs.Tryz.prog i_pilasterlaw25_kinds [.sl .none (x.l.map kdCells), .int .i64 most, .int .i64 depth] [] (.int .i64 (kNodes x most depth)) []) :
    HCall Go.Proofs.Tryz.prog i_pilasterlaw25_kinds [.sl .none (c.l.map kdCells), .int .i64 most, .int .i64 depth] [] (.int .i64 (kNodes c most depth)) [] := by
  refine HCall.go mixed ok_pilasterlaw25_kinds (by simp) fun hfit Q hQ => ?_
  have hln : c.l.length ≤ 1073741824 := by simpa [fitsL, AV.fits, maxL] using hfit.1.1
  clear hfit
  simp -implicitDefEqProofs [c_pilasterlaw25_kinds]
  refine COND_split (fun hb => ?_) (fun hb => ?_)
  · have e : kNodes c most depth = most := by rw [kNodes_eq, if_pos (by simpa using hb)]
    simp -implicitDefEqProofs
    refine hQ _ _ _ ?_
    simp -implicitDefEqProofs [e]
  have key : kNodes c most depth = kNodesG c.l most depth c.l.length := by rw [kNodes_eq, if_neg (by simpa using hb)]
  simp -implicitDefEqProofs
  refine WP_loop (AWp.loopI [] (fun n f h G => ∃ (k : Nat) (m : Int), k + n = c.l.length ∧ f 17 = .int .i64 k ∧ f 7 = .int .i64 m ∧ kNodesG (c.l.drop k) most depth m = kNodesG c.l most depth c.l.length) (c.l.length) (by simp) ⟨0, c.l.length, by simp, rfl, rfl, by simp⟩ ?_)
  rintro n f h G ⟨k, m, hk, h17, h7, hs⟩
  refine AWp.run mixed fun Q2 hQ2 => ?_
  simp -implicitDefEqProofs [AC.dsts, aoDsts, updT, updH, h17, h7]
  by_cases hlt : k < c.l.length
  · have hd := List.drop_eq_getElem_cons hlt
    simp -implicitDefEqProofs [hlt]
    refine COND_split (fun hb2 => ?_) (fun hb2 => ?_)
    · have e : kNodes c most depth = most := by rw [key, ← hs, hd, kNodesG, if_pos (by simpa using hb2)]
      simp -implicitDefEqProofs
      refine hQ2 _ _ _ (loop_ret ?_)
      show KR _ _ Q _ _
      simp -implicitDefEqProofs
      refine hQ _ _ _ ?_
      simp -implicitDefEqProofs [e]
    · simp -implicitDefEqProofs [hlt]
      rw [kdCells_eq c.l[k]]
      simp -implicitDefEqProofs
      refine CALL_pure (hrec c.l[k] (List.getElem_mem _) (IntKind.i64.wrap (most - m)) (IntKind.i64.wrap (depth + 1))) (by simp) (by simp) (by simp [kdAV, cnAV, cnCells_eq, kdCells_eq, strRows, Kd.l]) ?_
      simp -implicitDefEqProofs [wrap_i64 (n := (k : Int) + 1) (by omega) (by omega)]
      refine hQ2 _ _ _ (loop_next (n - 1) (h) rfl (by omega) (by simp -implicitDefEqProofs [AC.dsts, aoDsts, updT, slots]) ?_)
      refine ⟨k + 1, _, by omega, by simp [slots], by simp [slots]; rfl, ?_⟩
      rw [← hs, hd, kNodesG, if_neg (by simpa using hb2)]
  · have e : kNodes c most depth = if most < m then most else m := by rw [key, ← hs, List.drop_eq_nil_of_le (by omega), kNodesG]
    simp -implicitDefEqProofs [hlt]
    refine hQ2 _ _ _ (loop_exit ?_)
    show KE _ 0 _ Q _ _
    simp -implicitDefEqProofs
    refine hQ _ _ _ ?_
    simp -implicitDefEqProofs [e]
theorem pilasterlaw25_kinds_call (c : Kd) (most depth : Int) : HCall Go.Proofs.Tryz.prog i_pilasterlaw25_kinds [.sl .none (c.l.map kdCells), .int .i64 most, .int .i64 depth] [] (.int .i64 (kNodes c most depth)) [] :=
  pilasterlaw25_kinds_step c most depth fun x _ most depth => pilasterlaw25_kinds_call x most depth
termination_by SizeOf.sizeOf c
decreasing_by exact Kd.lt_l ‹_›
end Go.Proofs.YtblbepjnkehoaaaGreatDoor
/- Bytes and names. -/
namespace Go.Proofs.YtblbepjnkehoaaaGreatDoor
open Go
attribute [local simp] astep aev putA guardA start AV.cells AV.undef takeCells splice intBin strBin abin AV.isCell loadV fillR fillA
attribute [local simp] fin aRes aResL aRes1 AV.strip stripL stripE AV.inScope scopedL scopedE scopedH
set_option maxRecDepth 10000
set_option linter.unusedSimpArgs false
def cls (n : Int) : Int :=
  if 97 ≤ n ∧ n ≤ 122 then 1 else if 65 ≤ n ∧ n ≤ 90 then 2 else if 48 ≤ n ∧ n ≤ 57 then 3 else if n = 95 then 4 else if n = 46 then 5 else 0
theorem ident_of_call (n : Int) : HCall Go.Proofs.Tryz.prog i_ident_of [.int .u8 n] [] (.int .i64 (cls n)) [] := by
  refine HCall.go mixed ok_ident_of (by simp) fun hfit Q hQ => ?_
  clear hfit
  simp -implicitDefEqProofs [c_ident_of]
  by_cases h1 : 97 ≤ n
  · by_cases h2 : n ≤ 122
    · simp -implicitDefEqProofs [h1, h2]
      refine hQ _ _ _ ?_
      simp -implicitDefEqProofs [cls, h1, h2]
    · have h3 : 65 ≤ n := by omega
      have h4 : ¬ n ≤ 90 := by omega
      have h5 : 48 ≤ n := by omega
      have h6 : ¬ n ≤ 57 := by omega
      have h7 : ¬ n = 95 := by omega
      have h8 : ¬ n = 46 := by omega
      simp -implicitDefEqProofs [h1, h2, h3, h4, h5, h6, h7, h8, beq_eq_false_iff_ne.2 h7, beq_eq_false_iff_ne.2 h8]
      refine hQ _ _ _ ?_
      simp -implicitDefEqProofs [cls, h1, h2, h3, h4, h5, h6, h7, h8]
  have c1 : ¬ (97 ≤ n ∧ n ≤ 122) := by omega
  by_cases h3 : 65 ≤ n
  · by_cases h4 : n ≤ 90
    · simp -implicitDefEqProofs [h1, h3, h4]
      refine hQ _ _ _ ?_
      simp -implicitDefEqProofs [cls, h1, h3, h4]
    · have h5 : 48 ≤ n := by omega
      have h6 : ¬ n ≤ 57 := by omega
      have h8 : ¬ n = 46 := by omega
      by_cases h7 : n = 95
      · simp -implicitDefEqProofs [h1, h3, h4, h5, h6, h8, beq_iff_eq.2 h7]
        refine hQ _ _ _ ?_
        simp -implicitDefEqProofs [cls, h1, h3, h4, h5, h6, h7]
      · simp -implicitDefEqProofs [h1, h3, h4, h5, h6, h8, beq_eq_false_iff_ne.2 h7, beq_eq_false_iff_ne.2 h8]
        refine hQ _ _ _ ?_
        simp -implicitDefEqProofs [cls, h1, h3, h4, h5, h6, h7, h8]
  have h7 : ¬ n = 95 := by omega
  by_cases h5 : 48 ≤ n
  · by_cases h6 : n ≤ 57
    · simp -implicitDefEqProofs [h1, h3, h5, h6]
      refine hQ _ _ _ ?_
      simp -implicitDefEqProofs [cls, h1, h3, h5, h6]
    · have h8 : ¬ n = 46 := by omega
      simp -implicitDefEqProofs [h1, h3, h5, h6, beq_eq_false_iff_ne.2 h7, beq_eq_false_iff_ne.2 h8]
      refine hQ _ _ _ ?_
      simp -implicitDefEqProofs [cls, h1, h3, h5, h6, h7, h8]
  by_cases h8 : n = 46
  · simp -implicitDefEqProofs [h1, h3, h5, beq_eq_false_iff_ne.2 h7, beq_iff_eq.2 h8]
    refine hQ _ _ _ ?_
    simp -implicitDefEqProofs [cls, h1, h3, h5, h7, h8]
  · simp -implicitDefEqProofs [h1, h3, h5, beq_eq_false_iff_ne.2 h7, beq_eq_false_iff_ne.2 h8]
    refine hQ _ _ _ ?_
    simp -implicitDefEqProofs [cls, h1, h3, h5, h7, h8]
theorem cls_1 (n : Int) : cls n = 1 ↔ (97 ≤ n ∧ n ≤ 122) := by unfold cls; (repeat' split) <;> omega
theorem cls_2 (n : Int) : cls n = 2 ↔ (65 ≤ n ∧ n ≤ 90) := by unfold cls; (repeat' split) <;> omega
theorem cls_3 (n : Int) : cls n = 3 ↔ (48 ≤ n ∧ n ≤ 57) := by unfold cls; (repeat' split) <;> omega
theorem cls_4 (n : Int) : cls n = 4 ↔ n = 95 := by unfold cls; (repeat' split) <;> omega
theorem cls_5 (n : Int) : cls n = 5 ↔ n = 46 := by unfold cls; (repeat' split) <;> omega
theorem pilasterref01_Small_call (n : Int) : HCall Go.Proofs.Tryz.prog i_pilasterref01_Small [.int .u8 n] [] (.bool (cls n == 1)) [] := by
  have e : (cls n == 1) = decide (97 ≤ n ∧ n ≤ 122) := by rw [Bool.eq_iff_iff]; simp [cls_1]
  refine HCall.go mixed ok_pilasterref01_Small (by simp) fun hfit Q hQ => ?_
  clear hfit
  simp -implicitDefEqProofs [c_pilasterref01_Small]
  by_cases h1 : 97 ≤ n <;> by_cases h2 : n ≤ 122
  all_goals
    simp -implicitDefEqProofs [h1, h2]
    refine hQ _ _ _ ?_
    simp -implicitDefEqProofs [e, h1, h2]
theorem pilasterref01_Capital_call (n : Int) : HCall Go.Proofs.Tryz.prog i_pilasterref01_Capital [.int .u8 n] [] (.bool (cls n == 2)) [] := by
  have e : (cls n == 2) = decide (65 ≤ n ∧ n ≤ 90) := by rw [Bool.eq_iff_iff]; simp [cls_2]
  refine HCall.go mixed ok_pilasterref01_Capital (by simp) fun hfit Q hQ => ?_
  clear hfit
  simp -implicitDefEqProofs [c_pilasterref01_Capital]
  by_cases h1 : 65 ≤ n <;> by_cases h2 : n ≤ 90
  all_goals
    simp -implicitDefEqProofs [h1, h2]
    refine hQ _ _ _ ?_
    simp -implicitDefEqProofs [e, h1, h2]
theorem pilasterref01_Digit_call (n : Int) : HCall Go.Proofs.Tryz.prog i_pilasterref01_Digit [.int .u8 n] [] (.bool (cls n == 3)) [] := by
  have e : (cls n == 3) = decide (48 ≤ n ∧ n ≤ 57) := by rw [Bool.eq_iff_iff]; simp [cls_3]
  refine HCall.go mixed ok_pilasterref01_Digit (by simp) fun hfit Q hQ => ?_
  clear hfit
  simp -implicitDefEqProofs [c_pilasterref01_Digit]
  by_cases h1 : 48 ≤ n <;> by_cases h2 : n ≤ 57
  all_goals
    simp -implicitDefEqProofs [h1, h2]
    refine hQ _ _ _ ?_
    simp -implicitDefEqProofs [e, h1, h2]
/-- A byte that may stand in a name. -/
def inName (n : Int) : Bool := !(cls n == 0 || cls n == 5)
theorem cls_range (n : Int) : cls n = 0 ∨ cls n = 1 ∨ cls n = 2 ∨ cls n = 3 ∨ cls n = 4 ∨ cls n = 5 := by unfold cls; (repeat' split) <;> omega
theorem pilasterref01_Inner_call (n : Int) : HCall Go.Proofs.Tryz.prog i_pilasterref01_Inner [.int .u8 n] [] (.bool (inName n)) [] := by
  have e4 : (n == 95) = (cls n == 4) := by rw [Bool.eq_iff_iff]; simp [cls_4]
  refine HCall.go mixed ok_pilasterref01_Inner (by simp) fun hfit Q hQ => ?_
  clear hfit
  simp -implicitDefEqProofs [c_pilasterref01_Inner]
  refine CALL_pure (pilasterref01_Small_call n) (by simp) (by simp) (by simp [kdAV, cnAV, cnCells_eq, kdCells_eq, strRows, Kd.l]) ?_
  simp -implicitDefEqProofs
  rcases cls_range n with h | h | h | h | h | h
  all_goals
    simp -implicitDefEqProofs [h]
    first
      | refine CALL_pure (pilasterref01_Capital_call n) (by simp) (by simp) (by simp) ?_
        simp -implicitDefEqProofs [h]
      | skip
    first
      | refine CALL_pure (pilasterref01_Digit_call n) (by simp) (by simp) (by simp) ?_
        simp -implicitDefEqProofs [h, e4]
      | skip
    refine hQ _ _ _ ?_
    simp -implicitDefEqProofs [inName, h, e4]
/-- A text's bytes, as cells. -/
def bytesR (s : List UInt8) : List (List AV) := s.map fun c => [.int .u8 c.toNat]
theorem pilasterref01_inner_call (s : List UInt8) : HCall Go.Proofs.Tryz.prog i_pilasterref01_inner [.str s] [] (.bool (s.all fun c => inName c.toNat)) [] := by
  refine HCall.go mixed ok_pilasterref01_inner (by simp) fun hfit Q hQ => ?_
  have hln : s.length ≤ 1073741824 := by simpa [fitsL, AV.fits, maxL] using hfit
  clear hfit
  simp -implicitDefEqProofs [c_pilasterref01_inner]
  refine WP_loop (AWp.loopI [] (fun n f h G => ∃ k : Nat, k + n = s.length ∧ f 3 = .int .i64 k ∧ ((s.drop k).all fun c => inName c.toNat) = (s.all fun c => inName c.toNat)) (s.length) (by simp) ⟨0, by simp, rfl, by simp⟩ ?_)
  rintro n f h G ⟨k, hk, h3, hs⟩
  refine AWp.run mixed fun Q2 hQ2 => ?_
  simp -implicitDefEqProofs [AC.dsts, aoDsts, updT, updH, h3]
  by_cases hlt : k < s.length
  · have hd := List.drop_eq_getElem_cons hlt
    simp -implicitDefEqProofs [hlt]
    refine CALL_pure (pilasterref01_Inner_call s[k].toNat) (by simp) (by simp) (by simp [kdAV, cnAV, cnCells_eq, kdCells_eq, strRows, Kd.l]) ?_
    simp -implicitDefEqProofs
    cases hv : inName s[k].toNat
    · have e : (s.all fun c => inName c.toNat) = false := by rw [← hs, hd, List.all_cons, hv]; simp
      simp -implicitDefEqProofs
      refine hQ2 _ _ _ (loop_ret ?_)
      show KR _ _ Q _ _
      simp -implicitDefEqProofs
      refine hQ _ _ _ ?_
      simp -implicitDefEqProofs [e]
    · simp -implicitDefEqProofs [wrap_i64 (n := (k : Int) + 1) (by omega) (by omega)]
      refine hQ2 _ _ _ (loop_next (n - 1) (h) rfl (by omega) (by simp -implicitDefEqProofs [AC.dsts, aoDsts, updT, slots]) ?_)
      refine ⟨k + 1, by omega, by simp [slots], ?_⟩
      rw [← hs, hd, List.all_cons, hv]; simp
  · have e : (s.all fun c => inName c.toNat) = true := by rw [← hs, List.drop_eq_nil_of_le (by omega)]; simp
    simp -implicitDefEqProofs [hlt]
    refine hQ2 _ _ _ (loop_exit ?_)
    show KE _ 0 _ Q _ _
    simp -implicitDefEqProofs
    refine hQ _ _ _ ?_
    simp -implicitDefEqProofs [e]
end Go.Proofs.YtblbepjnkehoaaaGreatDoor
/- Names and labels. -/
namespace Go.Proofs.YtblbepjnkehoaaaGreatDoor
open Go
attribute [local simp] astep aev putA guardA start AV.cells AV.undef takeCells splice intBin strBin abin AV.isCell loadV fillR fillA
attribute [local simp] fin aRes aResL aRes1 AV.strip stripL stripE AV.inScope scopedL scopedE scopedH
set_option maxRecDepth 10000
set_option linter.unusedSimpArgs false
def wordOk (s : List UInt8) : Bool := decide (1 ≤ s.length) && decide (s.length ≤ 24) && s.all fun c => inName c.toNat
def isName (s : List UInt8) (k : Int) : Bool := wordOk s && (cls ((s.headD 0).toNat) == k)
theorem pilasterref01_Word_call (s : List UInt8) : HCall Go.Proofs.Tryz.prog i_pilasterref01_Word [.str s] [] (.bool (wordOk s)) [] := by
  refine HCall.go mixed ok_pilasterref01_Word (by simp) fun hfit Q hQ => ?_
  clear hfit
  simp -implicitDefEqProofs [c_pilasterref01_Word]
  by_cases h1 : 1 ≤ s.length
  · have h1' : (1 : Int) ≤ s.length := by omega
    by_cases h2 : s.length ≤ 24
    · have h2' : (s.length : Int) ≤ 24 := by omega
      simp -implicitDefEqProofs [h1, h1', h2, h2']
      refine CALL_pure (pilasterref01_inner_call s) (by simp) (by simp) (by simp [kdAV, cnAV, cnCells_eq, kdCells_eq, strRows, Kd.l]) ?_
      simp -implicitDefEqProofs
      refine hQ _ _ _ ?_
      simp -implicitDefEqProofs [wordOk, h1, h2]
    · have h2' : ¬ (s.length : Int) ≤ 24 := by omega
      simp -implicitDefEqProofs [h1, h1', h2, h2']
      refine hQ _ _ _ ?_
      simp -implicitDefEqProofs [wordOk, h1, h2]
  · have h1' : ¬ (1 : Int) ≤ s.length := by omega
    simp -implicitDefEqProofs [h1, h1']
    refine hQ _ _ _ ?_
    simp -implicitDefEqProofs [wordOk, h1]
theorem pilasterref01_IsUpper_call (s : List UInt8) : HCall Go.Proofs.Tryz.prog i_pilasterref01_IsUpper [.str s] [] (.bool (isName s 2)) [] := by
  refine HCall.go mixed ok_pilasterref01_IsUpper (by simp) fun hfit Q hQ => ?_
  clear hfit
  simp -implicitDefEqProofs [c_pilasterref01_IsUpper]
  refine CALL_pure (pilasterref01_Word_call s) (by simp) (by simp) (by simp [kdAV, cnAV, cnCells_eq, kdCells_eq, strRows, Kd.l]) ?_
  simp -implicitDefEqProofs
  cases s with
  | nil =>
    have h : wordOk [] = false := by simp [wordOk]
    simp -implicitDefEqProofs [h]
    refine hQ _ _ _ ?_
    simp -implicitDefEqProofs [isName, h]
  | cons c s =>
    cases h : wordOk (c :: s)
    · simp -implicitDefEqProofs
      refine hQ _ _ _ ?_
      simp -implicitDefEqProofs [isName, h]
    · simp -implicitDefEqProofs
      refine CALL_pure (pilasterref01_Capital_call c.toNat) (by simp) (by simp) (by simp [kdAV, cnAV, cnCells_eq, kdCells_eq, strRows, Kd.l]) ?_
      simp -implicitDefEqProofs
      refine hQ _ _ _ ?_
      simp -implicitDefEqProofs [isName, h]
def isLabel (s : List UInt8) : Bool := decide (1 ≤ s.length) && decide (s.length ≤ 48) && s.all fun c => !(cls c.toNat == 0)
theorem pilasterref01_IsLabel_call (s : List UInt8) : HCall Go.Proofs.Tryz.prog i_pilasterref01_IsLabel [.str s] [] (.bool (isLabel s)) [] := by
  refine HCall.go mixed ok_pilasterref01_IsLabel (by simp) fun hfit Q hQ => ?_
  have hln : s.length ≤ 1073741824 := by simpa [fitsL, AV.fits, maxL] using hfit
  clear hfit
  simp -implicitDefEqProofs [c_pilasterref01_IsLabel]
  refine WP_loop (AWp.loopI [] (fun n f h G => ∃ k : Nat, k + n = s.length ∧ f 3 = .int .i64 k ∧ ((s.drop k).all fun c => !(cls c.toNat == 0)) = (s.all fun c => !(cls c.toNat == 0))) (s.length) (by simp) ⟨0, by simp, rfl, by simp⟩ ?_)
  rintro n f h G ⟨k, hk, h3, hs⟩
  refine AWp.run mixed fun Q2 hQ2 => ?_
  simp -implicitDefEqProofs [AC.dsts, aoDsts, updT, updH, h3]
  by_cases hlt : k < s.length
  · have hd := List.drop_eq_getElem_cons hlt
    simp -implicitDefEqProofs [hlt]
    refine CALL_pure (pilasterref01_Inner_call s[k].toNat) (by simp) (by simp) (by simp [kdAV, cnAV, cnCells_eq, kdCells_eq, strRows, Kd.l]) ?_
    simp -implicitDefEqProofs
    have e5 : (((s[k].toNat : Int) != 46) : Bool) = (cls s[k].toNat != 5) := by rw [Bool.eq_iff_iff]; simp [cls_5]
    rcases cls_range s[k].toNat with hc | hc | hc | hc | hc | hc
    · have hv : inName s[k].toNat = false := by simp [inName, hc]
      have e : (s.all fun c => !(cls c.toNat == 0)) = false := by rw [← hs, hd, List.all_cons, hc]; simp
      simp -implicitDefEqProofs [hv, e5, hc, hlt]
      refine hQ2 _ _ _ (loop_ret ?_)
      show KR _ _ Q _ _
      simp -implicitDefEqProofs
      refine hQ _ _ _ ?_
      simp -implicitDefEqProofs [e, isLabel]
    all_goals
      have hv : inName s[k].toNat = (cls s[k].toNat != 5) := by simp [inName, hc]
      simp -implicitDefEqProofs [hv, e5, hc, hlt, wrap_i64 (n := (k : Int) + 1) (by omega) (by omega)]
      refine hQ2 _ _ _ (loop_next (n - 1) (h) rfl (by omega) (by simp -implicitDefEqProofs [AC.dsts, aoDsts, updT, slots]) ?_)
      refine ⟨k + 1, by omega, by simp [slots], ?_⟩
      rw [← hs, hd, List.all_cons, hc]; simp
  · have e : (s.all fun c => !(cls c.toNat == 0)) = true := by rw [← hs, List.drop_eq_nil_of_le (by omega)]; simp
    simp -implicitDefEqProofs [hlt]
    refine hQ2 _ _ _ (loop_exit ?_)
    show KE _ 0 _ Q _ _
    by_cases h1 : 1 ≤ s.length
    · have h1' : (1 : Int) ≤ s.length := by omega
      have h2' : decide ((s.length : Int) ≤ 48) = decide (s.length ≤ 48) := by rw [Bool.eq_iff_iff]; simp; omega
      simp -implicitDefEqProofs [h1, h1', h2']
      refine hQ _ _ _ ?_
      simp -implicitDefEqProofs [e, isLabel, h1]
    · have h1' : ¬ (1 : Int) ≤ s.length := by omega
      simp -implicitDefEqProofs [h1, h1']
      refine hQ _ _ _ ?_
      simp -implicitDefEqProofs [e, isLabel, h1]
end Go.Proofs.YtblbepjnkehoaaaGreatDoor
/- Names and labels: ident. -/
namespace Go.Proofs.YtblbepjnkehoaaaGreatDoor
open Go
attribute [local simp] astep aev putA guardA start AV.cells AV.undef takeCells splice intBin strBin abin AV.isCell loadV fillR fillA
attribute [local simp] fin aRes aResL aRes1 AV.strip stripL stripE AV.inScope scopedL scopedE scopedH
set_option maxRecDepth 10000
set_option linter.unusedSimpArgs false
theorem headD_get {s : List UInt8} (h : 0 < s.length) : s.headD 0 = s[0] := by cases s with | nil => simp at h | cons => rfl
theorem ident_name_call (s : List UInt8) (q : Int) : HCall Go.Proofs.Tryz.prog i_ident_name [.str s, .int .i64 q] [] (.bool (isName s q)) [] := by
  refine HCall.go mixed ok_ident_name (by simp) fun hfit Q hQ => ?_
  have hln : s.length ≤ 1073741824 := by simpa [fitsL, AV.fits, maxL] using hfit.1
  clear hfit
  simp -implicitDefEqProofs [c_ident_name]
  by_cases h1 : s = []
  · have e : isName s q = false := by subst h1; simp [isName, wordOk]
    simp -implicitDefEqProofs [h1]
    refine hQ _ _ _ ?_
    simp -implicitDefEqProofs [e]
  have hpos : 0 < s.length := List.length_pos_iff.2 h1
  have hne : (s == ([] : List UInt8)) = false := by simpa using h1
  have hhd := headD_get hpos
  have hw1 : (1 ≤ s.length) = True := by simp; omega
  have hne2 : s.isEmpty = false := by simpa using h1
  simp -implicitDefEqProofs [hne, hne2]
  by_cases h2 : s.length ≤ 24
  · have h2' : ¬ (24 : Int) < (s.length : Int) := by omega
    simp -implicitDefEqProofs [h2', hpos]
    refine CALL_pure (ident_of_call s[0].toNat) (by simp) (by simp) (by simp [kdAV, cnAV, cnCells_eq, kdCells_eq, strRows, Kd.l]) ?_
    simp -implicitDefEqProofs
    refine COND_split (fun hq => ?_) (fun hq => ?_)
    · have e : isName s q = false := by
        simp only [isName, hhd, Bool.and_eq_false_iff]; right; simpa using hq
      simp -implicitDefEqProofs
      refine hQ _ _ _ ?_
      simp -implicitDefEqProofs [e]
    have key : isName s q = s.all fun c => inName c.toNat := by
      have hq' : (cls s[0].toNat == q) = true := by simpa using hq
      simp only [isName, hhd, hq', wordOk, hw1, h2]; simp
    simp -implicitDefEqProofs
    refine WP_loop (AWp.loopI [] (fun n f h G => ∃ k : Nat, k + n = s.length ∧ f 25 = .int .i64 k ∧ ((s.drop k).all fun c => inName c.toNat) = (s.all fun c => inName c.toNat)) (s.length) (by simp) ⟨0, by simp, rfl, by simp⟩ ?_)
    rintro n f h G ⟨k, hk, h25, hs⟩
    refine AWp.run mixed fun Q2 hQ2 => ?_
    simp -implicitDefEqProofs [AC.dsts, aoDsts, updT, updH, h25]
    by_cases hlt : k < s.length
    · have hd := List.drop_eq_getElem_cons hlt
      simp -implicitDefEqProofs [hlt]
      refine CALL_pure (ident_of_call s[k].toNat) (by simp) (by simp) (by simp [kdAV, cnAV, cnCells_eq, kdCells_eq, strRows, Kd.l]) ?_
      simp -implicitDefEqProofs
      rcases cls_range s[k].toNat with hc | hc | hc | hc | hc | hc
      all_goals
        simp -implicitDefEqProofs [hc, wrap_i64 (n := (k : Int) + 1) (by omega) (by omega)]
        first
          | refine hQ2 _ _ _ (loop_ret ?_)
            have e : isName s q = false := by rw [key, ← hs, hd, List.all_cons]; simp [inName, hc]
            show KR _ _ Q _ _
            simp -implicitDefEqProofs
            refine hQ _ _ _ ?_
            simp -implicitDefEqProofs [e]
          | refine hQ2 _ _ _ (loop_next (n - 1) (h) rfl (by omega) (by simp -implicitDefEqProofs [AC.dsts, aoDsts, updT, slots]) ?_)
            refine ⟨k + 1, by omega, by simp [slots], ?_⟩
            rw [← hs, hd, List.all_cons]; simp [inName, hc]
    · have e : isName s q = true := by rw [key, ← hs, List.drop_eq_nil_of_le (by omega)]; simp
      simp -implicitDefEqProofs [hlt]
      refine hQ2 _ _ _ (loop_exit ?_)
      show KE _ 0 _ Q _ _
      simp -implicitDefEqProofs
      refine hQ _ _ _ ?_
      simp -implicitDefEqProofs [e]
  · have h2' : (24 : Int) < (s.length : Int) := by omega
    have e : isName s q = false := by simp [isName, wordOk, h2]
    simp -implicitDefEqProofs [h2']
    refine hQ _ _ _ ?_
    simp -implicitDefEqProofs [e]
theorem ident_IsUpper_call (s : List UInt8) : HCall Go.Proofs.Tryz.prog i_ident_IsUpper [.str s] [] (.bool (isName s 2)) [] := by
  refine HCall.go mixed ok_ident_IsUpper (by simp) fun hfit Q hQ => ?_
  clear hfit
  simp -implicitDefEqProofs [c_ident_IsUpper]
  refine CALL_pure (ident_name_call s 2) (by simp) (by simp) (by simp [kdAV, cnAV, cnCells_eq, kdCells_eq, strRows, Kd.l]) ?_
  simp -implicitDefEqProofs
  refine hQ _ _ _ ?_
  simp -implicitDefEqProofs
end Go.Proofs.YtblbepjnkehoaaaGreatDoor
/- Labels of ident; lists of names. -/
namespace Go.Proofs.YtblbepjnkehoaaaGreatDoor
open Go
attribute [local simp] astep aev putA guardA start AV.cells AV.undef takeCells splice intBin strBin abin AV.isCell loadV fillR fillA
attribute [local simp] fin aRes aResL aRes1 AV.strip stripL stripE AV.inScope scopedL scopedE scopedH
set_option maxRecDepth 10000
set_option linter.unusedSimpArgs false
theorem ident_IsLabel_call (s : List UInt8) : HCall Go.Proofs.Tryz.prog i_ident_IsLabel [.str s] [] (.bool (isLabel s)) [] := by
  refine HCall.go mixed ok_ident_IsLabel (by simp) fun hfit Q hQ => ?_
  have hln : s.length ≤ 1073741824 := by simpa [fitsL, AV.fits, maxL] using hfit
  clear hfit
  simp -implicitDefEqProofs [c_ident_IsLabel]
  by_cases h1 : s = []
  · have e : isLabel s = false := by subst h1; simp [isLabel]
    simp -implicitDefEqProofs [h1]
    refine hQ _ _ _ ?_
    simp -implicitDefEqProofs [e]
  have hpos : 0 < s.length := List.length_pos_iff.2 h1
  have hne : (s == ([] : List UInt8)) = false := by simpa using h1
  have hne2 : s.isEmpty = false := by simpa using h1
  have hw1 : (1 ≤ s.length) = True := by simp; omega
  simp -implicitDefEqProofs [hne, hne2]
  by_cases h2 : s.length ≤ 48
  · have h2' : ¬ (48 : Int) < (s.length : Int) := by omega
    have key : isLabel s = s.all fun c => !(cls c.toNat == 0) := by simp only [isLabel, hw1, h2]; simp
    simp -implicitDefEqProofs [h2']
    refine WP_loop (AWp.loopI [] (fun n f h G => ∃ k : Nat, k + n = s.length ∧ f 15 = .int .i64 k ∧ ((s.drop k).all fun c => !(cls c.toNat == 0)) = (s.all fun c => !(cls c.toNat == 0))) (s.length) (by simp) ⟨0, by simp, rfl, by simp⟩ ?_)
    rintro n f h G ⟨k, hk, h15, hs⟩
    refine AWp.run mixed fun Q2 hQ2 => ?_
    simp -implicitDefEqProofs [AC.dsts, aoDsts, updT, updH, h15]
    by_cases hlt : k < s.length
    · have hd := List.drop_eq_getElem_cons hlt
      simp -implicitDefEqProofs [hlt]
      refine CALL_pure (ident_of_call s[k].toNat) (by simp) (by simp) (by simp [kdAV, cnAV, cnCells_eq, kdCells_eq, strRows, Kd.l]) ?_
      simp -implicitDefEqProofs
      cases hc : cls s[k].toNat == 0
      · simp -implicitDefEqProofs [wrap_i64 (n := (k : Int) + 1) (by omega) (by omega)]
        refine hQ2 _ _ _ (loop_next (n - 1) (h) rfl (by omega) (by simp -implicitDefEqProofs [AC.dsts, aoDsts, updT, slots]) ?_)
        refine ⟨k + 1, by omega, by simp [slots], ?_⟩
        rw [← hs, hd, List.all_cons, hc]; simp
      · have e : isLabel s = false := by rw [key, ← hs, hd, List.all_cons, hc]; simp
        simp -implicitDefEqProofs
        refine hQ2 _ _ _ (loop_ret ?_)
        show KR _ _ Q _ _
        simp -implicitDefEqProofs
        refine hQ _ _ _ ?_
        simp -implicitDefEqProofs [e]
    · have e : isLabel s = true := by rw [key, ← hs, List.drop_eq_nil_of_le (by omega)]; simp
      simp -implicitDefEqProofs [hlt]
      refine hQ2 _ _ _ (loop_exit ?_)
      show KE _ 0 _ Q _ _
      simp -implicitDefEqProofs
      refine hQ _ _ _ ?_
      simp -implicitDefEqProofs [e]
  · have h2' : (48 : Int) < (s.length : Int) := by omega
    have e : isLabel s = false := by simp [isLabel, h2]
    simp -implicitDefEqProofs [h2']
    refine hQ _ _ _ ?_
    simp -implicitDefEqProofs [e]
theorem tycon_formed_1_call (s : List UInt8) : HCall Go.Proofs.Tryz.prog i_tycon_formed_1 [.str s] [] (.bool !isLabel s) [] := by
  refine HCall.go mixed ok_tycon_formed_1 (by simp) fun hfit Q hQ => ?_
  clear hfit
  simp -implicitDefEqProofs [c_tycon_formed_1]
  refine CALL_pure (ident_IsLabel_call s) (by simp) (by simp) (by simp [kdAV, cnAV, cnCells_eq, kdCells_eq, strRows, Kd.l]) ?_
  simp -implicitDefEqProofs
  refine hQ _ _ _ ?_
  simp -implicitDefEqProofs
end Go.Proofs.YtblbepjnkehoaaaGreatDoor
/- Lists of names. -/
namespace Go.Proofs.YtblbepjnkehoaaaGreatDoor
open Go
attribute [local simp] astep aev putA guardA start AV.cells AV.undef takeCells splice intBin strBin abin AV.isCell loadV fillR fillA
attribute [local simp] fin aRes aResL aRes1 AV.strip stripL stripE AV.inScope scopedL scopedE scopedH
set_option maxRecDepth 10000
set_option linter.unusedSimpArgs false
/-- A list of texts ascends. -/
def asc : List (List UInt8) → Bool
  | a :: b :: r => Op.bytesLess a b && asc (b :: r)
  | _ => true
theorem asc_drop (l : List (List UInt8)) (k : Nat) (h1 : 1 ≤ k) (h : k < l.length) : asc (l.drop (k - 1)) = (Op.bytesLess l[k - 1] l[k] && asc (l.drop k)) := by
  have e1 := List.drop_eq_getElem_cons (l := l) (i := k - 1) (by omega)
  have e2 := List.drop_eq_getElem_cons h
  have e3 : k - 1 + 1 = k := by omega
  rw [e3] at e1
  rw [e1, e2, asc]
theorem strRows_get (l : List (List UInt8)) (k : Nat) (h : k < l.length) : (strRows l)[k]? = some [.str l[k]] := by simp [strRows, h]
theorem strRows_length (l : List (List UInt8)) : (strRows l).length = l.length := by simp [strRows]
theorem ident_Ascending_call (l : List (List UInt8)) : HCall Go.Proofs.Tryz.prog i_ident_Ascending [.sl .none (strRows l)] [] (.bool (asc l)) [] := by
  refine HCall.go mixed ok_ident_Ascending (by simp) fun hfit Q hQ => ?_
  have hln : l.length ≤ 1073741824 := by simpa [fitsL, AV.fits, maxL, strRows] using hfit.1.1
  clear hfit
  simp -implicitDefEqProofs [c_ident_Ascending, strRows]
  refine WP_loop (AWp.loopI [] (fun n f h G => ∃ k : Nat, 1 ≤ k ∧ k + n = l.length + 1 ∧ f 3 = .int .i64 k ∧ asc (l.drop (k - 1)) = asc l) (l.length) (by simp) ⟨1, by omega, by omega, rfl, by simp⟩ ?_)
  rintro n f h G ⟨k, hk1, hk, h3, hs⟩
  refine AWp.run mixed fun Q2 hQ2 => ?_
  simp -implicitDefEqProofs [AC.dsts, aoDsts, updT, updH, h3]
  by_cases hlt : k < l.length
  · have hlt2 : k - 1 < l.length := by omega
    have e1 : IntKind.i64.wrap ((k : Int) - 1) = ((k - 1 : Nat) : Int) := by rw [wrap_i64 (by omega) (by omega)]; omega
    have hd := asc_drop l k hk1 hlt
    simp -implicitDefEqProofs [hlt]
    refine WP_draw (by rfl) ?_
    simp -implicitDefEqProofs [hlt, hlt2, e1]
    cases hv : Op.bytesLess l[k - 1] l[k]
    · have e : asc l = false := by rw [← hs, hd, hv]; simp
      simp -implicitDefEqProofs
      refine hQ2 _ _ _ (loop_ret ?_)
      show KR _ _ Q _ _
      simp -implicitDefEqProofs
      refine hQ _ _ _ ?_
      simp -implicitDefEqProofs [e]
    · simp -implicitDefEqProofs [wrap_i64 (n := (k : Int) + 1) (by omega) (by omega)]
      refine hQ2 _ _ _ (loop_next (n - 1) (h) rfl (by omega) (by simp -implicitDefEqProofs [AC.dsts, aoDsts, updT, slots]) ?_)
      refine ⟨k + 1, by omega, by omega, by simp [slots], ?_⟩
      rw [← hs, hd, hv]; simp
  · have e : asc l = true := by
      rw [← hs]
      rcases hq : l.drop (k - 1) with _ | ⟨a, _ | ⟨b, r⟩⟩
      · rfl
      · rfl
      · have := congrArg List.length hq
        simp at this; omega
    simp -implicitDefEqProofs [hlt]
    refine hQ2 _ _ _ (loop_exit ?_)
    show KE _ 0 _ Q _ _
    simp -implicitDefEqProofs
    refine hQ _ _ _ ?_
    simp -implicitDefEqProofs [e]
theorem pilasterref01_Ascending_call (l : List (List UInt8)) : HCall Go.Proofs.Tryz.prog i_pilasterref01_Ascending [.sl .none (strRows l)] [] (.bool (asc l)) [] := by
  refine HCall.go mixed ok_pilasterref01_Ascending (by simp) fun hfit Q hQ => ?_
  have hln : l.length ≤ 1073741824 := by simpa [fitsL, AV.fits, maxL, strRows] using hfit.1.1
  clear hfit
  simp -implicitDefEqProofs [c_pilasterref01_Ascending, strRows]
  refine WP_loop (AWp.loopI [] (fun n f h G => ∃ k : Nat, 1 ≤ k ∧ k + n = l.length + 1 ∧ f 3 = .int .i64 k ∧ asc (l.drop (k - 1)) = asc l) (l.length) (by simp) ⟨1, by omega, by omega, rfl, by simp⟩ ?_)
  rintro n f h G ⟨k, hk1, hk, h3, hs⟩
  refine AWp.run mixed fun Q2 hQ2 => ?_
  simp -implicitDefEqProofs [AC.dsts, aoDsts, updT, updH, h3]
  by_cases hlt : k < l.length
  · have hlt2 : k - 1 < l.length := by omega
    have e1 : IntKind.i64.wrap ((k : Int) - 1) = ((k - 1 : Nat) : Int) := by rw [wrap_i64 (by omega) (by omega)]; omega
    have hd := asc_drop l k hk1 hlt
    simp -implicitDefEqProofs [hlt]
    refine WP_draw (by rfl) ?_
    simp -implicitDefEqProofs [hlt, hlt2, e1]
    cases hv : Op.bytesLess l[k - 1] l[k]
    · have e : asc l = false := by rw [← hs, hd, hv]; simp
      simp -implicitDefEqProofs
      refine hQ2 _ _ _ (loop_ret ?_)
      show KR _ _ Q _ _
      simp -implicitDefEqProofs
      refine hQ _ _ _ ?_
      simp -implicitDefEqProofs [e]
    · simp -implicitDefEqProofs [wrap_i64 (n := (k : Int) + 1) (by omega) (by omega)]
      refine hQ2 _ _ _ (loop_next (n - 1) (h) rfl (by omega) (by simp -implicitDefEqProofs [AC.dsts, aoDsts, updT, slots]) ?_)
      refine ⟨k + 1, by omega, by omega, by simp [slots], ?_⟩
      rw [← hs, hd, hv]; simp
  · have e : asc l = true := by
      rw [← hs]
      rcases hq : l.drop (k - 1) with _ | ⟨a, _ | ⟨b, r⟩⟩
      · rfl
      · rfl
      · have := congrArg List.length hq
        simp at this; omega
    simp -implicitDefEqProofs [hlt]
    refine hQ2 _ _ _ (loop_exit ?_)
    show KE _ 0 _ Q _ _
    simp -implicitDefEqProofs
    refine hQ _ _ _ ?_
    simp -implicitDefEqProofs [e]
end Go.Proofs.YtblbepjnkehoaaaGreatDoor
/- Equality of lists of names. -/
namespace Go.Proofs.YtblbepjnkehoaaaGreatDoor
open Go
attribute [local simp] astep aev putA guardA start AV.cells AV.undef takeCells splice intBin strBin abin AV.isCell loadV fillR fillA
attribute [local simp] fin aRes aResL aRes1 AV.strip stripL stripE AV.inScope scopedL scopedE scopedH
set_option maxRecDepth 10000
set_option linter.unusedSimpArgs false
theorem eqBy_beq : ∀ (a b : List (List UInt8)), eqBy (fun x y => x == y) a b = (a == b)
  | [], [] => rfl
  | x :: xs, y :: ys => by rw [eqBy, eqBy_beq xs ys]; rfl
  | [], _ :: _ => rfl
  | _ :: _, [] => rfl
theorem pilasterref01_Same_call (a b : List (List UInt8)) : HCall Go.Proofs.Tryz.prog i_pilasterref01_Same [.sl .none (strRows a), .sl .none (strRows b)] [] (.bool (a == b)) [] := by
  rw [← eqBy_beq]
  refine HCall.go mixed ok_pilasterref01_Same (by simp) fun hfit Q hQ => ?_
  have hln : a.length ≤ 1073741824 := by simpa [fitsL, AV.fits, maxL, strRows] using hfit.1.1
  clear hfit
  simp -implicitDefEqProofs [c_pilasterref01_Same, strRows]
  refine COND_split (fun hb => ?_) (fun hb => ?_)
  · have e : eqBy (fun x y => x == y) a b = false := eqBy_len _ _ _ (by simp at hb; omega)
    simp -implicitDefEqProofs
    refine hQ _ _ _ ?_
    simp -implicitDefEqProofs [e]
  have hab : a.length = b.length := by simp at hb; omega
  simp -implicitDefEqProofs
  refine WP_loop (AWp.loopI [] (fun n f h G => ∃ k : Nat, k + n = a.length ∧ f 5 = .int .i64 k ∧ eqBy (fun x y => x == y) (a.drop k) (b.drop k) = eqBy (fun x y => x == y) a b) (a.length) (by simp) ⟨0, by simp, rfl, by simp⟩ ?_)
  rintro n f h G ⟨k, hk, h5, hs⟩
  refine AWp.run mixed fun Q2 hQ2 => ?_
  simp -implicitDefEqProofs [AC.dsts, aoDsts, updT, updH, h5]
  by_cases hlt : k < a.length
  · have hlt2 : k < b.length := by omega
    have hd := List.drop_eq_getElem_cons hlt
    have hd2 := List.drop_eq_getElem_cons hlt2
    simp -implicitDefEqProofs [hlt]
    refine WP_draw (by rfl) ?_
    simp -implicitDefEqProofs [hlt, hlt2]
    refine COND_split (fun hv => ?_) (fun hv => ?_)
    · have hv' : (a[k] == b[k]) = false := by simpa using hv
      have e : eqBy (fun x y => x == y) a b = false := by rw [← hs, hd, hd2, eqBy, hv']; rfl
      simp -implicitDefEqProofs
      refine hQ2 _ _ _ (loop_ret ?_)
      show KR _ _ Q _ _
      simp -implicitDefEqProofs
      refine hQ _ _ _ ?_
      simp -implicitDefEqProofs [e]
    · have hv' : (a[k] == b[k]) = true := by simpa using hv
      simp -implicitDefEqProofs [wrap_i64 (n := (k : Int) + 1) (by omega) (by omega)]
      refine hQ2 _ _ _ (loop_next (n - 1) (h) rfl (by omega) (by simp -implicitDefEqProofs [AC.dsts, aoDsts, updT, slots]) ?_)
      refine ⟨k + 1, by omega, by simp [slots], ?_⟩
      rw [← hs, hd, hd2, eqBy, hv']; rfl
  · have e : eqBy (fun x y => x == y) a b = true := by rw [← hs, List.drop_eq_nil_of_le (by omega), List.drop_eq_nil_of_le (by omega)]; rfl
    simp -implicitDefEqProofs [hlt]
    refine hQ2 _ _ _ (loop_exit ?_)
    show KE _ 0 _ Q _ _
    simp -implicitDefEqProofs
    refine hQ _ _ _ ?_
    simp -implicitDefEqProofs [e]
theorem slices_Equal_string_call (a b : List (List UInt8)) : HCall Go.Proofs.Tryz.prog i_slices_Equal_string [.sl .none (strRows a), .sl .none (strRows b)] [] (.bool (a == b)) [] := by
  rw [← eqBy_beq]
  refine HCall.go mixed ok_slices_Equal_string (by simp) fun hfit Q hQ => ?_
  have hln : a.length ≤ 1073741824 := by simpa [fitsL, AV.fits, maxL, strRows] using hfit.1.1
  clear hfit
  simp -implicitDefEqProofs [c_slices_Equal_string, strRows]
  refine COND_split (fun hb => ?_) (fun hb => ?_)
  · have e : eqBy (fun x y => x == y) a b = false := eqBy_len _ _ _ (by simp at hb; omega)
    simp -implicitDefEqProofs
    refine hQ _ _ _ ?_
    simp -implicitDefEqProofs [e]
  have hab : a.length = b.length := by simp at hb; omega
  simp -implicitDefEqProofs
  refine WP_loop (AWp.loopI [] (fun n f h G => ∃ k : Nat, k + n = a.length ∧ f 13 = .int .i64 k ∧ eqBy (fun x y => x == y) (a.drop k) (b.drop k) = eqBy (fun x y => x == y) a b) (a.length) (by simp) ⟨0, by simp, rfl, by simp⟩ ?_)
  rintro n f h G ⟨k, hk, h13, hs⟩
  refine AWp.run mixed fun Q2 hQ2 => ?_
  simp -implicitDefEqProofs [AC.dsts, aoDsts, updT, updH, h13]
  by_cases hlt : k < a.length
  · have hlt2 : k < b.length := by omega
    have hd := List.drop_eq_getElem_cons hlt
    have hd2 := List.drop_eq_getElem_cons hlt2
    simp -implicitDefEqProofs [hlt]
    refine WP_draw (by rfl) ?_
    simp -implicitDefEqProofs [hlt, hlt2]
    refine COND_split (fun hv => ?_) (fun hv => ?_)
    · have hv' : (a[k] == b[k]) = false := by simpa using hv
      have e : eqBy (fun x y => x == y) a b = false := by rw [← hs, hd, hd2, eqBy, hv']; rfl
      simp -implicitDefEqProofs
      refine hQ2 _ _ _ (loop_ret ?_)
      show KR _ _ Q _ _
      simp -implicitDefEqProofs
      refine hQ _ _ _ ?_
      simp -implicitDefEqProofs [e]
    · have hv' : (a[k] == b[k]) = true := by simpa using hv
      simp -implicitDefEqProofs [wrap_i64 (n := (k : Int) + 1) (by omega) (by omega)]
      refine hQ2 _ _ _ (loop_next (n - 1) (h) rfl (by omega) (by simp -implicitDefEqProofs [AC.dsts, aoDsts, updT, slots]) ?_)
      refine ⟨k + 1, by omega, by simp [slots], ?_⟩
      rw [← hs, hd, hd2, eqBy, hv']; rfl
  · have e : eqBy (fun x y => x == y) a b = true := by rw [← hs, List.drop_eq_nil_of_le (by omega), List.drop_eq_nil_of_le (by omega)]; rfl
    simp -implicitDefEqProofs [hlt]
    refine hQ2 _ _ _ (loop_exit ?_)
    show KE _ 0 _ Q _ _
    simp -implicitDefEqProofs
    refine hQ _ _ _ ?_
    simp -implicitDefEqProofs [e]
end Go.Proofs.YtblbepjnkehoaaaGreatDoor
/- Prefixes of texts. -/
namespace Go.Proofs.YtblbepjnkehoaaaGreatDoor
open Go
attribute [local simp] astep aev putA guardA start AV.cells AV.undef takeCells splice intBin strBin abin AV.isCell loadV fillR fillA
attribute [local simp] fin aRes aResL aRes1 AV.strip stripL stripE AV.inScope scopedL scopedE scopedH
set_option maxRecDepth 10000
set_option linter.unusedSimpArgs false
attribute [local simp] optInt
theorem stringslite_HasPrefix_call (s p : List UInt8) : HCall Go.Proofs.Tryz.prog i_stringslite_HasPrefix [.str s, .str p] [] (.bool (s.take p.length == p && decide (p.length ≤ s.length))) [] := by
  refine HCall.go mixed ok_stringslite_HasPrefix (by simp) fun hfit Q hQ => ?_
  clear hfit
  simp -implicitDefEqProofs [c_stringslite_HasPrefix]
  by_cases h : p.length ≤ s.length
  · have h' : (p.length : Int) ≤ s.length := by omega
    simp -implicitDefEqProofs [h, h']
    refine hQ _ _ _ ?_
    simp -implicitDefEqProofs [h]
  · have h' : ¬ (p.length : Int) ≤ s.length := by omega
    simp -implicitDefEqProofs [h, h']
    refine hQ _ _ _ ?_
    simp -implicitDefEqProofs [h]
def hasPre (s p : List UInt8) : Bool := s.take p.length == p && decide (p.length ≤ s.length)
def cutPre (s p : List UInt8) : AV := if hasPre s p then .tup [.str (s.drop p.length), .bool true] else .tup [.str s, .bool false]
theorem cutPre_scoped (s p : List UInt8) (n : Nat) : (cutPre s p).inScope n = true := by unfold cutPre; split <;> simp
theorem stringslite_CutPrefix_call (s p : List UInt8) : HCall Go.Proofs.Tryz.prog i_stringslite_CutPrefix [.str s, .str p] [] (cutPre s p) [] := by
  refine HCall.go mixed ok_stringslite_CutPrefix (by simp) fun hfit Q hQ => ?_
  clear hfit
  simp -implicitDefEqProofs [c_stringslite_CutPrefix]
  refine CALL_pure (stringslite_HasPrefix_call s p) (by simp) (by simp) (by simp [kdAV, cnAV, cnCells_eq, kdCells_eq, strRows, Kd.l]) ?_
  cases h : hasPre s p
  · have h2 := h
    unfold hasPre at h2
    simp -implicitDefEqProofs [h2]
    refine hQ _ _ _ ?_
    simp -implicitDefEqProofs [cutPre, h]
  · have h2 := h
    unfold hasPre at h2
    have h3 : p.length ≤ s.length := by simp at h2; exact h2.2
    have h4 : (s.take p.length == p) = true := by simp at h2; simp [h2.1]
    simp -implicitDefEqProofs [h2, h3, h4]
    refine hQ _ _ _ ?_
    simp -implicitDefEqProofs [cutPre, h]
theorem strings_CutPrefix_call (s p : List UInt8) : HCall Go.Proofs.Tryz.prog i_strings_CutPrefix [.str s, .str p] [] (cutPre s p) [] := by
  refine HCall.go mixed ok_strings_CutPrefix (by simp) fun hfit Q hQ => ?_
  clear hfit
  simp -implicitDefEqProofs [c_strings_CutPrefix]
  refine CALL_pure (stringslite_CutPrefix_call s p) (by simp) (cutPre_scoped s p 0) (by simp) ?_
  cases h : hasPre s p
  · simp -implicitDefEqProofs [cutPre, h]
    refine hQ _ _ _ ?_
    simp -implicitDefEqProofs [cutPre, h]
  · simp -implicitDefEqProofs [cutPre, h]
    refine hQ _ _ _ ?_
    simp -implicitDefEqProofs [cutPre, h]
end Go.Proofs.YtblbepjnkehoaaaGreatDoor
