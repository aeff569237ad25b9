/- Joined: K7 K15 K16 K17 K18 B1. -/
import Derived.Test.YtblbepjnkehoaaaGreatDoorG07
import Derived.Test.YtblbepjnkehoaaaGreatDoorG06
import Derived.Test.YtblbepjnkehoaaaGreatDoorG09
import Derived.Below
set_option linter.unusedSimpArgs false
set_option linter.unusedVariables false
/- Kinds: copies of tycon. -/
namespace Go.Proofs.YtblbepjnkehoaaaGreatDoor
open Go
attribute [local simp] astep aev putA guardA start AV.cells AV.undef takeCells splice intBin abin AV.isCell loadV
set_option maxRecDepth 10000
theorem tycon_kindOf_step (c : Kd) (hrec : ∀ x ∈ c.l, HCall Go.Proofs.Tryz.prog i_tycon_kindOf [kdAV x] [] (kdAV x) []) : HCall Go.Proofs.Tryz.prog i_tycon_kindOf [kdAV c] [] (kdAV c) [] := by
  refine HCall.go mixed ok_tycon_kindOf (by simp) fun hfit Q hQ => ?_
  have hf := kd_fits (k := c) (by simpa [fitsL, kdAV, AV.fits] using hfit)
  have hln : c.l.length ≤ 1073741824 := hf.1
  clear hfit hf
  simp -implicitDefEqProofs [c_tycon_kindOf, kdAV, kdCells_eq c]
  refine WP_loop (AWp.loopI [2] (fun n f h G => ∃ k tok, k + n = c.l.length ∧ f 9 = .int .i64 k ∧ h 2 = [.sl tok ((c.l.map kdCells).take k)] ∧ owns 3 G tok ((c.l.map kdCells).take k) 1) c.l.length (by simp) ⟨0, .nilT, by simp, rfl, by simp [varsOf], owns_nil _ _ _⟩ ?_)
  rintro n f h G ⟨k, tok, hk, h9, h2, hown⟩
  refine AWp.run mixed fun Q2 hQ2 => ?_
  simp -implicitDefEqProofs [AC.dsts, aoDsts, updT, updH, h9, h2]
  by_cases hlt : k < c.l.length
  · have hrec := hrec c.l[k] (List.getElem_mem _)
    simp -implicitDefEqProofs [hlt]
    refine WP_draw (by rfl) ?_
    simp -implicitDefEqProofs
    refine DCALL_of (fun H => hrec.lift (by simp [kdAV, scopedL, AV.inScope]) (by simp [kdAV, AV.inScope]) H) ?_
    simp -implicitDefEqProofs [kdAV, fillR]
    refine DOPT_append (A := [_, _, _]) (owns_more hown) (by simp [maxL]; omega) (headK_take (headK_map _ _ kdCells_length)) (by simp) fun tok' G' hown' hG' => ?_
    simp -implicitDefEqProofs [wrap_i64 (n := (k : Int) + 1) (by omega) (by omega)]
    refine hQ2 _ _ _ (loop_next (n - 1) (fun _ => [.sl tok' ((c.l.map kdCells).take k ++ [kdCells c.l[k]])]) rfl ?_ ?_ ?_)
    · omega
    · simp -implicitDefEqProofs [AC.dsts, aoDsts, updT, slots]
    · have e : (c.l.map kdCells).take (k + 1) = (c.l.map kdCells).take k ++ [kdCells c.l[k]] := by simp [List.take_add_one, hlt]
      refine ⟨k + 1, tok', by omega, by simp [slots], by rw [e], ?_⟩
      rw [e]; exact hown'
  · have hkl : (c.l.map kdCells).take k = c.l.map kdCells := List.take_of_length_le (by simp; omega)
    simp -implicitDefEqProofs [hlt]
    refine hQ2 _ _ _ (loop_exit ?_)
    show KE _ 0 _ Q _ _
    simp -implicitDefEqProofs [hkl]
    refine hQ _ _ _ ?_
    simp -implicitDefEqProofs [fin, aRes, aResL, aRes1, AV.strip, stripL, AV.inScope, scopedL, scopedH, kdAV, kdCells_eq c]
theorem tycon_kindOf_call (c : Kd) : HCall Go.Proofs.Tryz.prog i_tycon_kindOf [kdAV c] [] (kdAV c) [] := tycon_kindOf_step c fun x _ => tycon_kindOf_call x
termination_by SizeOf.sizeOf c
decreasing_by exact Kd.lt_l ‹_›
end Go.Proofs.YtblbepjnkehoaaaGreatDoor
/- Constructors: classes of nodes, small makers. -/
namespace Go.Proofs.YtblbepjnkehoaaaGreatDoor
open Go
theorem beq_dec {α : Type} [BEq α] [LawfulBEq α] [DecidableEq α] (a b : α) : (a == b) = decide (a = b) := by rw [Bool.eq_iff_iff]; simp
theorem bne_dec {α : Type} [BEq α] [LawfulBEq α] [DecidableEq α] (a b : α) : (a != b) = !decide (a = b) := by rw [bne, beq_dec]
attribute [local simp] astep aev putA guardA start AV.cells AV.undef takeCells splice intBin strBin abin AV.isCell loadV fillR fillA
attribute [local simp] fin aRes aResL aRes1 AV.strip stripL stripE AV.inScope scopedL scopedE scopedH
set_option maxRecDepth 10000
set_option linter.unusedSimpArgs false
attribute [local simp] beq_dec bne_dec
/-- Binders; nodes with labels; nodes of signatures with constructors; modules. -/
def opB (op : Int) : Bool := op == 9 || op == 10 || op == 11 || op == 13
def opL (op : Int) : Bool := op == 7 || op == 8
def opC3 (op : Int) : Bool := op == 1 || op == 2 || op == 3
def opM (op : Int) : Bool := op == 5 || op == 6
theorem tycon_binder_call (c : Cn) : HCall Go.Proofs.Tryz.prog i_tycon_binder [cnAV c] [] (.bool (opB c.op)) [] := by
  refine HCall.go mixed ok_tycon_binder (by simp) fun hfit Q hQ => ?_
  clear hfit
  simp -implicitDefEqProofs [-Int.not_lt, -Int.not_le, c_tycon_binder, cnAV, cnCells_eq c]
  repeat' (first | (refine COND_split (fun hb => ?_) (fun hb => ?_) <;> (try simp only [Bool.not_eq_true', Bool.not_eq_true, Bool.not_eq_false, Bool.not_eq_false', Bool.not_true, Bool.not_false, decide_eq_true_eq, decide_eq_false_iff_not, decide_not, Decidable.not_not] at hb) <;> simp -implicitDefEqProofs [-Int.not_lt, -Int.not_le, hb, opB]) | (refine GRD_split (fun hb => ?_) (fun hb => ?_) <;> (try simp only [Bool.not_eq_true', Bool.not_eq_true, Bool.not_eq_false, Bool.not_eq_false', Bool.not_true, Bool.not_false, decide_eq_true_eq, decide_eq_false_iff_not, decide_not, Decidable.not_not] at hb) <;> simp -implicitDefEqProofs [-Int.not_lt, -Int.not_le, hb, opB]))
  all_goals (refine hQ _ _ _ ?_; simp -implicitDefEqProofs [-Int.not_lt, -Int.not_le, *, opB])
theorem tycon_labelled_call (c : Cn) : HCall Go.Proofs.Tryz.prog i_tycon_labelled [cnAV c] [] (.bool (opL c.op)) [] := by
  refine HCall.go mixed ok_tycon_labelled (by simp) fun hfit Q hQ => ?_
  clear hfit
  simp -implicitDefEqProofs [-Int.not_lt, -Int.not_le, c_tycon_labelled, cnAV, cnCells_eq c]
  repeat' (first | (refine COND_split (fun hb => ?_) (fun hb => ?_) <;> (try simp only [Bool.not_eq_true', Bool.not_eq_true, Bool.not_eq_false, Bool.not_eq_false', Bool.not_true, Bool.not_false, decide_eq_true_eq, decide_eq_false_iff_not, decide_not, Decidable.not_not] at hb) <;> simp -implicitDefEqProofs [-Int.not_lt, -Int.not_le, hb, opL]) | (refine GRD_split (fun hb => ?_) (fun hb => ?_) <;> (try simp only [Bool.not_eq_true', Bool.not_eq_true, Bool.not_eq_false, Bool.not_eq_false', Bool.not_true, Bool.not_false, decide_eq_true_eq, decide_eq_false_iff_not, decide_not, Decidable.not_not] at hb) <;> simp -implicitDefEqProofs [-Int.not_lt, -Int.not_le, hb, opL]))
  all_goals (refine hQ _ _ _ ?_; simp -implicitDefEqProofs [-Int.not_lt, -Int.not_le, *, opL])
theorem pilasterref09_Binder_call (op : Int) : HCall Go.Proofs.Tryz.prog i_pilasterref09_Binder [.int .i64 op] [] (.bool (opB op)) [] := by
  refine HCall.go mixed ok_pilasterref09_Binder (by simp) fun hfit Q hQ => ?_
  clear hfit
  simp -implicitDefEqProofs [-Int.not_lt, -Int.not_le, c_pilasterref09_Binder]
  repeat' (first | (refine COND_split (fun hb => ?_) (fun hb => ?_) <;> (try simp only [Bool.not_eq_true', Bool.not_eq_true, Bool.not_eq_false, Bool.not_eq_false', Bool.not_true, Bool.not_false, decide_eq_true_eq, decide_eq_false_iff_not, decide_not, Decidable.not_not] at hb) <;> simp -implicitDefEqProofs [-Int.not_lt, -Int.not_le, hb, opB]) | (refine GRD_split (fun hb => ?_) (fun hb => ?_) <;> (try simp only [Bool.not_eq_true', Bool.not_eq_true, Bool.not_eq_false, Bool.not_eq_false', Bool.not_true, Bool.not_false, decide_eq_true_eq, decide_eq_false_iff_not, decide_not, Decidable.not_not] at hb) <;> simp -implicitDefEqProofs [-Int.not_lt, -Int.not_le, hb, opB]))
  all_goals (refine hQ _ _ _ ?_; simp -implicitDefEqProofs [-Int.not_lt, -Int.not_le, *, opB])
theorem pilasterref24_HasCon_call (op : Int) : HCall Go.Proofs.Tryz.prog i_pilasterref24_HasCon [.int .i64 op] [] (.bool (opC3 op)) [] := by
  refine HCall.go mixed ok_pilasterref24_HasCon (by simp) fun hfit Q hQ => ?_
  clear hfit
  simp -implicitDefEqProofs [-Int.not_lt, -Int.not_le, c_pilasterref24_HasCon]
  repeat' (first | (refine COND_split (fun hb => ?_) (fun hb => ?_) <;> (try simp only [Bool.not_eq_true', Bool.not_eq_true, Bool.not_eq_false, Bool.not_eq_false', Bool.not_true, Bool.not_false, decide_eq_true_eq, decide_eq_false_iff_not, decide_not, Decidable.not_not] at hb) <;> simp -implicitDefEqProofs [-Int.not_lt, -Int.not_le, hb, opC3]) | (refine GRD_split (fun hb => ?_) (fun hb => ?_) <;> (try simp only [Bool.not_eq_true', Bool.not_eq_true, Bool.not_eq_false, Bool.not_eq_false', Bool.not_true, Bool.not_false, decide_eq_true_eq, decide_eq_false_iff_not, decide_not, Decidable.not_not] at hb) <;> simp -implicitDefEqProofs [-Int.not_lt, -Int.not_le, hb, opC3]))
  all_goals (refine hQ _ _ _ ?_; simp -implicitDefEqProofs [-Int.not_lt, -Int.not_le, *, opC3])
theorem sem_hasCon_call (op : Int) : HCall Go.Proofs.Tryz.prog i_sem_hasCon [.int .i64 op] [] (.bool (opC3 op)) [] := by
  refine HCall.go mixed ok_sem_hasCon (by simp) fun hfit Q hQ => ?_
  clear hfit
  simp -implicitDefEqProofs [-Int.not_lt, -Int.not_le, c_sem_hasCon]
  repeat' (first | (refine COND_split (fun hb => ?_) (fun hb => ?_) <;> (try simp only [Bool.not_eq_true', Bool.not_eq_true, Bool.not_eq_false, Bool.not_eq_false', Bool.not_true, Bool.not_false, decide_eq_true_eq, decide_eq_false_iff_not, decide_not, Decidable.not_not] at hb) <;> simp -implicitDefEqProofs [-Int.not_lt, -Int.not_le, hb, opC3]) | (refine GRD_split (fun hb => ?_) (fun hb => ?_) <;> (try simp only [Bool.not_eq_true', Bool.not_eq_true, Bool.not_eq_false, Bool.not_eq_false', Bool.not_true, Bool.not_false, decide_eq_true_eq, decide_eq_false_iff_not, decide_not, Decidable.not_not] at hb) <;> simp -implicitDefEqProofs [-Int.not_lt, -Int.not_le, hb, opC3]))
  all_goals (refine hQ _ _ _ ?_; simp -implicitDefEqProofs [-Int.not_lt, -Int.not_le, *, opC3])
/-- How many parts a node has. -/
def cnParts (c : Cn) : Int := if c.op < 1 ∨ 13 < c.op then -1 else if opL c.op then c.names.length else if opB c.op then 1 else if c.op == 6 || c.op == 12 then 2 else 0
theorem tycon_parts_call (c : Cn) : HCall Go.Proofs.Tryz.prog i_tycon_parts [cnAV c] [] (.int .i64 (cnParts c)) [] := by
  refine HCall.go mixed ok_tycon_parts (by simp) fun hfit Q hQ => ?_
  clear hfit
  simp -implicitDefEqProofs [-Int.not_lt, -Int.not_le, c_tycon_parts, cnAV, cnCells_eq c]
  repeat' (first | (refine COND_split (fun hb => ?_) (fun hb => ?_) <;> (try simp only [Bool.not_eq_true', Bool.not_eq_true, Bool.not_eq_false, Bool.not_eq_false', Bool.not_true, Bool.not_false, decide_eq_true_eq, decide_eq_false_iff_not, decide_not, Decidable.not_not] at hb) <;> simp -implicitDefEqProofs [-Int.not_lt, -Int.not_le, hb]) | (refine GRD_split (fun hb => ?_) (fun hb => ?_) <;> (try simp only [Bool.not_eq_true', Bool.not_eq_true, Bool.not_eq_false, Bool.not_eq_false', Bool.not_true, Bool.not_false, decide_eq_true_eq, decide_eq_false_iff_not, decide_not, Decidable.not_not] at hb) <;> simp -implicitDefEqProofs [-Int.not_lt, -Int.not_le, hb]) | (refine CALL_pure (tycon_labelled_call c) (by simp) (by simp) (by simp [kdAV, cnAV, cnCells_eq, kdCells_eq, strRows, Kd.l, *]) ?_; simp -implicitDefEqProofs [-Int.not_lt, -Int.not_le]) | (refine CALL_pure (tycon_binder_call c) (by simp) (by simp) (by simp [kdAV, cnAV, cnCells_eq, kdCells_eq, strRows, Kd.l, *]) ?_; simp -implicitDefEqProofs [-Int.not_lt, -Int.not_le]))
  all_goals (refine hQ _ _ _ ?_; simp -implicitDefEqProofs [cnParts, strRows, *])
  all_goals simp [opL, opB]
def refParts (op : Int) : Int := if op == 6 || op == 12 then 2 else if opL op then -1 else if opB op then 1 else 0
theorem pilasterref09_parts_call (op : Int) : HCall Go.Proofs.Tryz.prog i_pilasterref09_parts [.int .i64 op] [] (.int .i64 (refParts op)) [] := by
  refine HCall.go mixed ok_pilasterref09_parts (by simp) fun hfit Q hQ => ?_
  clear hfit
  simp -implicitDefEqProofs [-Int.not_lt, -Int.not_le, c_pilasterref09_parts]
  repeat' (first | (refine COND_split (fun hb => ?_) (fun hb => ?_) <;> (try simp only [Bool.not_eq_true', Bool.not_eq_true, Bool.not_eq_false, Bool.not_eq_false', Bool.not_true, Bool.not_false, decide_eq_true_eq, decide_eq_false_iff_not, decide_not, Decidable.not_not] at hb) <;> simp -implicitDefEqProofs [-Int.not_lt, -Int.not_le, hb, refParts, opL]) | (refine GRD_split (fun hb => ?_) (fun hb => ?_) <;> (try simp only [Bool.not_eq_true', Bool.not_eq_true, Bool.not_eq_false, Bool.not_eq_false', Bool.not_true, Bool.not_false, decide_eq_true_eq, decide_eq_false_iff_not, decide_not, Decidable.not_not] at hb) <;> simp -implicitDefEqProofs [-Int.not_lt, -Int.not_le, hb, refParts, opL]) | (refine CALL_pure (pilasterref09_Binder_call op) (by simp) (by simp) (by simp [kdAV, cnAV, cnCells_eq, kdCells_eq, strRows, Kd.l, *]) ?_; simp -implicitDefEqProofs [-Int.not_lt, -Int.not_le, refParts, opL]))
  all_goals (refine hQ _ _ _ ?_; simp -implicitDefEqProofs [-Int.not_lt, -Int.not_le, *, refParts, opL])
def cnVar (n : Int) : Cn := .mk 1 n [] (.mk []) [] []
def cnOp2 (op : Int) (a b : Cn) : Cn := .mk op 0 [] (.mk []) [] [a, b]
def cnBound (op : Int) (k : Kd) (c : Cn) : Cn := .mk op 0 [] k [] [c]
def cnUnit : Cn := .mk 7 0 [] (.mk []) [] []
def cnZero : Cn := .mk 0 0 [] (.mk []) [] []
def cnLeaf (c : Cn) : Cn := .mk c.op c.n c.s c.k [] []
theorem cnCells_mk (op n : Int) (s : List UInt8) (k : Kd) (names : List (List UInt8)) (l : List Cn) : cnCells (.mk op n s k names l) = [.int .i64 op, .int .i64 n, .str s, .sl .none (k.l.map kdCells), .sl .none (strRows names), .sl .none (l.map cnCells)] := cnCells_eq _
theorem strRows_nil : strRows [] = [] := rfl
theorem Kd.l_mk (l : List Kd) : (Kd.mk l).l = l := rfl
theorem tycon_variable_call (n : Int) : HCall Go.Proofs.Tryz.prog i_tycon_variable [.int .i64 n] [] (cnAV (cnVar n)) [] := by
  refine HCall.go mixed ok_tycon_variable (by simp) fun hfit Q hQ => ?_
  clear hfit
  simp -implicitDefEqProofs [-Int.not_lt, -Int.not_le, c_tycon_variable]
  refine hQ _ _ _ ?_
  simp -implicitDefEqProofs [-Int.not_lt, -Int.not_le, cnAV, cnVar, cnCells_mk, strRows_nil, Kd.l_mk]
theorem pilasterref09_Var_call (n : Int) : HCall Go.Proofs.Tryz.prog i_pilasterref09_Var [.int .i64 n] [] (cnAV (cnVar n)) [] := by
  refine HCall.go mixed ok_pilasterref09_Var (by simp) fun hfit Q hQ => ?_
  clear hfit
  simp -implicitDefEqProofs [-Int.not_lt, -Int.not_le, c_pilasterref09_Var]
  refine hQ _ _ _ ?_
  simp -implicitDefEqProofs [-Int.not_lt, -Int.not_le, cnAV, cnVar, cnCells_mk, strRows_nil, Kd.l_mk]
theorem tycon_Unit_call : HCall Go.Proofs.Tryz.prog i_tycon_Unit [] [] (cnAV cnUnit) [] := by
  refine HCall.go mixed ok_tycon_Unit (by simp) fun hfit Q hQ => ?_
  clear hfit
  simp -implicitDefEqProofs [-Int.not_lt, -Int.not_le, c_tycon_Unit]
  refine hQ _ _ _ ?_
  simp -implicitDefEqProofs [-Int.not_lt, -Int.not_le, cnAV, cnUnit, cnCells_mk, strRows_nil, Kd.l_mk]
theorem pilasterref09_Unit_call : HCall Go.Proofs.Tryz.prog i_pilasterref09_Unit [] [] (cnAV cnUnit) [] := by
  refine HCall.go mixed ok_pilasterref09_Unit (by simp) fun hfit Q hQ => ?_
  clear hfit
  simp -implicitDefEqProofs [-Int.not_lt, -Int.not_le, c_pilasterref09_Unit]
  refine hQ _ _ _ ?_
  simp -implicitDefEqProofs [-Int.not_lt, -Int.not_le, cnAV, cnUnit, cnCells_mk, strRows_nil, Kd.l_mk]
theorem encode_arrow_call (a b : Cn) : HCall Go.Proofs.Tryz.prog i_encode_arrow [cnAV a, cnAV b] [] (cnAV (cnOp2 6 a b)) [] := by
  refine HCall.go mixed ok_encode_arrow (by simp) fun hfit Q hQ => ?_
  clear hfit
  simp -implicitDefEqProofs [-Int.not_lt, -Int.not_le, c_encode_arrow, cnAV]
  refine hQ _ _ _ ?_
  simp -implicitDefEqProofs [-Int.not_lt, -Int.not_le, cnAV, cnOp2, cnCells_mk, strRows_nil, Kd.l_mk]
theorem pilasterref09_Arrow_call (a b : Cn) : HCall Go.Proofs.Tryz.prog i_pilasterref09_Arrow [cnAV a, cnAV b] [] (cnAV (cnOp2 6 a b)) [] := by
  refine HCall.go mixed ok_pilasterref09_Arrow (by simp) fun hfit Q hQ => ?_
  clear hfit
  simp -implicitDefEqProofs [-Int.not_lt, -Int.not_le, c_pilasterref09_Arrow, cnAV]
  refine hQ _ _ _ ?_
  simp -implicitDefEqProofs [-Int.not_lt, -Int.not_le, cnAV, cnOp2, cnCells_mk, strRows_nil, Kd.l_mk]
theorem pilasterref09_App_call (a b : Cn) : HCall Go.Proofs.Tryz.prog i_pilasterref09_App [cnAV a, cnAV b] [] (cnAV (cnOp2 12 a b)) [] := by
  refine HCall.go mixed ok_pilasterref09_App (by simp) fun hfit Q hQ => ?_
  clear hfit
  simp -implicitDefEqProofs [-Int.not_lt, -Int.not_le, c_pilasterref09_App, cnAV]
  refine hQ _ _ _ ?_
  simp -implicitDefEqProofs [-Int.not_lt, -Int.not_le, cnAV, cnOp2, cnCells_mk, strRows_nil, Kd.l_mk]
theorem pilasterref09_Bound_call (op : Int) (k : Kd) (c : Cn) : HCall Go.Proofs.Tryz.prog i_pilasterref09_Bound [.int .i64 op, kdAV k, cnAV c] [] (cnAV (cnBound op k c)) [] := by
  refine HCall.go mixed ok_pilasterref09_Bound (by simp) fun hfit Q hQ => ?_
  clear hfit
  simp -implicitDefEqProofs [-Int.not_lt, -Int.not_le, c_pilasterref09_Bound, cnAV, kdAV, kdCells_eq k]
  refine hQ _ _ _ ?_
  simp -implicitDefEqProofs [-Int.not_lt, -Int.not_le, cnAV, cnBound, cnCells_mk, strRows_nil, Kd.l_mk, kdCells_eq k]
theorem tycon_leafOf_call (c : Cn) : HCall Go.Proofs.Tryz.prog i_tycon_leafOf [cnAV c] [] (cnAV (cnLeaf c)) [] := by
  refine HCall.go mixed ok_tycon_leafOf (by simp) fun hfit Q hQ => ?_
  clear hfit
  simp -implicitDefEqProofs [-Int.not_lt, -Int.not_le, c_tycon_leafOf, cnAV, cnCells_eq c]
  refine WP_draw (by rfl) ?_
  simp -implicitDefEqProofs [-Int.not_lt, -Int.not_le]
  refine DCALL_pure (tycon_kindOf_call c.k) (by simp) (by simp) (by simp [kdAV, cnAV, cnCells_eq, kdCells_eq, strRows, Kd.l]) ?_
  simp -implicitDefEqProofs [-Int.not_lt, -Int.not_le, kdAV, kdCells_eq c.k]
  refine hQ _ _ _ ?_
  simp -implicitDefEqProofs [-Int.not_lt, -Int.not_le, cnAV, cnLeaf, cnCells_mk, strRows_nil, kdAV, kdCells_eq c.k]
theorem pilasterref09_deep_call (c : Cn) (d : Int) : HCall Go.Proofs.Tryz.prog i_pilasterref09_deep [cnAV c, .int .i64 d] [] (.int .i64 (if opB c.op then IntKind.i64.wrap (d + 1) else d)) [] := by
  refine HCall.go mixed ok_pilasterref09_deep (by simp) fun hfit Q hQ => ?_
  clear hfit
  simp -implicitDefEqProofs [-Int.not_lt, -Int.not_le, c_pilasterref09_deep, cnAV, cnCells_eq c]
  refine CALL_pure (pilasterref09_Binder_call c.op) (by simp) (by simp) (by simp [kdAV, cnAV, cnCells_eq, kdCells_eq, strRows, Kd.l]) ?_
  cases h : opB c.op
  · simp -implicitDefEqProofs [-Int.not_lt, -Int.not_le]
    refine hQ _ _ _ ?_
    simp -implicitDefEqProofs [-Int.not_lt, -Int.not_le, h]
  · simp -implicitDefEqProofs [-Int.not_lt, -Int.not_le]
    refine hQ _ _ _ ?_
    simp -implicitDefEqProofs [-Int.not_lt, -Int.not_le, h]
theorem pilasterref09_inside_call (c : Cn) (l : List Cn) : HCall Go.Proofs.Tryz.prog i_pilasterref09_inside [cnAV c, .sl .none (l.map cnCells)] [] (cnAV (.mk c.op c.n c.s c.k c.names l)) [] := by
  refine HCall.go mixed ok_pilasterref09_inside (by simp) fun hfit Q hQ => ?_
  clear hfit
  simp -implicitDefEqProofs [-Int.not_lt, -Int.not_le, c_pilasterref09_inside, cnAV, cnCells_eq c]
  refine hQ _ _ _ ?_
  simp -implicitDefEqProofs [-Int.not_lt, -Int.not_le, cnAV, cnCells_mk]
end Go.Proofs.YtblbepjnkehoaaaGreatDoor
/- slices.IndexFunc and slices.ContainsFunc over constructors and texts; slices.Clone of texts. -/
namespace Go.Proofs.YtblbepjnkehoaaaGreatDoor
open Go
attribute [local simp] astep aev putA guardA start AV.cells AV.undef takeCells splice intBin strBin abin AV.isCell loadV fillR fillA
attribute [local simp] fin aRes aResL aRes1 AV.strip stripL stripE AV.inScope scopedL scopedE scopedH
set_option maxRecDepth 10000
set_option linter.unusedSimpArgs false
attribute [local simp] beq_dec bne_dec
/-- A slice of which nothing is known but that it is empty: nil, or not. -/
theorem HCall.nilOr {P : Program} {f : FuncId} {H H' : List HB} {res : AV} {A B : List AV} (h1 : HCall P f (A ++ .sl .nilT [] :: B) H res H') (h2 : HCall P f (A ++ .sl .nn [] :: B) H res H') : HCall P f (A ++ .sl .none [] :: B) H res H' := by
  refine ⟨h1.1, fun F g w vs hG hs hr => ?_⟩
  have split : ∀ (A : List AV) (vs : List Value), RL F g w (A ++ .sl .none [] :: B) vs → RL F g w (A ++ .sl .nilT [] :: B) vs ∨ RL F g w (A ++ .sl .nn [] :: B) vs := by
    intro A
    induction A with
    | nil =>
      intro vs h
      simp only [List.nil_append, RL] at h ⊢
      obtain ⟨v, r, rfl, hv, hr⟩ := h
      simp only [R] at hv
      obtain ⟨h0, ⟨_, rfl, _⟩ | ⟨B', off, sp, cap, k, rfl, hc, hk, he, ht⟩⟩ := hv
      · exact .inl ⟨_, r, rfl, by unfold R; exact ⟨h0, .inl ⟨rfl, rfl, by simp, by simp⟩⟩, hr⟩
      · exact .inr ⟨_, r, rfl, by unfold R; exact ⟨h0, .inr ⟨B', off, sp, cap, k, rfl, hc, ⟨hk.1, .inl rfl⟩, he, trivial⟩⟩, hr⟩
    | cons a A ih =>
      intro vs h
      simp only [List.cons_append, RL] at h ⊢
      obtain ⟨v, r, rfl, hv, hr⟩ := h
      rcases ih r hr with h | h
      · exact .inl ⟨v, r, rfl, hv, h⟩
      · exact .inr ⟨v, r, rfl, hv, h⟩
  rcases split A vs hr with h | h
  · exact h1.2 F g w vs hG hs h
  · exact h2.2 F g w vs hG hs h
theorem slices_Clone_string_call (l : List (List UInt8)) : HCall Go.Proofs.Tryz.prog i_slices_Clone_string [.sl .none (strRows l)] [] (.sl .none (strRows l)) [] := by
  cases l with
  | nil =>
    refine HCall.nilOr (A := []) (B := []) ?_ ?_
    · refine HCall.go mixed ok_slices_Clone_string (by simp) fun hfit Q hQ => ?_
      clear hfit
      simp -implicitDefEqProofs [-Int.not_lt, -Int.not_le, c_slices_Clone_string, isNil]
      refine hQ _ _ _ ?_
      simp -implicitDefEqProofs [-Int.not_lt, -Int.not_le, strRows]
    · refine HCall.go mixed ok_slices_Clone_string (by simp) fun hfit Q hQ => ?_
      clear hfit
      simp -implicitDefEqProofs [-Int.not_lt, -Int.not_le, c_slices_Clone_string, isNil, aappend, maxL, headK, appendNew]
      refine hQ _ _ _ ?_
      simp -implicitDefEqProofs [-Int.not_lt, -Int.not_le, strRows]
  | cons s l =>
    refine HCall.go mixed ok_slices_Clone_string (by simp) fun hfit Q hQ => ?_
    have hln : l.length + 1 ≤ maxL := by simpa [fitsL, AV.fits, strRows] using hfit.1.1
    clear hfit
    simp -implicitDefEqProofs [-Int.not_lt, -Int.not_le, c_slices_Clone_string, isNil, strRows, aappend, hln, headK, appendNew]
    refine hQ _ _ _ ?_
    simp -implicitDefEqProofs [-Int.not_lt, -Int.not_le, strRows]
theorem slices_IndexFunc_Con_call (l : List Cn) (p : Cn → Bool) (n : Nat) (hp : ∀ x ∈ l, HCall Go.Proofs.Tryz.prog n [cnAV x] [] (.bool (p x)) []) :
    HCall Go.Proofs.Tryz.prog i_slices_IndexFunc_Con [.sl .none (l.map cnCells), .fn (.func n) [] []] [] (.int .i64 (idxFrom p l 0)) [] := by
  refine HCall.go mixed ok_slices_IndexFunc_Con (by simp) fun hfit Q hQ => ?_
  have hln : l.length ≤ 1073741824 := by simpa [fitsL, AV.fits, maxL] using hfit.1.1
  clear hfit
  simp -implicitDefEqProofs [-Int.not_lt, -Int.not_le, c_slices_IndexFunc_Con]
  refine WP_loop (AWp.loopI [] (fun n f h G => ∃ k : Nat, k + n = l.length ∧ f 8 = .int .i64 k ∧ idxFrom p (l.drop k) k = idxFrom p l 0) (l.length) (by simp) ⟨0, by simp, rfl, by simp⟩ ?_)
  rintro n f h G ⟨k, hk, h8, hs⟩
  refine AWp.run mixed fun Q2 hQ2 => ?_
  simp -implicitDefEqProofs [-Int.not_lt, -Int.not_le, AC.dsts, aoDsts, updT, updH, h8]
  by_cases hlt : k < l.length
  · have hd := List.drop_eq_getElem_cons hlt
    simp -implicitDefEqProofs [-Int.not_lt, -Int.not_le, hlt]
    refine CALL_pure (hp l[k] (List.getElem_mem _)) (by simp) (by simp) (by simp [kdAV, cnAV, cnCells_eq, kdCells_eq, strRows, Kd.l]) ?_
    simp -implicitDefEqProofs [-Int.not_lt, -Int.not_le]
    refine COND_split (fun hb => ?_) (fun hb => ?_)
    · have e : idxFrom p l 0 = k := by rw [← hs, hd]; simp [idxFrom, hb]
      simp -implicitDefEqProofs [-Int.not_lt, -Int.not_le]
      refine hQ2 _ _ _ (loop_ret ?_)
      show KR _ _ Q _ _
      simp -implicitDefEqProofs [-Int.not_lt, -Int.not_le]
      refine hQ _ _ _ ?_
      simp -implicitDefEqProofs [-Int.not_lt, -Int.not_le, e]
    · simp -implicitDefEqProofs [-Int.not_lt, -Int.not_le, wrap_i64 (n := (k : Int) + 1) (by omega) (by omega)]
      refine hQ2 _ _ _ (loop_next (n - 1) (h) rfl (by omega) (by simp -implicitDefEqProofs [AC.dsts, aoDsts, updT, slots]) ?_)
      refine ⟨k + 1, by omega, by simp [slots], ?_⟩
      rw [← hs, hd]; simp [idxFrom, hb]
  · have e : idxFrom p l 0 = -1 := by rw [← hs, List.drop_eq_nil_of_le (by omega)]; simp [idxFrom]
    simp -implicitDefEqProofs [-Int.not_lt, -Int.not_le, hlt]
    refine hQ2 _ _ _ (loop_exit ?_)
    show KE _ 0 _ Q _ _
    simp -implicitDefEqProofs [-Int.not_lt, -Int.not_le]
    refine hQ _ _ _ ?_
    simp -implicitDefEqProofs [-Int.not_lt, -Int.not_le, e]
theorem slices_ContainsFunc_Con_call (l : List Cn) (p : Cn → Bool) (n : Nat) (hp : ∀ x ∈ l, HCall Go.Proofs.Tryz.prog n [cnAV x] [] (.bool (p x)) []) :
    HCall Go.Proofs.Tryz.prog i_slices_ContainsFunc_Con [.sl .none (l.map cnCells), .fn (.func n) [] []] [] (.bool (l.any p)) [] := by
  refine HCall.go mixed ok_slices_ContainsFunc_Con (by simp) fun hfit Q hQ => ?_
  clear hfit
  simp -implicitDefEqProofs [-Int.not_lt, -Int.not_le, c_slices_ContainsFunc_Con]
  refine CALL_pure (slices_IndexFunc_Con_call l p n hp) (by simp) (by simp) (by simp [kdAV, cnAV, cnCells_eq, kdCells_eq, strRows, Kd.l]) ?_
  simp -implicitDefEqProofs [-Int.not_lt, -Int.not_le]
  refine hQ _ _ _ ?_
  simp -implicitDefEqProofs [-Int.not_lt, -Int.not_le, idxFrom_any]
theorem slices_IndexFunc_string_call (l : List (List UInt8)) (p : List UInt8 → Bool) (n : Nat) (hp : ∀ x ∈ l, HCall Go.Proofs.Tryz.prog n [.str x] [] (.bool (p x)) []) :
    HCall Go.Proofs.Tryz.prog i_slices_IndexFunc_string [.sl .none (strRows l), .fn (.func n) [] []] [] (.int .i64 (idxFrom p l 0)) [] := by
  refine HCall.go mixed ok_slices_IndexFunc_string (by simp) fun hfit Q hQ => ?_
  have hln : l.length ≤ 1073741824 := by simpa [fitsL, AV.fits, maxL, strRows] using hfit.1.1
  clear hfit
  simp -implicitDefEqProofs [-Int.not_lt, -Int.not_le, c_slices_IndexFunc_string, strRows]
  refine WP_loop (AWp.loopI [] (fun n f h G => ∃ k : Nat, k + n = l.length ∧ f 8 = .int .i64 k ∧ idxFrom p (l.drop k) k = idxFrom p l 0) (l.length) (by simp) ⟨0, by simp, rfl, by simp⟩ ?_)
  rintro n f h G ⟨k, hk, h8, hs⟩
  refine AWp.run mixed fun Q2 hQ2 => ?_
  simp -implicitDefEqProofs [-Int.not_lt, -Int.not_le, AC.dsts, aoDsts, updT, updH, h8]
  by_cases hlt : k < l.length
  · have hd := List.drop_eq_getElem_cons hlt
    simp -implicitDefEqProofs [-Int.not_lt, -Int.not_le, hlt]
    refine CALL_pure (hp l[k] (List.getElem_mem _)) (by simp) (by simp) (by simp [kdAV, cnAV, cnCells_eq, kdCells_eq, strRows, Kd.l]) ?_
    simp -implicitDefEqProofs [-Int.not_lt, -Int.not_le]
    refine COND_split (fun hb => ?_) (fun hb => ?_)
    · have e : idxFrom p l 0 = k := by rw [← hs, hd]; simp [idxFrom, hb]
      simp -implicitDefEqProofs [-Int.not_lt, -Int.not_le]
      refine hQ2 _ _ _ (loop_ret ?_)
      show KR _ _ Q _ _
      simp -implicitDefEqProofs [-Int.not_lt, -Int.not_le]
      refine hQ _ _ _ ?_
      simp -implicitDefEqProofs [-Int.not_lt, -Int.not_le, e]
    · simp -implicitDefEqProofs [-Int.not_lt, -Int.not_le, wrap_i64 (n := (k : Int) + 1) (by omega) (by omega)]
      refine hQ2 _ _ _ (loop_next (n - 1) (h) rfl (by omega) (by simp -implicitDefEqProofs [AC.dsts, aoDsts, updT, slots]) ?_)
      refine ⟨k + 1, by omega, by simp [slots], ?_⟩
      rw [← hs, hd]; simp [idxFrom, hb]
  · have e : idxFrom p l 0 = -1 := by rw [← hs, List.drop_eq_nil_of_le (by omega)]; simp [idxFrom]
    simp -implicitDefEqProofs [-Int.not_lt, -Int.not_le, hlt]
    refine hQ2 _ _ _ (loop_exit ?_)
    show KE _ 0 _ Q _ _
    simp -implicitDefEqProofs [-Int.not_lt, -Int.not_le]
    refine hQ _ _ _ ?_
    simp -implicitDefEqProofs [-Int.not_lt, -Int.not_le, e]
theorem slices_ContainsFunc_string_call (l : List (List UInt8)) (p : List UInt8 → Bool) (n : Nat) (hp : ∀ x ∈ l, HCall Go.Proofs.Tryz.prog n [.str x] [] (.bool (p x)) []) :
    HCall Go.Proofs.Tryz.prog i_slices_ContainsFunc_string [.sl .none (strRows l), .fn (.func n) [] []] [] (.bool (l.any p)) [] := by
  refine HCall.go mixed ok_slices_ContainsFunc_string (by simp) fun hfit Q hQ => ?_
  clear hfit
  simp -implicitDefEqProofs [-Int.not_lt, -Int.not_le, c_slices_ContainsFunc_string]
  refine CALL_pure (slices_IndexFunc_string_call l p n hp) (by simp) (by simp) (by simp [kdAV, cnAV, cnCells_eq, kdCells_eq, strRows, Kd.l]) ?_
  simp -implicitDefEqProofs [-Int.not_lt, -Int.not_le]
  refine hQ _ _ _ ?_
  simp -implicitDefEqProofs [-Int.not_lt, -Int.not_le, idxFrom_any]
end Go.Proofs.YtblbepjnkehoaaaGreatDoor
/- Constructors: equality. -/
namespace Go.Proofs.YtblbepjnkehoaaaGreatDoor
open Go
attribute [local simp] astep aev putA guardA start AV.cells AV.undef takeCells splice intBin strBin abin AV.isCell loadV fillR fillA
attribute [local simp] fin aRes aResL aRes1 AV.strip stripL stripE AV.inScope scopedL scopedE scopedH
set_option maxRecDepth 10000
set_option linter.unusedSimpArgs false
attribute [local simp] beq_dec bne_dec
mutual
def cnEq : Cn → Cn → Bool
  | .mk o n s k ns l, .mk o' n' s' k' ns' l' => o == o' && n == n' && s == s' && kEq k k' && ns == ns' && cnEqs l l'
def cnEqs : List Cn → List Cn → Bool
  | [], [] => true
  | x :: xs, y :: ys => cnEq x y && cnEqs xs ys
  | _, _ => false
end
theorem cnEqs_eq : ∀ (a b : List Cn), cnEqs a b = eqBy cnEq a b
  | [], [] => by simp [cnEqs, eqBy]
  | x :: xs, y :: ys => by simp [cnEqs, eqBy, cnEqs_eq xs ys]
  | [], _ :: _ => by simp [cnEqs, eqBy]
  | _ :: _, [] => by simp [cnEqs, eqBy]
theorem cnEq_eq (a b : Cn) : cnEq a b = (a.op == b.op && a.n == b.n && a.s == b.s && kEq a.k b.k && a.names == b.names && eqBy cnEq a.l b.l) := by
  cases a; cases b; simp [cnEq, cnEqs_eq, Cn.op, Cn.n, Cn.s, Cn.k, Cn.names, Cn.l]
theorem slices_EqualFunc_Con_call (a b : List Cn) (p : Cn → Cn → Bool) (m : Nat) (hp : ∀ x ∈ a, ∀ y, HCall Go.Proofs.Tryz.prog m [cnAV x, cnAV y] [] (.bool (p x y)) []) :
    HCall Go.Proofs.Tryz.prog i_slices_EqualFunc_Con [.sl .none (a.map cnCells), .sl .none (b.map cnCells), .fn (.func m) [] []] [] (.bool (eqBy p a b)) [] := by
  refine HCall.go mixed ok_slices_EqualFunc_Con (by simp) fun hfit Q hQ => ?_
  have hln : a.length ≤ 1073741824 := by simpa [fitsL, AV.fits, maxL] using hfit.1.1
  clear hfit
  simp -implicitDefEqProofs [-Int.not_lt, -Int.not_le, c_slices_EqualFunc_Con]
  refine COND_split (fun hb => ?_) (fun hb => ?_)
  · have e : eqBy p a b = false := eqBy_len _ _ _ (by simp at hb; omega)
    simp -implicitDefEqProofs [-Int.not_lt, -Int.not_le]
    refine hQ _ _ _ ?_
    simp -implicitDefEqProofs [-Int.not_lt, -Int.not_le, e]
  have hab : a.length = b.length := by simp at hb; omega
  simp -implicitDefEqProofs [-Int.not_lt, -Int.not_le]
  refine WP_loop (AWp.loopI [] (fun n f h G => ∃ k : Nat, k + n = a.length ∧ f 17 = .int .i64 k ∧ eqBy p (a.drop k) (b.drop k) = eqBy p a b) (a.length) (by simp) ⟨0, by simp, rfl, by simp⟩ ?_)
  rintro n f h G ⟨k, hk, h17, hs⟩
  refine AWp.run mixed fun Q2 hQ2 => ?_
  simp -implicitDefEqProofs [-Int.not_lt, -Int.not_le, AC.dsts, aoDsts, updT, updH, h17]
  by_cases hlt : k < a.length
  · have hlt2 : k < b.length := by omega
    have hd := List.drop_eq_getElem_cons hlt
    have hd2 := List.drop_eq_getElem_cons hlt2
    simp -implicitDefEqProofs [-Int.not_lt, -Int.not_le, hlt, hlt2]
    refine CALL_pure (hp a[k] (List.getElem_mem _) b[k]) (by simp) (by simp) (by simp [kdAV, cnAV, cnCells_eq, kdCells_eq, strRows, Kd.l]) ?_
    simp -implicitDefEqProofs [-Int.not_lt, -Int.not_le]
    cases hv : p a[k] b[k]
    · have e : eqBy p a b = false := by rw [← hs, hd, hd2]; simp [eqBy, hv]
      simp -implicitDefEqProofs [-Int.not_lt, -Int.not_le]
      refine hQ2 _ _ _ (loop_ret ?_)
      show KR _ _ Q _ _
      simp -implicitDefEqProofs [-Int.not_lt, -Int.not_le]
      refine hQ _ _ _ ?_
      simp -implicitDefEqProofs [-Int.not_lt, -Int.not_le, e]
    · simp -implicitDefEqProofs [-Int.not_lt, -Int.not_le, wrap_i64 (n := (k : Int) + 1) (by omega) (by omega)]
      refine hQ2 _ _ _ (loop_next (n - 1) (h) rfl (by omega) (by simp -implicitDefEqProofs [AC.dsts, aoDsts, updT, slots]) ?_)
      refine ⟨k + 1, by omega, by simp [slots], ?_⟩
      rw [← hs, hd, hd2]; simp [eqBy, hv]
  · have e : eqBy p a b = true := by rw [← hs, List.drop_eq_nil_of_le (by omega), List.drop_eq_nil_of_le (by omega)]; simp [eqBy]
    simp -implicitDefEqProofs [-Int.not_lt, -Int.not_le, hlt]
    refine hQ2 _ _ _ (loop_exit ?_)
    show KE _ 0 _ Q _ _
    simp -implicitDefEqProofs [-Int.not_lt, -Int.not_le]
    refine hQ _ _ _ ?_
    simp -implicitDefEqProofs [-Int.not_lt, -Int.not_le, e]
theorem tycon_Equal_step (a b : Cn) (hrec : ∀ x ∈ a.l, ∀ y, HCall Go.Proofs.Tryz.prog i_tycon_Equal [cnAV x, cnAV y] [] (.bool (cnEq x y)) []) :
    HCall Go.Proofs.Tryz.prog i_tycon_Equal [cnAV a, cnAV b] [] (.bool (cnEq a b)) [] := by
  have key := cnEq_eq a b
  refine HCall.go mixed ok_tycon_Equal (by simp) fun hfit Q hQ => ?_
  clear hfit
  simp -implicitDefEqProofs [-Int.not_lt, -Int.not_le, c_tycon_Equal, cnAV, cnCells_eq a, cnCells_eq b]
  repeat' (first | (refine COND_split (fun hb => ?_) (fun hb => ?_) <;> (try simp only [Bool.not_eq_true', Bool.not_eq_true, Bool.not_eq_false, Bool.not_eq_false', Bool.not_true, Bool.not_false, decide_eq_true_eq, decide_eq_false_iff_not, decide_not, Decidable.not_not] at hb) <;> simp -implicitDefEqProofs [-Int.not_lt, -Int.not_le, hb, key]) | (refine GRD_split (fun hb => ?_) (fun hb => ?_) <;> (try simp only [Bool.not_eq_true', Bool.not_eq_true, Bool.not_eq_false, Bool.not_eq_false', Bool.not_true, Bool.not_false, decide_eq_true_eq, decide_eq_false_iff_not, decide_not, Decidable.not_not] at hb) <;> simp -implicitDefEqProofs [-Int.not_lt, -Int.not_le, hb, key]) | (refine CALL_pure (tycon_same_call a.k b.k) (by simp) (by simp) (by simp [kdAV, cnAV, cnCells_eq, kdCells_eq, strRows, Kd.l, *]) ?_; simp -implicitDefEqProofs [-Int.not_lt, -Int.not_le, key]) | (refine CALL_pure (slices_Equal_string_call a.names b.names) (by simp) (by simp) (by simp [kdAV, cnAV, cnCells_eq, kdCells_eq, strRows, Kd.l, *]) ?_; simp -implicitDefEqProofs [-Int.not_lt, -Int.not_le, key]) | (refine CALL_pure (slices_EqualFunc_Con_call a.l b.l cnEq _ hrec) (by simp) (by simp) (by simp [kdAV, cnAV, cnCells_eq, kdCells_eq, strRows, Kd.l, *]) ?_; simp -implicitDefEqProofs [-Int.not_lt, -Int.not_le, key]))
  all_goals (refine hQ _ _ _ ?_; simp -implicitDefEqProofs [-Int.not_lt, -Int.not_le, *, key])
theorem tycon_Equal_call (a b : Cn) : HCall Go.Proofs.Tryz.prog i_tycon_Equal [cnAV a, cnAV b] [] (.bool (cnEq a b)) [] :=
  tycon_Equal_step a b fun x _ y => tycon_Equal_call x y
termination_by SizeOf.sizeOf a
decreasing_by exact Cn.lt_l ‹_›
theorem pilasterref09_Same_step (a b : Cn) (hrec : ∀ x ∈ a.l, ∀ y, HCall Go.Proofs.Tryz.prog i_pilasterref09_Same [cnAV x, cnAV y] [] (.bool (cnEq x y)) []) :
    HCall Go.Proofs.Tryz.prog i_pilasterref09_Same [cnAV a, cnAV b] [] (.bool (cnEq a b)) [] := by
  have key := cnEq_eq a b
  refine HCall.go mixed ok_pilasterref09_Same (by simp) fun hfit Q hQ => ?_
  have hf := cn_fits (c := a) (by simpa [fitsL, cnAV, AV.fits] using hfit.1)
  have hln : a.l.length ≤ 1073741824 := hf.2.2.2.2.2.2.2.1
  clear hfit hf
  simp -implicitDefEqProofs [-Int.not_lt, -Int.not_le, c_pilasterref09_Same, cnAV, cnCells_eq a, cnCells_eq b]
  by_cases hab : a.l.length = b.l.length
  · repeat' (first | (refine COND_split (fun hb => ?_) (fun hb => ?_) <;> (try simp only [Bool.not_eq_true', Bool.not_eq_true, Bool.not_eq_false, Bool.not_eq_false', Bool.not_true, Bool.not_false, decide_eq_true_eq, decide_eq_false_iff_not, decide_not, Decidable.not_not] at hb) <;> simp -implicitDefEqProofs [-Int.not_lt, -Int.not_le, hb, hab]) | (refine GRD_split (fun hb => ?_) (fun hb => ?_) <;> (try simp only [Bool.not_eq_true', Bool.not_eq_true, Bool.not_eq_false, Bool.not_eq_false', Bool.not_true, Bool.not_false, decide_eq_true_eq, decide_eq_false_iff_not, decide_not, Decidable.not_not] at hb) <;> simp -implicitDefEqProofs [-Int.not_lt, -Int.not_le, hb, hab]) | (refine CALL_pure (pilasterref09_SameKind_call a.k b.k) (by simp) (by simp) (by simp [kdAV, cnAV, cnCells_eq, kdCells_eq, strRows, Kd.l, *]) ?_; simp -implicitDefEqProofs [-Int.not_lt, -Int.not_le, hab]) | (refine CALL_pure (pilasterref01_Same_call a.names b.names) (by simp) (by simp) (by simp [kdAV, cnAV, cnCells_eq, kdCells_eq, strRows, Kd.l, *]) ?_; simp -implicitDefEqProofs [-Int.not_lt, -Int.not_le, hab]))
    all_goals try (refine hQ _ _ _ ?_; simp -implicitDefEqProofs [key, *]; done)
    have key2 : cnEq a b = eqBy cnEq a.l b.l := by rw [key]; simp [*]
    refine WP_loop (AWp.loopI [] (fun n f h G => ∃ k : Nat, k + n = b.l.length ∧ f 5 = .int .i64 k ∧ eqBy cnEq (a.l.drop k) (b.l.drop k) = cnEq a b) (b.l.length) (by simp) ⟨0, by simp, rfl, by simp [key2]⟩ ?_)
    rintro n f h G ⟨k, hk, h5, hs⟩
    refine AWp.run mixed fun Q2 hQ2 => ?_
    simp -implicitDefEqProofs [-Int.not_lt, -Int.not_le, AC.dsts, aoDsts, updT, updH, h5, hab]
    by_cases hlt : k < b.l.length
    · have hlt2 : k < a.l.length := by omega
      have hd := List.drop_eq_getElem_cons hlt
      have hd2 := List.drop_eq_getElem_cons hlt2
      simp -implicitDefEqProofs [-Int.not_lt, -Int.not_le, hlt]
      refine WP_draw (by rfl) ?_
      simp -implicitDefEqProofs [-Int.not_lt, -Int.not_le, hlt, hlt2]
      refine DCALL_pure (hrec a.l[k] (List.getElem_mem _) b.l[k]) (by simp) (by simp) (by simp [kdAV, cnAV, cnCells_eq, kdCells_eq, strRows, Kd.l]) ?_
      simp -implicitDefEqProofs [-Int.not_lt, -Int.not_le]
      cases hv : cnEq a.l[k] b.l[k]
      · have e : cnEq a b = false := by rw [← hs, hd, hd2]; simp [eqBy, hv]
        simp -implicitDefEqProofs [-Int.not_lt, -Int.not_le]
        refine hQ2 _ _ _ (loop_ret ?_)
        show KR _ _ Q _ _
        simp -implicitDefEqProofs [-Int.not_lt, -Int.not_le]
        refine hQ _ _ _ ?_
        simp -implicitDefEqProofs [-Int.not_lt, -Int.not_le, e]
      · simp -implicitDefEqProofs [-Int.not_lt, -Int.not_le, wrap_i64 (n := (k : Int) + 1) (by omega) (by omega)]
        refine hQ2 _ _ _ (loop_next (n - 1) (h) rfl (by omega) (by simp -implicitDefEqProofs [AC.dsts, aoDsts, updT, slots]) ?_)
        refine ⟨k + 1, by omega, by simp [slots], ?_⟩
        rw [← hs, hd, hd2]; simp [eqBy, hv]
    · have e : cnEq a b = true := by rw [← hs, List.drop_eq_nil_of_le (by omega), List.drop_eq_nil_of_le (by omega)]; simp [eqBy]
      simp -implicitDefEqProofs [-Int.not_lt, -Int.not_le, hlt]
      refine hQ2 _ _ _ (loop_exit ?_)
      show KE _ 0 _ Q _ _
      simp -implicitDefEqProofs [-Int.not_lt, -Int.not_le]
      refine hQ _ _ _ ?_
      simp -implicitDefEqProofs [-Int.not_lt, -Int.not_le, e]
  · have e : cnEq a b = false := by rw [key, eqBy_len _ _ _ hab]; simp
    repeat' (first | (refine COND_split (fun hb => ?_) (fun hb => ?_) <;> (try simp only [Bool.not_eq_true', Bool.not_eq_true, Bool.not_eq_false, Bool.not_eq_false', Bool.not_true, Bool.not_false, decide_eq_true_eq, decide_eq_false_iff_not, decide_not, Decidable.not_not] at hb) <;> simp -implicitDefEqProofs [-Int.not_lt, -Int.not_le, hb]) | (refine GRD_split (fun hb => ?_) (fun hb => ?_) <;> (try simp only [Bool.not_eq_true', Bool.not_eq_true, Bool.not_eq_false, Bool.not_eq_false', Bool.not_true, Bool.not_false, decide_eq_true_eq, decide_eq_false_iff_not, decide_not, Decidable.not_not] at hb) <;> simp -implicitDefEqProofs [-Int.not_lt, -Int.not_le, hb]) | (refine CALL_pure (pilasterref09_SameKind_call a.k b.k) (by simp) (by simp) (by simp [kdAV, cnAV, cnCells_eq, kdCells_eq, strRows, Kd.l, *]) ?_; simp -implicitDefEqProofs [-Int.not_lt, -Int.not_le]) | (refine CALL_pure (pilasterref01_Same_call a.names b.names) (by simp) (by simp) (by simp [kdAV, cnAV, cnCells_eq, kdCells_eq, strRows, Kd.l, *]) ?_; simp -implicitDefEqProofs [-Int.not_lt, -Int.not_le]))
    all_goals first | (refine hQ _ _ _ ?_; simp -implicitDefEqProofs [e]; done) | (exfalso; omega)
theorem pilasterref09_Same_call (a b : Cn) : HCall Go.Proofs.Tryz.prog i_pilasterref09_Same [cnAV a, cnAV b] [] (.bool (cnEq a b)) [] :=
  pilasterref09_Same_step a b fun x _ y => pilasterref09_Same_call x y
termination_by SizeOf.sizeOf a
decreasing_by exact Cn.lt_l ‹_›
theorem cnZero_cells : cnCells cnZero = [.int .i64 0, .int .i64 0, .str [],   .sl .none [], .sl .none [], .sl .none []] := by simp [cnZero, cnCells_mk, Kd.l_mk, strRows_nil]
theorem pilasterlaw25_none_call (a : Cn) : HCall Go.Proofs.Tryz.prog i_pilasterlaw25_none [cnAV a] [] (.bool (cnEq a cnZero)) [] := by
  refine HCall.go mixed ok_pilasterlaw25_none (by simp) fun hfit Q hQ => ?_
  clear hfit
  simp -implicitDefEqProofs [-Int.not_lt, -Int.not_le, c_pilasterlaw25_none, cnAV]
  refine CALL_pure (pilasterref09_Same_call a cnZero) (by simp) (by simp) (by simp [cnZero_cells, cnAV]) ?_
  simp -implicitDefEqProofs [-Int.not_lt, -Int.not_le]
  refine hQ _ _ _ ?_
  simp -implicitDefEqProofs [-Int.not_lt, -Int.not_le]
end Go.Proofs.YtblbepjnkehoaaaGreatDoor
/- Constructors: sizes and depths. -/
namespace Go.Proofs.YtblbepjnkehoaaaGreatDoor
open Go
attribute [local simp] astep aev putA guardA start AV.cells AV.undef takeCells splice intBin strBin abin AV.isCell loadV fillR fillA
attribute [local simp] fin aRes aResL aRes1 AV.strip stripL stripE AV.inScope scopedL scopedE scopedH
set_option maxRecDepth 10000
set_option linter.unusedSimpArgs false
attribute [local simp] beq_dec bne_dec
mutual
def cnSize : Cn → Nat
  | .mk _ _ _ _ _ l => 1 + cnSizes l
def cnSizes : List Cn → Nat
  | [] => 0
  | c :: cs => cnSize c + cnSizes cs
end
mutual
def cnDepth : Cn → Nat
  | .mk _ _ _ _ _ l => cnDepths l + 1
def cnDepths : List Cn → Nat
  | [] => 0
  | c :: cs => max (cnDepth c) (cnDepths cs)
end
theorem cnSizes_take (l : List Cn) (k : Nat) (h : k < l.length) : cnSizes (l.take (k + 1)) = cnSizes (l.take k) + cnSize l[k] := by
  induction l generalizing k with
  | nil => simp at h
  | cons c l ih =>
    cases k with
    | zero => simp [cnSizes]
    | succ k => simp [cnSizes, ih k (by simpa using h)]; omega
theorem cnSizes_le (l : List Cn) (k : Nat) : cnSizes (l.take k) ≤ cnSizes l := by
  induction l generalizing k with
  | nil => simp
  | cons c l ih => cases k with
    | zero => simp [cnSizes]
    | succ k => simp [cnSizes]; exact ih k
theorem cnSize_eq (c : Cn) : cnSize c = 1 + cnSizes c.l := by cases c; simp [cnSize, Cn.l]
theorem cnDepth_eq (c : Cn) : cnDepth c = cnDepths c.l + 1 := by cases c; simp [cnDepth, Cn.l]
theorem cnSize_mem {l : List Cn} {x : Cn} (h : x ∈ l) : cnSize x ≤ cnSizes l := by
  induction l with
  | nil => cases h
  | cons c l ih =>
    rcases List.mem_cons.1 h with rfl | h
    · simp [cnSizes]
    · have := ih h; simp [cnSizes]; omega
theorem cnDepth_mem {l : List Cn} {x : Cn} (h : x ∈ l) : cnDepth x ≤ cnDepths l := by
  induction l with
  | nil => cases h
  | cons c l ih =>
    rcases List.mem_cons.1 h with rfl | h
    · simp [cnDepths]; omega
    · have := ih h; simp [cnDepths]; omega
mutual
theorem cnDepth_size : ∀ c : Cn, cnDepth c ≤ cnSize c
  | .mk _ _ _ _ _ l => by have := cnDepths_size l; simp only [cnDepth, cnSize]; omega
theorem cnDepths_size : ∀ l : List Cn, cnDepths l ≤ cnSizes l
  | [] => by simp [cnDepths, cnSizes]
  | c :: cs => by have := cnDepth_size c; have := cnDepths_size cs; simp only [cnDepths, cnSizes]; omega
end
theorem cnDepths_take (l : List Cn) (k : Nat) (h : k < l.length) : cnDepths (l.take (k + 1)) = max (cnDepths (l.take k)) (cnDepth l[k]) := by
  induction l generalizing k with
  | nil => simp at h
  | cons c l ih =>
    cases k with
    | zero => simp [cnDepths]
    | succ k => simp [cnDepths, ih k (by simpa using h), Nat.max_assoc]
theorem tycon_Size_step (c : Cn) (hc : cnSize c ≤ 1000000000000) (hrec : ∀ x ∈ c.l, HCall Go.Proofs.Tryz.prog i_tycon_Size [cnAV x] [] (.int .i64 (cnSize x)) []) : HCall Go.Proofs.Tryz.prog i_tycon_Size [cnAV c] [] (.int .i64 (cnSize c)) [] := by
  have hz := cnSize_eq c
  refine HCall.go mixed ok_tycon_Size (by simp) fun hfit Q hQ => ?_
  have hf := cn_fits (c := c) (by simpa [fitsL, cnAV, AV.fits] using hfit)
  have hln : c.l.length ≤ 1073741824 := hf.2.2.2.2.2.2.2.1
  clear hfit hf
  simp -implicitDefEqProofs [-Int.not_lt, -Int.not_le, c_tycon_Size, cnAV, cnCells_eq c]
  refine WP_loop (AWp.loopI [] (fun n f h G => ∃ k, k + n = c.l.length ∧ f 9 = .int .i64 k ∧ f 3 = .int .i64 (1 + cnSizes (c.l.take k))) (c.l.length) (by simp) ⟨0, by simp, rfl, rfl⟩ ?_)
  rintro n f h G ⟨k, hk, h9, h3⟩
  refine AWp.run mixed fun Q2 hQ2 => ?_
  simp -implicitDefEqProofs [-Int.not_lt, -Int.not_le, AC.dsts, aoDsts, updT, updH, h9, h3]
  by_cases hlt : k < c.l.length
  · have ht := cnSizes_take c.l k hlt
    have hle := cnSizes_le c.l (k + 1)
    simp -implicitDefEqProofs [-Int.not_lt, -Int.not_le, hlt]
    refine CALL_pure (hrec c.l[k] (List.getElem_mem _)) (by simp) (by simp) (by simp [kdAV, cnAV, cnCells_eq, kdCells_eq, strRows, Kd.l]) ?_
    simp -implicitDefEqProofs [-Int.not_lt, -Int.not_le, wrap_i64 (n := (k : Int) + 1) (by omega) (by omega), wrap_i64 (n := 1 + (cnSizes (c.l.take k) : Int) + cnSize c.l[k]) (by omega) (by omega)]
    refine hQ2 _ _ _ (loop_next (n - 1) (h) rfl (by omega) (by simp -implicitDefEqProofs [AC.dsts, aoDsts, updT, slots]) ?_)
    refine ⟨k + 1, by omega, by simp [slots], ?_⟩
    simp -implicitDefEqProofs [slots, ht]; omega
  · have hkl : c.l.take k = c.l := List.take_of_length_le (by omega)
    simp -implicitDefEqProofs [-Int.not_lt, -Int.not_le, hlt]
    refine hQ2 _ _ _ (loop_exit ?_)
    show KE _ 0 _ Q _ _
    simp -implicitDefEqProofs [-Int.not_lt, -Int.not_le]
    refine hQ _ _ _ ?_
    simp -implicitDefEqProofs [-Int.not_lt, -Int.not_le, hkl, hz]
theorem tycon_Size_call (c : Cn) (hc : cnSize c ≤ 1000000000000) : HCall Go.Proofs.Tryz.prog i_tycon_Size [cnAV c] [] (.int .i64 (cnSize c)) [] :=
  tycon_Size_step c hc fun x hx => tycon_Size_call x (by have := cnSize_mem hx; have := cnSize_eq c; omega)
termination_by SizeOf.sizeOf c
decreasing_by exact Cn.lt_l ‹_›
theorem pilasterref09_Size_step (c : Cn) (hc : cnSize c ≤ 1000000000000) (hrec : ∀ x ∈ c.l, HCall Go.Proofs.Tryz.prog i_pilasterref09_Size [cnAV x] [] (.int .i64 (cnSize x)) []) : HCall Go.Proofs.Tryz.prog i_pilasterref09_Size [cnAV c] [] (.int .i64 (cnSize c)) [] := by
  have hz := cnSize_eq c
  refine HCall.go mixed ok_pilasterref09_Size (by simp) fun hfit Q hQ => ?_
  have hf := cn_fits (c := c) (by simpa [fitsL, cnAV, AV.fits] using hfit)
  have hln : c.l.length ≤ 1073741824 := hf.2.2.2.2.2.2.2.1
  clear hfit hf
  simp -implicitDefEqProofs [-Int.not_lt, -Int.not_le, c_pilasterref09_Size, cnAV, cnCells_eq c]
  refine WP_loop (AWp.loopI [] (fun n f h G => ∃ k, k + n = c.l.length ∧ f 4 = .int .i64 k ∧ f 3 = .int .i64 (1 + cnSizes (c.l.take k))) (c.l.length) (by simp) ⟨0, by simp, rfl, rfl⟩ ?_)
  rintro n f h G ⟨k, hk, h4, h3⟩
  refine AWp.run mixed fun Q2 hQ2 => ?_
  simp -implicitDefEqProofs [-Int.not_lt, -Int.not_le, AC.dsts, aoDsts, updT, updH, h4, h3]
  by_cases hlt : k < c.l.length
  · have ht := cnSizes_take c.l k hlt
    have hle := cnSizes_le c.l (k + 1)
    simp -implicitDefEqProofs [-Int.not_lt, -Int.not_le, hlt]
    refine CALL_pure (hrec c.l[k] (List.getElem_mem _)) (by simp) (by simp) (by simp [kdAV, cnAV, cnCells_eq, kdCells_eq, strRows, Kd.l]) ?_
    simp -implicitDefEqProofs [-Int.not_lt, -Int.not_le, wrap_i64 (n := (k : Int) + 1) (by omega) (by omega), wrap_i64 (n := 1 + (cnSizes (c.l.take k) : Int) + cnSize c.l[k]) (by omega) (by omega)]
    refine hQ2 _ _ _ (loop_next (n - 1) (h) rfl (by omega) (by simp -implicitDefEqProofs [AC.dsts, aoDsts, updT, slots]) ?_)
    refine ⟨k + 1, by omega, by simp [slots], ?_⟩
    simp -implicitDefEqProofs [slots, ht]; omega
  · have hkl : c.l.take k = c.l := List.take_of_length_le (by omega)
    simp -implicitDefEqProofs [-Int.not_lt, -Int.not_le, hlt]
    refine hQ2 _ _ _ (loop_exit ?_)
    show KE _ 0 _ Q _ _
    simp -implicitDefEqProofs [-Int.not_lt, -Int.not_le]
    refine hQ _ _ _ ?_
    simp -implicitDefEqProofs [-Int.not_lt, -Int.not_le, hkl, hz]
theorem pilasterref09_Size_call (c : Cn) (hc : cnSize c ≤ 1000000000000) : HCall Go.Proofs.Tryz.prog i_pilasterref09_Size [cnAV c] [] (.int .i64 (cnSize c)) [] :=
  pilasterref09_Size_step c hc fun x hx => pilasterref09_Size_call x (by have := cnSize_mem hx; have := cnSize_eq c; omega)
termination_by SizeOf.sizeOf c
decreasing_by exact Cn.lt_l ‹_›
theorem tycon_depth_step (c : Cn) (hc : cnSize c ≤ 1000000000000) (hrec : ∀ x ∈ c.l, HCall Go.Proofs.Tryz.prog i_tycon_depth [cnAV x] [] (.int .i64 (cnDepth x)) []) : HCall Go.Proofs.Tryz.prog i_tycon_depth [cnAV c] [] (.int .i64 (cnDepth c)) [] := by
  have hz := cnDepth_eq c
  have hz2 := cnDepths_size c.l
  have hz3 := cnSize_eq c
  refine HCall.go mixed ok_tycon_depth (by simp) fun hfit Q hQ => ?_
  have hf := cn_fits (c := c) (by simpa [fitsL, cnAV, AV.fits] using hfit)
  have hln : c.l.length ≤ 1073741824 := hf.2.2.2.2.2.2.2.1
  clear hfit hf
  simp -implicitDefEqProofs [-Int.not_lt, -Int.not_le, c_tycon_depth, cnAV, cnCells_eq c]
  refine WP_loop (AWp.loopI [] (fun n f h G => ∃ k, k + n = c.l.length ∧ f 9 = .int .i64 k ∧ f 3 = .int .i64 (cnDepths (c.l.take k))) (c.l.length) (by simp) ⟨0, by simp, rfl, rfl⟩ ?_)
  rintro n f h G ⟨k, hk, h9, h3⟩
  refine AWp.run mixed fun Q2 hQ2 => ?_
  simp -implicitDefEqProofs [-Int.not_lt, -Int.not_le, AC.dsts, aoDsts, updT, updH, h9, h3]
  by_cases hlt : k < c.l.length
  · have ht := cnDepths_take c.l k hlt
    simp -implicitDefEqProofs [-Int.not_lt, -Int.not_le, hlt]
    refine CALL_pure (hrec c.l[k] (List.getElem_mem _)) (by simp) (by simp) (by simp [kdAV, cnAV, cnCells_eq, kdCells_eq, strRows, Kd.l]) ?_
    simp -implicitDefEqProofs [-Int.not_lt, -Int.not_le, wrap_i64 (n := (k : Int) + 1) (by omega) (by omega), maxA, maxF]
    refine hQ2 _ _ _ (loop_next (n - 1) (h) rfl (by omega) (by simp -implicitDefEqProofs [AC.dsts, aoDsts, updT, slots]) ?_)
    refine ⟨k + 1, by omega, by simp [slots], ?_⟩
    simp -implicitDefEqProofs [slots, ht]; split <;> omega
  · have hkl : c.l.take k = c.l := List.take_of_length_le (by omega)
    simp -implicitDefEqProofs [-Int.not_lt, -Int.not_le, hlt]
    refine hQ2 _ _ _ (loop_exit ?_)
    show KE _ 0 _ Q _ _
    simp -implicitDefEqProofs [-Int.not_lt, -Int.not_le, hkl, wrap_i64 (n := (cnDepths c.l : Int) + 1) (by omega) (by omega)]
    refine hQ _ _ _ ?_
    simp -implicitDefEqProofs [-Int.not_lt, -Int.not_le, hz]
theorem tycon_depth_call (c : Cn) (hc : cnSize c ≤ 1000000000000) : HCall Go.Proofs.Tryz.prog i_tycon_depth [cnAV c] [] (.int .i64 (cnDepth c)) [] :=
  tycon_depth_step c hc fun x hx => tycon_depth_call x (by have := cnSize_mem hx; have := cnSize_eq c; omega)
termination_by SizeOf.sizeOf c
decreasing_by exact Cn.lt_l ‹_›
mutual
/-- The reference's count of nodes, up to a limit. -/
def rCnt : Cn → Int → Int → Int
  | .mk _ _ _ _ _ l, left, depth => if 400 < depth then left else rCnts l left depth 1
def rCnts : List Cn → Int → Int → Int → Int
  | [], _, _, n => n
  | x :: xs, left, depth, n => if n < left then rCnts xs left depth (n + rCnt x (left - n) (depth + 1)) else n
end
theorem rCnt_eq (c : Cn) (left depth : Int) : rCnt c left depth = if 400 < depth then left else rCnts c.l left depth 1 := by cases c; simp [rCnt, Cn.l]
mutual
theorem rCnt_le : ∀ (c : Cn) (left depth : Int), 1 ≤ left → 1 ≤ rCnt c left depth ∧ rCnt c left depth ≤ left
  | .mk _ _ _ _ _ l, left, depth, h => by
    simp only [rCnt]; split
    · omega
    · exact rCnts_le l left depth 1 (by omega) h
theorem rCnts_le : ∀ (l : List Cn) (left depth n : Int), 1 ≤ n → n ≤ left → 1 ≤ rCnts l left depth n ∧ rCnts l left depth n ≤ left
  | [], _, _, n, h, h' => by simp only [rCnts]; omega
  | x :: xs, left, depth, n, h, h' => by
    simp only [rCnts]; split
    · have := rCnt_le x (left - n) (depth + 1) (by omega)
      exact rCnts_le xs left depth _ (by omega) (by omega)
    · omega
end
theorem pilasterref09_count_step (c : Cn) (left depth : Int) (hl : 1 ≤ left) (hl2 : left ≤ 20001) (hd0 : 0 ≤ depth) (hd : depth ≤ 1000)
    (hrec : ∀ x ∈ c.l, ∀ left depth, 1 ≤ left → left ≤ 20001 → 0 ≤ depth → depth ≤ 1000 → HCall Go.Proofs.Tryz.prog i_pilasterref09_count [cnAV x, .int .i64 left, .int .i64 depth] [] (.int .i64 (rCnt x left depth)) []) :
    HCall Go.Proofs.Tryz.prog i_pilasterref09_count [cnAV c, .int .i64 left, .int .i64 depth] [] (.int .i64 (rCnt c left depth)) [] := by
  refine HCall.go mixed ok_pilasterref09_count (by simp) fun hfit Q hQ => ?_
  have hf := cn_fits (c := c) (by simpa [fitsL, cnAV, AV.fits] using hfit.1)
  have hln : c.l.length ≤ 1073741824 := hf.2.2.2.2.2.2.2.1
  clear hfit hf
  simp -implicitDefEqProofs [-Int.not_lt, -Int.not_le, c_pilasterref09_count, cnAV, cnCells_eq c]
  by_cases h1 : 400 < depth
  · have e : rCnt c left depth = left := by rw [rCnt_eq]; simp [h1]
    simp -implicitDefEqProofs [-Int.not_lt, -Int.not_le, h1]
    refine hQ _ _ _ ?_
    simp -implicitDefEqProofs [-Int.not_lt, -Int.not_le, e]
  have key : rCnt c left depth = rCnts c.l left depth 1 := by rw [rCnt_eq]; simp [h1]
  simp -implicitDefEqProofs [-Int.not_lt, -Int.not_le, h1]
  refine WP_loop (AWp.loopI [] (fun n f h G => ∃ (k : Nat) (m : Int), k + n = c.l.length ∧ f 8 = .int .i64 k ∧ f 7 = .int .i64 m ∧ 1 ≤ m ∧ m ≤ left ∧ rCnts (c.l.drop k) left depth m = rCnt c left depth) (c.l.length) (by simp) ⟨0, 1, by simp, rfl, rfl, by omega, by omega, by simp [key]⟩ ?_)
  rintro n f h G ⟨k, m, hk, h8, h7, hm1, hm2, hs⟩
  refine AWp.run mixed fun Q2 hQ2 => ?_
  simp -implicitDefEqProofs [-Int.not_lt, -Int.not_le, AC.dsts, aoDsts, updT, updH, h8, h7]
  by_cases hlt : k < c.l.length
  · have hd' := List.drop_eq_getElem_cons hlt
    by_cases hml : m < left
    · have hrc := rCnt_le c.l[k] (left - m) (depth + 1) (by omega)
      have hrec := hrec c.l[k] (List.getElem_mem _) (left - m) (depth + 1) (by omega) (by omega) (by omega) (by omega)
      simp -implicitDefEqProofs [-Int.not_lt, -Int.not_le, hlt, hml, wrap_i64 (n := left - m) (by omega) (by omega), wrap_i64 (n := depth + 1) (by omega) (by omega)]
      refine CALL_pure (hrec) (by simp) (by simp) (by simp [kdAV, cnAV, cnCells_eq, kdCells_eq, strRows, Kd.l]) ?_
      simp -implicitDefEqProofs [-Int.not_lt, -Int.not_le, wrap_i64 (n := (k : Int) + 1) (by omega) (by omega), wrap_i64 (n := m + rCnt c.l[k] (left - m) (depth + 1)) (by omega) (by omega)]
      refine hQ2 _ _ _ (loop_next (n - 1) (h) rfl (by omega) (by simp -implicitDefEqProofs [AC.dsts, aoDsts, updT, slots]) ?_)
      refine ⟨k + 1, _, by omega, by simp [slots], by simp [slots]; rfl, by omega, by omega, ?_⟩
      rw [← hs, hd', rCnts, if_pos hml]
    · have e : rCnt c left depth = m := by rw [← hs, hd', rCnts, if_neg hml]
      simp -implicitDefEqProofs [-Int.not_lt, -Int.not_le, hlt, hml]
      refine hQ2 _ _ _ (loop_exit ?_)
      show KE _ 0 _ Q _ _
      simp -implicitDefEqProofs [-Int.not_lt, -Int.not_le]
      refine hQ _ _ _ ?_
      simp -implicitDefEqProofs [-Int.not_lt, -Int.not_le, e]
  · have e : rCnt c left depth = m := by rw [← hs, List.drop_eq_nil_of_le (by omega), rCnts]
    simp -implicitDefEqProofs [-Int.not_lt, -Int.not_le, hlt]
    refine hQ2 _ _ _ (loop_exit ?_)
    show KE _ 0 _ Q _ _
    simp -implicitDefEqProofs [-Int.not_lt, -Int.not_le]
    refine hQ _ _ _ ?_
    simp -implicitDefEqProofs [-Int.not_lt, -Int.not_le, e]
theorem pilasterref09_count_call (c : Cn) (left depth : Int) (hl : 1 ≤ left) (hl2 : left ≤ 20001) (hd0 : 0 ≤ depth) (hd : depth ≤ 1000) : HCall Go.Proofs.Tryz.prog i_pilasterref09_count [cnAV c, .int .i64 left, .int .i64 depth] [] (.int .i64 (rCnt c left depth)) [] :=
  pilasterref09_count_step c left depth hl hl2 hd0 hd fun x _ left depth h1 h2 h3 h4 => pilasterref09_count_call x left depth h1 h2 h3 h4
termination_by SizeOf.sizeOf c
decreasing_by exact Cn.lt_l ‹_›
mutual
theorem rCnt_size : ∀ (c : Cn) (left depth : Int), 1 ≤ left → rCnt c left depth = if depth + cnDepth c ≤ 401 ∧ (cnSize c : Int) ≤ left then (cnSize c : Int) else left
  | .mk o n s k ns l, left, depth, h => by
    have e1 : cnDepth (.mk o n s k ns l) = cnDepths l + 1 := cnDepth_eq _
    have e2 : cnSize (.mk o n s k ns l) = 1 + cnSizes l := cnSize_eq _
    rw [e1, e2, rCnt]
    split
    · rw [if_neg (by omega)]
    · rw [rCnts_size l left depth 1 (by omega) h]
      cases l with
      | nil => simp [cnSizes, cnDepths]; omega
      | cons x xs => simp only [reduceCtorEq, false_or]; split <;> split <;> omega
theorem rCnts_size : ∀ (l : List Cn) (left depth n : Int), 1 ≤ n → n ≤ left → rCnts l left depth n = if (l = [] ∨ depth + 1 + cnDepths l ≤ 401) ∧ n + (cnSizes l : Int) ≤ left then n + (cnSizes l : Int) else left
  | [], _, _, n, h, h' => by simp [rCnts, cnSizes, h']
  | x :: xs, left, depth, n, h, h' => by
    have hsz : 1 ≤ cnSize x := by rw [cnSize_eq]; omega
    have e1 : cnDepths (x :: xs) = max (cnDepth x) (cnDepths xs) := by simp [cnDepths]
    have e2 : cnSizes (x :: xs) = cnSize x + cnSizes xs := by simp [cnSizes]
    rw [e1, e2, rCnts]
    split
    · have h1 := rCnt_size x (left - n) (depth + 1) (by omega)
      have h2 := rCnt_le x (left - n) (depth + 1) (by omega)
      rw [rCnts_size xs left depth _ (by omega) (by omega), h1]
      by_cases hx : depth + 1 + (cnDepth x : Int) ≤ 401 ∧ (cnSize x : Int) ≤ left - n
      · rw [if_pos hx]
        cases xs with
        | nil => simp [cnSizes, cnDepths]; split <;> split <;> omega
        | cons y ys => simp only [reduceCtorEq, false_or]; split <;> split <;> omega
      · rw [if_neg hx]
        simp only [reduceCtorEq, false_or]
        split <;> split <;> omega
    · rw [if_neg (by omega)]; omega
end
theorem pilasterref09_Small_call (c : Cn) : HCall Go.Proofs.Tryz.prog i_pilasterref09_Small [cnAV c] [] (.bool (decide (cnSize c ≤ 20000) && decide (cnDepth c ≤ 400))) [] := by
  have e : (decide (cnSize c ≤ 20000) && decide (cnDepth c ≤ 400)) = decide (rCnt c 20001 1 ≤ 20000) := by
    rw [rCnt_size c 20001 1 (by omega), Bool.eq_iff_iff]
    simp only [Bool.and_eq_true, decide_eq_true_eq]
    split <;> omega
  rw [e]
  clear e
  refine HCall.go mixed ok_pilasterref09_Small (by simp) fun hfit Q hQ => ?_
  clear hfit
  simp -implicitDefEqProofs [-Int.not_lt, -Int.not_le, c_pilasterref09_Small, cnAV]
  refine CALL_pure (pilasterref09_count_call c 20001 1 (by omega) (by omega) (by omega) (by omega)) (by simp) (by simp) (by simp [kdAV, cnAV, cnCells_eq, kdCells_eq, strRows, Kd.l]) ?_
  simp -implicitDefEqProofs [-Int.not_lt, -Int.not_le]
  refine hQ _ _ _ ?_
  simp -implicitDefEqProofs [-Int.not_lt, -Int.not_le]
end Go.Proofs.YtblbepjnkehoaaaGreatDoor
/- Contracts of library functions that are known from the shelf, turned to contracts at the level of data. -/
namespace Go.Proofs.YtblbepjnkehoaaaGreatDoor
open Go
theorem cell_block {w w' : World} {a : Addr} (h : w'.heap[a.block]? = w.heap[a.block]?) : w'.cell? a = w.cell? a := by
  unfold World.cell?; rw [h]
/-- What a function of pure data does to the memory, if it leaves all that was there. -/
theorem HCall.below {P : Program} {f : FuncId} {args : List AV} {res : AV} (he : enterable P f = true)
    (h : ∀ F g w vs, GlobOk P F w → (∀ a, F a → a.block < w.heap.size) → RL F g w args vs → Calls P f vs.toArray w fun e w' => ∃ v, e = .returned v ∧ (w'.os = w.os ∧ w'.output = w.output) ∧ w.heap.size ≤ w'.heap.size ∧ (∀ k, k < w.heap.size → w'.heap[k]? = w.heap[k]?) ∧
      ∀ F' : Addr → Prop, (∀ a, F a → F' a) → (∀ b off, w.heap.size ≤ b → b < w'.heap.size → F' ⟨b, off, none⟩) → R F' g w' res v) : HCall P f args [] res [] := by
  refine ⟨he, fun F g w vs hG hs hr => (h F g w vs hG hs.live hr).mono ?_⟩
  rintro e w' ⟨v, rfl, hio, hsz, hk, hR⟩
  have hlive := hs.live
  have hkeep : ∀ a, F a → w'.cell? a = w.cell? a := fun a ha => cell_block (hk _ (hlive a ha))
  refine ⟨v, fun a => F a ∨ (w.heap.size ≤ a.block ∧ a.block < w'.heap.size ∧ a.spot = Option.none), g, rfl, hR _ (fun a ha => .inl ha) (fun b off h1 h2 => .inr ⟨h1, h2, rfl⟩), ?_, ?_⟩
  · refine ⟨?_, hs.beyond, hs.inj, fun b cs hb => by simp at hb, fun t n k ty ht => by simp at ht, ?_, fun b e cs hb => by simp at hb⟩
    · rintro a (ha | ⟨_, ha, _⟩)
      · exact Nat.lt_of_lt_of_le (hlive a ha) hsz
      · exact ha
    · rintro b off s (ha | ⟨_, _, ha⟩)
      · exact hs.spots b off s ha
      · simp at ha
  · refine ⟨fun a ha => .inl ha, hkeep, Gh.le_refl g, hsz, fun B hB _ => hk B hB, ?_, fun b B hb _ => by simp at hb, Nat.le_refl _, hio⟩
    rintro a (ha | ⟨ha, _, _⟩)
    · exact .inl ha
    · exact .inr (.inl ha)
theorem RL_two {F : Addr → Prop} {g : Gh} {w : World} {x y : AV} {vs : List Value} (h : RL F g w [x, y] vs) : ∃ v u, vs = [v, u] ∧ R F g w x v ∧ R F g w y u := by
  simp only [RL] at h
  obtain ⟨v, r, rfl, hv, u, r', rfl, hu, rfl⟩ := h
  exact ⟨v, u, rfl, hv, hu⟩
theorem R_strV {F : Addr → Prop} {g : Gh} {w : World} {s : List UInt8} (h : s.length ≤ maxL) : R F g w (.str s) (.string ⟨s.toArray⟩) := by
  unfold R; exact ⟨rfl, h⟩
/-- Rows of texts in a block of the call's own. -/
theorem RE_strs {F : Addr → Prop} {g : Gh} {w : World} {B : Nat} (l : List (List UInt8)) (off : Nat) (hF : ∀ o, F ⟨B, o, none⟩) (hl : ∀ s ∈ l, s.length ≤ maxL)
    (hc : ∀ (j : Nat) (s : List UInt8), l[j]? = some s → w.cell? ⟨B, off + j, none⟩ = some (.string ⟨s.toArray⟩)) : RE F g w B off 1 (strRows l) := by
  induction l generalizing off with
  | nil => trivial
  | cons s l ih =>
    simp only [strRows, List.map_cons, RE]
    refine ⟨rfl, ?_, ih (off + 1) (fun x hx => hl x (by simp [hx])) (fun j x hx => by
      have := hc (j + 1) x (by simpa using hx)
      rwa [show off + (j + 1) = off + 1 + j from by omega] at this)⟩
    simp only [RM, AV.isCell, and_true, true_and]
    exact ⟨_, hF _, by simpa using hc 0 s (by simp), R_strV (hl s (by simp))⟩
end Go.Proofs.YtblbepjnkehoaaaGreatDoor
