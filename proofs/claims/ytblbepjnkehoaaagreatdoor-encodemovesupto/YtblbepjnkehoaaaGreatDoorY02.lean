/- Joined: M5 M6 P2 P3. -/
import Derived.Test.YtblbepjnkehoaaaGreatDoorY01
import Derived.Test.YtblbepjnkehoaaaGreatDoorG18
import Derived.Test.YtblbepjnkehoaaaGreatDoorY00
import Derived.Test.YtblbepjnkehoaaaGreatDoorG05
import Derived.Test.YtblbepjnkehoaaaGreatDoorG06
import Derived.Test.YtblbepjnkehoaaaGreatDoorG07
import Derived.Test.YtblbepjnkehoaaaGreatDoorG08
set_option linter.unusedSimpArgs false
set_option linter.unusedVariables false
set_option maxHeartbeats 4000000
/- Semantic signatures: substituting by the program. -/
namespace Go.Proofs.YtblbepjnkehoaaaGreatDoor
open Go
/-- What tycon.Shift gives, also where there are too many variables around. -/
def shX (c : Cn) (d fr : Int) : Cn × Int := if cnValid c = true ∧ 20000 < d then (cnZero, 2) else shS c d fr
mutual
def sb (l : List Cn) : Cn → Int → Cn × Int
  | .mk o n s k ns cl, d => if o = 1 then (if IntKind.i64.wrap (n - d) < 0 then (.mk o n s k ns cl, 0) else
      match l[(IntKind.i64.wrap (n - d)).toNat]? with
      | some x => shX x d 0
      | none => (.mk o (IntKind.i64.wrap (n - l.length)) s k ns cl, 0))
    else if (sbs l cl (if opB o = true then d + 1 else d)).2 ≠ 0 then (cnZero, (sbs l cl (if opB o = true then d + 1 else d)).2) else (.mk o n s k ns (sbs l cl (if opB o = true then d + 1 else d)).1, 0)
def sbs (l : List Cn) : List Cn → Int → List Cn × Int
  | [], _ => ([], 0)
  | x :: xs, d => if (sb l x d).2 ≠ 0 then ([], (sb l x d).2) else ((sb l x d).1 :: (sbs l xs d).1, (sbs l xs d).2)
end
theorem sb_eq (l : List Cn) (c : Cn) (d : Int) : sb l c d = if c.op = 1 then (if IntKind.i64.wrap (c.n - d) < 0 then (c, 0) else
      match l[(IntKind.i64.wrap (c.n - d)).toNat]? with
      | some x => shX x d 0
      | none => (.mk c.op (IntKind.i64.wrap (c.n - l.length)) c.s c.k c.names c.l, 0))
    else if (sbs l c.l (if opB c.op = true then d + 1 else d)).2 ≠ 0 then (cnZero, (sbs l c.l (if opB c.op = true then d + 1 else d)).2) else (.mk c.op c.n c.s c.k c.names (sbs l c.l (if opB c.op = true then d + 1 else d)).1, 0) := by
  cases c; rw [sb]; rfl
attribute [local simp] astep aev putA guardA start AV.cells AV.undef takeCells splice intBin strBin abin AV.isCell loadV fillR fillA
attribute [local simp] fin aRes aResL aRes1 AV.strip stripL stripE AV.inScope scopedL scopedE scopedH
set_option maxRecDepth 10000
set_option linter.unusedSimpArgs false
attribute [local simp] beq_dec bne_dec
theorem tycon_Shift_callX (c : Cn) (d fr : Int) (hc : cnSize c ≤ 1000000000000) (hd0 : 0 ≤ d) (hd : d ≤ 1000000000) (hf0 : 0 ≤ fr) (hf1 : fr ≤ 1000000000) :
    HCall Go.Proofs.Tryz.prog i_tycon_Shift [cnAV c, .int .i64 d, .int .i64 fr] [] (cnE (shX c d fr)) [] := by
  by_cases h : cnValid c = true ∧ 20000 < d
  case neg =>
    by_cases hd' : 20000 < d
    · have hv : cnValid c = false := by
        cases hv : cnValid c
        · rfl
        · exact absurd ⟨hv, hd'⟩ h
      have key : shX c d fr = (cnZero, 1) := by rw [shX, if_neg h, shS, if_neg (by simp [hv])]
      refine HCall.go mixed ok_tycon_Shift (by simp) fun hfit Q hQ => ?_
      clear hfit
      simp -implicitDefEqProofs [-Int.not_lt, -Int.not_le, c_tycon_Shift, cnAV]
      refine CALL_pure (tycon_Valid_call c hc) (by simp) (by simp) (by simp [cnAV]) ?_
      simp -implicitDefEqProofs [-Int.not_lt, -Int.not_le, hv]
      refine hQ _ _ _ ?_
      simp -implicitDefEqProofs [-Int.not_lt, -Int.not_le, key, cnE, cnAV, cnZero_cells]
    · have key : shX c d fr = shS c d fr := by rw [shX, if_neg h]
      rw [key]
      exact tycon_Shift_call c d fr hc hd0 (by omega) hf0 hf1
  case pos =>
    have key : shX c d fr = (cnZero, 2) := by rw [shX, if_pos h]
    obtain ⟨hv, hd'⟩ := h
    have a1 : ¬ fr < 0 := by omega
    have a2 : ¬ d < -20000 := by omega
    refine HCall.go mixed ok_tycon_Shift (by simp) fun hfit Q hQ => ?_
    clear hfit
    simp -implicitDefEqProofs [-Int.not_lt, -Int.not_le, c_tycon_Shift, cnAV]
    refine CALL_pure (tycon_Valid_call c hc) (by simp) (by simp) (by simp [cnAV]) ?_
    simp -implicitDefEqProofs [-Int.not_lt, -Int.not_le, hv, a1, a2, hd']
    refine hQ _ _ _ ?_
    simp -implicitDefEqProofs [-Int.not_lt, -Int.not_le, key, cnE, cnAV, cnZero_cells]
set_option maxHeartbeats 2000000 in
theorem sem_substituted_step (l : List Cn) (hz : ∀ x ∈ l, cnSize x ≤ 1000000000000) (c : Cn) (d : Int) (h0 : 0 ≤ d) (hd : d + cnDepth c ≤ 10000000)
    (hrec : ∀ x ∈ c.l, ∀ d : Int, 0 ≤ d → d + cnDepth x ≤ 10000000 → HCall Go.Proofs.Tryz.prog i_sem_substituted [cnAV x, .sl .none (l.map cnCells), .int .i64 d] [] (cnE (sb l x d)) []) :
    HCall Go.Proofs.Tryz.prog i_sem_substituted [cnAV c, .sl .none (l.map cnCells), .int .i64 d] [] (cnE (sb l c d)) [] := by
  have hdep := cnDepth_eq c
  have key := sb_eq l c d
  have hB : (opB c.op = false ∧ (if opB c.op = true then d + 1 else d) = d) ∨ (opB c.op = true ∧ (if opB c.op = true then d + 1 else d) = d + 1) := by
    cases opB c.op <;> simp
  generalize (if opB c.op = true then d + 1 else d) = ub at key hB
  refine HCall.go mixed ok_sem_substituted (by simp) fun hfit Q hQ => ?_
  have hf := cn_fits (c := c) (by simpa [fitsL, cnAV, AV.fits] using hfit.1)
  have hln : c.l.length ≤ 1073741824 := hf.2.2.2.2.2.2.2.1
  have hll : l.length ≤ 1073741824 := by simpa [fitsL, AV.fits, maxL] using hfit.2.1.1
  clear hfit hf
  simp -implicitDefEqProofs [-Int.not_lt, -Int.not_le, -WP_seq, c_sem_substituted, cnAV, cnCells_eq c]
  rw [WP_seq]
  simp -implicitDefEqProofs [-Int.not_lt, -Int.not_le, -WP_seq]
  by_cases h1 : c.op = 1
  · rw [if_pos h1] at key
    by_cases h2 : IntKind.i64.wrap (c.n - d) < 0
    · rw [if_pos h2] at key
      simp -implicitDefEqProofs [-Int.not_lt, -Int.not_le, h1, h2]
      refine hQ _ _ _ ?_
      simp -implicitDefEqProofs [-Int.not_lt, -Int.not_le, key, cnE, cnAV, cnCells_eq c, h1]
    rw [if_neg h2] at key
    obtain ⟨j, hj⟩ : ∃ j : Nat, IntKind.i64.wrap (c.n - d) = j := ⟨_, (Int.toNat_of_nonneg (by omega)).symm⟩
    have hj0 : ¬ ((j : Int) < 0) := by omega
    rw [hj, Int.toNat_natCast] at key
    by_cases h3 : j < l.length
    · rw [List.getElem?_eq_getElem h3] at key
      simp only at key
      have hsh := tycon_Shift_callX l[j] d 0 (hz _ (List.getElem_mem _)) h0 (by omega) (by omega) (by omega)
      generalize shX l[j] d 0 = p at key hsh
      obtain ⟨r, e⟩ := p
      simp -implicitDefEqProofs [-Int.not_lt, -Int.not_le, h1, hj, hj0, h3]
      refine CALL_pure hsh (by simp) (cnE_scoped _ 0) (by simp [cnAV, cnCells_eq l[j]]) ?_
      simp -implicitDefEqProofs [-Int.not_lt, -Int.not_le, cnE, cnAV, cnCells_eq r]
      refine hQ _ _ _ ?_
      simp -implicitDefEqProofs [-Int.not_lt, -Int.not_le, key, cnE, cnAV, cnCells_eq r]
    · rw [List.getElem?_eq_none (by omega)] at key
      simp only at key
      simp -implicitDefEqProofs [-Int.not_lt, -Int.not_le, h1, hj, hj0, h3]
      refine hQ _ _ _ ?_
      simp -implicitDefEqProofs [-Int.not_lt, -Int.not_le, key, cnE, cnAV, cnCells_mk, h1]
  rw [if_neg h1] at key
  have hbe : (c.op == 1) = false := by simpa using h1
  rw [WP_seq, WP_seq]
  simp -implicitDefEqProofs [-Int.not_lt, -Int.not_le, -WP_seq, h1]
  rw [WP_seq]
  refine WP_draw (by rfl) ?_
  simp -implicitDefEqProofs [-Int.not_lt, -Int.not_le, -WP_seq]
  refine DCALL_pure (slices_Clone_string_call c.names) (by simp) (by simp) (by simp [kdAV, cnAV, cnCells_eq, kdCells_eq, strRows, Kd.l]) ?_
  simp -implicitDefEqProofs [-Int.not_lt, -Int.not_le, -WP_seq, kdAV, kdCells_eq c.k]
  refine WP_cut (fun f => f 2 = .int .i64 ub) (fun Q' hn hr => ?_) (fun f hI => ?_)
  · simp -implicitDefEqProofs [-Int.not_lt, -Int.not_le]
    rcases hB with ⟨hB, e⟩ | ⟨hB, e⟩
    · have hb : ((¬ c.op = 9 ∧ ¬ c.op = 10) ∧ ¬ c.op = 11) ∧ ¬ c.op = 13 := by simpa [opB] using hB
      obtain ⟨⟨⟨b1, b2⟩, b3⟩, b4⟩ := hb
      simp -implicitDefEqProofs [-Int.not_lt, -Int.not_le, b1, b2, b3, b4]
      refine hn _ (by simp -implicitDefEqProofs [AC.dsts, aoDsts, updT, slots]) ?_
      simp [slots, e]
    · have hb : c.op = 9 ∨ c.op = 10 ∨ c.op = 11 ∨ c.op = 13 := by simpa [opB, or_assoc] using hB
      have hw := wrap_i64 (n := d + 1) (by omega) (by omega)
      rcases hb with b | b | b | b
      · have q9 : decide (c.op = 9) = true := decide_eq_true b
        simp -implicitDefEqProofs [q9, hw]
        refine hn _ (by simp -implicitDefEqProofs [AC.dsts, aoDsts, updT, slots]) ?_
        simp [slots, e]
      · have q9 : decide (c.op = 9) = false := decide_eq_false (by omega)
        have q10 : decide (c.op = 10) = true := decide_eq_true b
        simp -implicitDefEqProofs [q9, q10, hw]
        refine hn _ (by simp -implicitDefEqProofs [AC.dsts, aoDsts, updT, slots]) ?_
        simp [slots, e]
      · have q9 : decide (c.op = 9) = false := decide_eq_false (by omega)
        have q10 : decide (c.op = 10) = false := decide_eq_false (by omega)
        have q11 : decide (c.op = 11) = true := decide_eq_true b
        simp -implicitDefEqProofs [q9, q10, q11, hw]
        refine hn _ (by simp -implicitDefEqProofs [AC.dsts, aoDsts, updT, slots]) ?_
        simp [slots, e]
      · have q9 : decide (c.op = 9) = false := decide_eq_false (by omega)
        have q10 : decide (c.op = 10) = false := decide_eq_false (by omega)
        have q11 : decide (c.op = 11) = false := decide_eq_false (by omega)
        have q13 : decide (c.op = 13) = true := decide_eq_true b
        simp -implicitDefEqProofs [q9, q10, q11, q13, hw]
        refine hn _ (by simp -implicitDefEqProofs [AC.dsts, aoDsts, updT, slots]) ?_
        simp [slots, e]
  have hub : 0 ≤ ub ∧ ub ≤ d + 1 := by rcases hB with ⟨_, e⟩ | ⟨_, e⟩ <;> omega
  clear hB hbe
  simp -implicitDefEqProofs [-Int.not_lt, -Int.not_le, AC.dsts, aoDsts, updT, hI]
  refine WP_loop (AWp.loopI [2] (fun n f' h G => ∃ (k : Nat) (tok : Tok) (P : List Cn), k + n = c.l.length ∧ P.length = k ∧ f' 69 = .int .i64 k ∧
    h 2 = [.int .i64 c.op, .int .i64 c.n, .str c.s, .sl .none (c.k.l.map kdCells), .sl .none (strRows c.names), .sl tok (P.map cnCells)] ∧
    owns 3 G tok (P.map cnCells) 6 ∧ (sbs l (c.l.drop k) ub).2 = (sbs l c.l ub).2 ∧ P ++ (sbs l (c.l.drop k) ub).1 = (sbs l c.l ub).1) c.l.length (by simp) ⟨0, .nilT, [], by simp, rfl, rfl, by simp [varsOf], owns_nil _ _ _, rfl, rfl⟩ ?_)
  rintro n f' h' G ⟨k, tok, P, hk, hP, h69, ho', hown, he2, he1⟩
  refine AWp.run mixed fun Q2 hQ2 => ?_
  simp -implicitDefEqProofs [-Int.not_lt, -Int.not_le, AC.dsts, aoDsts, updT, updH, h69, ho']
  by_cases hlt : k < c.l.length
  · have hd' := List.drop_eq_getElem_cons hlt
    have hdm := cnDepth_mem (List.getElem_mem hlt)
    have hrec := hrec c.l[k] (List.getElem_mem _) ub hub.1 (by omega)
    rw [hd', sbs] at he1 he2
    simp -implicitDefEqProofs [-Int.not_lt, -Int.not_le, hlt, cnCells_eq c.l[k]]
    generalize sb l c.l[k] ub = p at he1 he2 hrec
    obtain ⟨y, e2⟩ := p
    simp only at he1 he2
    refine CALL_pure hrec (by simp) (cnE_scoped _ 0) (by simp [cnAV, cnCells_eq c.l[k]]) ?_
    simp -implicitDefEqProofs [-Int.not_lt, -Int.not_le, cnE, cnAV, cnCells_eq y]
    by_cases hz2 : e2 = 0
    · rw [if_neg (by simpa using hz2)] at he1 he2
      simp only at he1 he2
      simp -implicitDefEqProofs [-Int.not_lt, -Int.not_le, hz2, fillR]
      refine OPT_appendE [_, _, _] (G ++ [_, _]) (by simp only [List.append_assoc, List.cons_append, List.nil_append]; rfl) (by simpa using owns_more hown) (by simp [maxL]; omega) (headK_map _ _ cnCells_length) (by simp) fun tok' G' hown' hG' => ?_
      simp -implicitDefEqProofs [-Int.not_lt, -Int.not_le, wrap_i64 (n := (k : Int) + 1) (by omega) (by omega)]
      refine hQ2 _ _ _ (loop_next (n - 1) (fun _ => [.int .i64 c.op, .int .i64 c.n, .str c.s, .sl .none (c.k.l.map kdCells), .sl .none (strRows c.names), .sl tok' ((P ++ [y]).map cnCells)]) (G' := G') (by simp [updH, cnCells_eq y]) (by omega) (by simp -implicitDefEqProofs [AC.dsts, aoDsts, updT, slots]) ?_)
      refine ⟨k + 1, tok', P ++ [y], by omega, by simp [hP], by simp [slots], by simp, by simpa [cnCells_eq y] using hown', he2, by rw [← he1]; simp⟩
    · rw [if_pos hz2] at he1 he2
      simp only at he1 he2
      have hz' : (e2 != 0) = true := by simpa using hz2
      have e1 : sb l c d = (cnZero, e2) := by rw [key, ← he2, if_pos hz2]
      simp -implicitDefEqProofs [-Int.not_lt, -Int.not_le, hz', hz2]
      refine hQ2 _ _ _ (loop_ret ?_)
      show KR _ _ Q _ _
      simp -implicitDefEqProofs [-Int.not_lt, -Int.not_le]
      refine hQ _ _ _ ?_
      simp -implicitDefEqProofs [-Int.not_lt, -Int.not_le, e1, cnE, cnAV, cnZero_cells]
  · have hPe : P = (sbs l c.l ub).1 := by rw [← he1, List.drop_eq_nil_of_le (by omega)]; simp [sbs]
    have hs0 : (sbs l c.l ub).2 = 0 := by rw [← he2, List.drop_eq_nil_of_le (by omega)]; rfl
    rw [if_neg (by simpa using hs0), ← hPe] at key
    simp -implicitDefEqProofs [-Int.not_lt, -Int.not_le, hlt]
    refine hQ2 _ _ _ (loop_exit ?_)
    show KE _ 2 _ Q _ _
    simp -implicitDefEqProofs [-Int.not_lt, -Int.not_le]
    refine hQ _ _ _ ?_
    simp -implicitDefEqProofs [-Int.not_lt, -Int.not_le, key, cnE, cnAV, cnCells_mk]
end Go.Proofs.YtblbepjnkehoaaaGreatDoor
/- Semantic signatures: substituting by the program, the whole. -/
namespace Go.Proofs.YtblbepjnkehoaaaGreatDoor
open Go
theorem shX_size {c : Cn} {d fr : Int} : cnSize (shX c d fr).1 ≤ 20000 := by
  unfold shX
  split
  · decide
  · exact shS_size
mutual
theorem sb_size (l : List Cn) : ∀ (c : Cn) (d : Int), cnSize (sb l c d).1 ≤ 20000 * cnSize c
  | .mk o n s k ns cl, d => by
    rw [sb]
    generalize (if opB o = true then d + 1 else d) = ub
    have hs := sbs_size l cl ub
    split
    · split
      · simp only [cnSize]; omega
      · split
        · rename_i x _
          have := shX_size (c := x) (d := d) (fr := 0)
          simp only [cnSize]; omega
        · simp only [cnSize]; omega
    · split
      · have : cnSize cnZero = 1 := rfl
        simp only [cnSize]; omega
      · simp only [cnSize]; omega
theorem sbs_size (l : List Cn) : ∀ (cl : List Cn) (d : Int), cnSizes (sbs l cl d).1 ≤ 20000 * cnSizes cl
  | [], _ => by simp [sbs, cnSizes]
  | x :: xs, d => by
    rw [sbs]
    split
    · simp [cnSizes]
    · have h1 := sb_size l x d
      have h2 := sbs_size l xs d
      simp only [cnSizes]; omega
end
attribute [local simp] astep aev putA guardA start AV.cells AV.undef takeCells splice intBin strBin abin AV.isCell loadV fillR fillA
attribute [local simp] fin aRes aResL aRes1 AV.strip stripL stripE AV.inScope scopedL scopedE scopedH
set_option maxRecDepth 10000
set_option linter.unusedSimpArgs false
attribute [local simp] beq_dec bne_dec
theorem sem_substituted_call (l : List Cn) (hz : ∀ x ∈ l, cnSize x ≤ 1000000000000) (c : Cn) (d : Int) (h0 : 0 ≤ d) (hd : d + cnDepth c ≤ 10000000) :
    HCall Go.Proofs.Tryz.prog i_sem_substituted [cnAV c, .sl .none (l.map cnCells), .int .i64 d] [] (cnE (sb l c d)) [] :=
  sem_substituted_step l hz c d h0 hd fun x hx d h0 hd => sem_substituted_call l hz x d h0 hd
termination_by SizeOf.sizeOf c
decreasing_by exact Cn.lt_l ‹_›
theorem sem_Subst_1_call (c : Cn) (hc : cnSize c ≤ 1000000000000) : HCall Go.Proofs.Tryz.prog i_sem_Subst_1 [cnAV c] [] (.bool !cnValid c) [] := by
  refine HCall.go mixed ok_sem_Subst_1 (by simp) fun hfit Q hQ => ?_
  clear hfit
  simp -implicitDefEqProofs [-Int.not_lt, -Int.not_le, c_sem_Subst_1, cnAV]
  refine CALL_pure (tycon_Valid_call c hc) (by simp) (by simp) (by simp [kdAV, cnAV, cnCells_eq, kdCells_eq, strRows, Kd.l, smAV, smCells_eq]) ?_
  simp -implicitDefEqProofs [-Int.not_lt, -Int.not_le]
  refine hQ _ _ _ ?_
  simp -implicitDefEqProofs [-Int.not_lt, -Int.not_le]
theorem sem_Subst_2_call (l : List Cn) (hz : ∀ x ∈ l, cnSize x ≤ 1000000000000) (c : Cn) (d : Int) (A : List HB) (i : Nat) (hi : A[i]? = some (.var [.sl .none (l.map cnCells)])) (hsc : scopedH A.length A = true)
    (hv : cnValid c = true) (h0 : 0 ≤ d) (hd : d ≤ 1000000) :
    HCall Go.Proofs.Tryz.prog i_sem_Subst_2 [cnAV c, .int .i64 d, .ptr i 0] A (cnE (sb l c d)) A := by
  have hil := (List.getElem?_eq_some_iff.1 hi).1
  have hi' : ∀ L : List HB, (A ++ L)[i]? = some (.var [.sl .none (l.map cnCells)]) := fun L => by rw [List.getElem?_append_left hil]; exact hi
  have hdep : cnDepth c ≤ 400 := by simp only [cnValid, Bool.and_eq_true, decide_eq_true_eq] at hv; exact hv.2.1
  have hsh := sem_substituted_call l hz c d h0 (by omega)
  generalize sb l c d = p at hsh ⊢
  obtain ⟨r, e⟩ := p
  refine HCall.go mixed ok_sem_Subst_2 (by simp) fun hfit Q hQ => ?_
  clear hfit
  simp -implicitDefEqProofs [-Int.not_lt, -Int.not_le, c_sem_Subst_2, cnAV, cnCells_eq c, hi']
  refine CALL_pure hsh (by simp) (cnE_scoped _ 0) (by simp [cnAV, cnCells_eq c]) ?_
  simp -implicitDefEqProofs [-Int.not_lt, -Int.not_le, cnE, cnAV, cnCells_eq r]
  refine hQ _ _ _ ?_
  simp -implicitDefEqProofs [-Int.not_lt, -Int.not_le, hsc, cnE, cnAV, cnCells_eq r]
def suS (s : Sm) (l : List Cn) : Sm × Int := if formM s = false ∨ l.all cnValid = false then (smZero, 1) else if 1000 < l.length then (smZero, 5) else finS (rbS (fun c d => sb l c d) s 0)
theorem sem_Subst_call (s : Sm) (l : List Cn) (hc : conB s) (hz : ∀ x ∈ l, cnSize x ≤ 1000000000000) : HCall Go.Proofs.Tryz.prog i_sem_Subst [smAV s, .sl .none (l.map cnCells)] [] (smE (suS s l)) [] := by
  have hany : HCall Go.Proofs.Tryz.prog i_slices_ContainsFunc_Con [.sl .none (l.map cnCells), .fn (.func i_sem_Subst_1) [] []] [] (.bool !l.all cnValid) [] := by
    have h := slices_ContainsFunc_Con_call l (fun x => !cnValid x) i_sem_Subst_1 fun x hx => sem_Subst_1_call x (hz x hx)
    rw [any_not_all] at h
    exact h
  generalize hav : l.all cnValid = av at hany
  refine HCall.go mixed ok_sem_Subst (by simp) fun hfit Q hQ => ?_
  clear hfit
  simp -implicitDefEqProofs [-Int.not_lt, -Int.not_le, c_sem_Subst, smAV, smCells_eq s]
  refine CALL_pure (sem_formed_call s hc) (by simp) (by simp) (by simp [kdAV, cnAV, cnCells_eq, kdCells_eq, strRows, Kd.l, smAV, smCells_eq]) ?_
  cases hf1 : formM s
  · have key : suS s l = (smZero, 1) := by rw [suS, if_pos (.inl hf1)]
    simp -implicitDefEqProofs [-Int.not_lt, -Int.not_le]
    refine hQ _ _ _ ?_
    simp -implicitDefEqProofs [-Int.not_lt, -Int.not_le, key, smE, smAV, smZero_cells]
  simp -implicitDefEqProofs [-Int.not_lt, -Int.not_le]
  refine CALL_pure (hany) (by simp) (by simp) (by simp [kdAV, cnAV, cnCells_eq, kdCells_eq, strRows, Kd.l, smAV, smCells_eq]) ?_
  cases av
  · have key : suS s l = (smZero, 1) := by rw [suS, if_pos (.inr hav)]
    simp -implicitDefEqProofs [-Int.not_lt, -Int.not_le]
    refine hQ _ _ _ ?_
    simp -implicitDefEqProofs [-Int.not_lt, -Int.not_le, key, smE, smAV, smZero_cells]
  by_cases hl : 1000 < l.length
  · have key : suS s l = (smZero, 5) := by rw [suS, if_neg (by rw [hf1, hav]; simp)]; simp [hl]
    have hl' : (1000 : Int) < (l.length : Int) := by omega
    simp -implicitDefEqProofs [-Int.not_lt, -Int.not_le, hl, hl']
    refine hQ _ _ _ ?_
    simp -implicitDefEqProofs [-Int.not_lt, -Int.not_le, key, smE, smAV, smZero_cells]
  have key : suS s l = finS (rbS (fun c d => sb l c d) s 0) := by rw [suS, if_neg (by rw [hf1, hav]; simp)]; simp [hl]
  have hl' : ¬ (1000 : Int) < (l.length : Int) := by omega
  have ht := form_tame hf1
  have hreb := sem_rebuild_call i_sem_Subst_2 [.ptr 1 0] [.var (smCells s), .var [.sl .none (l.map cnCells)], .var zero14] (fun c k => sb l c k) (fun b hb => by
      match b, hb with
      | 0, _ => exact ⟨_, rfl⟩
      | 1, _ => exact ⟨_, rfl⟩
      | 2, _ => exact ⟨_, rfl⟩) (fun n _ => by simp [scopedH, scopedL, scopedE, AV.inScope, zero14, smCells_eq s]) (fun n hn => by simp only [List.length_cons, List.length_nil] at hn; simp [scopedL, AV.inScope]; omega)
    (fun c k hv h0 h1 => sem_Subst_2_call l hz c k _ 1 rfl (by simp [scopedH, scopedL, scopedE, AV.inScope, zero14, smCells_eq s]) hv h0 h1) 400 s 0 ht (by omega) (by omega)
  have hcr := rbS_conB (fun c k => sb l c k) s 0 400 ht (by omega) (by omega) (fun c k hv _ _ => by
    have := sb_size l c k
    have := valid_size hv
    show cnSize (sb l c k).1 ≤ _
    omega)
  have hfin := sem_finish_call _ hcr
  clear ht hcr
  generalize rbS (fun c k => sb l c k) s 0 = p at key hreb hfin
  obtain ⟨y, e⟩ := p
  simp -implicitDefEqProofs [-Int.not_lt, -Int.not_le, hl, hl']
  refine CALL_of (r := smE (y, e)) (by simpa [smAV, smCells_eq s, zero14] using hreb) ?_
  clear hreb
  simp -implicitDefEqProofs [-Int.not_lt, -Int.not_le, smE, smAV, smCells_eq y]
  generalize finS (y, e) = q at hfin key
  obtain ⟨z, g⟩ := q
  refine CALL_pure hfin (by simp) (smE_scoped _ 0) (by simp [smAV, smCells_eq y]) ?_
  simp -implicitDefEqProofs [-Int.not_lt, -Int.not_le, smE, smAV, smCells_eq z]
  refine hQ _ _ _ ?_
  simp -implicitDefEqProofs [-Int.not_lt, -Int.not_le, key, smE, smAV, smCells_eq z]
end Go.Proofs.YtblbepjnkehoaaaGreatDoor
/- The plain law: the encoding of what is shifted, or substituted into, is the shifted encoding, or that substituted into. -/
namespace Go.Proofs.YtblbepjnkehoaaaGreatDoor
open Go
set_option linter.unusedSimpArgs false
mutual
/-- Shifting, without bounds. -/
def iSh : Cn → Int → Int → Cn
  | .mk o n s k ns l, d, f => if o = 1 then (if f ≤ n then cnVar (n + d) else .mk o n s k ns l) else .mk o n s k ns (iShs l d (if opB o = true then f + 1 else f))
def iShs : List Cn → Int → Int → List Cn
  | [], _, _ => []
  | c :: cs, d, f => iSh c d f :: iShs cs d f
end
mutual
/-- Substituting, without bounds. -/
def iSu (l : List Cn) : Cn → Int → Cn
  | .mk o n s k ns cl, d => if o = 1 then (if n < d then .mk o n s k ns cl else match l[(n - d).toNat]? with
      | some x => iSh x d 0
      | none => .mk o (n - l.length) s k ns cl) else .mk o n s k ns (iSus l cl (if opB o = true then d + 1 else d))
def iSus (l : List Cn) : List Cn → Int → List Cn
  | [], _ => []
  | c :: cs, d => iSu l c d :: iSus l cs d
end
theorem iShs_map (l : List Cn) (d f : Int) : iShs l d f = l.map fun x => iSh x d f := by
  induction l with
  | nil => rfl
  | cons c l ih => simp [iShs, ih]
theorem iSus_map (l cl : List Cn) (d : Int) : iSus l cl d = cl.map fun x => iSu l x d := by
  induction cl with
  | nil => rfl
  | cons c cl ih => simp [iSus, ih]
theorem iSh_var (n d f : Int) : iSh (cnVar n) d f = if f ≤ n then cnVar (n + d) else cnVar n := by
  unfold cnVar; rw [iSh, if_pos rfl]; rfl
mutual
theorem iSh_comm : ∀ (c : Cn) (j d f : Int), 0 ≤ d → j ≤ f → iSh (iSh c 1 j) d (f + 1) = iSh (iSh c d f) 1 j
  | .mk o n s k ns l, j, d, f, h1, h2 => by
    rw [iSh, iSh]
    by_cases ho : o = 1
    · rw [if_pos ho, if_pos ho]
      by_cases a : j ≤ n
      · rw [if_pos a, iSh_var]
        by_cases b : f ≤ n
        · rw [if_pos b, if_pos (by omega), iSh_var, if_pos (by omega)]; congr 1; omega
        · rw [if_neg b, if_neg (by omega), iSh, if_pos ho, if_pos a]
      · rw [if_neg a, if_neg (show ¬ f ≤ n by omega), iSh, if_pos ho, if_neg (by omega), iSh, if_pos ho, if_neg a]
    · rw [if_neg ho, if_neg ho, iSh, if_neg ho, iSh, if_neg ho]
      congr 1
      have := iShs_comm l (if opB o = true then j + 1 else j) d (if opB o = true then f + 1 else f) h1 (by split <;> omega)
      rw [← this]
      congr 1
      split <;> rfl
theorem iShs_comm : ∀ (l : List Cn) (j d f : Int), 0 ≤ d → j ≤ f → iShs (iShs l 1 j) d (f + 1) = iShs (iShs l d f) 1 j
  | [], _, _, _, _, _ => rfl
  | c :: cs, j, d, f, h1, h2 => by
    rw [iShs, iShs, iShs, iShs, iSh_comm c j d f h1 h2, iShs_comm cs j d f h1 h2]
end
mutual
theorem iSh_add : ∀ (c : Cn) (k b j : Int), 0 ≤ j → j ≤ k → iSh (iSh c k b) 1 (b + j) = iSh c (k + 1) b
  | .mk o n s kd ns l, k, b, j, h1, h2 => by
    rw [iSh, iSh]
    by_cases ho : o = 1
    · rw [if_pos ho, if_pos ho]
      by_cases a : b ≤ n
      · rw [if_pos a, if_pos a, iSh_var, if_pos (by omega)]; congr 1; omega
      · rw [if_neg a, if_neg a, iSh, if_pos ho, if_neg (by omega)]
    · rw [if_neg ho, if_neg ho, iSh, if_neg ho]
      congr 1
      rw [← iShs_add l k (if opB o = true then b + 1 else b) j h1 h2]
      congr 1
      split <;> omega
theorem iShs_add : ∀ (l : List Cn) (k b j : Int), 0 ≤ j → j ≤ k → iShs (iShs l k b) 1 (b + j) = iShs l (k + 1) b
  | [], _, _, _, _, _ => rfl
  | c :: cs, k, b, j, h1, h2 => by rw [iShs, iShs, iShs, iSh_add c k b j h1 h2, iShs_add cs k b j h1 h2]
end
mutual
theorem iSu_comm (l : List Cn) : ∀ (c : Cn) (j k : Int), 0 ≤ j → j ≤ k → iSu l (iSh c 1 j) (k + 1) = iSh (iSu l c k) 1 j
  | .mk o n s kd ns cl, j, k, h1, h2 => by
    rw [iSh, iSu]
    by_cases ho : o = 1
    · rw [if_pos ho, if_pos ho]
      by_cases a : n < k
      · rw [if_pos a, iSh, if_pos ho]
        by_cases b : j ≤ n
        · rw [if_pos b]; unfold cnVar; rw [iSu, if_pos rfl, if_pos (by omega)]
        · rw [if_neg b, iSu, if_pos ho, if_pos (by omega)]
      · rw [if_neg a, if_pos (show j ≤ n by omega)]
        unfold cnVar
        rw [iSu, if_pos rfl, if_neg (by omega), show n + 1 - (k + 1) = n - k by omega]
        cases hx : l[(n - k).toNat]? with
        | some x =>
          simp only
          have := iSh_add x k 0 j h1 h2
          rw [Int.zero_add] at this
          exact this.symm
        | none =>
          simp only
          have hlen : (l.length : Int) ≤ n - k := by
            have := List.getElem?_eq_none_iff.1 hx
            omega
          rw [iSh, if_pos ho, if_pos (by omega)]
          unfold cnVar
          congr 1; omega
    · rw [if_neg ho, if_neg ho, iSu, if_neg ho, iSh, if_neg ho]
      congr 1
      rw [← iSus_comm l cl (if opB o = true then j + 1 else j) (if opB o = true then k + 1 else k) (by split <;> omega) (by split <;> omega)]
      congr 1
      split <;> rfl
theorem iSus_comm (l : List Cn) : ∀ (cl : List Cn) (j k : Int), 0 ≤ j → j ≤ k → iSus l (iShs cl 1 j) (k + 1) = iShs (iSus l cl k) 1 j
  | [], _, _, _, _ => rfl
  | c :: cs, j, k, h1, h2 => by rw [iShs, iSus, iSus, iShs, iSu_comm l c j k h1 h2, iSus_comm l cs j k h1 h2]
end
mutual
/-- Rebuilding with shifted leaves. -/
theorem reb_iSh (d fr : Int) (hd : 0 ≤ d) (hd2 : d ≤ 20000) : ∀ (c : Cn) (bd left : Int), cnForm c = true → 0 ≤ bd → bd + cnDepth c ≤ 10000 → (cnSize c : Int) ≤ left → left ≤ 20000 → reb (shLeaf d fr) c bd left = (iSh c d (fr + bd), left - cnSize c)
  | .mk o n s k ns l, bd, left, hf, hb, hdp, hs, hl => by
    have hn := hf
    rw [cnForm_eq, Bool.and_eq_true] at hn
    obtain ⟨hn, hfl⟩ := hn
    have hfl : l.all cnForm = true := hfl
    have hsz : cnSize (.mk o n s k ns l) = 1 + cnSizes l := cnSize_eq (.mk o n s k ns l)
    have hdp0 := cnDepth_eq (.mk o n s k ns l)
    rw [reb, iSh, if_neg (by omega)]
    by_cases h12 : o = 1 ∨ o = 2
    · obtain ⟨e1, e2⟩ := nodeS_leaf hn h12
      simp only [Cn.l, Cn.names] at e1 e2
      subst e1 e2
      rw [if_pos h12]
      have hz : ∀ x : Int, cnSize (cnVar x) = 1 := fun _ => rfl
      have hz2 : cnSize (.mk o n s k [] []) = 1 := rfl
      rw [shLeaf_mk]
      by_cases h1 : o = 1
      · obtain ⟨-, g1, g2⟩ := nodeS_var hn h1
        simp only [Cn.n] at g1 g2
        rw [if_pos h1, wrap_i64 (n := n - bd) (by omega) (by omega)]
        by_cases hc : fr + bd ≤ n
        · rw [if_pos ⟨h1, by omega⟩, if_pos hc, hz, hz2, wrap_i64 (n := n + d) (by omega) (by omega)]
        · rw [if_neg (fun h => hc (by omega)), if_neg hc, hz2]
      · rw [if_neg h1, if_neg (fun h => h1 h.1), hz2, iShs]
    · rw [if_neg h12, if_neg (fun h => h12 (.inl h))]
      simp only [Cn.l] at hdp0
      have hu : (if opB o = true then IntKind.i64.wrap (bd + 1) else bd) = (if opB o = true then bd + 1 else bd) := by
        split
        · exact wrap_i64 (by omega) (by omega)
        · rfl
      rw [hu, rebs_iSh d fr hd hd2 l _ (left - 1) hfl (by split <;> omega) (by split <;> omega) (by omega) (by omega)]
      have he : fr + (if opB o = true then bd + 1 else bd) = if opB o = true then fr + bd + 1 else fr + bd := by split <;> omega
      rw [he]
      simp only [cnSize, Prod.mk.injEq, true_and]
      omega
theorem rebs_iSh (d fr : Int) (hd : 0 ≤ d) (hd2 : d ≤ 20000) : ∀ (l : List Cn) (bd left : Int), l.all cnForm = true → 0 ≤ bd → bd + cnDepths l ≤ 10000 → (cnSizes l : Int) ≤ left → left ≤ 20000 → rebs (shLeaf d fr) l bd left = (iShs l d (fr + bd), left - cnSizes l)
  | [], bd, left, _, _, _, _, _ => by simp [rebs, iShs, cnSizes]
  | c :: cs, bd, left, hf, hb, hdp, hs, hl => by
    rw [List.all_cons, Bool.and_eq_true] at hf
    simp only [cnDepths] at hdp
    simp only [cnSizes] at hs
    rw [rebs, reb_iSh d fr hd hd2 c bd left hf.1 hb (by omega) (by omega) hl]
    simp only
    rw [rebs_iSh d fr hd hd2 cs bd (left - cnSize c) hf.2 hb (by omega) (by omega) (by omega), iShs, cnSizes]
    simp only [Prod.mk.injEq, true_and]
    omega
end
theorem valid_parts {c : Cn} (h : cnValid c = true) : cnSize c ≤ 20000 ∧ cnDepth c ≤ 400 ∧ cnForm c = true := by
  simp only [cnValid, Bool.and_eq_true, decide_eq_true_eq] at h; exact ⟨h.1, h.2.1, h.2.2⟩
theorem shS_iSh {c r : Cn} {d fr : Int} (hd : 0 ≤ d) (hd2 : d ≤ 20000) (hv : cnValid c = true) (h : shS c d fr = (r, 0)) : r = iSh c d fr ∧ cnValid r = true := by
  obtain ⟨h1, h2, h3⟩ := valid_parts hv
  rw [shS, if_pos hv, repl, reb_iSh d fr hd hd2 c 0 20000 h3 (by omega) (by omega) (by omega) (by omega)] at h
  simp only [Int.add_zero] at h
  split at h
  · exact absurd (congrArg Prod.snd h) (by simp)
  · rename_i hc
    have e := congrArg Prod.fst h
    simp only at e
    subst e
    refine ⟨rfl, ?_⟩
    cases hr : cnValid (iSh c d fr)
    · exact absurd (.inr hr) hc
    · rfl
mutual
theorem rShift_iSh : ∀ (c : Cn) (fr : Int), cnForm c = true → 0 ≤ fr → fr + cnDepth c ≤ 10000 → rShift c 1 fr = iSh c 1 fr
  | .mk o n s k ns l, fr, hf, h0, hd => by
    have hn := hf
    rw [cnForm_eq, Bool.and_eq_true] at hn
    have hdp0 := cnDepth_eq (.mk o n s k ns l)
    simp only [Cn.l] at hdp0
    rw [rShift, iSh, if_neg (show ¬ 20001 < fr by omega)]
    by_cases h1 : o = 1
    · obtain ⟨-, g1, g2⟩ := nodeS_var hn.1 h1
      simp only [Cn.n] at g1 g2
      rw [if_pos h1, if_pos h1, wrap_i64 (n := n + 1) (by omega) (by omega)]
    · rw [if_neg h1, if_neg h1, wrap_i64 (n := fr + 1) (by omega) (by omega), rShifts_iSh l _ hn.2 (by split <;> omega) (by split <;> omega)]
theorem rShifts_iSh : ∀ (l : List Cn) (fr : Int), l.all cnForm = true → 0 ≤ fr → fr + cnDepths l ≤ 10000 → rShifts l 1 fr = iShs l 1 fr
  | [], _, _, _, _ => rfl
  | c :: cs, fr, hf, h0, hd => by
    rw [List.all_cons, Bool.and_eq_true] at hf
    simp only [cnDepths] at hd
    rw [rShifts, iShs, rShift_iSh c fr hf.1 h0 (by omega), rShifts_iSh cs fr hf.2 h0 (by omega)]
end
theorem rApp_iSh {c : Cn} (hv : cnValid c = true) : rApp c = cnOp2 12 (cnVar 0) (iSh c 1 0) := by
  obtain ⟨h1, h2, h3⟩ := valid_parts hv
  rw [rApp, rShift_iSh c 0 h3 (by omega) (by omega)]
/-! ### Substituting -/
theorem suLeaf_mk (l : List Cn) (o n : Int) (s : List UInt8) (k : Kd) (ns : List (List UInt8)) (cl : List Cn) (bd : Int) : suLeaf l (.mk o n s k ns cl) bd = if o ≠ 1 ∨ IntKind.i64.wrap (n - bd) < 0 then .mk o n s k [] [] else
  match l[(IntKind.i64.wrap (n - bd)).toNat]? with
  | none => cnVar (IntKind.i64.wrap (n - l.length))
  | some x => (reb (shLeaf bd 0) x 0 20000).1 := rfl
mutual
theorem reb_iSu (l : List Cn) (hl : ∀ x ∈ l, cnValid x = true) (hll : l.length ≤ 1000) : ∀ (c : Cn) (bd left : Int), cnForm c = true → 0 ≤ bd → bd + cnDepth c ≤ 10000 → left ≤ 20000 → 0 ≤ (reb (suLeaf l) c bd left).2 → (reb (suLeaf l) c bd left).1 = iSu l c bd
  | .mk o n s k ns cl, bd, left, hf, hb, hdp, hle, h0 => by
    have hn := hf
    rw [cnForm_eq, Bool.and_eq_true] at hn
    obtain ⟨hn, hfl⟩ := hn
    have hfl : cl.all cnForm = true := hfl
    have hdp0 := cnDepth_eq (.mk o n s k ns cl)
    simp only [Cn.l] at hdp0
    rw [reb] at h0 ⊢
    rw [iSu]
    by_cases hlf : left ≤ 0
    · rw [if_pos hlf] at h0; simp at h0
    rw [if_neg hlf] at h0 ⊢
    by_cases h12 : o = 1 ∨ o = 2
    · obtain ⟨e1, e2⟩ := nodeS_leaf hn h12
      simp only [Cn.l, Cn.names] at e1 e2
      subst e1 e2
      rw [if_pos h12]
      show suLeaf l (.mk o n s k [] []) bd = _
      by_cases h1 : o = 1
      · obtain ⟨hvar, g1, g2⟩ := nodeS_var hn h1
        simp only [Cn.n] at g1 g2 hvar
        have hw : IntKind.i64.wrap (n - bd) = n - bd := wrap_i64 (by omega) (by omega)
        rw [if_pos h1, suLeaf_mk, hw]
        by_cases hneg : n < bd
        · rw [if_pos (show o ≠ 1 ∨ n - bd < 0 from .inr (by omega)), if_pos hneg]
        · rw [if_neg (show ¬(o ≠ 1 ∨ n - bd < 0) by omega), if_neg hneg]
          cases hx : l[(n - bd).toNat]? with
          | none =>
            simp only
            rw [wrap_i64 (by omega) (by omega)]
            unfold cnVar at hvar ⊢
            injection hvar with a1 a2 a3 a4 a5 a6
            rw [a3, a4, h1]
          | some x =>
            simp only
            obtain ⟨v1, v2, v3⟩ := valid_parts (hl x (List.mem_of_getElem? hx))
            rw [reb_iSh bd 0 hb (by omega) x 0 20000 v3 (by omega) (by omega) (by omega) (by omega)]
            rfl
      · rw [if_neg h1, suLeaf_mk, if_pos (show o ≠ 1 ∨ IntKind.i64.wrap (n - bd) < 0 from .inl h1), iSus]
    · rw [if_neg h12] at h0 ⊢
      rw [if_neg (fun h => h12 (.inl h))]
      have hu : (if opB o = true then IntKind.i64.wrap (bd + 1) else bd) = (if opB o = true then bd + 1 else bd) := by
        split
        · exact wrap_i64 (by omega) (by omega)
        · rfl
      rw [hu] at h0 ⊢
      simp only at h0 ⊢
      rw [rebs_iSu l hl hll cl _ (left - 1) hfl (by split <;> omega) (by split <;> omega) (by omega) h0]
theorem rebs_iSu (l : List Cn) (hl : ∀ x ∈ l, cnValid x = true) (hll : l.length ≤ 1000) : ∀ (cl : List Cn) (bd left : Int), cl.all cnForm = true → 0 ≤ bd → bd + cnDepths cl ≤ 10000 → left ≤ 20000 → 0 ≤ (rebs (suLeaf l) cl bd left).2 → (rebs (suLeaf l) cl bd left).1 = iSus l cl bd
  | [], bd, left, _, _, _, _, _ => by simp [rebs, iSus]
  | c :: cs, bd, left, hf, hb, hdp, hle, h0 => by
    rw [List.all_cons, Bool.and_eq_true] at hf
    simp only [cnDepths] at hdp
    rw [rebs] at h0 ⊢
    have h2 : 0 ≤ (reb (suLeaf l) c bd left).2 := by
      rcases Int.lt_or_le (reb (suLeaf l) c bd left).2 0 with hn | hn
      · have := rebs_neg (suLeaf l) cs bd _ hn; simp only at h0; omega
      · exact hn
    have hle2 : (reb (suLeaf l) c bd left).2 ≤ 20000 := by
      have hsz : ∀ c bd, cnSize (suLeaf l c bd) ≤ 1000000000000 := suLeaf_size l fun x hx => by have := (valid_parts (hl x hx)).1; omega
      rcases Int.lt_or_le left (-1000000000000) with hh | hh
      · rw [reb_eq, if_pos (by omega)] at h2; simp at h2
      · exact (reb_bounds (suLeaf l) hsz c bd left hh hle).2
    rw [iSus, reb_iSu l hl hll c bd left hf.1 hb (by omega) hle h2, rebs_iSu l hl hll cs bd _ hf.2 hb (by omega) hle2 h0]
end
theorem suM_iSu {c r : Cn} {l : List Cn} (h : suM c l = (r, 0)) : r = iSu l c 0 ∧ cnValid r = true ∧ (∀ x ∈ l, cnValid x = true) ∧ l.length ≤ 1000 := by
  unfold suM at h
  split at h
  · exact absurd (congrArg Prod.snd h) (by simp)
  rename_i hc
  have hv : cnValid c = true := by
    cases e : cnValid c
    · exact absurd (.inl e) hc
    · rfl
  have hl : ∀ x ∈ l, cnValid x = true := by
    cases e : l.all cnValid
    · exact absurd (.inr e) hc
    · exact List.all_eq_true.1 e
  split at h
  · exact absurd (congrArg Prod.snd h) (by simp)
  rename_i hll
  obtain ⟨v1, v2, v3⟩ := valid_parts hv
  unfold repl at h
  split at h
  · exact absurd (congrArg Prod.snd h) (by simp)
  rename_i hr
  have e := congrArg Prod.fst h
  simp only at e
  have h0 : 0 ≤ (reb (suLeaf l) c 0 20000).2 := by
    rcases Int.lt_or_le (reb (suLeaf l) c 0 20000).2 0 with hn | hn
    · exact absurd (.inl hn) hr
    · exact hn
  have hv2 : cnValid (reb (suLeaf l) c 0 20000).1 = true := by
    cases ee : cnValid (reb (suLeaf l) c 0 20000).1
    · exact absurd (.inr ee) hr
    · rfl
  rw [e] at hv2
  rw [reb_iSu l hl (by omega) c 0 20000 v3 (by omega) (by omega) (by omega) h0] at e
  exact ⟨e.symm, hv2, hl, by omega⟩
mutual
theorem sb_iSu (l : List Cn) (hl : ∀ x ∈ l, cnValid x = true) (hll : l.length ≤ 1000) : ∀ (c : Cn) (d : Int) (r : Cn), cnForm c = true → 0 ≤ d → d + cnDepth c ≤ 10000000 → sb l c d = (r, 0) → r = iSu l c d
  | .mk o n s k ns cl, d, r, hf, hb, hdp, h => by
    have hn := hf
    rw [cnForm_eq, Bool.and_eq_true] at hn
    obtain ⟨hn, hfl⟩ := hn
    have hfl : cl.all cnForm = true := hfl
    have hdp0 := cnDepth_eq (.mk o n s k ns cl)
    simp only [Cn.l] at hdp0
    rw [sb] at h
    rw [iSu]
    by_cases h1 : o = 1
    · obtain ⟨hvar, g1, g2⟩ := nodeS_var hn h1
      simp only [Cn.n] at g1 g2 hvar
      have hw : IntKind.i64.wrap (n - d) = n - d := wrap_i64 (by omega) (by omega)
      rw [if_pos h1, hw] at h
      rw [if_pos h1]
      by_cases hneg : n < d
      · rw [if_pos (by omega)] at h
        rw [if_pos hneg]
        exact (congrArg Prod.fst h).symm
      · rw [if_neg (by omega)] at h
        rw [if_neg hneg]
        cases hx : l[(n - d).toNat]? with
        | none =>
          rw [hx] at h
          simp only at h
          rw [wrap_i64 (by omega) (by omega)] at h
          exact (congrArg Prod.fst h).symm
        | some x =>
          rw [hx] at h
          simp only at h
          have hxv := hl x (List.mem_of_getElem? hx)
          unfold shX at h
          split at h
          · exact absurd (congrArg Prod.snd h) (by simp)
          · rename_i hc
            have : ¬ 20000 < d := fun e => hc ⟨hxv, e⟩
            exact (shS_iSh hb (by omega) hxv h).1
    · rw [if_neg h1] at h
      rw [if_neg h1]
      have hubb : 0 ≤ (if opB o = true then d + 1 else d) ∧ (if opB o = true then d + 1 else d) ≤ d + 1 := by split <;> omega
      generalize (if opB o = true then d + 1 else d) = ub at h hubb ⊢
      split at h
      · rename_i hc
        exact absurd (congrArg Prod.snd h) hc
      · rename_i hc
        have h0 : (sbs l cl ub).2 = 0 := by simpa using hc
        have e := congrArg Prod.fst h
        simp only at e
        rw [← e, sbs_iSu l hl hll cl _ hfl (by omega) (by omega) h0]
theorem sbs_iSu (l : List Cn) (hl : ∀ x ∈ l, cnValid x = true) (hll : l.length ≤ 1000) : ∀ (cl : List Cn) (d : Int), cl.all cnForm = true → 0 ≤ d → d + cnDepths cl ≤ 10000000 → (sbs l cl d).2 = 0 → (sbs l cl d).1 = iSus l cl d
  | [], d, _, _, _, _ => by simp [sbs, iSus]
  | c :: cs, d, hf, hb, hdp, h => by
    rw [List.all_cons, Bool.and_eq_true] at hf
    simp only [cnDepths] at hdp
    rw [sbs] at h ⊢
    split at h
    · rename_i hc; exact absurd h hc
    · rename_i hc
      have h0 : (sb l c d).2 = 0 := by simpa using hc
      simp only at h
      rw [if_neg hc, iSus]
      simp only
      rw [sbs_iSu l hl hll cs d hf.2 hb (by omega) h, ← sb_iSu l hl hll c d (sb l c d).1 hf.1 hb (by omega) (by rw [← h0])]
end
end Go.Proofs.YtblbepjnkehoaaaGreatDoor
/- The plain law of EncodeMoves, the whole. -/
namespace Go.Proofs.YtblbepjnkehoaaaGreatDoor
open Go
set_option linter.unusedSimpArgs false
set_option linter.unusedSectionVars false
/-- f, where it gives no error, is g on constructors; g goes through encodings. -/
structure Ideal (f : Cn → Int → Cn × Int) (g : Cn → Int → Cn) : Prop where
  node : ∀ o n s k ns l d, o ≠ 1 → g (.mk o n s k ns l) d = .mk o n s k ns (l.map fun x => g x (if opB o = true then d + 1 else d))
  leaf : ∀ c d r, cnValid c = true → 0 ≤ d → d ≤ 1000000 → f c d = (r, 0) → r = g c d
  app : ∀ c d, cnValid c = true → 0 ≤ d → cnValid (g c d) = true → g (rApp c) (d + 1) = rApp (g c d)
section
variable {f : Cn → Int → Cn × Int} {g : Cn → Int → Cn} (I : Ideal f g)
include I
theorem Ideal.op2 (op : Int) (a b : Cn) (d : Int) (h1 : op ≠ 1) (h2 : opB op = false) : g (cnOp2 op a b) d = cnOp2 op (g a d) (g b d) := by
  unfold cnOp2
  rw [I.node _ _ _ _ _ _ _ h1]
  simp [h2]
theorem Ideal.bound (op : Int) (k : Kd) (a : Cn) (d : Int) (h1 : op ≠ 1) (h2 : opB op = true) : g (cnBound op k a) d = cnBound op k (g a (d + 1)) := by
  unfold cnBound
  rw [I.node _ _ _ _ _ _ _ h1]
  simp [h2]
theorem Ideal.around (op : Int) (h1 : op ≠ 1) (h2 : opB op = true) (ks : List Kd) (c : Cn) (d : Int) : g (around op ks c) d = Go.Proofs.YtblbepjnkehoaaaGreatDoor.around op ks (g c (d + ks.length)) := by
  induction ks generalizing d with
  | nil => simp [Go.Proofs.YtblbepjnkehoaaaGreatDoor.around]
  | cons k ks ih =>
    have e : ∀ c, Go.Proofs.YtblbepjnkehoaaaGreatDoor.around op (k :: ks) c = cnBound op k (Go.Proofs.YtblbepjnkehoaaaGreatDoor.around op ks c) := fun _ => rfl
    rw [e, e, I.bound op k _ d h1 h2, ih]
    simp only [List.length_cons]
    congr 3
    push_cast; omega
mutual
theorem Ideal.sem : ∀ (s : Sm) (d : Int) (h : Nat) (a : Sm), tame h s → 0 ≤ d → d + 2000 * h ≤ 1000000 → wfM a → rbS f s d = (a, 0) → rSem a = g (rSem s) d
  | .mk o n s c k ks more names l, d, 0, a, ht, _, _, _, _ => ht.elim
  | .mk o n s c k ks more names l, d, h + 1, a, ht, h0, hd, hw, hr => by
    have hn := ht.1
    have hbl : ∀ i, 0 ≤ blen o ks more i ∧ blen o ks more i ≤ 2000 := blen_le hn
    have hsh : (o = 1 ∨ o = 2 ∨ o = 3 ∨ o = 4 ∨ o = 5 ∨ o = 6) ∧ (o = 4 → l.length = 1) ∧ (o = 6 → l.length = 2) ∧ (o = 5 → names.length ≤ 1000 ∧ names.length = l.length) := nodeM_shape hn
    rw [rbS] at hr
    split at hr
    · rename_i hc; exact absurd (congrArg Prod.snd hr) hc.2
    rename_i hc1
    split at hr
    · rename_i hc; exact absurd (congrArg Prod.snd hr) hc
    rename_i hc2
    have hl0 : (rbSs f o ks more l 0 d).2 = 0 := by simpa using hc2
    have ha := congrArg Prod.fst hr
    simp only at ha
    rw [← ha] at hw ⊢
    have hw2 := ((wfM_eq _).1 hw).2
    have hwn := ((wfM_eq _).1 hw).1
    have hL := Ideal.sems l o ks more 0 d h (fun x hx => ht.2 x hx) hbl h0 (by omega) (fun x hx => hw2 x hx) hl0
    generalize (rbSs f o ks more l 0 d).1 = A at hL hw hw2 hwn ha hr ⊢
    have hcon : ∀ (ho : opC3 o = true), cnValid c = true ∧ (if opC3 o = true then (f c d).1 else cnZero) = g c d := fun ho => by
      have hv := nodeM_valid hn ho
      refine ⟨hv, ?_⟩
      rw [if_pos ho]
      have he : (f c d).2 = 0 := by
        cases hz : decide ((f c d).2 = 0)
        · exact absurd ⟨ho, by simpa using hz⟩ hc1
        · simpa using hz
      exact I.leaf c d _ hv h0 (by omega) (by rw [← he])
    generalize hcc : (if opC3 o = true then (f c d).1 else cnZero) = c' at hcon hw hw2 hwn ha hr ⊢
    rw [rSem, rSem, rSems_map, rSems_map]
    by_cases h1 : o = 1
    · rw [if_pos h1, if_pos h1]
      exact (hcon (by rw [h1]; rfl)).2
    rw [if_neg h1, if_neg h1]
    by_cases h2 : o = 2
    · rw [if_pos h2, if_pos h2]
      obtain ⟨hv, e⟩ := hcon (by rw [h2]; rfl)
      have hv' : cnValid c' = true := nodeM_valid hwn (by show opC3 o = true; rw [h2]; rfl)
      rw [e] at hv' ⊢
      rw [I.bound 9 _ _ d (by omega) rfl, I.op2 6 _ _ _ (by omega) rfl, I.app c d hv h0 hv']
    rw [if_neg h2, if_neg h2]
    by_cases h3 : o = 3
    · rw [if_pos h3, if_pos h3]
      unfold cnUnit
      rw [I.node _ _ _ _ _ _ _ (by omega)]; rfl
    rw [if_neg h3, if_neg h3]
    by_cases h4 : o = 4
    · obtain ⟨x, hx⟩ := get1 (hsh.2.1 h4)
      subst hx
      obtain ⟨y, hy⟩ : ∃ y, A = [y] := get1 hL.1
      subst hy
      have e := hL.2 0 x y rfl rfl
      rw [if_pos h4, if_pos h4]
      simp only [List.map_cons, List.map_nil, List.headD_cons]
      have hb : blen o ks more (0 + 0) = ks.length := by unfold blen; rw [if_pos h4]
      rw [hb] at e
      rw [I.op2 6 _ _ _ (by omega) rfl, I.around 10 (by omega) rfl, e]
    rw [if_neg h4, if_neg h4]
    by_cases h6 : o = 6
    · obtain ⟨x0, x1, hx⟩ := get2 (hsh.2.2.1 h6)
      subst hx
      obtain ⟨y0, y1, hy⟩ : ∃ a b, A = [a, b] := get2 hL.1
      subst hy
      have e0 := hL.2 0 x0 y0 rfl rfl
      have e1 := hL.2 1 x1 y1 rfl rfl
      rw [if_pos h6, if_pos h6]
      have hb0 : blen o ks more (0 + 0) = ks.length := by unfold blen; rw [if_neg h4, if_pos h6, if_pos rfl]
      have hb1 : blen o ks more (0 + 1) = ks.length + more.length := by unfold blen; rw [if_neg h4, if_pos h6, if_neg (by omega)]
      rw [hb0] at e0
      rw [hb1] at e1
      simp only [List.map_cons, List.map_nil, List.headD_cons]
      show Go.Proofs.YtblbepjnkehoaaaGreatDoor.around 9 ks (cnOp2 6 (rSem y0) (Go.Proofs.YtblbepjnkehoaaaGreatDoor.around 10 more (rSem y1))) = g (Go.Proofs.YtblbepjnkehoaaaGreatDoor.around 9 ks (cnOp2 6 (rSem x0) (Go.Proofs.YtblbepjnkehoaaaGreatDoor.around 10 more (rSem x1)))) d
      rw [I.around 9 (by omega) rfl, I.op2 6 _ _ _ (by omega) rfl, I.around 10 (by omega) rfl, e0, e1]
      congr 4; omega
    rw [if_neg h6, if_neg h6]
    have h5 : o = 5 := by omega
    rw [I.node _ _ _ _ _ _ _ (by omega)]
    congr 1
    apply List.ext_getElem
    · simp [hL.1]
    · intro i p q
      simp only [List.length_map] at p q
      have e := hL.2 i l[i] A[i] (by simp [hL.1 ▸ p]) (by simp)
      have hb : blen o ks more (0 + i) = 0 := by unfold blen; rw [if_neg h4, if_neg h6]
      rw [hb, Int.add_zero] at e
      simp only [List.getElem_map]
      exact e
theorem Ideal.sems : ∀ (l : List Sm) (o : Int) (ks more : List Kd) (i : Nat) (d : Int) (h : Nat), (∀ x ∈ l, tame h x) → (∀ i, 0 ≤ blen o ks more i ∧ blen o ks more i ≤ 2000) → 0 ≤ d → d + 2000 + 2000 * h ≤ 1000000 →
    (∀ x ∈ (rbSs f o ks more l i d).1, wfM x) → (rbSs f o ks more l i d).2 = 0 → (rbSs f o ks more l i d).1.length = l.length ∧ ∀ (j : Nat) (x y : Sm), l[j]? = some x → (rbSs f o ks more l i d).1[j]? = some y → rSem y = g (rSem x) (d + blen o ks more (i + j))
  | [], o, ks, more, i, d, h, _, _, _, _, _, _ => ⟨rfl, fun j x y hx => by simp at hx⟩
  | z :: zs, o, ks, more, i, d, h, ht, hb, h0, hd, hw, he => by
    have hbi := hb i
    rw [rbSs] at hw he ⊢
    split at he
    · rename_i hc; exact absurd he hc
    rename_i hc
    rw [if_neg hc] at hw ⊢
    simp only at hw he ⊢
    have h2 : (rbS f z (d + blen o ks more i)).2 = 0 := by simpa using hc
    have e1 := Ideal.sem z (d + blen o ks more i) h (rbS f z (d + blen o ks more i)).1 (ht z (by simp)) (by omega) (by omega) (hw _ (by simp)) (by rw [← h2])
    have e2 := Ideal.sems zs o ks more (i + 1) d h (fun x hx => ht x (by simp [hx])) hb h0 hd (fun x hx => hw x (by simp [hx])) he
    refine ⟨by simp [e2.1], fun j x y hx hy => ?_⟩
    cases j with
    | zero =>
      simp only [List.getElem?_cons_zero, Option.some.injEq] at hx hy
      rw [← hx, ← hy, e1]; rfl
    | succ j =>
      simp only [List.getElem?_cons_succ] at hx hy
      rw [e2.2 j x y hx hy]
      congr 2
      congr 1
      omega
end
end
theorem shIdeal (D FR : Int) (h1 : 0 ≤ D) (h2 : D ≤ 20000) (h3 : 0 ≤ FR) : Ideal (fun c k => shS c D (FR + k)) (fun c k => iSh c D (FR + k)) where
  node o n s k ns l d ho := by
    rw [iSh, if_neg ho, iShs_map]
    congr 1
    apply List.map_congr_left
    intro x _
    congr 1
    split <;> omega
  leaf c d r hv h0 hd h := (shS_iSh h1 h2 hv h).1
  app c d hv h0 hv' := by
    rw [rApp_iSh hv, rApp_iSh hv']
    unfold cnOp2
    rw [iSh, if_neg (by omega), iShs, iShs, iShs, if_neg (by decide), iSh_var, if_neg (by omega), ← iSh_comm c 0 D (FR + d) h1 (by omega), Int.add_assoc]
theorem suIdeal (l : List Cn) (hl : ∀ x ∈ l, cnValid x = true) (hll : l.length ≤ 1000) : Ideal (fun c k => sb l c k) (fun c k => iSu l c k) where
  node o n s k ns cl d ho := by rw [iSu, if_neg ho, iSus_map]
  leaf c d r hv h0 hd h := by
    obtain ⟨v1, v2, v3⟩ := valid_parts hv
    exact sb_iSu l hl hll c d r v3 h0 (by omega) h
  app c d hv h0 hv' := by
    rw [rApp_iSh hv, rApp_iSh hv']
    unfold cnOp2
    rw [iSu, if_neg (by omega), iSus, iSus, iSus, if_neg (by decide), ← iSu_comm l c 0 d (by omega) h0]
    congr 2
    unfold cnVar
    rw [iSu, if_pos rfl, if_pos (by omega)]
theorem encSem_ok {s : Sm} {c : Cn} (h : encSem s = (c, 0)) : formM s = true ∧ c = rSem s ∧ cnValid c = true := by
  unfold encSem at h
  split at h
  · rename_i hf
    rw [enc_ref s (form_wf hf), okS] at h
    split at h
    · rename_i hv
      have := congrArg Prod.fst h
      simp only at this
      exact ⟨hf, this.symm, this ▸ hv⟩
    · exact absurd (congrArg Prod.snd h) (by simp)
  · exact absurd (congrArg Prod.snd h) (by simp)
theorem finS_ok {p : Sm × Int} {a : Sm} (h : finS p = (a, 0)) : p = (a, 0) ∧ formM a = true := by
  unfold finS at h
  split at h
  · exact absurd (congrArg Prod.snd h) (by simp)
  · rename_i hc
    have e := congrArg Prod.fst h
    simp only at e
    obtain ⟨x, y⟩ := p
    simp only at hc e
    subst e
    refine ⟨?_, ?_⟩
    · have : y = 0 := by
        rcases Int.lt_trichotomy y 0 with h | h | h
        · exact absurd (.inl (by omega)) hc
        · exact h
        · exact absurd (.inl (by omega)) hc
      rw [this]
    · cases hf : formM x
      · exact absurd (.inr hf) hc
      · rfl
theorem moves_end {s a : Sm} {c b : Cn} {f : Cn → Int → Cn × Int} {g : Cn → Int → Cn} (I : Ideal f g) (hs : encSem s = (c, 0)) (ha : finS (rbS f s 0) = (a, 0)) (hb : b = g c 0) (hv : cnValid b = true) : encSem a = (b, 0) := by
  obtain ⟨hf, hc, _⟩ := encSem_ok hs
  obtain ⟨h1, h2⟩ := finS_ok ha
  have hr := I.sem s 0 400 a (form_tame hf) (by omega) (by omega) (form_wf h2) h1
  rw [encSem, if_pos h2, enc_ref a (form_wf h2), hr, ← hc, ← hb, okS, if_pos hv]
theorem moves_shift {s a : Sm} {c b : Cn} {D FR : Int} (h1 : 0 ≤ D) (h2 : D ≤ 20000) (h3 : 0 ≤ FR) (hs : encSem s = (c, 0)) (ha : shM s D FR = (a, 0)) (hb : shS c D FR = (b, 0)) : encSem a = (b, 0) := by
  obtain ⟨hf, hc, hv⟩ := encSem_ok hs
  rw [shM, if_neg (by simp [hf])] at ha
  obtain ⟨e, hv2⟩ := shS_iSh h1 h2 hv hb
  exact moves_end (shIdeal D FR h1 h2 h3) hs ha (by rw [e, Int.add_zero]) hv2
theorem moves_subst {s a : Sm} {c b : Cn} {l : List Cn} (hs : encSem s = (c, 0)) (ha : suS s l = (a, 0)) (hb : suM c l = (b, 0)) : encSem a = (b, 0) := by
  obtain ⟨hf, hc, hv⟩ := encSem_ok hs
  obtain ⟨e, hv2, hl, hll⟩ := suM_iSu hb
  unfold suS at ha
  split at ha
  · exact absurd (congrArg Prod.snd ha) (by simp)
  split at ha
  · exact absurd (congrArg Prod.snd ha) (by simp)
  exact moves_end (suIdeal l hl hll) hs ha e hv2
end Go.Proofs.YtblbepjnkehoaaaGreatDoor
