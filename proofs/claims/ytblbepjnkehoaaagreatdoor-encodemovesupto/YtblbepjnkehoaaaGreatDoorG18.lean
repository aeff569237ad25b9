/- Joined: P1 K40. -/
import Derived.Test.YtblbepjnkehoaaaGreatDoorG13
import Derived.Test.YtblbepjnkehoaaaGreatDoorG15
import Derived.Test.YtblbepjnkehoaaaGreatDoorG16
import Derived.Test.YtblbepjnkehoaaaGreatDoorG17
set_option linter.unusedSimpArgs false
set_option linter.unusedVariables false
set_option maxHeartbeats 4000000
/- The plain law: encodings answer as the reference's do. -/
namespace Go.Proofs.YtblbepjnkehoaaaGreatDoor
open Go
set_option linter.unusedSimpArgs false
theorem nodeS_leaf {c : Cn} (h : nodeS c = true) (ho : c.op = 1 ∨ c.op = 2) : c.l = [] ∧ c.names = [] := by
  simp only [nodeS, Bool.and_eq_true] at h
  obtain ⟨h1, -, -, -, h5⟩ := h
  have hop : ¬(c.op < 1 ∨ 13 < c.op) := by omega
  have hL : opL c.op = false := by rcases ho with h | h <;> rw [h] <;> rfl
  have hB : opB c.op = false := by rcases ho with h | h <;> rw [h] <;> rfl
  have h6 : (c.op == 6 || c.op == 12) = false := by rcases ho with h | h <;> rw [h] <;> rfl
  simp only [n1, cnParts, hop, hL, hB, h6, if_false, Bool.false_eq_true, decide_eq_true_eq] at h1
  simp only [n5, hL, Bool.and_eq_true, Bool.not_false, Bool.and_true, Bool.not_eq_true', decide_eq_false_iff_not] at h5
  exact ⟨List.eq_nil_of_length_eq_zero (by omega), List.eq_nil_of_length_eq_zero (by omega)⟩
theorem nodeS_var {c : Cn} (h : nodeS c = true) (ho : c.op = 1) : c = cnVar c.n ∧ 0 ≤ c.n ∧ c.n ≤ 20000 := by
  obtain ⟨hl, hn⟩ := nodeS_leaf h (.inl ho)
  simp only [nodeS, Bool.and_eq_true] at h
  obtain ⟨-, h2, h3, h4, -⟩ := h
  have hB : ¬(opB c.op = true ∨ c.op = 2) := by rw [ho]; decide
  rw [n2, if_pos (.inl ho)] at h2
  rw [n3, if_neg (by omega)] at h3
  rw [n4, if_neg hB] at h4
  simp only [Bool.not_eq_true', Bool.or_eq_false_iff, decide_eq_false_iff_not, decide_eq_true_eq] at h2 h3 h4
  have hk : c.k.l = [] := List.eq_nil_of_length_eq_zero (by omega)
  refine ⟨?_, by omega, by omega⟩
  cases c with | mk o n s k ns l =>
  cases k with | mk kl =>
  simp only [Cn.op, Cn.n, Cn.s, Cn.k, Cn.names, Cn.l, Kd.l] at ho hl hn h3 hk
  subst ho hl hn h3 hk
  rfl
theorem shLeaf_mk (d fr o n : Int) (s : List UInt8) (k : Kd) (ns : List (List UInt8)) (l : List Cn) (bd : Int) : shLeaf d fr (.mk o n s k ns l) bd = if o = 1 ∧ fr ≤ IntKind.i64.wrap (n - bd) then cnVar (IntKind.i64.wrap (n + d)) else .mk o n s k [] [] := rfl
mutual
theorem reb_shift (d : Int) (hd : d = 0 ∨ d = 1) : ∀ (c : Cn) (bd left : Int), cnForm c = true → 0 ≤ bd → bd + cnDepth c ≤ 10000 → (cnSize c : Int) ≤ left → left ≤ 20000 → reb (shLeaf d 0) c bd left = (rShift c d bd, left - cnSize c)
  | .mk o n s k ns l, bd, left, hf, hb, hdp, hs, hl => by
    have hn := hf
    rw [cnForm_eq, Bool.and_eq_true] at hn
    obtain ⟨hn, hfl⟩ := hn
    have hfl : l.all cnForm = true := hfl
    have hsz : cnSize (.mk o n s k ns l) = 1 + cnSizes l := cnSize_eq (.mk o n s k ns l)
    have htop : ¬ 20001 < bd := by have := cnDepth_eq (.mk o n s k ns l); omega
    rw [reb, rShift, if_neg (by omega), if_neg htop]
    by_cases h12 : o = 1 ∨ o = 2
    · obtain ⟨e1, e2⟩ := nodeS_leaf hn h12
      simp only [Cn.l, Cn.names] at e1 e2
      subst e1 e2
      rw [if_pos h12]
      have hz : ∀ x : Int, cnSize (cnVar x) = 1 := fun _ => rfl
      have hz2 : cnSize (.mk o n s k [] []) = 1 := rfl
      rw [shLeaf_mk]
      by_cases h1 : o = 1
      · obtain ⟨-, g1, g2⟩ := nodeS_var hn h1
        simp only [Cn.n] at g1 g2
        rw [if_pos h1, wrap_i64 (n := n - bd) (by omega) (by omega)]
        by_cases hc : bd ≤ n
        · rw [if_pos ⟨h1, by omega⟩, if_pos hc, hz, hz2]
        · rw [if_neg (fun h => hc (by omega)), if_neg hc, hz2]
      · rw [if_neg h1, if_neg (fun h => h1 h.1), hz2, rShifts]
    · rw [if_neg h12, if_neg (fun h => h12 (.inl h))]
      have hu : under o bd = if opB o = true then IntKind.i64.wrap (bd + 1) else bd := rfl
      have hub : under o bd = bd ∨ under o bd = bd + 1 := by
        rw [hu]; split
        · rw [wrap_i64 (by omega) (by omega)]; exact .inr rfl
        · exact .inl rfl
      rw [← hu]
      have := cnDepth_eq (.mk o n s k ns l)
      simp only [Cn.l] at this
      rw [rebs_shift d hd l (under o bd) (left - 1) hfl (by omega) (by omega) (by omega) (by omega)]
      simp only [cnSize, Prod.mk.injEq, true_and]
      omega
theorem rebs_shift (d : Int) (hd : d = 0 ∨ d = 1) : ∀ (l : List Cn) (bd left : Int), l.all cnForm = true → 0 ≤ bd → bd + cnDepths l ≤ 10000 → (cnSizes l : Int) ≤ left → left ≤ 20000 → rebs (shLeaf d 0) l bd left = (rShifts l d bd, left - cnSizes l)
  | [], bd, left, _, _, _, _, _ => by simp [rebs, rShifts, cnSizes]
  | c :: cs, bd, left, hf, hb, hdp, hs, hl => by
    rw [List.all_cons, Bool.and_eq_true] at hf
    simp only [cnDepths] at hdp
    simp only [cnSizes] at hs
    rw [rebs, reb_shift d hd c bd left hf.1 hb (by omega) (by omega) hl]
    simp only
    rw [rebs_shift d hd cs bd (left - cnSize c) hf.2 hb (by omega) (by omega) (by omega), rShifts, cnSizes]
    simp only [Prod.mk.injEq, true_and]
    omega
end
theorem shS_ref {c : Cn} {d : Int} (hd : d = 0 ∨ d = 1) (h : cnValid c = true) : shS c d 0 = if cnValid (rShift c d 0) = true then (rShift c d 0, 0) else (cnZero, 6) := by
  have hv := h
  simp only [cnValid, Bool.and_eq_true, decide_eq_true_eq] at h
  rw [shS, if_pos hv, repl, reb_shift d hd c 0 20000 h.2.2 (by omega) (by omega) (by omega) (by omega)]
  simp only
  cases hr : cnValid (rShift c d 0)
  · simp
  · rw [if_neg (by simp; omega)]; rfl
mutual
theorem rShift_zero : ∀ (c : Cn) (fr : Int), cnForm c = true → rShift c 0 fr = c
  | .mk o n s k ns l, fr, hf => by
    rw [cnForm_eq, Bool.and_eq_true] at hf
    rw [rShift]
    by_cases h1 : o = 1
    · obtain ⟨e, g1, g2⟩ := nodeS_var hf.1 h1
      simp only [Cn.n] at e g1 g2
      rw [if_pos h1, Int.add_zero, wrap_i64 (n := n) (by omega) (by omega)]
      generalize (if 20001 < fr then 20001 else fr) = z
      by_cases hz : z ≤ n
      · rw [if_pos hz]; exact e.symm
      · rw [if_neg hz]
    · rw [if_neg h1, rShifts_zero l _ hf.2]
theorem rShifts_zero : ∀ (l : List Cn) (fr : Int), l.all cnForm = true → rShifts l 0 fr = l
  | [], _, _ => rfl
  | c :: cs, fr, hf => by
    rw [List.all_cons, Bool.and_eq_true] at hf
    rw [rShifts, rShift_zero c fr hf.1, rShifts_zero cs fr hf.2]
end
theorem valid_form {c : Cn} (h : cnValid c = true) : cnForm c = true := by
  simp only [cnValid, Bool.and_eq_true] at h; exact h.2.2
theorem shS_id {c : Cn} (h : cnValid c = true) : shS c 0 0 = (c, 0) := by
  rw [shS_ref (.inl rfl) h, rShift_zero c 0 (valid_form h), if_pos h]
theorem valid_mem {c x : Cn} (h : cnValid c = true) (hx : x ∈ c.l) : cnValid x = true := by
  simp only [cnValid, Bool.and_eq_true, decide_eq_true_eq] at h ⊢
  have h1 := cnSize_eq c
  have h2 := cnDepth_eq c
  have h3 := cnSize_mem hx
  have h4 := cnDepth_mem hx
  have h5 := h.2.2
  rw [cnForm_eq, Bool.and_eq_true, List.all_eq_true] at h5
  exact ⟨by omega, by omega, h5.2 x hx⟩
theorem valid_op2 {op : Int} {a b : Cn} (h : cnValid (cnOp2 op a b) = true) : cnValid a = true ∧ cnValid b = true :=
  ⟨valid_mem h (by simp [cnOp2, Cn.l]), valid_mem h (by simp [cnOp2, Cn.l])⟩
theorem valid_around {op : Int} {ks : List Kd} {c : Cn} (h : cnValid (around op ks c) = true) : cnValid c = true := by
  induction ks with
  | nil => exact h
  | cons k ks ih => exact ih (valid_mem h (by simp [around, cnBound, Cn.l]))
theorem chS_ok {c : Cn} (h : cnValid c = true) : chS c = (c, 0) := by rw [chS, if_pos h]
theorem chS_no {c : Cn} (h : ¬ cnValid c = true) : chS c = (cnZero, 6) := by rw [chS, if_neg h]
theorem nodeM_con3 {s : Sm} (h : nodeM s = true) (ho : opC3 s.op = true) : cnValid s.con = true := by
  simp only [nodeM, Bool.and_eq_true] at h
  have := h.2.1
  rwa [m2, if_pos ho] at this
/-- What is answered where a constructor is the answer, if it is valid. -/
def okS (c : Cn) : Cn × Int := if cnValid c = true then (c, 0) else (cnZero, 6)
theorem okS_no {c x : Cn} {e : Int} (h : (c, e) = okS x) (hv : cnValid x = false) : c = cnZero ∧ e = 6 := by
  rw [okS, if_neg (by simp [hv])] at h
  exact ⟨congrArg Prod.fst h, congrArg Prod.snd h⟩
theorem okS_yes {c x : Cn} {e : Int} (h : (c, e) = okS x) (hv : cnValid x = true) : c = x ∧ e = 0 := by
  rw [okS, if_pos hv] at h
  exact ⟨congrArg Prod.fst h, congrArg Prod.snd h⟩
mutual
theorem enc_ref : ∀ s : Sm, wfM s → enc s = okS (rSem s)
  | .mk o n s c k ks more names l, hw => by
    have hw2 := (wfM_eq _).1 hw
    have hn := hw2.1
    have hsh : (o = 1 ∨ o = 2 ∨ o = 3 ∨ o = 4 ∨ o = 5 ∨ o = 6) ∧ (o = 4 → l.length = 1) ∧ (o = 6 → l.length = 2) ∧ (o = 5 → names.length ≤ 1000 ∧ names.length = l.length) := nodeM_shape hn
    have hparts := encs_ref l hw2.2
    rw [enc, rSem, rSems_map]
    by_cases hp : (l.map rSem).all cnValid = true
    · rw [if_pos hp] at hparts
      rw [hparts]
      simp only [if_true]
      unfold encTop okS
      by_cases h1 : o = 1
      · rw [if_pos h1, if_pos h1]
        have hv : cnValid c = true := nodeM_con3 hn (by simp [Sm.op, h1, opC3])
        rw [shS_id hv, if_pos hv]
      rw [if_neg h1, if_neg h1]
      by_cases h2 : o = 2
      · rw [if_pos h2, if_pos h2]
        have hv : cnValid c = true := nodeM_con3 hn (by simp [Sm.op, h2, opC3])
        unfold apS rApp
        rw [shS_ref (.inr rfl) hv]
        by_cases hv2 : cnValid (rShift c 1 0) = true
        · rw [if_pos hv2]; simp only [if_true]; rfl
        · rw [if_neg hv2]
          have hno : ¬ cnValid (cnBound 9 (kPair k (.mk [])) (cnOp2 6 (cnOp2 12 (cnVar 0) (rShift c 1 0)) (cnOp2 12 (cnVar 0) (rShift c 1 0)))) = true := fun h =>
            hv2 (valid_op2 (valid_op2 (valid_mem (x := cnOp2 6 (cnOp2 12 (cnVar 0) (rShift c 1 0)) (cnOp2 12 (cnVar 0) (rShift c 1 0))) h (by simp [cnBound, Cn.l]))).1).2
          rw [if_neg hno]; rfl
      rw [if_neg h2, if_neg h2]
      by_cases h3 : o = 3
      · rw [if_pos h3, if_pos h3, if_pos unit_valid]
      rw [if_neg h3, if_neg h3]
      by_cases h4 : o = 4
      · rw [if_pos h4, if_pos h4]
        by_cases hv : cnValid (around 10 ks ((l.map rSem).headD cnZero)) = true
        · rw [chS_ok hv]
          simp only [if_true]
          rw [shS_id hv]; rfl
        · rw [chS_no hv]
          have hno : ¬ cnValid (cnOp2 6 (around 10 ks ((l.map rSem).headD cnZero)) (around 10 ks ((l.map rSem).headD cnZero))) = true := fun h => hv (valid_op2 h).1
          rw [if_neg hno]; rfl
      rw [if_neg h4, if_neg h4]
      by_cases h6 : o = 6
      · rw [if_neg (by omega), if_pos h6]; rfl
      · rw [if_pos (by omega), if_neg h6]; rfl
    · rw [if_neg hp] at hparts
      have h0 : ¬ (encs l).2 = 0 := by rw [hparts]; simp
      rw [if_neg h0, hparts]
      have hex : ∃ x ∈ l.map rSem, ¬ cnValid x = true := by
        obtain ⟨y, hy, hv⟩ : ∃ y ∈ l, cnValid (rSem y) = false := by simpa using hp
        exact ⟨rSem y, List.mem_map_of_mem hy, by simp [hv]⟩
      obtain ⟨x, hx, hxv⟩ := hex
      have hne : l ≠ [] := by rintro rfl; simp at hx
      have hlen : 0 < l.length := List.length_pos_iff.2 hne
      unfold okS
      have hno : ∀ y : Cn, (cnValid y = true → cnValid x = true) → (cnZero, (6 : Int)) = if cnValid y = true then (y, 0) else (cnZero, 6) := fun y hy => by rw [if_neg (fun h => hxv (hy h))]
      have h123 : ¬ (o = 1 ∨ o = 2 ∨ o = 3) := fun h => by
        have hm : nodeM (.mk o n s c k ks more names l) = true := hn
        simp only [nodeM, m1, Bool.and_eq_true] at hm
        have := hm.1.1
        rw [rightS, if_pos (show (Sm.mk o n s c k ks more names l).op = 1 ∨ (Sm.mk o n s c k ks more names l).op = 2 ∨ (Sm.mk o n s c k ks more names l).op = 3 from h)] at this
        exact hne (of_decide_eq_true this)
      rw [if_neg (fun h => h123 (.inl h)), if_neg (fun h => h123 (.inr (.inl h))), if_neg (fun h => h123 (.inr (.inr h)))]
      by_cases h4 : o = 4
      · obtain ⟨a, rfl⟩ := get1 (hsh.2.1 h4)
        rw [if_pos h4]
        simp only [List.map_cons, List.map_nil, List.mem_cons, List.not_mem_nil, or_false] at hx
        subst hx
        exact hno _ fun h => valid_around (valid_op2 h).1
      rw [if_neg h4]
      by_cases h6 : o = 6
      · obtain ⟨a, b, rfl⟩ := get2 (hsh.2.2.1 h6)
        rw [if_pos h6]
        simp only [List.map_cons, List.map_nil, List.mem_cons, List.not_mem_nil, or_false] at hx
        refine hno _ fun h => ?_
        have h2 := valid_op2 (valid_around h)
        rcases hx with rfl | rfl
        · exact h2.1
        · exact valid_around h2.2
      · rw [if_neg h6]
        exact hno _ fun h => valid_mem h (by simpa [Cn.l] using hx)
theorem encs_ref : ∀ l : List Sm, (∀ x ∈ l, wfM x) → encs l = if (l.map rSem).all cnValid = true then (l.map rSem, 0) else ((encs l).1, 6)
  | [], _ => by simp [encs]
  | x :: xs, hw => by
    have h1 := enc_ref x (hw x (by simp))
    have h2 := encs_ref xs fun y hy => hw y (by simp [hy])
    rw [encs, h1]
    unfold okS
    by_cases hv : cnValid (rSem x) = true
    · rw [if_pos hv]
      by_cases hp : (xs.map rSem).all cnValid = true
      · rw [if_pos hp] at h2
        rw [h2]; simp only [List.map_cons, List.all_cons, hv, hp, if_true, Bool.and_self]
      · rw [if_neg hp] at h2
        have hp' : (xs.map rSem).all cnValid = false := by simpa using hp
        have : (encs xs).2 = 6 := by rw [h2]
        simp only [List.map_cons, List.all_cons, hv, hp', if_true, Bool.true_and, Bool.false_eq_true, if_false, this]
    · rw [if_neg hv]
      have hv' : cnValid (rSem x) = false := by simpa using hv
      simp [hv']
end
theorem encAb_ref (ks : List Kd) (s : Sm) (hw : wfM s) : encAb ks s = okS (around 10 ks (rSem s)) := by
  rw [encAb, enc_ref s hw]
  unfold okS
  by_cases hv : cnValid (rSem s) = true
  · rw [if_pos hv]; rfl
  · rw [if_neg hv, if_neg (fun h => hv (valid_around h))]; rfl
end Go.Proofs.YtblbepjnkehoaaaGreatDoor
/- EncodeSems: the walk; it answers true. -/
namespace Go.Proofs.YtblbepjnkehoaaaGreatDoor
open Go
attribute [local simp] astep aev putA guardA start AV.cells AV.undef takeCells splice intBin strBin abin AV.isCell loadV fillR fillA
attribute [local simp] fin aRes aResL aRes1 AV.strip stripL stripE AV.inScope scopedL scopedE scopedH
set_option maxRecDepth 10000
set_option linter.unusedSimpArgs false
mutual
theorem kEq_refl : ∀ k : Kd, kEq k k = true
  | .mk l => by rw [kEq]; exact kEqs_refl l
theorem kEqs_refl : ∀ l : List Kd, kEqs l l = true
  | [] => rfl
  | x :: xs => by rw [kEqs, kEq_refl x, kEqs_refl xs]; rfl
end
mutual
theorem cnEq_refl : ∀ c : Cn, cnEq c c = true
  | .mk o n s k ns l => by rw [cnEq, kEq_refl, cnEqs_refl l]; simp
theorem cnEqs_refl : ∀ l : List Cn, cnEqs l l = true
  | [] => rfl
  | x :: xs => by rw [cnEqs, cnEq_refl x, cnEqs_refl xs]; rfl
end
def AwakeOk : Prop := HCall Go.Proofs.Tryz.prog i_pilasterlaw25_awake [] [] (.bool true) []
def FormedOk : Prop := ∀ s : Sm, conB s → HCall Go.Proofs.Tryz.prog i_pilasterref24_Formed [smAV s] [] (.bool (formM s)) []
theorem pilasterref25_Formed_of (hF : FormedOk) (ks : List Kd) (s : Sm) (hc : conB s) : HCall Go.Proofs.Tryz.prog i_pilasterref25_Formed [abAV ks s] [] (.bool (abOk ks s)) [] := by
  refine HCall.go mixed ok_pilasterref25_Formed (by simp) fun hfit Q hQ => ?_
  clear hfit
  simp -implicitDefEqProofs [c_pilasterref25_Formed, abAV, smCells_eq s]
  refine CALL_pure (hF s hc) (by simp) (by simp) (by simp [smAV, smCells_eq s]) ?_
  cases hf : formM s
  · simp -implicitDefEqProofs
    refine hQ _ _ _ ?_
    simp -implicitDefEqProofs [abOk, hf]
  · simp -implicitDefEqProofs
    refine CALL_pure (pilasterref25_Kinds_call ks) (by simp) (by simp) (by simp) ?_
    simp -implicitDefEqProofs
    refine hQ _ _ _ ?_
    simp -implicitDefEqProofs [abOk, hf]
theorem abAV_scoped (ks : List Kd) (s : Sm) (n : Nat) : scopedL n [abAV ks s] = true := by simp [abAV, scopedL, AV.inScope]
set_option maxHeartbeats 2000000 in
theorem EncodeSems_of (hu : UnderOk) (ha : AwakeOk) (hF : FormedOk) (ks : List Kd) (s : Sm) (hc : conB s) : HCall Go.Proofs.Tryz.prog i_pilasterlaw25_EncodeSems [abAV ks s] [] (.bool true) [] := by
  have c1 := encode_Sem_call hu s hc
  have c2 := encode_Abs_call hu ks s hc
  obtain ⟨p, hp⟩ : ∃ p, p = encSem s := ⟨_, rfl⟩
  obtain ⟨q, hq⟩ : ∃ q, q = encAbs ks s := ⟨_, rfl⟩
  rw [← hp] at c1
  rw [← hq] at c2
  obtain ⟨c, e⟩ := p
  obtain ⟨d, g⟩ := q
  refine HCall.go mixed ok_pilasterlaw25_EncodeSems (by simp) fun hfit Q hQ => ?_
  clear hfit
  simp -implicitDefEqProofs [c_pilasterlaw25_EncodeSems, abAV, smCells_eq s]
  refine CALL_pure ha (by simp) (by simp) (by simp) ?_
  simp -implicitDefEqProofs
  refine CALL_pure (pilasterlaw25_small_call ks s) (abAV_scoped ..) (by simp) (by simp [abAV, smCells_eq s]) ?_
  cases hsm : smallS ks s
  · simp -implicitDefEqProofs
    refine CALL_pure ha (by simp) (by simp) (by simp) ?_
    simp -implicitDefEqProofs
    refine hQ _ _ _ ?_
    simp -implicitDefEqProofs
  simp -implicitDefEqProofs
  refine CALL_pure c1 (by simp) (cnE_scoped _ 0) (by simp [smAV, smCells_eq s]) ?_
  simp -implicitDefEqProofs [cnE, cnAV]
  refine CALL_pure c2 (abAV_scoped ..) (cnE_scoped _ 0) (by simp [abAV, smCells_eq s]) ?_
  simp -implicitDefEqProofs [cnE, cnAV]
  refine CALL_pure (hF s hc) (by simp) (by simp) (by simp [smAV, smCells_eq s]) ?_
  cases hf : formM s
  · have h1 : c = cnZero ∧ e = 1 := by rw [encSem, if_neg (by simp [hf])] at hp; exact ⟨congrArg Prod.fst hp, congrArg Prod.snd hp⟩
    have h2 : d = cnZero ∧ g = 1 := by rw [encAbs, if_neg (by simp [abOk, hf])] at hq; exact ⟨congrArg Prod.fst hq, congrArg Prod.snd hq⟩
    have z1 : cnEq c cnZero = true := by rw [h1.1]; exact cnEq_refl _
    have z2 : cnEq d cnZero = true := by rw [h2.1]; exact cnEq_refl _
    have y1 := h1.2
    have y2 := h2.2
    clear h1 h2 hp hq
    simp -implicitDefEqProofs
    refine CALL_pure (pilasterlaw25_none_call c) (by simp) (by simp) (by simp [cnAV]) ?_
    simp -implicitDefEqProofs [z1, y1]
    refine CALL_pure (pilasterlaw25_none_call d) (by simp) (by simp) (by simp [cnAV]) ?_
    simp -implicitDefEqProofs [z2, y2]
    refine hQ _ _ _ ?_
    simp -implicitDefEqProofs
  have hw := form_wf hf
  have hp : (c, e) = okS (rSem s) := by rw [hp, encSem, if_pos hf, enc_ref s hw]
  simp -implicitDefEqProofs
  refine CALL_pure (pilasterref25_Sem_call s hw) (by simp) (by simp) (by simp [smAV, smCells_eq s]) ?_
  simp -implicitDefEqProofs [cnAV]
  refine CALL_pure (pilasterref09_Valid_call (rSem s)) (by simp) (by simp) (by simp [cnAV]) ?_
  have hF25 := pilasterref25_Formed_of hF ks s hc
  have hA25 := pilasterref25_Abs_call ks s hw
  cases hv : cnValid (rSem s)
  case' false =>
    have h1 := okS_no hp hv
    have z1 : cnEq c cnZero = true := by rw [h1.1]; exact cnEq_refl _
    have y1 := h1.2
    clear h1 hp
    simp -implicitDefEqProofs
    refine CALL_pure (pilasterlaw25_none_call c) (by simp) (by simp) (by simp [cnAV]) ?_
    simp -implicitDefEqProofs [z1, y1]
  case' true =>
    have h1 := okS_yes hp hv
    have z1 : cnEq c (rSem s) = true := by rw [h1.1]; exact cnEq_refl _
    have y1 := h1.2
    clear h1 hp
    simp -implicitDefEqProofs
    refine CALL_pure (pilasterref09_Same_call c (rSem s)) (by simp) (by simp) (by simp [cnAV]) ?_
    simp -implicitDefEqProofs [z1, y1]
  all_goals
    refine CALL_pure hF25 (abAV_scoped ..) (by simp) (by simp [abAV, smCells_eq s]) ?_
    cases ho : abOk ks s
    · have h2 : d = cnZero ∧ g = 1 := by rw [encAbs, if_neg (by simp [ho])] at hq; exact ⟨congrArg Prod.fst hq, congrArg Prod.snd hq⟩
      have z2 : cnEq d cnZero = true := by rw [h2.1]; exact cnEq_refl _
      have y2 := h2.2
      clear h2 hq
      simp -implicitDefEqProofs
      refine CALL_pure (pilasterlaw25_none_call d) (by simp) (by simp) (by simp [cnAV]) ?_
      simp -implicitDefEqProofs [z2, y2]
      refine hQ _ _ _ ?_
      simp -implicitDefEqProofs
    have hq : (d, g) = okS (around 10 ks (rSem s)) := by rw [hq, encAbs, if_pos ho, encAb_ref ks s hw]
    obtain ⟨y, hy⟩ : ∃ y, y = around 10 ks (rSem s) := ⟨_, rfl⟩
    rw [← hy] at hA25 hq
    clear hy
    simp -implicitDefEqProofs
    refine CALL_pure hA25 (abAV_scoped ..) (by simp) (by simp [abAV, smCells_eq s]) ?_
    simp -implicitDefEqProofs [cnAV]
    refine CALL_pure (pilasterref09_Valid_call y) (by simp) (by simp) (by simp [cnAV]) ?_
    cases hv2 : cnValid y
    · have h2 := okS_no hq hv2
      have z2 : cnEq d cnZero = true := by rw [h2.1]; exact cnEq_refl _
      have y2 := h2.2
      clear h2 hq
      simp -implicitDefEqProofs
      refine CALL_pure (pilasterlaw25_none_call d) (by simp) (by simp) (by simp [cnAV]) ?_
      simp -implicitDefEqProofs [z2, y2]
      refine hQ _ _ _ ?_
      simp -implicitDefEqProofs
    · have h2 := okS_yes hq hv2
      have z2 : cnEq d y = true := by rw [h2.1]; exact cnEq_refl _
      have y2 := h2.2
      clear h2 hq
      simp -implicitDefEqProofs
      refine CALL_pure (pilasterref09_Same_call d y) (by simp) (by simp) (by simp [cnAV]) ?_
      simp -implicitDefEqProofs [z2, y2]
      refine hQ _ _ _ ?_
      simp -implicitDefEqProofs
end Go.Proofs.YtblbepjnkehoaaaGreatDoor
