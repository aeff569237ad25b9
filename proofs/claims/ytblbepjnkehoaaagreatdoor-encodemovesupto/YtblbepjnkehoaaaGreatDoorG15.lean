/- Joined: K27 K29 K36. -/
import Derived.Test.YtblbepjnkehoaaaGreatDoorG11
import Derived.Test.YtblbepjnkehoaaaGreatDoorG12
import Derived.Test.YtblbepjnkehoaaaGreatDoorG13
import Derived.Test.YtblbepjnkehoaaaGreatDoorG09
set_option linter.unusedSimpArgs false
set_option linter.unusedVariables false
set_option maxHeartbeats 4000000
/- Semantic signatures: nodes; both sides. -/
namespace Go.Proofs.YtblbepjnkehoaaaGreatDoor
open Go
attribute [local simp] astep aev putA guardA start AV.cells AV.undef takeCells splice intBin strBin abin AV.isCell loadV fillR fillA
attribute [local simp] fin aRes aResL aRes1 AV.strip stripL stripE AV.inScope scopedL scopedE scopedH
set_option maxRecDepth 10000
set_option linter.unusedSimpArgs false
attribute [local simp] beq_dec bne_dec
set_option maxHeartbeats 4000000 in
theorem sem_node_call (s : Sm) (hc : cnSize s.con ≤ 1000000000000) : HCall Go.Proofs.Tryz.prog i_sem_node [smAV s] [] (.bool (nodeM s)) [] := by
  have hz := tycon_Equal_call s.con cnZero
  rw [show cnAV cnZero = .agg [.int .i64 0, .int .i64 0, .str [], .sl .none [], .sl .none [], .sl .none []] by simp [cnAV, cnZero_cells]] at hz
  refine HCall.go mixed ok_sem_node (by simp) fun hfit Q hQ => ?_
  clear hfit
  have f1 : m1 s = false → nodeM s = false := fun h => by rw [nodeM, h]; rfl
  have f2 : m2 s = false → nodeM s = false := fun h => by rw [nodeM, h]; simp
  have f3 : m3 s = false → nodeM s = false := fun h => by rw [nodeM, h]; simp
  have f4 : m4 s = false → nodeM s = false := fun h => by rw [nodeM, h]; simp
  have fin5 : m1 s = true → m2 s = true → m3 s = true → m4 s = true → nodeM s = m5 s := fun h1 h2 h3 h4 => by rw [nodeM, h1, h2, h3, h4]; simp
  simp -implicitDefEqProofs [-Int.not_lt, -Int.not_le, -WP_seq, c_sem_node, smAV, smCells_eq s]
  rw [WP_seq]
  simp -implicitDefEqProofs [-Int.not_lt, -Int.not_le, -WP_seq]
  refine WP_cut (fun f => m1 s = true) (fun Q' hn hr => ?_) (fun f hI => ?_)
  · clear f2 f3 f4 fin5 hz
    simp -implicitDefEqProofs [-Int.not_lt, -Int.not_le, strRows_length]
    repeat' (first | (refine COND_split (fun hb => ?_) (fun hb => ?_) <;> (try simp only [Bool.not_eq_true', Bool.not_eq_true, Bool.not_eq_false, Bool.not_eq_false', Bool.not_true, Bool.not_false, Bool.not_not] at hb) <;> simp -implicitDefEqProofs [-Int.not_lt, -Int.not_le, hb, strRows_length]) | (refine GRD_split (fun hb => ?_) (fun hb => ?_) <;> (try simp only [Bool.not_eq_true', Bool.not_eq_true, Bool.not_eq_false, Bool.not_eq_false', Bool.not_true, Bool.not_false, Bool.not_not] at hb) <;> simp -implicitDefEqProofs [-Int.not_lt, -Int.not_le, hb, strRows_length]) | (refine CALL_pure (sem_right_call s) (by simp) (by simp) (by simp [kdAV, cnAV, cnCells_eq, kdCells_eq, strRows, Kd.l, smAV, smCells_eq]) ?_; simp -implicitDefEqProofs [-Int.not_lt, -Int.not_le, strRows_length]))
    all_goals first
      | (refine hr _ _ ?_; have e := f1 (by clear hn hr hQ; (try simp only [decide_eq_true_eq, decide_eq_false_iff_not] at *); first | (simp [-Int.not_lt, -Int.not_le, *, m1]; done) | (exfalso; omega) | (exfalso; simp_all; done)); simp -implicitDefEqProofs; refine hQ _ _ _ ?_; simp -implicitDefEqProofs [e]; done)
      | (refine hn _ (by simp -implicitDefEqProofs [AC.dsts, aoDsts, updT, slots]) ?_; clear hn hr hQ; (try simp only [decide_eq_true_eq, decide_eq_false_iff_not] at *); first | (simp [-Int.not_lt, -Int.not_le, *, m1]; done) | (exfalso; omega) | (exfalso; simp_all; done))
  simp -implicitDefEqProofs [-Int.not_lt, -Int.not_le, -WP_seq, AC.dsts, aoDsts, updT]
  refine WP_cut (fun f => m2 s = true) (fun Q' hn hr => ?_) (fun f hI => ?_)
  · clear f1 f3 f4 fin5
    cases ho : opC3 s.op
    · simp -implicitDefEqProofs [-Int.not_lt, -Int.not_le]
      repeat' (first | (refine COND_split (fun hb => ?_) (fun hb => ?_) <;> (try simp only [Bool.not_eq_true', Bool.not_eq_true, Bool.not_eq_false, Bool.not_eq_false', Bool.not_true, Bool.not_false, Bool.not_not] at hb) <;> simp -implicitDefEqProofs [-Int.not_lt, -Int.not_le, hb, ho]) | (refine GRD_split (fun hb => ?_) (fun hb => ?_) <;> (try simp only [Bool.not_eq_true', Bool.not_eq_true, Bool.not_eq_false, Bool.not_eq_false', Bool.not_true, Bool.not_false, Bool.not_not] at hb) <;> simp -implicitDefEqProofs [-Int.not_lt, -Int.not_le, hb, ho]) | (refine CALL_pure (sem_hasCon_call s.op) (by simp) (by simp) (by simp [kdAV, cnAV, cnCells_eq, kdCells_eq, strRows, Kd.l, smAV, smCells_eq]) ?_; simp -implicitDefEqProofs [-Int.not_lt, -Int.not_le, ho]) | (refine CALL_pure (hz) (by simp) (by simp) (by simp [kdAV, cnAV, cnCells_eq, kdCells_eq, strRows, Kd.l, smAV, smCells_eq]) ?_; simp -implicitDefEqProofs [-Int.not_lt, -Int.not_le, ho]))
      clear hz
      all_goals first
        | (refine hr _ _ ?_; have e := f2 (by clear hn hr hQ; (try simp only [decide_eq_true_eq, decide_eq_false_iff_not] at *); first | (simp [-Int.not_lt, -Int.not_le, *, m2]; done) | (exfalso; omega) | (exfalso; simp_all; done)); simp -implicitDefEqProofs; refine hQ _ _ _ ?_; simp -implicitDefEqProofs [e]; done)
        | (refine hn _ (by simp -implicitDefEqProofs [AC.dsts, aoDsts, updT, slots]) ?_; clear hn hr hQ; (try simp only [decide_eq_true_eq, decide_eq_false_iff_not] at *); first | (simp [-Int.not_lt, -Int.not_le, *, m2]; done) | (exfalso; omega) | (exfalso; simp_all; done))
    · clear hz
      simp -implicitDefEqProofs [-Int.not_lt, -Int.not_le]
      repeat' (first | (refine COND_split (fun hb => ?_) (fun hb => ?_) <;> (try simp only [Bool.not_eq_true', Bool.not_eq_true, Bool.not_eq_false, Bool.not_eq_false', Bool.not_true, Bool.not_false, Bool.not_not] at hb) <;> simp -implicitDefEqProofs [-Int.not_lt, -Int.not_le, hb, ho]) | (refine GRD_split (fun hb => ?_) (fun hb => ?_) <;> (try simp only [Bool.not_eq_true', Bool.not_eq_true, Bool.not_eq_false, Bool.not_eq_false', Bool.not_true, Bool.not_false, Bool.not_not] at hb) <;> simp -implicitDefEqProofs [-Int.not_lt, -Int.not_le, hb, ho]) | (refine CALL_pure (sem_hasCon_call s.op) (by simp) (by simp) (by simp [kdAV, cnAV, cnCells_eq, kdCells_eq, strRows, Kd.l, smAV, smCells_eq]) ?_; simp -implicitDefEqProofs [-Int.not_lt, -Int.not_le, ho]) | (refine CALL_pure (tycon_Valid_call s.con hc) (by simp) (by simp) (by simp [kdAV, cnAV, cnCells_eq, kdCells_eq, strRows, Kd.l, smAV, smCells_eq]) ?_; simp -implicitDefEqProofs [-Int.not_lt, -Int.not_le, ho]))
      all_goals first
        | (refine hr _ _ ?_; have e := f2 (by clear hn hr hQ; (try simp only [decide_eq_true_eq, decide_eq_false_iff_not] at *); first | (simp [-Int.not_lt, -Int.not_le, *, m2]; done) | (exfalso; omega) | (exfalso; simp_all; done)); simp -implicitDefEqProofs; refine hQ _ _ _ ?_; simp -implicitDefEqProofs [e]; done)
        | (refine hn _ (by simp -implicitDefEqProofs [AC.dsts, aoDsts, updT, slots]) ?_; clear hn hr hQ; (try simp only [decide_eq_true_eq, decide_eq_false_iff_not] at *); first | (simp [-Int.not_lt, -Int.not_le, *, m2]; done) | (exfalso; omega) | (exfalso; simp_all; done))
  simp -implicitDefEqProofs [-Int.not_lt, -Int.not_le, -WP_seq, AC.dsts, aoDsts, updT]
  refine WP_cut (fun f => m3 s = true) (fun Q' hn hr => ?_) (fun f hI => ?_)
  · clear f1 f2 f4 fin5 hz
    simp -implicitDefEqProofs [-Int.not_lt, -Int.not_le]
    repeat' (first | (refine COND_split (fun hb => ?_) (fun hb => ?_) <;> (try simp only [Bool.not_eq_true', Bool.not_eq_true, Bool.not_eq_false, Bool.not_eq_false', Bool.not_true, Bool.not_false, Bool.not_not] at hb) <;> simp -implicitDefEqProofs [-Int.not_lt, -Int.not_le, hb]) | (refine GRD_split (fun hb => ?_) (fun hb => ?_) <;> (try simp only [Bool.not_eq_true', Bool.not_eq_true, Bool.not_eq_false, Bool.not_eq_false', Bool.not_true, Bool.not_false, Bool.not_not] at hb) <;> simp -implicitDefEqProofs [-Int.not_lt, -Int.not_le, hb]) | (refine CALL_pure (kind_Valid_call s.k) (by simp) (by simp) (by simp [kdAV, cnAV, cnCells_eq, kdCells_eq, strRows, Kd.l, smAV, smCells_eq]) ?_; simp -implicitDefEqProofs [-Int.not_lt, -Int.not_le]))
    all_goals first
      | (refine hr _ _ ?_; have e := f3 (by clear hn hr hQ; (try simp only [decide_eq_true_eq, decide_eq_false_iff_not] at *); first | (simp [-Int.not_lt, -Int.not_le, *, m3]; done) | (exfalso; omega) | (exfalso; simp_all; done)); simp -implicitDefEqProofs; refine hQ _ _ _ ?_; simp -implicitDefEqProofs [e]; done)
      | (refine hn _ (by simp -implicitDefEqProofs [AC.dsts, aoDsts, updT, slots]) ?_; clear hn hr hQ; (try simp only [decide_eq_true_eq, decide_eq_false_iff_not] at *); first | (simp [-Int.not_lt, -Int.not_le, *, m3]; done) | (exfalso; omega) | (exfalso; simp_all; done))
  simp -implicitDefEqProofs [-Int.not_lt, -Int.not_le, -WP_seq, AC.dsts, aoDsts, updT]
  refine WP_cut (fun f => m4 s = true) (fun Q' hn hr => ?_) (fun f hI => ?_)
  · clear f1 f2 f3 fin5 hz
    simp -implicitDefEqProofs [-Int.not_lt, -Int.not_le]
    repeat' (first | (refine COND_split (fun hb => ?_) (fun hb => ?_) <;> (try simp only [Bool.not_eq_true', Bool.not_eq_true, Bool.not_eq_false, Bool.not_eq_false', Bool.not_true, Bool.not_false, Bool.not_not] at hb) <;> simp -implicitDefEqProofs [-Int.not_lt, -Int.not_le, hb]) | (refine GRD_split (fun hb => ?_) (fun hb => ?_) <;> (try simp only [Bool.not_eq_true', Bool.not_eq_true, Bool.not_eq_false, Bool.not_eq_false', Bool.not_true, Bool.not_false, Bool.not_not] at hb) <;> simp -implicitDefEqProofs [-Int.not_lt, -Int.not_le, hb]) | (refine CALL_pure (ident_IsUpper_call s.s) (by simp) (by simp) (by simp [kdAV, cnAV, cnCells_eq, kdCells_eq, strRows, Kd.l, smAV, smCells_eq]) ?_; simp -implicitDefEqProofs [-Int.not_lt, -Int.not_le]))
    all_goals first
      | (refine hr _ _ ?_; have e := f4 (by clear hn hr hQ; (try simp only [decide_eq_true_eq, decide_eq_false_iff_not] at *); first | (simp [-Int.not_lt, -Int.not_le, *, m4]; done) | (exfalso; omega) | (exfalso; simp_all; done)); simp -implicitDefEqProofs; refine hQ _ _ _ ?_; simp -implicitDefEqProofs [e]; done)
      | (refine hn _ (by simp -implicitDefEqProofs [AC.dsts, aoDsts, updT, slots]) ?_; clear hn hr hQ; (try simp only [decide_eq_true_eq, decide_eq_false_iff_not] at *); first | (simp [-Int.not_lt, -Int.not_le, *, m4]; done) | (exfalso; omega) | (exfalso; simp_all; done))
  have e := fin5 ‹_› ‹_› ‹_› ‹_›
  clear f1 f2 f3 f4 fin5 hz
  simp -implicitDefEqProofs [-Int.not_lt, -Int.not_le, AC.dsts, aoDsts, updT]
  by_cases h4 : s.op = 4
  · have e4 : nodeM s = (decide (s.n = 0) && (kinds1000 s.ks && decide (s.more = []))) := by rw [e, m5, if_pos h4]
    clear e
    by_cases hn : s.n = 0
    · simp -implicitDefEqProofs [-Int.not_lt, -Int.not_le, h4, hn]
      refine CALL_pure (sem_kinds_call s.ks) (by simp) (by simp) (by simp [kdAV, cnAV, cnCells_eq, kdCells_eq, strRows, Kd.l, smAV, smCells_eq]) ?_
      cases hk : kinds1000 s.ks
      · simp -implicitDefEqProofs [-Int.not_lt, -Int.not_le]
        refine hQ _ _ _ ?_
        simp -implicitDefEqProofs [-Int.not_lt, -Int.not_le, e4, hn, hk]
      · simp -implicitDefEqProofs [-Int.not_lt, -Int.not_le]
        refine hQ _ _ _ ?_
        simp -implicitDefEqProofs [-Int.not_lt, -Int.not_le, e4, hn, hk]
    · simp -implicitDefEqProofs [-Int.not_lt, -Int.not_le, h4, hn]
      refine hQ _ _ _ ?_
      simp -implicitDefEqProofs [-Int.not_lt, -Int.not_le, e4, hn]
  by_cases h6 : s.op = 6
  · have e4 : nodeM s = (kinds1000 s.ks && (kinds1000 s.more && (decide (s.n = 0) || (decide (s.n = 1) && decide (s.more = []))))) := by rw [e, m5, if_neg h4, if_pos h6]
    clear e
    simp -implicitDefEqProofs [-Int.not_lt, -Int.not_le, h6]
    refine CALL_pure (sem_kinds_call s.ks) (by simp) (by simp) (by simp [kdAV, cnAV, cnCells_eq, kdCells_eq, strRows, Kd.l, smAV, smCells_eq]) ?_
    cases hk : kinds1000 s.ks
    · simp -implicitDefEqProofs [-Int.not_lt, -Int.not_le]
      refine hQ _ _ _ ?_
      simp -implicitDefEqProofs [-Int.not_lt, -Int.not_le, e4, hk]
    simp -implicitDefEqProofs [-Int.not_lt, -Int.not_le]
    refine CALL_pure (sem_kinds_call s.more) (by simp) (by simp) (by simp [kdAV, cnAV, cnCells_eq, kdCells_eq, strRows, Kd.l, smAV, smCells_eq]) ?_
    cases hm : kinds1000 s.more
    · simp -implicitDefEqProofs [-Int.not_lt, -Int.not_le]
      refine hQ _ _ _ ?_
      simp -implicitDefEqProofs [-Int.not_lt, -Int.not_le, e4, hk, hm]
    by_cases hn : s.n = 0
    · simp -implicitDefEqProofs [-Int.not_lt, -Int.not_le, hn]
      refine hQ _ _ _ ?_
      simp -implicitDefEqProofs [-Int.not_lt, -Int.not_le, e4, hn, hk, hm]
    by_cases hn1 : s.n = 1
    · simp -implicitDefEqProofs [-Int.not_lt, -Int.not_le, hn1]
      refine hQ _ _ _ ?_
      simp -implicitDefEqProofs [-Int.not_lt, -Int.not_le, e4, hn1, hk, hm]
    · simp -implicitDefEqProofs [-Int.not_lt, -Int.not_le, hn, hn1]
      refine hQ _ _ _ ?_
      simp -implicitDefEqProofs [-Int.not_lt, -Int.not_le, e4, hn, hn1, hk, hm]
  · have e4 : nodeM s = (decide (s.n = 0) && (decide (s.ks = []) && decide (s.more = []))) := by rw [e, m5, if_neg h4, if_neg h6]
    clear e
    by_cases hn : s.n = 0
    case neg =>
      simp -implicitDefEqProofs [-Int.not_lt, -Int.not_le, h4, h6, hn]
      refine hQ _ _ _ ?_
      simp -implicitDefEqProofs [-Int.not_lt, -Int.not_le, e4, hn]
    by_cases hk : s.ks = []
    · simp -implicitDefEqProofs [-Int.not_lt, -Int.not_le, h4, h6, hn, hk]
      refine hQ _ _ _ ?_
      simp -implicitDefEqProofs [-Int.not_lt, -Int.not_le, e4, hn, hk]
    · simp -implicitDefEqProofs [-Int.not_lt, -Int.not_le, h4, h6, hn, hk]
      refine hQ _ _ _ ?_
      simp -implicitDefEqProofs [-Int.not_lt, -Int.not_le, e4, hn, hk]
end Go.Proofs.YtblbepjnkehoaaaGreatDoor
/- Semantic signatures: sizes and well-formedness; both sides. -/
namespace Go.Proofs.YtblbepjnkehoaaaGreatDoor
open Go
attribute [local simp] astep aev putA guardA start AV.cells AV.undef takeCells splice intBin strBin abin AV.isCell loadV fillR fillA
attribute [local simp] fin aRes aResL aRes1 AV.strip stripL stripE AV.inScope scopedL scopedE scopedH
set_option maxRecDepth 10000
set_option linter.unusedSimpArgs false
theorem sem_measure_step (s : Sm) (left depth : Int) (hc : conB s) (hl0 : -1000000 ≤ left) (hl : left ≤ 20000) (hd0 : 0 ≤ depth) (hd : depth ≤ 1000)
    (hrec : ∀ x ∈ s.l, ∀ left depth, -1000000 ≤ left → left ≤ 20000 → 0 ≤ depth → depth ≤ 1000 → HCall Go.Proofs.Tryz.prog i_sem_measure [smAV x, .int .i64 left, .int .i64 depth] [] (okAV (mS x left depth)) []) :
    HCall Go.Proofs.Tryz.prog i_sem_measure [smAV s, .int .i64 left, .int .i64 depth] [] (okAV (mS s left depth)) [] := by
  have hcs := ((conB_eq s).1 hc).1
  have key0 := mS_eq s left depth
  refine HCall.go mixed ok_sem_measure (by simp) fun hfit Q hQ => ?_
  have hf := sm_fits (c := s) (by simpa [fitsL, smAV, AV.fits] using hfit.1)
  have hln : s.l.length ≤ 1073741824 := hf.2.2.2.2.1
  clear hfit hf
  simp -implicitDefEqProofs [c_sem_measure, smAV, smCells_eq s]
  by_cases h1 : left ≤ 0
  · rw [if_pos (.inl h1)] at key0
    simp -implicitDefEqProofs [h1]
    refine hQ _ _ _ ?_
    simp -implicitDefEqProofs [key0, okAV]
  by_cases h2 : 400 < depth
  · rw [if_pos (.inr (.inl h2))] at key0
    simp -implicitDefEqProofs [h1, h2]
    refine hQ _ _ _ ?_
    simp -implicitDefEqProofs [key0, okAV]
  simp -implicitDefEqProofs [h1, h2]
  refine CALL_pure (sem_node_call s hcs) (by simp) (by simp) (by simp [kdAV, cnAV, cnCells_eq, kdCells_eq, strRows, Kd.l, smAV, smCells_eq]) ?_
  cases h3 : nodeM s
  · rw [if_pos (.inr (.inr h3))] at key0
    simp -implicitDefEqProofs
    refine hQ _ _ _ ?_
    simp -implicitDefEqProofs [key0, okAV]
  rw [if_neg (by simp [h1, h2, h3])] at key0
  simp -implicitDefEqProofs
  refine CALL_pure (sem_hasCon_call s.op) (by simp) (by simp) (by simp [kdAV, cnAV, cnCells_eq, kdCells_eq, strRows, Kd.l, smAV, smCells_eq]) ?_
  have hn : ∃ n0 : Int, n0 = 1 + (if opC3 s.op = true then (cnSize s.con : Int) else 0) ∧ 1 ≤ n0 ∧ n0 ≤ 20001 := by
    refine ⟨_, rfl, ?_⟩
    split
    · rename_i ho; have := nodeM_con h3 ho; omega
    · omega
  obtain ⟨n0, hn0, hn1, hn2⟩ := hn
  rw [← hn0] at key0
  have loop : ∀ (b : Bool), opC3 s.op = b → (b = true → n0 = 1 + (cnSize s.con : Int)) ∧ (b = false → n0 = 1) := fun b hb => by
    subst hb; rw [hn0]; constructor <;> intro h <;> simp [h]
  cases ho : opC3 s.op
  case' false => obtain rfl : n0 = 1 := (loop _ ho).2 rfl
  case' true =>
    have hn3 := (loop _ ho).1 rfl
    simp -implicitDefEqProofs
    refine CALL_pure (tycon_Size_call s.con hcs) (by simp) (by simp) (by simp [cnAV, cnCells_eq]) ?_
    simp -implicitDefEqProofs [← hn3, wrap_i64 (n := n0) (by omega) (by omega)]
  case' false => simp -implicitDefEqProofs
  all_goals
    clear loop hn0
    refine WP_loop (AWp.loopI [] (fun n f h G => ∃ (k : Nat) (m : Int), k + n = s.l.length ∧ f 35 = .int .i64 k ∧ f 8 = .int .i64 m ∧ 1 ≤ m ∧ m ≤ 20001 ∧ mSs (s.l.drop k) left depth m = mS s left depth) (s.l.length) (by simp) ⟨0, _, by simp, rfl, rfl, by omega, by omega, by rw [key0]; rfl⟩ ?_)
    rintro n f h G ⟨k, m, hk, h35, h8, hm1, hm2, hs⟩
    refine AWp.run mixed fun Q2 hQ2 => ?_
    simp -implicitDefEqProofs [AC.dsts, aoDsts, updT, updH, h35, h8]
    by_cases hlt : k < s.l.length
    · have hd' := List.drop_eq_getElem_cons hlt
      have hrec := hrec s.l[k] (List.getElem_mem _) (left - m) (depth + 1) (by omega) (by omega) (by omega) (by omega)
      simp -implicitDefEqProofs [hlt, wrap_i64 (n := left - m) (by omega) (by omega), wrap_i64 (n := depth + 1) (by omega) (by omega)]
      refine CALL_pure hrec (by simp) (okAV_scoped _ 0) (by simp [smAV]) ?_
      cases hv : (mS s.l[k] (left - m) (depth + 1)).2
      · have e : mS s left depth = (0, false) := by rw [← hs, hd', mSs, hv]; rfl
        simp -implicitDefEqProofs [okAV, hv]
        refine hQ2 _ _ _ (loop_ret ?_)
        show KR _ _ Q _ _
        simp -implicitDefEqProofs
        refine hQ _ _ _ ?_
        simp -implicitDefEqProofs [e, okAV]
      · have hle := mS_le _ _ _ hv
        simp -implicitDefEqProofs [okAV, hv, wrap_i64 (n := (k : Int) + 1) (by omega) (by omega), wrap_i64 (n := m + (mS s.l[k] (left - m) (depth + 1)).1) (by omega) (by omega)]
        refine hQ2 _ _ _ (loop_next (n - 1) (h) rfl (by omega) (by simp -implicitDefEqProofs [AC.dsts, aoDsts, updT, slots]) ?_)
        refine ⟨k + 1, _, by omega, by simp [slots], by simp [slots]; rfl, by omega, by omega, ?_⟩
        rw [← hs, hd', mSs, if_pos hv]
    · have e : mS s left depth = (m, decide (m ≤ left)) := by rw [← hs, List.drop_eq_nil_of_le (by omega), mSs]
      simp -implicitDefEqProofs [hlt]
      refine hQ2 _ _ _ (loop_exit ?_)
      show KE _ 0 _ Q _ _
      simp -implicitDefEqProofs
      refine hQ _ _ _ ?_
      simp -implicitDefEqProofs [e, okAV]
theorem sem_measure_call (s : Sm) (left depth : Int) (hc : conB s) (hl0 : -1000000 ≤ left) (hl : left ≤ 20000) (hd0 : 0 ≤ depth) (hd : depth ≤ 1000) : HCall Go.Proofs.Tryz.prog i_sem_measure [smAV s, .int .i64 left, .int .i64 depth] [] (okAV (mS s left depth)) [] :=
  sem_measure_step s left depth hc hl0 hl hd0 hd fun x hx left depth h1 h2 h3 h4 => sem_measure_call x left depth (((conB_eq s).1 hc).2 x hx) h1 h2 h3 h4
termination_by SizeOf.sizeOf s
decreasing_by exact Sm.lt_l ‹_›
theorem sem_Size_call (s : Sm) (hc : conB s) : HCall Go.Proofs.Tryz.prog i_sem_Size [smAV s] [] (.int .i64 (sizeM s)) [] := by
  refine HCall.go mixed ok_sem_Size (by simp) fun hfit Q hQ => ?_
  clear hfit
  simp -implicitDefEqProofs [c_sem_Size, smAV]
  refine CALL_pure (sem_measure_call s 20000 1 hc (by omega) (by omega) (by omega) (by omega)) (by simp) (okAV_scoped _ 0) (by simp [smAV]) ?_
  cases h : (mS s 20000 1).2
  · simp -implicitDefEqProofs [okAV, h]
    refine hQ _ _ _ ?_
    simp -implicitDefEqProofs [sizeM, formM, h]
  · simp -implicitDefEqProofs [okAV, h]
    refine hQ _ _ _ ?_
    simp -implicitDefEqProofs [sizeM, formM, h]
theorem sem_formed_call (s : Sm) (hc : conB s) : HCall Go.Proofs.Tryz.prog i_sem_formed [smAV s] [] (.bool (formM s)) [] := by
  refine HCall.go mixed ok_sem_formed (by simp) fun hfit Q hQ => ?_
  clear hfit
  simp -implicitDefEqProofs [c_sem_formed, smAV]
  refine CALL_pure (sem_measure_call s 20000 1 hc (by omega) (by omega) (by omega) (by omega)) (by simp) (okAV_scoped _ 0) (by simp [smAV]) ?_
  simp -implicitDefEqProofs [okAV]
  refine hQ _ _ _ ?_
  simp -implicitDefEqProofs [formM]
end Go.Proofs.YtblbepjnkehoaaaGreatDoor
/- Encodings: signatures and abstract signatures. -/
namespace Go.Proofs.YtblbepjnkehoaaaGreatDoor
open Go
attribute [local simp] astep aev putA guardA start AV.cells AV.undef takeCells splice intBin strBin abin AV.isCell loadV fillR fillA
attribute [local simp] fin aRes aResL aRes1 AV.strip stripL stripE AV.inScope scopedL scopedE scopedH
set_option maxRecDepth 10000
set_option linter.unusedSimpArgs false
theorem encode_Sem_call (hu : UnderOk) (s : Sm) (hc : conB s) : HCall Go.Proofs.Tryz.prog i_encode_Sem [smAV s] [] (cnE (encSem s)) [] := by
  refine HCall.go mixed ok_encode_Sem (by simp) fun hfit Q hQ => ?_
  clear hfit
  have hz := size_zero s
  simp -implicitDefEqProofs [c_encode_Sem, smAV]
  refine CALL_pure (sem_Size_call s hc) (by simp) (by simp) (by simp [kdAV, cnAV, cnCells_eq, kdCells_eq, strRows, Kd.l, smAV, smCells_eq]) ?_
  cases hf : formM s
  · have h0 := hz.2 hf
    simp -implicitDefEqProofs [h0]
    refine hQ _ _ _ ?_
    simp -implicitDefEqProofs [encSem, hf, cnE, cnAV, cnZero_cells]
  · have h0 : ¬ sizeM s = 0 := fun h => by rw [hz.1 h] at hf; cases hf
    have h0' : (sizeM s == 0) = false := by simpa using h0
    simp -implicitDefEqProofs [h0, h0']
    refine CALL_pure (encode_encoded_call hu s hc (form_wf hf)) (by simp) (cnE_scoped _ 0) (by simp [smAV]) ?_
    have e : encSem s = enc s := by rw [encSem, if_pos hf]
    generalize enc s = p at e ⊢
    obtain ⟨c, r⟩ := p
    simp -implicitDefEqProofs [cnE, cnAV]
    refine hQ _ _ _ ?_
    simp -implicitDefEqProofs [e, cnE, cnAV]
theorem encode_abstract_call (hu : UnderOk) (ks : List Kd) (s : Sm) (hc : conB s) (hw : wfM s) (hk : ks.length ≤ 1000) : HCall Go.Proofs.Tryz.prog i_encode_abstract [abAV ks s] [] (cnE (encAb ks s)) [] := by
  refine HCall.go mixed ok_encode_abstract (by simp) fun hfit Q hQ => ?_
  clear hfit
  simp -implicitDefEqProofs [c_encode_abstract, abAV, smCells_eq s]
  refine CALL_pure (encode_encoded_call hu s hc hw) (by simp) (cnE_scoped _ 0) (by simp [smAV, smCells_eq s]) ?_
  have hv := @enc_valid s
  have e : encAb ks s = if (enc s).2 = 0 then chS (around 10 ks (enc s).1) else (cnZero, (enc s).2) := rfl
  generalize enc s = p at e hv ⊢
  obtain ⟨c, r⟩ := p
  simp only at e hv
  simp -implicitDefEqProofs [cnE, cnAV]
  by_cases h0 : r = 0
  case neg =>
    have h0' : (r != 0) = true := by simpa using h0
    rw [if_neg h0] at e
    simp -implicitDefEqProofs [h0', h0]
    refine hQ _ _ _ ?_
    simp -implicitDefEqProofs [e, cnE, cnAV, cnZero_cells]
  subst h0
  rw [if_pos rfl] at e
  have hv := hv rfl
  have hz : cnSize (around 10 ks c) ≤ 1000000000000 := by rw [around_size]; have := valid_size hv; omega
  simp -implicitDefEqProofs
  refine CALL_pure (hu 10 ks c) (by simp) (by simp) (by simp [cnAV]) ?_
  simp -implicitDefEqProofs [cnAV]
  refine CALL_pure (encode_checked_call _ hz) (by simp) (cnE_scoped _ 0) (by simp [cnAV]) ?_
  generalize chS (around 10 ks c) = q at e ⊢
  obtain ⟨c2, e2⟩ := q
  simp -implicitDefEqProofs [cnE, cnAV]
  refine hQ _ _ _ ?_
  simp -implicitDefEqProofs [e, cnE, cnAV]
theorem encode_Abs_call (hu : UnderOk) (ks : List Kd) (s : Sm) (hc : conB s) : HCall Go.Proofs.Tryz.prog i_encode_Abs [abAV ks s] [] (cnE (encAbs ks s)) [] := by
  refine HCall.go mixed ok_encode_Abs (by simp) fun hfit Q hQ => ?_
  clear hfit
  have hz := size_zero s
  simp -implicitDefEqProofs [c_encode_Abs, abAV, smCells_eq s]
  refine CALL_pure (sem_Size_call s hc) (by simp) (by simp) (by simp [smAV, smCells_eq s]) ?_
  cases hf : formM s
  · have h0 := hz.2 hf
    simp -implicitDefEqProofs [h0]
    refine hQ _ _ _ ?_
    simp -implicitDefEqProofs [encAbs, abOk, hf, cnE, cnAV, cnZero_cells]
  have h0 : ¬ sizeM s = 0 := fun h => by rw [hz.1 h] at hf; cases hf
  have h0' : (sizeM s == 0) = false := by simpa using h0
  by_cases hl : ks.length ≤ 1000
  case neg =>
    have hl' : (1000 : Int) < ks.length := by omega
    simp -implicitDefEqProofs [h0, h0', hl']
    refine hQ _ _ _ ?_
    simp -implicitDefEqProofs [encAbs, abOk, kinds1000, hf, hl, cnE, cnAV, cnZero_cells]
  have hl' : ¬ (1000 : Int) < ks.length := by omega
  simp -implicitDefEqProofs [h0, h0', hl']
  refine CALL_pure (encode_kinds_call ks) (by simp) (by simp) (by simp) ?_
  cases hk : ks.all kValid
  · simp -implicitDefEqProofs
    refine hQ _ _ _ ?_
    simp -implicitDefEqProofs [encAbs, abOk, kinds1000, hf, hl, hk, cnE, cnAV, cnZero_cells]
  · simp -implicitDefEqProofs
    refine CALL_pure (encode_abstract_call hu ks s hc (form_wf hf) hl) (by simp [abAV]) (cnE_scoped _ 0) (by simp [abAV, smCells_eq s]) ?_
    have e : encAbs ks s = encAb ks s := by simp [encAbs, abOk, kinds1000, hf, hl, hk]
    generalize encAb ks s = p at e ⊢
    obtain ⟨c, r⟩ := p
    simp -implicitDefEqProofs [cnE, cnAV]
    refine hQ _ _ _ ?_
    simp -implicitDefEqProofs [e, cnE, cnAV]
end Go.Proofs.YtblbepjnkehoaaaGreatDoor
