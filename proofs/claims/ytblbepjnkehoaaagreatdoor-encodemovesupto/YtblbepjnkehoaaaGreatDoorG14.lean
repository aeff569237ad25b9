/- Joined: K33 K34. -/
import Derived.Test.YtblbepjnkehoaaaGreatDoorG11
import Derived.Test.YtblbepjnkehoaaaGreatDoorG12
set_option linter.unusedSimpArgs false
set_option linter.unusedVariables false
set_option maxHeartbeats 4000000
/- Semantic signatures: the reference's nodes. -/
namespace Go.Proofs.YtblbepjnkehoaaaGreatDoor
open Go
attribute [local simp] astep aev putA guardA start AV.cells AV.undef takeCells splice intBin strBin abin AV.isCell loadV fillR fillA
attribute [local simp] fin aRes aResL aRes1 AV.strip stripL stripE AV.inScope scopedL scopedE scopedH
set_option maxRecDepth 10000
set_option linter.unusedSimpArgs false
attribute [local simp] beq_dec bne_dec
set_option maxHeartbeats 16000000 in
theorem pilasterref24_node_call (s : Sm) : HCall Go.Proofs.Tryz.prog i_pilasterref24_node [smAV s] [] (.bool (nodeM s)) [] := by
  have key := nodeM_ref s
  refine HCall.go mixed ok_pilasterref24_node (by simp) fun hfit Q hQ => ?_
  have hf := sm_fits (c := s) (by simpa [fitsL, smAV, AV.fits] using hfit)
  have hln : s.l.length ≤ 1073741824 := hf.2.2.2.2.1
  have hnn : s.names.length ≤ 1073741824 := hf.2.2.2.1
  clear hfit hf
  have f1 : q1 s = false → nodeM s = false := fun h => by rw [key, h]; rfl
  have f2 : q2 s = false → nodeM s = false := fun h => by rw [key, h]; simp
  have f3 : m3 s = false → nodeM s = false := fun h => by rw [key, h]; simp
  have f4 : m4 s = false → nodeM s = false := fun h => by rw [key, h]; simp
  have f5 : q5 s = false → nodeM s = false := fun h => by rw [key, h]; simp
  have f6 : q6 s = false → nodeM s = false := fun h => by rw [key, h]; simp
  have fin7 : q1 s = true → q2 s = true → m3 s = true → m4 s = true → q5 s = true → q6 s = true → nodeM s = q7 s := fun h1 h2 h3 h4 h5 h6 => by rw [key, h1, h2, h3, h4, h5, h6]; simp
  clear key
  simp -implicitDefEqProofs [-Int.not_lt, -Int.not_le, -WP_seq, c_pilasterref24_node, smAV, smCells_eq s]
  rw [WP_seq]
  simp -implicitDefEqProofs [-Int.not_lt, -Int.not_le, -WP_seq]
  refine WP_cut (fun f => q1 s = true) (fun Q' hn hr => ?_) (fun f hI => ?_)
  · clear f2 f3 f4 f5 f6 fin7
    simp -implicitDefEqProofs [-Int.not_lt, -Int.not_le]
    repeat' (first | (refine COND_split (fun hb => ?_) (fun hb => ?_) <;> (try simp only [Bool.not_eq_true', Bool.not_eq_true, Bool.not_eq_false, Bool.not_eq_false', Bool.not_true, Bool.not_false, Bool.not_not] at hb) <;> simp -implicitDefEqProofs [-Int.not_lt, -Int.not_le, hb]) | (refine GRD_split (fun hb => ?_) (fun hb => ?_) <;> (try simp only [Bool.not_eq_true', Bool.not_eq_true, Bool.not_eq_false, Bool.not_eq_false', Bool.not_true, Bool.not_false, Bool.not_not] at hb) <;> simp -implicitDefEqProofs [-Int.not_lt, -Int.not_le, hb]))
    all_goals first
      | (refine hr _ _ ?_; have e := f1 (by clear hn hr hQ; (try simp only [decide_eq_true_eq, decide_eq_false_iff_not] at *); first | (simp [-Int.not_lt, -Int.not_le, *, q1]; done) | (exfalso; omega) | (exfalso; simp_all; done)); simp -implicitDefEqProofs; refine hQ _ _ _ ?_; simp -implicitDefEqProofs [e]; done)
      | (refine hn _ (by simp -implicitDefEqProofs [AC.dsts, aoDsts, updT, slots]) ?_; clear hn hr hQ; (try simp only [decide_eq_true_eq, decide_eq_false_iff_not] at *); first | (simp [-Int.not_lt, -Int.not_le, *, q1]; done) | (exfalso; omega) | (exfalso; simp_all; done))
  simp -implicitDefEqProofs [-Int.not_lt, -Int.not_le, -WP_seq, AC.dsts, aoDsts, updT]
  refine WP_cut (fun f => q2 s = true) (fun Q' hn hr => ?_) (fun f hI => ?_)
  · clear f1 f3 f4 f5 f6 fin7
    cases ho : opC3 s.op <;> cases hc : noCon s.con
    all_goals
      simp -implicitDefEqProofs [-Int.not_lt, -Int.not_le]
      refine WP_draw (by rfl) ?_
      simp -implicitDefEqProofs [-Int.not_lt, -Int.not_le]
      refine DCALL_pure (pilasterref24_HasCon_call s.op) (by simp) (by simp) (by simp) ?_
      simp -implicitDefEqProofs [-Int.not_lt, -Int.not_le, ho]
      refine DCALL_pure (pilasterref24_NoCon_call s.con) (by simp) (by simp) (by simp [cnAV, cnCells_eq]) ?_
      simp -implicitDefEqProofs [-Int.not_lt, -Int.not_le, hc, ho]
    · all_goals first
        | (refine hr _ _ ?_; have e := f2 (by clear hn hr hQ; (try simp only [decide_eq_true_eq, decide_eq_false_iff_not] at *); first | (simp [-Int.not_lt, -Int.not_le, *, q2, ho, hc]; done) | (exfalso; omega) | (exfalso; simp_all; done)); simp -implicitDefEqProofs; refine hQ _ _ _ ?_; simp -implicitDefEqProofs [e]; done)
        | (refine hn _ (by simp -implicitDefEqProofs [AC.dsts, aoDsts, updT, slots]) ?_; clear hn hr hQ; (try simp only [decide_eq_true_eq, decide_eq_false_iff_not] at *); first | (simp [-Int.not_lt, -Int.not_le, *, q2, ho, hc]; done) | (exfalso; omega) | (exfalso; simp_all; done))
    · refine DCALL_pure (pilasterref24_HasCon_call s.op) (by simp) (by simp) (by simp) ?_
      simp -implicitDefEqProofs [-Int.not_lt, -Int.not_le, ho]
      all_goals first
        | (refine hr _ _ ?_; have e := f2 (by clear hn hr hQ; (try simp only [decide_eq_true_eq, decide_eq_false_iff_not] at *); first | (simp [-Int.not_lt, -Int.not_le, *, q2, ho, hc]; done) | (exfalso; omega) | (exfalso; simp_all; done)); simp -implicitDefEqProofs; refine hQ _ _ _ ?_; simp -implicitDefEqProofs [e]; done)
        | (refine hn _ (by simp -implicitDefEqProofs [AC.dsts, aoDsts, updT, slots]) ?_; clear hn hr hQ; (try simp only [decide_eq_true_eq, decide_eq_false_iff_not] at *); first | (simp [-Int.not_lt, -Int.not_le, *, q2, ho, hc]; done) | (exfalso; omega) | (exfalso; simp_all; done))
    · refine DCALL_pure (pilasterref24_HasCon_call s.op) (by simp) (by simp) (by simp) ?_
      simp -implicitDefEqProofs [-Int.not_lt, -Int.not_le, ho]
      refine DCALL_pure (pilasterref09_Valid_call s.con) (by simp) (by simp) (by simp [cnAV, cnCells_eq]) ?_
      cases hv : cnValid s.con
      · simp -implicitDefEqProofs [-Int.not_lt, -Int.not_le]
        all_goals first
          | (refine hr _ _ ?_; have e := f2 (by clear hn hr hQ; (try simp only [decide_eq_true_eq, decide_eq_false_iff_not] at *); first | (simp [-Int.not_lt, -Int.not_le, *, q2, ho, hc, hv]; done) | (exfalso; omega) | (exfalso; simp_all; done)); simp -implicitDefEqProofs; refine hQ _ _ _ ?_; simp -implicitDefEqProofs [e]; done)
          | (refine hn _ (by simp -implicitDefEqProofs [AC.dsts, aoDsts, updT, slots]) ?_; clear hn hr hQ; (try simp only [decide_eq_true_eq, decide_eq_false_iff_not] at *); first | (simp [-Int.not_lt, -Int.not_le, *, q2, ho, hc, hv]; done) | (exfalso; omega) | (exfalso; simp_all; done))
      · simp -implicitDefEqProofs [-Int.not_lt, -Int.not_le]
        all_goals first
          | (refine hr _ _ ?_; have e := f2 (by clear hn hr hQ; (try simp only [decide_eq_true_eq, decide_eq_false_iff_not] at *); first | (simp [-Int.not_lt, -Int.not_le, *, q2, ho, hc, hv]; done) | (exfalso; omega) | (exfalso; simp_all; done)); simp -implicitDefEqProofs; refine hQ _ _ _ ?_; simp -implicitDefEqProofs [e]; done)
          | (refine hn _ (by simp -implicitDefEqProofs [AC.dsts, aoDsts, updT, slots]) ?_; clear hn hr hQ; (try simp only [decide_eq_true_eq, decide_eq_false_iff_not] at *); first | (simp [-Int.not_lt, -Int.not_le, *, q2, ho, hc, hv]; done) | (exfalso; omega) | (exfalso; simp_all; done))
    · all_goals first
        | (refine hr _ _ ?_; have e := f2 (by clear hn hr hQ; (try simp only [decide_eq_true_eq, decide_eq_false_iff_not] at *); first | (simp [-Int.not_lt, -Int.not_le, *, q2, ho, hc]; done) | (exfalso; omega) | (exfalso; simp_all; done)); simp -implicitDefEqProofs; refine hQ _ _ _ ?_; simp -implicitDefEqProofs [e]; done)
        | (refine hn _ (by simp -implicitDefEqProofs [AC.dsts, aoDsts, updT, slots]) ?_; clear hn hr hQ; (try simp only [decide_eq_true_eq, decide_eq_false_iff_not] at *); first | (simp [-Int.not_lt, -Int.not_le, *, q2, ho, hc]; done) | (exfalso; omega) | (exfalso; simp_all; done))
  simp -implicitDefEqProofs [-Int.not_lt, -Int.not_le, -WP_seq, AC.dsts, aoDsts, updT]
  refine WP_cut (fun f => m3 s = true) (fun Q' hn hr => ?_) (fun f hI => ?_)
  · clear f1 f2 f4 f5 f6 fin7
    simp -implicitDefEqProofs [-Int.not_lt, -Int.not_le]
    repeat' (first | (refine COND_split (fun hb => ?_) (fun hb => ?_) <;> (try simp only [Bool.not_eq_true', Bool.not_eq_true, Bool.not_eq_false, Bool.not_eq_false', Bool.not_true, Bool.not_false, Bool.not_not] at hb) <;> simp -implicitDefEqProofs [-Int.not_lt, -Int.not_le, hb]) | (refine GRD_split (fun hb => ?_) (fun hb => ?_) <;> (try simp only [Bool.not_eq_true', Bool.not_eq_true, Bool.not_eq_false, Bool.not_eq_false', Bool.not_true, Bool.not_false, Bool.not_not] at hb) <;> simp -implicitDefEqProofs [-Int.not_lt, -Int.not_le, hb]) | (refine CALL_pure (pilasterref08_Valid_call s.k) (by simp) (by simp) (by simp [kdAV, cnAV, cnCells_eq, kdCells_eq, strRows, Kd.l, smAV, smCells_eq]) ?_; simp -implicitDefEqProofs [-Int.not_lt, -Int.not_le]))
    all_goals first
      | (refine hr _ _ ?_; have e := f3 (by clear hn hr hQ; (try simp only [decide_eq_true_eq, decide_eq_false_iff_not] at *); first | (simp [-Int.not_lt, -Int.not_le, *, m3]; done) | (exfalso; omega) | (exfalso; simp_all; done)); simp -implicitDefEqProofs; refine hQ _ _ _ ?_; simp -implicitDefEqProofs [e]; done)
      | (refine hn _ (by simp -implicitDefEqProofs [AC.dsts, aoDsts, updT, slots]) ?_; clear hn hr hQ; (try simp only [decide_eq_true_eq, decide_eq_false_iff_not] at *); first | (simp [-Int.not_lt, -Int.not_le, *, m3]; done) | (exfalso; omega) | (exfalso; simp_all; done))
  simp -implicitDefEqProofs [-Int.not_lt, -Int.not_le, -WP_seq, AC.dsts, aoDsts, updT]
  refine WP_cut (fun f => m4 s = true) (fun Q' hn hr => ?_) (fun f hI => ?_)
  · clear f1 f2 f3 f5 f6 fin7
    simp -implicitDefEqProofs [-Int.not_lt, -Int.not_le]
    repeat' (first | (refine COND_split (fun hb => ?_) (fun hb => ?_) <;> (try simp only [Bool.not_eq_true', Bool.not_eq_true, Bool.not_eq_false, Bool.not_eq_false', Bool.not_true, Bool.not_false, Bool.not_not] at hb) <;> simp -implicitDefEqProofs [-Int.not_lt, -Int.not_le, hb]) | (refine GRD_split (fun hb => ?_) (fun hb => ?_) <;> (try simp only [Bool.not_eq_true', Bool.not_eq_true, Bool.not_eq_false, Bool.not_eq_false', Bool.not_true, Bool.not_false, Bool.not_not] at hb) <;> simp -implicitDefEqProofs [-Int.not_lt, -Int.not_le, hb]) | (refine CALL_pure (pilasterref01_IsUpper_call s.s) (by simp) (by simp) (by simp [kdAV, cnAV, cnCells_eq, kdCells_eq, strRows, Kd.l, smAV, smCells_eq]) ?_; simp -implicitDefEqProofs [-Int.not_lt, -Int.not_le]))
    all_goals first
      | (refine hr _ _ ?_; have e := f4 (by clear hn hr hQ; (try simp only [decide_eq_true_eq, decide_eq_false_iff_not] at *); first | (simp [-Int.not_lt, -Int.not_le, *, m4]; done) | (exfalso; omega) | (exfalso; simp_all; done)); simp -implicitDefEqProofs; refine hQ _ _ _ ?_; simp -implicitDefEqProofs [e]; done)
      | (refine hn _ (by simp -implicitDefEqProofs [AC.dsts, aoDsts, updT, slots]) ?_; clear hn hr hQ; (try simp only [decide_eq_true_eq, decide_eq_false_iff_not] at *); first | (simp [-Int.not_lt, -Int.not_le, *, m4]; done) | (exfalso; omega) | (exfalso; simp_all; done))
  simp -implicitDefEqProofs [-Int.not_lt, -Int.not_le, -WP_seq, AC.dsts, aoDsts, updT]
  refine WP_cut (fun f => q5 s = true) (fun Q' hn hr => ?_) (fun f hI => ?_)
  · clear f1 f2 f3 f4 f6 fin7
    simp -implicitDefEqProofs [-Int.not_lt, -Int.not_le]
    refine CALL_pure (pilasterref24_kinds_call s.ks) (by simp) (by simp) (by simp [kdAV, cnAV, cnCells_eq, kdCells_eq, strRows, Kd.l, smAV, smCells_eq]) ?_
    cases hk1 : kinds1000 s.ks
    · simp -implicitDefEqProofs [-Int.not_lt, -Int.not_le]
      all_goals first
        | (refine hr _ _ ?_; have e := f5 (by clear hn hr hQ; (try simp only [decide_eq_true_eq, decide_eq_false_iff_not] at *); first | (simp [-Int.not_lt, -Int.not_le, *, q5, hk1]; done) | (exfalso; omega) | (exfalso; simp_all; done)); simp -implicitDefEqProofs; refine hQ _ _ _ ?_; simp -implicitDefEqProofs [e]; done)
        | (refine hn _ (by simp -implicitDefEqProofs [AC.dsts, aoDsts, updT, slots]) ?_; clear hn hr hQ; (try simp only [decide_eq_true_eq, decide_eq_false_iff_not] at *); first | (simp [-Int.not_lt, -Int.not_le, *, q5, hk1]; done) | (exfalso; omega) | (exfalso; simp_all; done))
    simp -implicitDefEqProofs [-Int.not_lt, -Int.not_le]
    refine CALL_pure (pilasterref24_kinds_call s.more) (by simp) (by simp) (by simp [kdAV, cnAV, cnCells_eq, kdCells_eq, strRows, Kd.l, smAV, smCells_eq]) ?_
    cases hk2 : kinds1000 s.more
    · simp -implicitDefEqProofs [-Int.not_lt, -Int.not_le]
      all_goals first
        | (refine hr _ _ ?_; have e := f5 (by clear hn hr hQ; (try simp only [decide_eq_true_eq, decide_eq_false_iff_not] at *); first | (simp [-Int.not_lt, -Int.not_le, *, q5, hk1, hk2]; done) | (exfalso; omega) | (exfalso; simp_all; done)); simp -implicitDefEqProofs; refine hQ _ _ _ ?_; simp -implicitDefEqProofs [e]; done)
        | (refine hn _ (by simp -implicitDefEqProofs [AC.dsts, aoDsts, updT, slots]) ?_; clear hn hr hQ; (try simp only [decide_eq_true_eq, decide_eq_false_iff_not] at *); first | (simp [-Int.not_lt, -Int.not_le, *, q5, hk1, hk2]; done) | (exfalso; omega) | (exfalso; simp_all; done))
    · simp -implicitDefEqProofs [-Int.not_lt, -Int.not_le]
      repeat' (first | (refine COND_split (fun hb => ?_) (fun hb => ?_) <;> (try simp only [Bool.not_eq_true', Bool.not_eq_true, Bool.not_eq_false, Bool.not_eq_false', Bool.not_true, Bool.not_false, Bool.not_not] at hb) <;> simp -implicitDefEqProofs [-Int.not_lt, -Int.not_le, hb]) | (refine GRD_split (fun hb => ?_) (fun hb => ?_) <;> (try simp only [Bool.not_eq_true', Bool.not_eq_true, Bool.not_eq_false, Bool.not_eq_false', Bool.not_true, Bool.not_false, Bool.not_not] at hb) <;> simp -implicitDefEqProofs [-Int.not_lt, -Int.not_le, hb]))
      all_goals first
        | (refine hr _ _ ?_; have e := f5 (by clear hn hr hQ; (try simp only [decide_eq_true_eq, decide_eq_false_iff_not] at *); first | (simp [-Int.not_lt, -Int.not_le, *, q5, hk1, hk2]; done) | (exfalso; omega) | (exfalso; simp_all; done)); simp -implicitDefEqProofs; refine hQ _ _ _ ?_; simp -implicitDefEqProofs [e]; done)
        | (refine hn _ (by simp -implicitDefEqProofs [AC.dsts, aoDsts, updT, slots]) ?_; clear hn hr hQ; (try simp only [decide_eq_true_eq, decide_eq_false_iff_not] at *); first | (simp [-Int.not_lt, -Int.not_le, *, q5, hk1, hk2]; done) | (exfalso; omega) | (exfalso; simp_all; done))
  simp -implicitDefEqProofs [-Int.not_lt, -Int.not_le, -WP_seq, AC.dsts, aoDsts, updT]
  refine WP_cut (fun f => q6 s = true) (fun Q' hn hr => ?_) (fun f hI => ?_)
  · clear f1 f2 f3 f4 f5 fin7
    simp -implicitDefEqProofs [-Int.not_lt, -Int.not_le, strRows_length]
    repeat' (first | (refine COND_split (fun hb => ?_) (fun hb => ?_) <;> (try simp only [Bool.not_eq_true', Bool.not_eq_true, Bool.not_eq_false, Bool.not_eq_false', Bool.not_true, Bool.not_false, Bool.not_not] at hb) <;> simp -implicitDefEqProofs [-Int.not_lt, -Int.not_le, hb, strRows_length]) | (refine GRD_split (fun hb => ?_) (fun hb => ?_) <;> (try simp only [Bool.not_eq_true', Bool.not_eq_true, Bool.not_eq_false, Bool.not_eq_false', Bool.not_true, Bool.not_false, Bool.not_not] at hb) <;> simp -implicitDefEqProofs [-Int.not_lt, -Int.not_le, hb, strRows_length]))
    all_goals first
      | (refine hr _ _ ?_; have e := f6 (by clear hn hr hQ; (try simp only [decide_eq_true_eq, decide_eq_false_iff_not] at *); first | (simp [-Int.not_lt, -Int.not_le, *, q6]; done) | (exfalso; omega) | (exfalso; simp_all; done)); simp -implicitDefEqProofs; refine hQ _ _ _ ?_; simp -implicitDefEqProofs [e]; done)
      | (refine hn _ (by simp -implicitDefEqProofs [AC.dsts, aoDsts, updT, slots]) ?_; clear hn hr hQ; (try simp only [decide_eq_true_eq, decide_eq_false_iff_not] at *); first | (simp [-Int.not_lt, -Int.not_le, *, q6]; done) | (exfalso; omega) | (exfalso; simp_all; done))
  have e := fin7 ‹_› ‹_› ‹_› ‹_› ‹_› ‹_›
  clear f1 f2 f3 f4 f5 f6 fin7
  simp -implicitDefEqProofs [-Int.not_lt, -Int.not_le, AC.dsts, aoDsts, updT]
  by_cases h4 : s.op = 4
  · have e4 : nodeM s = (match s.l with | [a] => opM a.op | _ => false) := by rw [e, q7, if_pos h4]; rfl
    clear e
    simp -implicitDefEqProofs [-Int.not_lt, -Int.not_le, h4]
    by_cases hl : s.l.length = 1
    · obtain ⟨a, ha⟩ := get1 hl
      rw [ha] at e4
      simp only at e4
      simp -implicitDefEqProofs [-Int.not_lt, -Int.not_le, ha]
      refine CALL_pure (pilasterref24_Module_call a) (by simp) (by simp) (by simp [smAV]) ?_
      simp -implicitDefEqProofs [-Int.not_lt, -Int.not_le]
      refine hQ _ _ _ ?_
      simp -implicitDefEqProofs [-Int.not_lt, -Int.not_le, e4]
    · have hl' : ¬ (s.l.length : Int) = 1 := by omega
      have e5 : nodeM s = false := by
        rw [e4]
        rcases hs : s.l with _ | ⟨a, _ | ⟨b, r⟩⟩
        · rfl
        · rw [hs] at hl; simp at hl
        · rfl
      simp -implicitDefEqProofs [-Int.not_lt, -Int.not_le, hl', hl]
      refine hQ _ _ _ ?_
      simp -implicitDefEqProofs [-Int.not_lt, -Int.not_le, e5]
  by_cases h6 : s.op = 6
  · have e4 : nodeM s = (match s.l with | [a, b] => opM a.op && opM b.op | _ => false) := by rw [e, q7, if_neg h4, if_pos h6]; rfl
    clear e
    simp -implicitDefEqProofs [-Int.not_lt, -Int.not_le, h6]
    by_cases hl : s.l.length = 2
    · obtain ⟨a, b, ha⟩ := get2 hl
      rw [ha] at e4
      simp only at e4
      simp -implicitDefEqProofs [-Int.not_lt, -Int.not_le, ha]
      refine CALL_pure (pilasterref24_Module_call a) (by simp) (by simp) (by simp [smAV]) ?_
      cases hm : opM a.op
      · simp -implicitDefEqProofs [-Int.not_lt, -Int.not_le]
        refine hQ _ _ _ ?_
        simp -implicitDefEqProofs [-Int.not_lt, -Int.not_le, e4, hm]
      · simp -implicitDefEqProofs [-Int.not_lt, -Int.not_le]
        refine CALL_pure (pilasterref24_Module_call b) (by simp) (by simp) (by simp [smAV]) ?_
        simp -implicitDefEqProofs [-Int.not_lt, -Int.not_le]
        refine hQ _ _ _ ?_
        simp -implicitDefEqProofs [-Int.not_lt, -Int.not_le, e4, hm]
    · have hl' : ¬ (s.l.length : Int) = 2 := by omega
      have e5 : nodeM s = false := by
        rw [e4]
        rcases hs : s.l with _ | ⟨a, _ | ⟨b, _ | ⟨c, r⟩⟩⟩
        · rfl
        · rfl
        · rw [hs] at hl; simp at hl
        · rfl
      simp -implicitDefEqProofs [-Int.not_lt, -Int.not_le, hl', hl]
      refine hQ _ _ _ ?_
      simp -implicitDefEqProofs [-Int.not_lt, -Int.not_le, e5]
  by_cases h5 : s.op = 5
  · have e4 : nodeM s = (decide (s.names.length ≤ 1000) && (asc s.names && eqBy fitsM s.names s.l)) := by rw [e, q7, if_neg h4, if_neg h6, if_pos h5]
    clear e
    by_cases hb : s.names.length ≤ 1000
    case neg =>
      have hb' : (1000 : Int) < s.names.length := by omega
      have e5 : nodeM s = false := by rw [e4]; simp [hb]
      simp -implicitDefEqProofs [-Int.not_lt, -Int.not_le, h5, strRows_length, hb']
      refine hQ _ _ _ ?_
      simp -implicitDefEqProofs [-Int.not_lt, -Int.not_le, e5]
    have hb' : ¬ (1000 : Int) < s.names.length := by omega
    by_cases ha : s.l.length = s.names.length
    case neg =>
      have ha' : ¬ (s.l.length : Int) = s.names.length := by omega
      have e5 : nodeM s = false := by rw [e4, eqBy_len _ _ _ (by omega)]; simp
      simp -implicitDefEqProofs [-Int.not_lt, -Int.not_le, h5, strRows_length, hb', ha, ha']
      refine hQ _ _ _ ?_
      simp -implicitDefEqProofs [-Int.not_lt, -Int.not_le, e5]
    simp -implicitDefEqProofs [-Int.not_lt, -Int.not_le, h5, strRows_length, hb', ha]
    refine CALL_pure (pilasterref01_Ascending_call s.names) (by simp) (by simp) (by simp [kdAV, cnAV, cnCells_eq, kdCells_eq, strRows, Kd.l, smAV, smCells_eq]) ?_
    cases hc : asc s.names
    · have e5 : nodeM s = false := by rw [e4, hc]; simp
      simp -implicitDefEqProofs [-Int.not_lt, -Int.not_le]
      refine hQ _ _ _ ?_
      simp -implicitDefEqProofs [-Int.not_lt, -Int.not_le, e5]
    have key2 : nodeM s = eqBy fitsM s.names s.l := by rw [e4, hc]; simp [hb]
    simp -implicitDefEqProofs [-Int.not_lt, -Int.not_le]
    refine WP_loop (AWp.loopI [] (fun n f h G => ∃ k : Nat, k + n = s.l.length ∧ f 3 = .int .i64 k ∧ eqBy fitsM (s.names.drop k) (s.l.drop k) = nodeM s) (s.l.length) (by simp) ⟨0, by simp, rfl, by rw [key2]; rfl⟩ ?_)
    rintro n f h G ⟨k, hk, h3, hs⟩
    refine AWp.run mixed fun Q2 hQ2 => ?_
    simp -implicitDefEqProofs [-Int.not_lt, -Int.not_le, AC.dsts, aoDsts, updT, updH, h3]
    by_cases hlt : k < s.l.length
    · have hlt2 : k < s.names.length := by omega
      have hd := List.drop_eq_getElem_cons hlt
      have hd2 := List.drop_eq_getElem_cons hlt2
      have hg : ∀ h : k < (strRows s.names).length, (strRows s.names)[k] = [.str s.names[k]] := fun h => by
        have := strRows_get s.names k hlt2
        rw [List.getElem?_eq_getElem h] at this
        exact Option.some.inj this
      simp -implicitDefEqProofs [-Int.not_lt, -Int.not_le, hlt]
      refine WP_draw (by rfl) ?_
      simp -implicitDefEqProofs [-Int.not_lt, -Int.not_le, hg, hlt2, strRows_length]
      refine DCALL_pure (pilasterref01_IsLabel_call s.names[k]) (by rfl) (by rfl) (by rfl) ?_
      cases hl : isLabel s.names[k]
      · have hv : fitsM s.names[k] s.l[k] = false := by
          cases hv : fitsM s.names[k] s.l[k]
          · rfl
          · rw [fitsM_label hv] at hl; cases hl
        have e5 : nodeM s = false := by rw [← hs, hd, hd2]; simp [eqBy, hv]
        simp -implicitDefEqProofs [-Int.not_lt, -Int.not_le]
        refine hQ2 _ _ _ (loop_ret ?_)
        show KR _ _ Q _ _
        simp -implicitDefEqProofs [-Int.not_lt, -Int.not_le]
        refine hQ _ _ _ ?_
        simp -implicitDefEqProofs [-Int.not_lt, -Int.not_le, e5]
      simp -implicitDefEqProofs [-Int.not_lt, -Int.not_le, hg, hlt2, hlt, strRows_length]
      refine DCALL_pure (pilasterref24_Fits_call s.names[k] s.l[k]) (by simp) (by simp) (by simp [smAV]) ?_
      cases hv : fitsM s.names[k] s.l[k]
      · have e5 : nodeM s = false := by rw [← hs, hd, hd2]; simp [eqBy, hv]
        simp -implicitDefEqProofs [-Int.not_lt, -Int.not_le]
        refine hQ2 _ _ _ (loop_ret ?_)
        show KR _ _ Q _ _
        simp -implicitDefEqProofs [-Int.not_lt, -Int.not_le]
        refine hQ _ _ _ ?_
        simp -implicitDefEqProofs [-Int.not_lt, -Int.not_le, e5]
      · simp -implicitDefEqProofs [-Int.not_lt, -Int.not_le, wrap_i64 (n := (k : Int) + 1) (by omega) (by omega)]
        refine hQ2 _ _ _ (loop_next (n - 1) (h) rfl (by omega) (by simp -implicitDefEqProofs [AC.dsts, aoDsts, updT, slots]) ?_)
        refine ⟨k + 1, by omega, by simp [slots], ?_⟩
        rw [← hs, hd, hd2]; simp [eqBy, hv]
    · have e5 : nodeM s = true := by rw [← hs, List.drop_eq_nil_of_le (by omega), List.drop_eq_nil_of_le (by omega)]; simp [eqBy]
      simp -implicitDefEqProofs [-Int.not_lt, -Int.not_le, hlt]
      refine hQ2 _ _ _ (loop_exit ?_)
      show KE _ 1 _ Q _ _
      simp -implicitDefEqProofs [-Int.not_lt, -Int.not_le]
      refine hQ _ _ _ ?_
      simp -implicitDefEqProofs [-Int.not_lt, -Int.not_le, e5]
  · have e4 : nodeM s = decide (s.l = []) := by rw [e, q7, if_neg h4, if_neg h6, if_neg h5]
    clear e
    simp -implicitDefEqProofs [-Int.not_lt, -Int.not_le, h4, h5, h6]
    refine hQ _ _ _ ?_
    simp -implicitDefEqProofs [-Int.not_lt, -Int.not_le, e4]
end Go.Proofs.YtblbepjnkehoaaaGreatDoor
/- Semantic signatures: the reference's count. -/
namespace Go.Proofs.YtblbepjnkehoaaaGreatDoor
open Go
attribute [local simp] astep aev putA guardA start AV.cells AV.undef takeCells splice intBin strBin abin AV.isCell loadV fillR fillA
attribute [local simp] fin aRes aResL aRes1 AV.strip stripL stripE AV.inScope scopedL scopedE scopedH
set_option maxRecDepth 10000
set_option linter.unusedSimpArgs false
theorem pilasterref24_count_step (s : Sm) (left d : Int) (hc : conB s) (hl0 : -1000000 ≤ left) (hl : left ≤ 20000) (hd0 : -1000 ≤ d) (hd : d ≤ 400)
    (hrec : ∀ x ∈ s.l, ∀ left d, -1000000 ≤ left → left ≤ 20000 → -1000 ≤ d → d ≤ 400 → HCall Go.Proofs.Tryz.prog i_pilasterref24_count [smAV x, .int .i64 left, .int .i64 d] [] (.int .i64 (cS x left d)) []) :
    HCall Go.Proofs.Tryz.prog i_pilasterref24_count [smAV s, .int .i64 left, .int .i64 d] [] (.int .i64 (cS s left d)) [] := by
  have hcs := ((conB_eq s).1 hc).1
  have key0 := cS_eq s left d
  refine HCall.go mixed ok_pilasterref24_count (by simp) fun hfit Q hQ => ?_
  have hf := sm_fits (c := s) (by simpa [fitsL, smAV, AV.fits] using hfit.1)
  have hln : s.l.length ≤ 1073741824 := hf.2.2.2.2.1
  clear hfit hf
  simp -implicitDefEqProofs [c_pilasterref24_count, smAV, smCells_eq s]
  by_cases h1 : left < 1
  · rw [if_pos (.inl h1)] at key0
    simp -implicitDefEqProofs [h1]
    refine hQ _ _ _ ?_
    simp -implicitDefEqProofs [key0]
  by_cases h2 : d < 1
  · rw [if_pos (.inr (.inl h2))] at key0
    simp -implicitDefEqProofs [h1, h2]
    refine hQ _ _ _ ?_
    simp -implicitDefEqProofs [key0]
  simp -implicitDefEqProofs [h1, h2]
  refine CALL_pure (pilasterref24_node_call s) (by simp) (by simp) (by simp [kdAV, cnAV, cnCells_eq, kdCells_eq, strRows, Kd.l, smAV, smCells_eq]) ?_
  cases h3 : nodeM s
  · rw [if_pos (.inr (.inr h3))] at key0
    simp -implicitDefEqProofs
    refine hQ _ _ _ ?_
    simp -implicitDefEqProofs [key0]
  rw [if_neg (by simp [h1, h2, h3])] at key0
  simp -implicitDefEqProofs [wrap_i64 (n := left - 1) (by omega) (by omega)]
  refine CALL_pure (pilasterref24_HasCon_call s.op) (by simp) (by simp) (by simp [kdAV, cnAV, cnCells_eq, kdCells_eq, strRows, Kd.l, smAV, smCells_eq]) ?_
  have hn : ∃ n0 : Int, n0 = left - 1 - (if opC3 s.op = true then (cnSize s.con : Int) else 0) ∧ -20001 ≤ n0 ∧ n0 ≤ 20000 := by
    refine ⟨_, rfl, ?_⟩
    split
    · rename_i ho; have := nodeM_con h3 ho; omega
    · omega
  obtain ⟨n0, hn0, hn1, hn2⟩ := hn
  rw [← hn0] at key0
  have loop : ∀ (b : Bool), opC3 s.op = b → (b = true → n0 = left - 1 - (cnSize s.con : Int)) ∧ (b = false → n0 = left - 1) := fun b hb => by
    subst hb; rw [hn0]; constructor <;> intro h <;> simp [h]
  cases ho : opC3 s.op
  case' false =>
    have hn3 := (loop _ ho).2 rfl
    simp -implicitDefEqProofs [← hn3]
  case' true =>
    have hn3 := (loop _ ho).1 rfl
    simp -implicitDefEqProofs
    refine CALL_pure (pilasterref09_Size_call s.con hcs) (by simp) (by simp) (by simp [cnAV, cnCells_eq]) ?_
    simp -implicitDefEqProofs [← hn3, wrap_i64 (n := n0) (by omega) (by omega)]
  all_goals
    clear loop hn0 hn3
    refine WP_loop (AWp.loopI [] (fun n f h G => ∃ (k : Nat) (m : Int), k + n = s.l.length ∧ f 7 = .int .i64 k ∧ f 1 = .int .i64 m ∧ -20001 ≤ m ∧ m ≤ 20000 ∧ cSs (s.l.drop k) m d = cS s left d) (s.l.length) (by simp) ⟨0, _, by simp, rfl, rfl, by omega, by omega, by rw [key0]; rfl⟩ ?_)
    rintro n f h G ⟨k, m, hk, h7, h1', hm1, hm2, hs⟩
    refine AWp.run mixed fun Q2 hQ2 => ?_
    simp -implicitDefEqProofs [AC.dsts, aoDsts, updT, updH, h7, h1']
    by_cases hlt : k < s.l.length
    · have hd' := List.drop_eq_getElem_cons hlt
      by_cases hm : 0 ≤ m
      · have hrec := hrec s.l[k] (List.getElem_mem _) m (d - 1) (by omega) (by omega) (by omega) (by omega)
        have hge := cS_ge s.l[k] m (d - 1)
        simp -implicitDefEqProofs [hlt, hm, wrap_i64 (n := d - 1) (by omega) (by omega)]
        refine CALL_pure hrec (by simp) (by simp) (by simp [smAV]) ?_
        simp -implicitDefEqProofs [wrap_i64 (n := (k : Int) + 1) (by omega) (by omega)]
        refine hQ2 _ _ _ (loop_next (n - 1) (h) rfl (by omega) (by simp -implicitDefEqProofs [AC.dsts, aoDsts, updT, slots]) ?_)
        refine ⟨k + 1, _, by omega, by simp [slots], by simp [slots]; rfl, by omega, by omega, ?_⟩
        rw [← hs, hd', cSs, if_pos hm]
      · have e : cS s left d = m := by rw [← hs, cSs_neg (by omega)]
        simp -implicitDefEqProofs [hlt, hm]
        refine hQ2 _ _ _ (loop_exit ?_)
        show KE _ 0 _ Q _ _
        simp -implicitDefEqProofs
        refine hQ _ _ _ ?_
        simp -implicitDefEqProofs [e]
    · have e : cS s left d = m := by rw [← hs, List.drop_eq_nil_of_le (by omega), cSs]
      simp -implicitDefEqProofs [hlt]
      refine hQ2 _ _ _ (loop_exit ?_)
      show KE _ 0 _ Q _ _
      simp -implicitDefEqProofs
      refine hQ _ _ _ ?_
      simp -implicitDefEqProofs [e]
theorem pilasterref24_count_call (s : Sm) (left d : Int) (hc : conB s) (hl0 : -1000000 ≤ left) (hl : left ≤ 20000) (hd0 : -1000 ≤ d) (hd : d ≤ 400) : HCall Go.Proofs.Tryz.prog i_pilasterref24_count [smAV s, .int .i64 left, .int .i64 d] [] (.int .i64 (cS s left d)) [] :=
  pilasterref24_count_step s left d hc hl0 hl hd0 hd fun x hx left d h1 h2 h3 h4 => pilasterref24_count_call x left d (((conB_eq s).1 hc).2 x hx) h1 h2 h3 h4
termination_by SizeOf.sizeOf s
decreasing_by exact Sm.lt_l ‹_›
theorem pilasterref24_Formed_call (s : Sm) (hc : conB s) : HCall Go.Proofs.Tryz.prog i_pilasterref24_Formed [smAV s] [] (.bool (formM s)) [] := by
  have key := cS_form s
  refine HCall.go mixed ok_pilasterref24_Formed (by simp) fun hfit Q hQ => ?_
  clear hfit
  simp -implicitDefEqProofs [c_pilasterref24_Formed, smAV]
  refine CALL_pure (pilasterref24_count_call s 20000 400 hc (by omega) (by omega) (by omega) (by omega)) (by simp) (by simp) (by simp [smAV]) ?_
  simp -implicitDefEqProofs
  refine hQ _ _ _ ?_
  simp -implicitDefEqProofs [key]
end Go.Proofs.YtblbepjnkehoaaaGreatDoor
