/- Joined: K37. -/
import Derived.Test.YtblbepjnkehoaaaGreatDoorG13
set_option linter.unusedSimpArgs false
set_option linter.unusedVariables false
set_option maxHeartbeats 4000000
/- Encodings by the reference. -/
namespace Go.Proofs.YtblbepjnkehoaaaGreatDoor
open Go
attribute [local simp] astep aev putA guardA start AV.cells AV.undef takeCells splice intBin strBin abin AV.isCell loadV fillR fillA
attribute [local simp] fin aRes aResL aRes1 AV.strip stripL stripE AV.inScope scopedL scopedE scopedH
set_option maxRecDepth 10000
set_option linter.unusedSimpArgs false
theorem pilasterref25_applied_call (c : Cn) : HCall Go.Proofs.Tryz.prog i_pilasterref25_applied [cnAV c] [] (cnAV (rApp c)) [] := by
  refine HCall.go mixed ok_pilasterref25_applied (by simp) fun hfit Q hQ => ?_
  clear hfit
  simp -implicitDefEqProofs [c_pilasterref25_applied, cnAV]
  refine WP_draw (by rfl) ?_
  simp -implicitDefEqProofs
  refine DCALL_pure (pilasterref09_Var_call 0) (by simp) (by simp) (by simp [kdAV, cnAV, cnCells_eq, kdCells_eq, strRows, Kd.l, smAV, smCells_eq]) ?_
  simp -implicitDefEqProofs [cnAV]
  refine DCALL_pure (pilasterref09_Shift_call c 1 0) (by simp) (by simp) (by simp [kdAV, cnAV, cnCells_eq, kdCells_eq, strRows, Kd.l, smAV, smCells_eq]) ?_
  simp -implicitDefEqProofs [cnAV]
  refine DCALL_pure (pilasterref09_App_call (cnVar 0) (rShift c 1 0)) (by simp) (by simp) (by simp [kdAV, cnAV, cnCells_eq, kdCells_eq, strRows, Kd.l, smAV, smCells_eq]) ?_
  simp -implicitDefEqProofs [cnAV]
  refine hQ _ _ _ ?_
  simp -implicitDefEqProofs [rApp, cnAV]
set_option maxHeartbeats 2000000 in
theorem pilasterref25_Sem_step (s : Sm) (hw : wfM s) (hrec : ∀ x ∈ s.l, HCall Go.Proofs.Tryz.prog i_pilasterref25_Sem [smAV x] [] (cnAV (rSem x)) []) :
    HCall Go.Proofs.Tryz.prog i_pilasterref25_Sem [smAV s] [] (cnAV (rSem s)) [] := by
  have hn := ((wfM_eq s).1 hw).1
  have key0 := rSem_eq s
  refine HCall.go mixed ok_pilasterref25_Sem (by simp) fun hfit Q hQ => ?_
  have hf := sm_fits (c := s) (by simpa [fitsL, smAV, AV.fits] using hfit)
  have hln : s.l.length ≤ 1073741824 := hf.2.2.2.2.1
  clear hfit hf
  by_cases h1 : s.op = 1
  · rw [if_pos h1] at key0
    simp -implicitDefEqProofs [c_pilasterref25_Sem, smAV, smCells_eq s, h1]
    refine hQ _ _ _ ?_
    simp -implicitDefEqProofs [key0, cnAV, cnCells_eq s.con]
  by_cases h2 : s.op = 2
  · rw [if_neg h1, if_pos h2] at key0
    simp -implicitDefEqProofs [c_pilasterref25_Sem, smAV, smCells_eq s, h2]
    refine CALL_pure (pilasterref25_applied_call s.con) (by simp) (by simp) (by simp [kdAV, cnAV, cnCells_eq, kdCells_eq, strRows, Kd.l, smAV, smCells_eq]) ?_
    simp -implicitDefEqProofs [cnAV]
    refine WP_draw (by rfl) ?_
    simp -implicitDefEqProofs
    refine DCALL_pure (pilasterref25_star_call s.k) (by simp) (by simp) (by simp [kdAV, kdCells_eq]) ?_
    simp -implicitDefEqProofs [kdAV]
    refine DCALL_pure (pilasterref09_Arrow_call (rApp s.con) (rApp s.con)) (by simp) (by simp) (by simp [kdAV, cnAV, cnCells_eq, kdCells_eq, strRows, Kd.l, smAV, smCells_eq]) ?_
    simp -implicitDefEqProofs [cnAV]
    refine DCALL_pure (pilasterref09_Bound_call 9 (kPair s.k (.mk [])) (cnOp2 6 (rApp s.con) (rApp s.con))) (by simp) (by simp) (by simp [kdAV, cnAV]) ?_
    simp -implicitDefEqProofs [cnAV]
    refine hQ _ _ _ ?_
    simp -implicitDefEqProofs [key0, cnAV]
  by_cases h3 : s.op = 3
  · rw [if_neg h1, if_neg h2, if_pos h3] at key0
    simp -implicitDefEqProofs [c_pilasterref25_Sem, smAV, smCells_eq s, h3]
    refine CALL_pure (pilasterref09_Unit_call) (by simp) (by simp) (by simp [kdAV, cnAV, cnCells_eq, kdCells_eq, strRows, Kd.l, smAV, smCells_eq]) ?_
    simp -implicitDefEqProofs [cnAV]
    refine hQ _ _ _ ?_
    simp -implicitDefEqProofs [key0, cnAV]
  by_cases h4 : s.op = 4
  · rw [if_neg h1, if_neg h2, if_neg h3, if_pos h4] at key0
    obtain ⟨a, ha⟩ := get1 ((nodeM_shape hn).2.1 h4)
    rw [ha] at key0
    simp only [List.map_cons, List.headD_cons] at key0
    simp -implicitDefEqProofs [c_pilasterref25_Sem, smAV, smCells_eq s, h4, ha]
    refine WP_draw (by rfl) ?_
    simp -implicitDefEqProofs
    refine DCALL_pure (hrec a (by simp [ha])) (by simp) (by simp) (by simp [smAV]) ?_
    simp -implicitDefEqProofs [cnAV]
    refine DCALL_pure (pilasterref25_Around_call 10 s.ks (rSem a)) (by simp) (by simp) (by simp [cnAV]) ?_
    simp -implicitDefEqProofs [cnAV]
    refine CALL_pure (pilasterref09_Arrow_call (around 10 s.ks (rSem a)) (around 10 s.ks (rSem a))) (by simp) (by simp) (by simp [kdAV, cnAV, cnCells_eq, kdCells_eq, strRows, Kd.l, smAV, smCells_eq]) ?_
    simp -implicitDefEqProofs [cnAV]
    refine hQ _ _ _ ?_
    simp -implicitDefEqProofs [key0, cnAV]
  by_cases h6 : s.op = 6
  · rw [if_neg h1, if_neg h2, if_neg h3, if_neg h4, if_pos h6] at key0
    obtain ⟨a, b, ha⟩ := get2 ((nodeM_shape hn).2.2.1 h6)
    rw [ha] at key0
    simp only [List.map_cons, List.headD_cons, List.getD_cons_succ, List.getD_cons_zero] at key0
    simp -implicitDefEqProofs [c_pilasterref25_Sem, smAV, smCells_eq s, h6, ha]
    refine WP_draw (by rfl) ?_
    simp -implicitDefEqProofs
    refine DCALL_pure (hrec a (by simp [ha])) (by simp) (by simp) (by simp [smAV]) ?_
    simp -implicitDefEqProofs [cnAV]
    refine DCALL_pure (hrec b (by simp [ha])) (by simp) (by simp) (by simp [smAV]) ?_
    simp -implicitDefEqProofs [cnAV]
    refine DCALL_pure (pilasterref25_Around_call 10 s.more (rSem b)) (by simp) (by simp) (by simp [cnAV]) ?_
    simp -implicitDefEqProofs [cnAV]
    refine DCALL_pure (pilasterref09_Arrow_call (rSem a) (around 10 s.more (rSem b))) (by simp) (by simp) (by simp [kdAV, cnAV, cnCells_eq, kdCells_eq, strRows, Kd.l, smAV, smCells_eq]) ?_
    simp -implicitDefEqProofs [cnAV]
    refine DCALL_pure (pilasterref25_Around_call 9 s.ks (cnOp2 6 (rSem a) (around 10 s.more (rSem b)))) (by simp) (by simp) (by simp [cnAV]) ?_
    simp -implicitDefEqProofs [cnAV]
    refine hQ _ _ _ ?_
    simp -implicitDefEqProofs [key0, cnAV]
  have h5 : s.op = 5 := by have := (nodeM_shape hn).1; omega
  rw [if_neg h1, if_neg h2, if_neg h3, if_neg h4, if_neg h6] at key0
  obtain ⟨l', hl'⟩ : ∃ l', l' = s.l.map rSem := ⟨_, rfl⟩
  have hlen : l'.length = s.l.length := by rw [hl']; simp
  have hget : ∀ k (h : k < s.l.length) (h' : k < l'.length), l'[k] = rSem s.l[k] := fun k h h' => by simp [hl']
  rw [← hl'] at key0
  clear hl'
  simp -implicitDefEqProofs [c_pilasterref25_Sem, smAV, smCells_eq s, h5]
  refine WP_loop (AWp.loopI [2] (fun n f h G => ∃ (k : Nat) (tok : Tok), k + n = s.l.length ∧ f 6 = .int .i64 k ∧ h 2 = [.int .i64 7, .int .i64 0, .str [], .sl .nilT [], .sl .none (strRows s.names), .sl tok ((l'.map cnCells).take k)] ∧ owns 3 G tok ((l'.map cnCells).take k) 6) (s.l.length) (by simp) ⟨0, .nilT, by simp, rfl, by simp [varsOf], owns_nil _ _ _⟩ ?_)
  rintro n f h G ⟨k, tok, hk, hf6, hh2, hown⟩
  refine AWp.run mixed fun Q2 hQ2 => ?_
  simp -implicitDefEqProofs [AC.dsts, aoDsts, updT, updH, hf6, hh2]
  by_cases hlt : k < s.l.length
  · have hrec := hrec s.l[k] (List.getElem_mem _)
    have hlt' : k < l'.length := by omega
    rw [← hget k hlt hlt'] at hrec
    simp -implicitDefEqProofs [hlt]
    refine WP_draw (by rfl) ?_
    simp -implicitDefEqProofs [hlt]
    refine DCALL_pure hrec (by simp) (by simp) (by simp [smAV]) ?_
    simp -implicitDefEqProofs [cnAV, fillR]
    refine DOPT_append (A := [_, _, _]) hown (by simp [maxL]; omega) (headK_take (headK_map _ _ cnCells_length)) (by simp) fun tok' G' hown' hG' => ?_
    simp -implicitDefEqProofs [wrap_i64 (n := (k : Int) + 1) (by omega) (by omega)]
    refine hQ2 _ _ _ (loop_next (n - 1) (fun _ => [.int .i64 7, .int .i64 0, .str [], .sl .nilT [], .sl .none (strRows s.names), .sl tok' ((l'.map cnCells).take k ++ [cnCells l'[k]])]) rfl (by omega) (by simp -implicitDefEqProofs [AC.dsts, aoDsts, updT, slots]) ?_)
    have e : (l'.map cnCells).take (k + 1) = (l'.map cnCells).take k ++ [cnCells l'[k]] := by
      rw [take_snoc _ _ (by simpa using hlt')]; simp
    refine ⟨k + 1, tok', by omega, by simp [slots], ?_, ?_⟩
    · rw [e]
    · rw [e]; exact hown'
  · have hkl : (l'.map cnCells).take k = l'.map cnCells := List.take_of_length_le (by simp; omega)
    simp -implicitDefEqProofs [hlt]
    refine hQ2 _ _ _ (loop_exit ?_)
    show KE _ 1 _ Q _ _
    simp -implicitDefEqProofs [hkl]
    refine hQ _ _ _ ?_
    simp -implicitDefEqProofs [key0, cnAV, cnCells_mk, Kd.l_mk]
theorem pilasterref25_Sem_call (s : Sm) (hw : wfM s) : HCall Go.Proofs.Tryz.prog i_pilasterref25_Sem [smAV s] [] (cnAV (rSem s)) [] :=
  pilasterref25_Sem_step s hw fun x hx => pilasterref25_Sem_call x (((wfM_eq s).1 hw).2 x hx)
termination_by SizeOf.sizeOf s
decreasing_by exact Sm.lt_l ‹_›
theorem pilasterref25_Abs_call (ks : List Kd) (s : Sm) (hw : wfM s) : HCall Go.Proofs.Tryz.prog i_pilasterref25_Abs [abAV ks s] [] (cnAV (around 10 ks (rSem s))) [] := by
  refine HCall.go mixed ok_pilasterref25_Abs (by simp) fun hfit Q hQ => ?_
  clear hfit
  simp -implicitDefEqProofs [c_pilasterref25_Abs, abAV, smCells_eq s]
  refine WP_draw (by rfl) ?_
  simp -implicitDefEqProofs
  refine DCALL_pure (pilasterref25_Sem_call s hw) (by simp) (by simp) (by simp [smAV, smCells_eq s]) ?_
  simp -implicitDefEqProofs [cnAV]
  refine DCALL_pure (pilasterref25_Around_call 10 ks (rSem s)) (by simp) (by simp) (by simp [cnAV]) ?_
  simp -implicitDefEqProofs [cnAV]
  refine hQ _ _ _ ?_
  simp -implicitDefEqProofs [cnAV]
end Go.Proofs.YtblbepjnkehoaaaGreatDoor
