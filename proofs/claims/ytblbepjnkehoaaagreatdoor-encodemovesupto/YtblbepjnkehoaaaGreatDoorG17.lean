/- Joined: K39. -/
import Derived.Test.YtblbepjnkehoaaaGreatDoorG13
import Derived.Test.YtblbepjnkehoaaaGreatDoorG10
set_option linter.unusedSimpArgs false
set_option linter.unusedVariables false
set_option maxHeartbeats 4000000
/- The law's bounds: how many nodes there are; whatever they answer. -/
namespace Go.Proofs.YtblbepjnkehoaaaGreatDoor
open Go
attribute [local simp] astep aev putA guardA start AV.cells AV.undef takeCells splice intBin strBin abin AV.isCell loadV fillR fillA
attribute [local simp] fin aRes aResL aRes1 AV.strip stripL stripE AV.inScope scopedL scopedE scopedH
set_option maxRecDepth 10000
set_option linter.unusedSimpArgs false
theorem pilasterlaw25_cons_1_call (s : List UInt8) : HCall Go.Proofs.Tryz.prog i_pilasterlaw25_cons_1 [.str s] [] (.bool (decide (200 < (s.length : Int)))) [] := by
  refine HCall.go mixed ok_pilasterlaw25_cons_1 (by simp) fun hfit Q hQ => ?_
  clear hfit
  simp -implicitDefEqProofs [c_pilasterlaw25_cons_1]
  refine hQ _ _ _ ?_
  simp -implicitDefEqProofs
theorem pilasterlaw25_nodes_1_call (s : List UInt8) : HCall Go.Proofs.Tryz.prog i_pilasterlaw25_nodes_1 [.str s] [] (.bool (decide (200 < (s.length : Int)))) [] := by
  refine HCall.go mixed ok_pilasterlaw25_nodes_1 (by simp) fun hfit Q hQ => ?_
  clear hfit
  simp -implicitDefEqProofs [c_pilasterlaw25_nodes_1]
  refine hQ _ _ _ ?_
  simp -implicitDefEqProofs
def longS (s : List UInt8) : Bool := decide (200 < (s.length : Int))
mutual
def cNodes : Cn → Int → Int → Int
  | .mk _ _ s k ns l, most, depth => if 60 < depth ∨ most < ns.length ∨ 200 < (s.length : Int) ∨ ns.any longS = true then most else cNodesG l most depth (IntKind.i64.wrap (IntKind.i64.wrap (1 + kNodes k most depth) + ns.length))
def cNodesG : List Cn → Int → Int → Int → Int
  | [], most, _, n => if most < n then most else n
  | x :: xs, most, depth, n => if most ≤ n then most else cNodesG xs most depth (IntKind.i64.wrap (n + cNodes x (IntKind.i64.wrap (most - n)) (IntKind.i64.wrap (depth + 1))))
end
theorem cNodes_eq (c : Cn) (most depth : Int) : cNodes c most depth = if 60 < depth ∨ most < c.names.length ∨ 200 < (c.s.length : Int) ∨ c.names.any longS = true then most else cNodesG c.l most depth (IntKind.i64.wrap (IntKind.i64.wrap (1 + kNodes c.k most depth) + c.names.length)) := by
  cases c; rw [cNodes]; rfl
theorem pilasterlaw25_cons_step (c : Cn) (most depth : Int)
    (hrec : ∀ x ∈ c.l, ∀ most depth, HCall Go.Proofs.Tryz.prog i_pilasterlaw25_cons [cnAV x, .int .i64 most, .int .i64 depth] [] (.int .i64 (cNodes x most depth)) []) :
    HCall Go.Proofs.Tryz.prog i_pilasterlaw25_cons [cnAV c, .int .i64 most, .int .i64 depth] [] (.int .i64 (cNodes c most depth)) [] := by
  have key0 := cNodes_eq c most depth
  have hany := slices_ContainsFunc_string_call c.names longS i_pilasterlaw25_cons_1 fun x _ => pilasterlaw25_cons_1_call x
  refine HCall.go mixed ok_pilasterlaw25_cons (by simp) fun hfit Q hQ => ?_
  have hf := cn_fits (c := c) (by simpa [fitsL, cnAV, AV.fits] using hfit.1)
  have hln : c.l.length ≤ 1073741824 := hf.2.2.2.2.2.2.2.1
  clear hfit hf
  simp -implicitDefEqProofs [c_pilasterlaw25_cons, cnAV, cnCells_eq c]
  by_cases a1 : 60 < depth
  · rw [if_pos (.inl a1)] at key0
    simp -implicitDefEqProofs [a1]
    refine hQ _ _ _ ?_
    simp -implicitDefEqProofs [key0]
  by_cases a2 : most < c.names.length
  · rw [if_pos (.inr (.inl a2))] at key0
    simp -implicitDefEqProofs [a1, a2, strRows_length]
    refine hQ _ _ _ ?_
    simp -implicitDefEqProofs [key0]
  by_cases a3 : 200 < (c.s.length : Int)
  · rw [if_pos (.inr (.inr (.inl a3)))] at key0
    simp -implicitDefEqProofs [a1, a2, a3, strRows_length]
    refine hQ _ _ _ ?_
    simp -implicitDefEqProofs [key0]
  simp -implicitDefEqProofs [a1, a2, a3, strRows_length]
  refine CALL_pure hany (by simp) (by simp) (by simp [strRows]) ?_
  cases ha : c.names.any longS
  case true =>
    rw [if_pos (.inr (.inr (.inr ha)))] at key0
    simp -implicitDefEqProofs
    refine hQ _ _ _ ?_
    simp -implicitDefEqProofs [key0]
  rw [if_neg (by simp [a1, a2, a3, ha])] at key0
  simp -implicitDefEqProofs
  refine WP_draw (by rfl) ?_
  simp -implicitDefEqProofs
  refine DCALL_pure (pilasterlaw25_kinds_call c.k most depth) (by simp) (by simp) (by simp [kdAV, cnAV, cnCells_eq, kdCells_eq, strRows, Kd.l, smAV, smCells_eq]) ?_
  simp -implicitDefEqProofs [strRows_length]
  obtain ⟨n0, hn0⟩ : ∃ n0, n0 = IntKind.i64.wrap (IntKind.i64.wrap (1 + kNodes c.k most depth) + c.names.length) := ⟨_, rfl⟩
  rw [← hn0] at key0
  rw [← hn0]
  refine WP_loop (AWp.loopI [] (fun n f h G => ∃ (k : Nat) (m : Int), k + n = c.l.length ∧ f 45 = .int .i64 k ∧ f 7 = .int .i64 m ∧ cNodesG (c.l.drop k) most depth m = cNodes c most depth) (c.l.length) (by simp) ⟨0, n0, by simp, rfl, rfl, by rw [key0]; rfl⟩ ?_)
  rintro n f h G ⟨k, m, hk, h45, h7, hs⟩
  refine AWp.run mixed fun Q2 hQ2 => ?_
  simp -implicitDefEqProofs [AC.dsts, aoDsts, updT, updH, h45, h7]
  by_cases hlt : k < c.l.length
  · have hd := List.drop_eq_getElem_cons hlt
    rw [hd, cNodesG] at hs
    simp -implicitDefEqProofs [hlt, cnCells_eq c.l[k]]
    by_cases hb : most ≤ m
    · rw [if_pos hb] at hs
      simp -implicitDefEqProofs [hb]
      refine hQ2 _ _ _ (loop_ret ?_)
      show KR _ _ Q _ _
      simp -implicitDefEqProofs
      refine hQ _ _ _ ?_
      simp -implicitDefEqProofs [hs.symm]
    · rw [if_neg hb] at hs
      simp -implicitDefEqProofs [hb]
      refine CALL_pure (hrec c.l[k] (List.getElem_mem _) (IntKind.i64.wrap (most - m)) (IntKind.i64.wrap (depth + 1))) (by simp) (by simp) (by simp [cnAV, cnCells_eq]) ?_
      simp -implicitDefEqProofs [wrap_i64 (n := (k : Int) + 1) (by omega) (by omega)]
      refine hQ2 _ _ _ (loop_next (n - 1) (h) rfl (by omega) (by simp -implicitDefEqProofs [AC.dsts, aoDsts, updT, slots]) ?_)
      refine ⟨k + 1, _, by omega, by simp [slots], by simp [slots], hs⟩
  · have e : cNodes c most depth = if most < m then most else m := by rw [← hs, List.drop_eq_nil_of_le (by omega), cNodesG]
    simp -implicitDefEqProofs [hlt]
    refine hQ2 _ _ _ (loop_exit ?_)
    show KE _ 0 _ Q _ _
    simp -implicitDefEqProofs
    refine hQ _ _ _ ?_
    simp -implicitDefEqProofs [e]
theorem pilasterlaw25_cons_call (c : Cn) (most depth : Int) : HCall Go.Proofs.Tryz.prog i_pilasterlaw25_cons [cnAV c, .int .i64 most, .int .i64 depth] [] (.int .i64 (cNodes c most depth)) [] :=
  pilasterlaw25_cons_step c most depth fun x _ most depth => pilasterlaw25_cons_call x most depth
termination_by SizeOf.sizeOf c
decreasing_by exact Cn.lt_l ‹_›
mutual
def sNodes : Sm → Int → Int → Int
  | .mk _ _ s c k ks more ns l, most, depth => if 60 < depth ∨ most < ns.length ∨ 200 < (s.length : Int) ∨ ns.any longS = true then most
    else sNodesG l most depth (IntKind.i64.wrap (IntKind.i64.wrap (IntKind.i64.wrap (IntKind.i64.wrap (cNodes c most 1 + ns.length) + kNodes k most 1) + kNodes (.mk ks) most 1) + kNodes (.mk more) most 1))
def sNodesG : List Sm → Int → Int → Int → Int
  | [], most, _, n => if most < n then most else n
  | x :: xs, most, depth, n => if most ≤ n then most else sNodesG xs most depth (IntKind.i64.wrap (n + sNodes x (IntKind.i64.wrap (most - n)) (IntKind.i64.wrap (depth + 1))))
end
theorem sNodes_eq (s : Sm) (most depth : Int) : sNodes s most depth = if 60 < depth ∨ most < s.names.length ∨ 200 < (s.s.length : Int) ∨ s.names.any longS = true then most
    else sNodesG s.l most depth (IntKind.i64.wrap (IntKind.i64.wrap (IntKind.i64.wrap (IntKind.i64.wrap (cNodes s.con most 1 + s.names.length) + kNodes s.k most 1) + kNodes (.mk s.ks) most 1) + kNodes (.mk s.more) most 1)) := by
  cases s; rw [sNodes]; rfl
set_option maxHeartbeats 2000000 in
theorem pilasterlaw25_nodes_step (s : Sm) (most depth : Int)
    (hrec : ∀ x ∈ s.l, ∀ most depth, HCall Go.Proofs.Tryz.prog i_pilasterlaw25_nodes [smAV x, .int .i64 most, .int .i64 depth] [] (.int .i64 (sNodes x most depth)) []) :
    HCall Go.Proofs.Tryz.prog i_pilasterlaw25_nodes [smAV s, .int .i64 most, .int .i64 depth] [] (.int .i64 (sNodes s most depth)) [] := by
  have key0 := sNodes_eq s most depth
  have hany := slices_ContainsFunc_string_call s.names longS i_pilasterlaw25_nodes_1 fun x _ => pilasterlaw25_nodes_1_call x
  refine HCall.go mixed ok_pilasterlaw25_nodes (by simp) fun hfit Q hQ => ?_
  have hf := sm_fits (c := s) (by simpa [fitsL, smAV, AV.fits] using hfit.1)
  have hln : s.l.length ≤ 1073741824 := hf.2.2.2.2.1
  clear hfit hf
  simp -implicitDefEqProofs [c_pilasterlaw25_nodes, smAV, smCells_eq s]
  by_cases a1 : 60 < depth
  · rw [if_pos (.inl a1)] at key0
    simp -implicitDefEqProofs [a1]
    refine hQ _ _ _ ?_
    simp -implicitDefEqProofs [key0]
  by_cases a2 : most < s.names.length
  · rw [if_pos (.inr (.inl a2))] at key0
    simp -implicitDefEqProofs [a1, a2, strRows_length]
    refine hQ _ _ _ ?_
    simp -implicitDefEqProofs [key0]
  by_cases a3 : 200 < (s.s.length : Int)
  · rw [if_pos (.inr (.inr (.inl a3)))] at key0
    simp -implicitDefEqProofs [a1, a2, a3, strRows_length]
    refine hQ _ _ _ ?_
    simp -implicitDefEqProofs [key0]
  simp -implicitDefEqProofs [a1, a2, a3, strRows_length]
  refine CALL_pure hany (by simp) (by simp) (by simp [strRows]) ?_
  cases ha : s.names.any longS
  case true =>
    rw [if_pos (.inr (.inr (.inr ha)))] at key0
    simp -implicitDefEqProofs
    refine hQ _ _ _ ?_
    simp -implicitDefEqProofs [key0]
  rw [if_neg (by simp [a1, a2, a3, ha])] at key0
  simp -implicitDefEqProofs
  refine WP_draw (by rfl) ?_
  simp -implicitDefEqProofs
  refine DCALL_pure (pilasterlaw25_cons_call s.con most 1) (by simp) (by simp) (by simp [cnAV, cnCells_eq]) ?_
  simp -implicitDefEqProofs [strRows_length]
  refine DCALL_pure (pilasterlaw25_kinds_call s.k most 1) (by simp) (by simp) (by simp) ?_
  simp -implicitDefEqProofs [strRows_length]
  refine DCALL_pure (pilasterlaw25_kinds_call (.mk s.ks) most 1) (by simp) (by simp) (by simp [Kd.l_mk]) ?_
  simp -implicitDefEqProofs [strRows_length]
  refine DCALL_pure (pilasterlaw25_kinds_call (.mk s.more) most 1) (by simp) (by simp) (by simp [Kd.l_mk]) ?_
  simp -implicitDefEqProofs [strRows_length]
  obtain ⟨n0, hn0⟩ : ∃ n0, n0 = IntKind.i64.wrap (IntKind.i64.wrap (IntKind.i64.wrap (IntKind.i64.wrap (cNodes s.con most 1 + s.names.length) + kNodes s.k most 1) + kNodes (.mk s.ks) most 1) + kNodes (.mk s.more) most 1) := ⟨_, rfl⟩
  rw [← hn0] at key0
  rw [← hn0]
  refine WP_loop (AWp.loopI [] (fun n f h G => ∃ (k : Nat) (m : Int), k + n = s.l.length ∧ f 58 = .int .i64 k ∧ f 7 = .int .i64 m ∧ sNodesG (s.l.drop k) most depth m = sNodes s most depth) (s.l.length) (by simp) ⟨0, n0, by simp, rfl, rfl, by rw [key0]; rfl⟩ ?_)
  rintro n f h G ⟨k, m, hk, h58, h7, hs⟩
  refine AWp.run mixed fun Q2 hQ2 => ?_
  simp -implicitDefEqProofs [AC.dsts, aoDsts, updT, updH, h58, h7]
  by_cases hlt : k < s.l.length
  · have hd := List.drop_eq_getElem_cons hlt
    rw [hd, sNodesG] at hs
    simp -implicitDefEqProofs [hlt, smCells_eq s.l[k]]
    by_cases hb : most ≤ m
    · rw [if_pos hb] at hs
      simp -implicitDefEqProofs [hb]
      refine hQ2 _ _ _ (loop_ret ?_)
      show KR _ _ Q _ _
      simp -implicitDefEqProofs
      refine hQ _ _ _ ?_
      simp -implicitDefEqProofs [hs.symm]
    · rw [if_neg hb] at hs
      simp -implicitDefEqProofs [hb]
      refine CALL_pure (hrec s.l[k] (List.getElem_mem _) (IntKind.i64.wrap (most - m)) (IntKind.i64.wrap (depth + 1))) (by simp) (by simp) (by simp [smAV, smCells_eq]) ?_
      simp -implicitDefEqProofs [wrap_i64 (n := (k : Int) + 1) (by omega) (by omega)]
      refine hQ2 _ _ _ (loop_next (n - 1) (h) rfl (by omega) (by simp -implicitDefEqProofs [AC.dsts, aoDsts, updT, slots]) ?_)
      refine ⟨k + 1, _, by omega, by simp [slots], by simp [slots], hs⟩
  · have e : sNodes s most depth = if most < m then most else m := by rw [← hs, List.drop_eq_nil_of_le (by omega), sNodesG]
    simp -implicitDefEqProofs [hlt]
    refine hQ2 _ _ _ (loop_exit ?_)
    show KE _ 0 _ Q _ _
    simp -implicitDefEqProofs
    refine hQ _ _ _ ?_
    simp -implicitDefEqProofs [e]
theorem pilasterlaw25_nodes_call (s : Sm) (most depth : Int) : HCall Go.Proofs.Tryz.prog i_pilasterlaw25_nodes [smAV s, .int .i64 most, .int .i64 depth] [] (.int .i64 (sNodes s most depth)) [] :=
  pilasterlaw25_nodes_step s most depth fun x _ most depth => pilasterlaw25_nodes_call x most depth
termination_by SizeOf.sizeOf s
decreasing_by exact Sm.lt_l ‹_›
def smallS (ks : List Kd) (s : Sm) : Bool := decide ((ks.length : Int) ≤ 12) && (decide (kNodes (.mk ks) 60 1 < 60) && decide (sNodes s 200 1 < 200))
theorem pilasterlaw25_small_call (ks : List Kd) (s : Sm) : HCall Go.Proofs.Tryz.prog i_pilasterlaw25_small [abAV ks s] [] (.bool (smallS ks s)) [] := by
  refine HCall.go mixed ok_pilasterlaw25_small (by simp) fun hfit Q hQ => ?_
  clear hfit
  simp -implicitDefEqProofs [c_pilasterlaw25_small, abAV, smCells_eq s]
  by_cases h1 : (ks.length : Int) ≤ 12
  case neg =>
    simp -implicitDefEqProofs [h1]
    refine hQ _ _ _ ?_
    simp -implicitDefEqProofs [smallS, h1]
  simp -implicitDefEqProofs [h1]
  refine CALL_pure (pilasterlaw25_kinds_call (.mk ks) 60 1) (by simp) (by simp) (by simp [Kd.l_mk]) ?_
  by_cases h2 : kNodes (.mk ks) 60 1 < 60
  case neg =>
    simp -implicitDefEqProofs [h2]
    refine hQ _ _ _ ?_
    simp -implicitDefEqProofs [smallS, h1, h2]
  simp -implicitDefEqProofs [h2]
  refine CALL_pure (pilasterlaw25_nodes_call s 200 1) (by simp) (by simp) (by simp [smAV, smCells_eq]) ?_
  simp -implicitDefEqProofs
  refine hQ _ _ _ ?_
  simp -implicitDefEqProofs [smallS, h1, h2]
end Go.Proofs.YtblbepjnkehoaaaGreatDoor
