/- The statement EncodeMoves, tied to the program's text: for all arguments of bulk at most 1048576 together the call returns true, and each argument reads afterwards as it read before.
   Conditions: the bound on the arguments' bulk; the listed package-level variables hold at the start what the program's text lays (the card's tie is given). Nothing else is assumed.
   How: as for EncodeSems (abstract codes, checked by the kernel, run on abstract values; each function's contract is proved over them); slices.Grow is walked by the kit's walk; the plain law, that encodings go through shifting and substituting, is proved by induction over signatures. -/
import Derived.Test.YtblbepjnkehoaaaGreatDoorG18
import Derived.Test.YtblbepjnkehoaaaGreatDoorY02
import Derived.Test.YtblbepjnkehoaaaGreatDoorRows
import Derived.Test.YtblbepjnkehoaaaGreatDoorG05
import Derived.Deep.DeepHandedRow
import Derived.Deep.DeepWitnessRowRef
import Derived.Lib.LaidIn
import Derived.Lib.LaidTab
import Derived.Stop.LaidErr
import Derived.ProofKit
import Derived.Test.YtblbepjnkehoaaaGreatDoorG13
import Derived.Test.YtblbepjnkehoaaaGreatDoorCards
import Derived.Test.YtblbepjnkehoaaaGreatDoorTie
import Derived.Test.YtblbepjnkehoaaaGreatDoorG20
import Derived.OpenShut
import Derived.WideKeyArgs
import Derived.Shelf.Vars
import Derived.Test.YtblbepjnkehoaaaGreatDoorG22
import Derived.Test.YtblbepjnkehoaaaGreatDoorY00
import Derived.Test.YtblbepjnkehoaaaGreatDoorG06
import Derived.Test.YtblbepjnkehoaaaGreatDoorG07
import Derived.Test.YtblbepjnkehoaaaGreatDoorG08
set_option linter.unusedSimpArgs false
set_option linter.unusedVariables false
set_option maxHeartbeats 4000000
/- EncodeMoves: the walk; it answers true. -/
namespace Go.Proofs.YtblbepjnkehoaaaGreatDoor
open Go
theorem finS_conB {p : Sm × Int} (h : conB p.1) : conB (finS p).1 := by
  unfold finS; split
  · exact conB_zero
  · exact h
theorem shM_conB {s : Sm} {d fr : Int} (h3 : 0 ≤ fr) : conB (shM s d fr).1 := by
  unfold shM; split
  · exact conB_zero
  · rename_i hf
    have hf : formM s = true := by simpa using hf
    exact finS_conB (rbS_conB _ s 0 400 (form_tame hf) (by omega) (by omega) fun c k _ _ _ => by have := shS_size (c := c) (d := d) (fr := fr + k); omega)
theorem suS_conB {s : Sm} {l : List Cn} : conB (suS s l).1 := by
  unfold suS; split
  · exact conB_zero
  · rename_i hf
    split
    · exact conB_zero
    · have hf : formM s = true := by
        cases e : formM s
        · exact absurd (.inl e) hf
        · rfl
      exact finS_conB (rbS_conB _ s 0 400 (form_tame hf) (by omega) (by omega) fun c k hv _ _ => by
        have := sb_size l c k
        have := valid_size hv
        show cnSize (sb l c k).1 ≤ _
        omega)
theorem encSem_no {s : Sm} (h : (encSem s).2 ≠ 0) : (encSem s).1 = cnZero := by
  unfold encSem at h ⊢
  split
  · rename_i hf
    rw [if_pos hf, enc_ref s (form_wf hf)] at h
    rw [enc_ref s (form_wf hf)]
    unfold okS at h ⊢
    split
    · rename_i hv; rw [if_pos hv] at h; exact absurd rfl h
    · rfl
  · rfl
theorem encSem_size {s : Sm} : cnSize (encSem s).1 ≤ 1000000000000 := by
  by_cases h : (encSem s).2 = 0
  · obtain ⟨_, _, hv⟩ := encSem_ok (s := s) (c := (encSem s).1) (by rw [← h])
    have := valid_size hv; omega
  · rw [encSem_no h]; decide
attribute [local simp] astep aev putA guardA start AV.cells AV.undef takeCells splice intBin strBin abin AV.isCell loadV fillR fillA
attribute [local simp] fin aRes aResL aRes1 AV.strip stripL stripE AV.inScope scopedL scopedE scopedH
set_option maxRecDepth 10000
set_option linter.unusedSimpArgs false
attribute [local simp] beq_dec bne_dec
theorem EncodeMoves_1_call (c : Cn) : HCall Go.Proofs.Tryz.prog i_pilasterlaw25_EncodeMoves_1 [cnAV c] [] (.bool (decide (40 ≤ cNodes c 40 1))) [] := by
  refine HCall.go mixed ok_pilasterlaw25_EncodeMoves_1 (by simp) fun hfit Q hQ => ?_
  clear hfit
  simp -implicitDefEqProofs [-Int.not_lt, -Int.not_le, c_pilasterlaw25_EncodeMoves_1, cnAV]
  refine CALL_pure (pilasterlaw25_cons_call c 40 1) (by simp) (by simp) (by simp [kdAV, cnAV, cnCells_eq, kdCells_eq, strRows, Kd.l, smAV, smCells_eq]) ?_
  simp -implicitDefEqProofs [-Int.not_lt, -Int.not_le]
  refine hQ _ _ _ ?_
  simp -implicitDefEqProofs [-Int.not_lt, -Int.not_le]
set_option maxHeartbeats 4000000 in
theorem EncodeMoves_of (hu : UnderOk) (ha : AwakeOk) (s : Sm) (b' fr : Int) (l : List Cn) (hc : conB s) (hz : ∀ x ∈ l, cnSize x ≤ 1000000000000) (hb0 : 0 ≤ b') (hb1 : b' ≤ 255) (hf0 : 0 ≤ fr) (hf1 : fr ≤ 255) :
    HCall Go.Proofs.Tryz.prog i_pilasterlaw25_EncodeMoves [smAV s, .int .u8 b', .int .u8 fr, .sl .none (l.map cnCells)] [] (.bool true) [] := by
  have hany := slices_ContainsFunc_Con_call l (fun c => decide (40 ≤ cNodes c 40 1)) i_pilasterlaw25_EncodeMoves_1 fun x _ => EncodeMoves_1_call x
  generalize l.any (fun c => decide (40 ≤ cNodes c 40 1)) = anyv at hany
  have c1 := encode_Sem_call hu s hc
  have hno := encSem_no (s := s)
  have hsz := encSem_size (s := s)
  have hw1 : IntKind.i64.wrap b' = b' := wrap_i64 (by omega) (by omega)
  have hw2 : IntKind.i64.wrap fr = fr := wrap_i64 (by omega) (by omega)
  obtain ⟨D, hD⟩ : ∃ D, D = b'.tmod 9 := ⟨_, rfl⟩
  obtain ⟨FR, hFR⟩ : ∃ FR, FR = fr.tmod 5 := ⟨_, rfl⟩
  have hD0 : 0 ≤ D ∧ D ≤ 255 := by rw [hD, Int.tmod_eq_emod_of_nonneg hb0]; omega
  have hF0 : 0 ≤ FR ∧ FR ≤ 255 := by rw [hFR, Int.tmod_eq_emod_of_nonneg hf0]; omega
  obtain ⟨p, hp⟩ : ∃ p, p = encSem s := ⟨_, rfl⟩
  rw [← hp] at c1 hno hsz
  obtain ⟨c, e⟩ := p
  have cA := sem_Shift_call s D FR hc hD0.1 (by omega) hF0.1 (by omega)
  have cB := tycon_Shift_call c D FR hsz hD0.1 (by omega) hF0.1 (by omega)
  have cC := sem_Subst_call s l hc hz
  have cD := tycon_Subst_call c l hsz hz
  have eA := shM_conB (s := s) (d := D) (fr := FR) hF0.1
  have eC := suS_conB (s := s) (l := l)
  generalize sNodes s 200 1 = nn at *
  have hn := pilasterlaw25_nodes_call s 200 1
  generalize sNodes s 200 1 = nn at hn
  refine HCall.go mixed ok_pilasterlaw25_EncodeMoves (by simp) fun hfit Q hQ => ?_
  clear hfit
  simp -implicitDefEqProofs [-Int.not_lt, -Int.not_le, c_pilasterlaw25_EncodeMoves, smAV, smCells_eq s]
  refine CALL_pure ha (by simp) (by simp) (by simp) ?_
  simp -implicitDefEqProofs [-Int.not_lt, -Int.not_le]
  refine CALL_pure hn (by simp) (by simp) (by simp [smAV, smCells_eq s]) ?_
  by_cases g1 : 200 ≤ nn
  · simp -implicitDefEqProofs [-Int.not_lt, -Int.not_le, g1]
    refine CALL_pure ha (by simp) (by simp) (by simp) ?_
    simp -implicitDefEqProofs [-Int.not_lt, -Int.not_le]
    refine hQ _ _ _ ?_
    simp -implicitDefEqProofs [-Int.not_lt, -Int.not_le]
  by_cases g2 : (4 : Int) < (l.length : Int)
  · simp -implicitDefEqProofs [-Int.not_lt, -Int.not_le, g1, g2]
    refine CALL_pure ha (by simp) (by simp) (by simp) ?_
    simp -implicitDefEqProofs [-Int.not_lt, -Int.not_le]
    refine hQ _ _ _ ?_
    simp -implicitDefEqProofs [-Int.not_lt, -Int.not_le]
  simp -implicitDefEqProofs [-Int.not_lt, -Int.not_le, g1, g2]
  refine CALL_pure hany (by simp) (by simp) (by simp) ?_
  cases anyv
  case true =>
    simp -implicitDefEqProofs [-Int.not_lt, -Int.not_le]
    refine CALL_pure ha (by simp) (by simp) (by simp) ?_
    simp -implicitDefEqProofs [-Int.not_lt, -Int.not_le]
    refine hQ _ _ _ ?_
    simp -implicitDefEqProofs [-Int.not_lt, -Int.not_le]
  simp -implicitDefEqProofs [-Int.not_lt, -Int.not_le]
  refine CALL_pure c1 (by simp) (cnE_scoped _ 0) (by simp [smAV, smCells_eq s]) ?_
  simp -implicitDefEqProofs [-Int.not_lt, -Int.not_le, cnE, cnAV, cnCells_eq c]
  by_cases he : e = 0
  case neg =>
    have he' : (e != 0) = true := by simpa using he
    have z1 : cnEq c cnZero = true := by rw [show c = cnZero from hno he]; exact cnEq_refl _
    simp -implicitDefEqProofs [-Int.not_lt, -Int.not_le, he', he]
    refine CALL_pure (pilasterlaw25_none_call c) (by simp) (by simp) (by simp [cnAV, cnCells_eq c]) ?_
    simp -implicitDefEqProofs [-Int.not_lt, -Int.not_le, z1]
    refine hQ _ _ _ ?_
    simp -implicitDefEqProofs [-Int.not_lt, -Int.not_le]
  simp -implicitDefEqProofs [-Int.not_lt, -Int.not_le, he, hw1, hw2, hD.symm, hFR.symm]
  obtain ⟨pa, hpa⟩ : ∃ p, p = shM s D FR := ⟨_, rfl⟩
  obtain ⟨pb, hpb⟩ : ∃ p, p = shS c D FR := ⟨_, rfl⟩
  rw [← hpa] at cA eA
  rw [← hpb] at cB
  obtain ⟨a, fa⟩ := pa
  obtain ⟨b, gb⟩ := pb
  refine CALL_pure cA (by simp) (smE_scoped _ 0) (by simp [smAV, smCells_eq s]) ?_
  simp -implicitDefEqProofs [-Int.not_lt, -Int.not_le, smE, smAV, smCells_eq a, hw1, hw2, hD.symm, hFR.symm]
  refine CALL_pure cB (by simp) (cnE_scoped _ 0) (by simp [cnAV, cnCells_eq c]) ?_
  simp -implicitDefEqProofs [-Int.not_lt, -Int.not_le, cnE, cnAV, cnCells_eq b]
  obtain ⟨pc, hpc⟩ : ∃ p, p = suS s l := ⟨_, rfl⟩
  obtain ⟨pd, hpd⟩ : ∃ p, p = suM c l := ⟨_, rfl⟩
  rw [← hpc] at cC eC
  rw [← hpd] at cD
  obtain ⟨a2, fa2⟩ := pc
  obtain ⟨b2, gb2⟩ := pd
  by_cases q1 : fa = 0
  · by_cases q2 : gb = 0
    · have e3 : encSem a = (b, 0) := moves_shift (s := s) (a := a) (c := c) (b := b) hD0.1 (by omega) hF0.1 (by rw [← hp, he]) (by rw [← hpa, q1]) (by rw [← hpb, q2])
      have c3 := encode_Sem_call hu a eA
      rw [e3] at c3
      simp -implicitDefEqProofs [-Int.not_lt, -Int.not_le, q1, q2]
      refine CALL_pure c3 (by simp) (cnE_scoped _ 0) (by simp [smAV, smCells_eq a]) ?_
      simp -implicitDefEqProofs [-Int.not_lt, -Int.not_le, cnE, cnAV, cnCells_eq b]
      refine CALL_pure (pilasterref09_Same_call b b) (by simp) (by simp) (by simp [cnAV, cnCells_eq b]) ?_
      simp -implicitDefEqProofs [-Int.not_lt, -Int.not_le, cnEq_refl b]
      refine CALL_pure cC (by simp) (smE_scoped _ 0) (by simp [smAV, smCells_eq s]) ?_
      simp -implicitDefEqProofs [-Int.not_lt, -Int.not_le, smE, smAV, smCells_eq a2]
      refine CALL_pure cD (by simp) (cnE_scoped _ 0) (by simp [cnAV, cnCells_eq c]) ?_
      simp -implicitDefEqProofs [-Int.not_lt, -Int.not_le, cnE, cnAV, cnCells_eq b2]
      by_cases r1 : fa2 = 0
      · by_cases r2 : gb2 = 0
        · have e4 : encSem a2 = (b2, 0) := moves_subst (s := s) (a := a2) (c := c) (b := b2) (l := l) (by rw [← hp, he]) (by rw [← hpc, r1]) (by rw [← hpd, r2])
          have c4 := encode_Sem_call hu a2 eC
          rw [e4] at c4
          simp -implicitDefEqProofs [-Int.not_lt, -Int.not_le, r1, r2]
          refine CALL_pure c4 (by simp) (cnE_scoped _ 0) (by simp [smAV, smCells_eq a2]) ?_
          simp -implicitDefEqProofs [-Int.not_lt, -Int.not_le, cnE, cnAV, cnCells_eq b2]
          refine CALL_pure (pilasterref09_Same_call b2 b2) (by simp) (by simp) (by simp [cnAV, cnCells_eq b2]) ?_
          simp -implicitDefEqProofs [-Int.not_lt, -Int.not_le, cnEq_refl b2]
          refine hQ _ _ _ ?_
          simp -implicitDefEqProofs [-Int.not_lt, -Int.not_le]
        · simp -implicitDefEqProofs [-Int.not_lt, -Int.not_le, r1, r2]
          refine hQ _ _ _ ?_
          simp -implicitDefEqProofs [-Int.not_lt, -Int.not_le]
      · simp -implicitDefEqProofs [-Int.not_lt, -Int.not_le, r1]
        refine hQ _ _ _ ?_
        simp -implicitDefEqProofs [-Int.not_lt, -Int.not_le]
    · simp -implicitDefEqProofs [-Int.not_lt, -Int.not_le, q1, q2]
      refine CALL_pure cC (by simp) (smE_scoped _ 0) (by simp [smAV, smCells_eq s]) ?_
      simp -implicitDefEqProofs [-Int.not_lt, -Int.not_le, smE, smAV, smCells_eq a2]
      refine CALL_pure cD (by simp) (cnE_scoped _ 0) (by simp [cnAV, cnCells_eq c]) ?_
      simp -implicitDefEqProofs [-Int.not_lt, -Int.not_le, cnE, cnAV, cnCells_eq b2]
      by_cases r1 : fa2 = 0
      · by_cases r2 : gb2 = 0
        · have e4 : encSem a2 = (b2, 0) := moves_subst (s := s) (a := a2) (c := c) (b := b2) (l := l) (by rw [← hp, he]) (by rw [← hpc, r1]) (by rw [← hpd, r2])
          have c4 := encode_Sem_call hu a2 eC
          rw [e4] at c4
          simp -implicitDefEqProofs [-Int.not_lt, -Int.not_le, r1, r2]
          refine CALL_pure c4 (by simp) (cnE_scoped _ 0) (by simp [smAV, smCells_eq a2]) ?_
          simp -implicitDefEqProofs [-Int.not_lt, -Int.not_le, cnE, cnAV, cnCells_eq b2]
          refine CALL_pure (pilasterref09_Same_call b2 b2) (by simp) (by simp) (by simp [cnAV, cnCells_eq b2]) ?_
          simp -implicitDefEqProofs [-Int.not_lt, -Int.not_le, cnEq_refl b2]
          refine hQ _ _ _ ?_
          simp -implicitDefEqProofs [-Int.not_lt, -Int.not_le]
        · simp -implicitDefEqProofs [-Int.not_lt, -Int.not_le, r1, r2]
          refine hQ _ _ _ ?_
          simp -implicitDefEqProofs [-Int.not_lt, -Int.not_le]
      · simp -implicitDefEqProofs [-Int.not_lt, -Int.not_le, r1]
        refine hQ _ _ _ ?_
        simp -implicitDefEqProofs [-Int.not_lt, -Int.not_le]
  · simp -implicitDefEqProofs [-Int.not_lt, -Int.not_le, q1]
    refine CALL_pure cC (by simp) (smE_scoped _ 0) (by simp [smAV, smCells_eq s]) ?_
    simp -implicitDefEqProofs [-Int.not_lt, -Int.not_le, smE, smAV, smCells_eq a2]
    refine CALL_pure cD (by simp) (cnE_scoped _ 0) (by simp [cnAV, cnCells_eq c]) ?_
    simp -implicitDefEqProofs [-Int.not_lt, -Int.not_le, cnE, cnAV, cnCells_eq b2]
    by_cases r1 : fa2 = 0
    · by_cases r2 : gb2 = 0
      · have e4 : encSem a2 = (b2, 0) := moves_subst (s := s) (a := a2) (c := c) (b := b2) (l := l) (by rw [← hp, he]) (by rw [← hpc, r1]) (by rw [← hpd, r2])
        have c4 := encode_Sem_call hu a2 eC
        rw [e4] at c4
        simp -implicitDefEqProofs [-Int.not_lt, -Int.not_le, r1, r2]
        refine CALL_pure c4 (by simp) (cnE_scoped _ 0) (by simp [smAV, smCells_eq a2]) ?_
        simp -implicitDefEqProofs [-Int.not_lt, -Int.not_le, cnE, cnAV, cnCells_eq b2]
        refine CALL_pure (pilasterref09_Same_call b2 b2) (by simp) (by simp) (by simp [cnAV, cnCells_eq b2]) ?_
        simp -implicitDefEqProofs [-Int.not_lt, -Int.not_le, cnEq_refl b2]
        refine hQ _ _ _ ?_
        simp -implicitDefEqProofs [-Int.not_lt, -Int.not_le]
      · simp -implicitDefEqProofs [-Int.not_lt, -Int.not_le, r1, r2]
        refine hQ _ _ _ ?_
        simp -implicitDefEqProofs [-Int.not_lt, -Int.not_le]
    · simp -implicitDefEqProofs [-Int.not_lt, -Int.not_le, r1]
      refine hQ _ _ _ ?_
      simp -implicitDefEqProofs [-Int.not_lt, -Int.not_le]
end Go.Proofs.YtblbepjnkehoaaaGreatDoor
/- An input at which EncodeSems' row is met: the world as its package's variables are laid, the arguments' zero. -/
namespace Go.Proofs.YtblbepjnkehoaaaGreatDoor
open Go Go.Lib
set_option maxRecDepth 100000
/-- The cells of an array of integers. -/
def tabCells (d : DataW Unit) : Array Value := match d with
  | .agg l => (l.map fun x => match x with
    | .lit (.int k z) => Value.int k z
    | _ => .nilIface).toArray
  | _ => #[]
noncomputable def laidWorld (os : Os) : World :=
  let N := (World.settled Go.Proofs.Tryz.prog os).heap.size
  let w0 := World.holding Go.Proofs.Tryz.prog os ⟨#[
    .cells #[.string ⟨#[118, 97, 108, 117, 101, 32, 111, 117, 116, 32, 111, 102, 32, 114, 97, 110, 103, 101]⟩] 218,
    .cells #[.string ⟨#[105, 110, 118, 97, 108, 105, 100, 32, 115, 121, 110, 116, 97, 120]⟩] 218,
    .cells #[.slice (some ⟨N + 3, 0, none⟩) 7 7, .slice none 0 0, .int .i64 2] 232,
    .cells (([9, 13, 1, 32, 133, 101, 160, 5760, 5600, 8192, 8202, 1, 8232, 8233, 1, 8239, 8287, 48, 12288, 12288, 1] : List Int).map fun z => Value.int .u16 z).toArray 235], #[], []⟩
  let put (h : Array Obj) (g : Nat) (cs : Array Value) : Array Obj := h.modify g fun
    | .cells _ t frozen => .cells cs t frozen
    | o => o
  let h0 := put w0.heap 0 (tabCells Rows.laid_internal_strconv_uint64pow10)
  let h1 := put h0 3 #[.iface 216 (.pointer (some ⟨N, 0, none⟩))]
  let h2 := put h1 2 #[.iface 216 (.pointer (some ⟨N + 1, 0, none⟩))]
  let h3 := put h2 4 (tabCells Rows.laid_math_bits_deBruijn32tab)
  let h4 := put h3 5 (tabCells Rows.laid_math_bits_deBruijn64tab)
  let h5 := put h4 6 (tabCells Rows.laid_strings_asciiSpace)
  let h6 := put h5 7 #[.pointer (some ⟨N + 2, 0, none⟩)]
  { w0 with heap := h6 }
noncomputable abbrev N0 : Nat := (World.settled Go.Proofs.Tryz.prog default).heap.size
theorem laid_in (os : Os) (args : Array Value) : LaidIn Go.Proofs.Tryz.prog ((laidWorld os).forCall (fun _ _ => 0) ⟨#[], args, []⟩).memory Rows.encodeSemsUptoRow.laid [4, 5, 0, 3, N0, 2, N0 + 1, 7, N0 + 2, N0 + 3, 6] :=
  LaidIn.of_run [4, 5, 0, 3, N0, 2, N0 + 1, 7, N0 + 2, N0 + 3, 6] 12 (by kernel_rfl) (by kernel_rfl) (by kernel_rfl) (by kernel_rfl)
theorem laid_met (os : Os) (args : Array Value) : laidMet Go.Proofs.Tryz.prog Rows.encodeSemsUptoRow.laid ((laidWorld os).forCall (fun _ _ => 0) ⟨#[], args, []⟩).memory := (laid_in os args).met
/-- The zero of the argument's type, and how it reads. -/
def zArgs : Array Value := #[.agg #[.slice none 0 0, .int .i64 0, .int .i64 0, .string ⟨#[]⟩, .int .i64 0, .int .i64 0, .string ⟨#[]⟩, .slice none 0 0, .slice none 0 0, .slice none 0 0, .slice none 0 0, .slice none 0 0, .slice none 0 0, .slice none 0 0, .slice none 0 0]]
def zRead {H : Type} : DataW H := .agg [.nil, .agg [.lit (.int .i64 0), .lit (.int .i64 0), .lit (.string []), .agg [.lit (.int .i64 0), .lit (.int .i64 0), .lit (.string []), .agg [.nil], .nil, .nil], .agg [.nil], .nil, .nil, .nil, .nil]]
theorem witness_row (os : Os) {H : Type} (enc : TypeId × Value → H) :
    (Rows.OpenSpec.upto Rows.encodeSemsSpec).preRow enc Go.Proofs.Tryz.prog Go.Proofs.Tryz.f3 Rows.encodeSemsUptoRow.domain false Rows.encodeSemsUptoRow.laid ((laidWorld os).forCall (fun _ _ => 0) ⟨#[], zArgs, []⟩).memory zArgs := by
  have hw : (DataW.whole enc Go.Proofs.Tryz.prog ((laidWorld os).forCall (fun _ _ => 0) ⟨#[], zArgs, []⟩).memory Go.Proofs.Tryz.f3.params.toList (Rows.OpenSpec.upto Rows.encodeSemsSpec).vars false zArgs.toList 8).map (fun x => (x.1, x.2.1)) =
      some ([zRead], []) := by kernel_rfl
  obtain ⟨⟨x1, x2, x3⟩, hx, hx1⟩ := Option.map_eq_some_iff.1 hw
  simp only [Prod.mk.injEq] at hx1
  obtain ⟨rfl, rfl⟩ := hx1
  exact OpenSpec.preRow_of_cond 8 hx (by kernel_rfl) (fun k hk => by cases hk; kernel_rfl) (by kernel_rfl) (laid_met os _)
theorem own : ownKnob Go.Proofs.Tryz.prog.godebug = none := by kernel_rfl
theorem witness (os : Os) {H : Type} (enc : TypeId × Value → H) : ∃ (w : World) (tape : Tape) (i : Input), w.os = os ∧ (w.forCall tape i).Shaped Go.Proofs.Tryz.checked.prog ∧ i.vars = [] ∧ Input.okWide Go.Proofs.Tryz.checked.prog (w.forCall tape i) .any w.heap.size 3 i ∧
      (Rows.OpenSpec.upto Rows.encodeSemsSpec).preRow enc Go.Proofs.Tryz.checked.prog Go.Proofs.Tryz.f3 Rows.encodeSemsUptoRow.domain false Rows.encodeSemsUptoRow.laid (w.forCall tape i).memory i.args ∧ ({} : Assume).holds Go.Proofs.Tryz.checked.prog (lone (Frame.enter Go.Proofs.Tryz.checked.prog 3 i.args .normal) [] (w.forCall tape i)) :=
  witness_row_atRef (enc := enc) (C := Go.Proofs.Tryz.checked) false (laidWorld os) zArgs rfl (by kernel_rfl) (by kernel_rfl) (by kernel_rfl) (witness_row os enc)
theorem wf_row : Rows.encodeSemsUptoRow.wf (Rows.OpenSpec.upto Rows.encodeSemsSpec) = true := by kernel_rfl
end Go.Proofs.YtblbepjnkehoaaaGreatDoor
/- What the rows' list gives; worlds that keep old blocks. -/
namespace Go.Proofs.YtblbepjnkehoaaaGreatDoor
open Go Go.ChangeShapes Go.WideShapes Go.ChangeAt Go.RowKit Go.Lib
set_option maxRecDepth 100000
/-- The one type of that name. -/
def errName : String := match (Rows.laid_strconv_ErrRange : DataW Unit) with
  | .iface n _ => n
  | _ => ""
theorem es_row218 (u : TypeId) (h : Go.Proofs.Tryz.prog.typeName? 3 u = some errName) : u = 216 :=
  typeName_ptr_named (nm := "errors.errorString") (by kernel_rfl) (by kernel_rfl) (by decide) u (h.trans (congrArg some (by kernel_rfl)))
/-- The asciiSpace table is that of the blanks. -/
def ascZs : List Int := (List.range 256).map fun c => if blank c then 1 else 0
def ascName : String := "strings.asciiSpace"
theorem asc_data {H : Type} : (Rows.laid_strings_asciiSpace : DataW H) = tabData .u8 ascZs := by kernel_rfl
theorem glob_of {W : World} (hL : laidMetH Go.Proofs.Tryz.prog Rows.encodeSemsUptoRow.laid W) (hS : W.ShapedOpen Go.Proofs.Tryz.prog) : GlobOk Go.Proofs.Tryz.prog (FW W) W := by
  have hL' : laidMet Go.Proofs.Tryz.prog Rows.encodeSemsUptoRow.laid W := hL
  refine ⟨?_, fun c hc => ?_, ?_⟩
  · obtain ⟨a1, t1, hv1, hc1, ht1, _⟩ := laid_sentinel (g := gRng) hL'.tail.tail.tail (by kernel_rfl) (by kernel_rfl) Go.Proofs.Tryz.underlying136 es_row218 Go.Proofs.Tryz.underlying216 Go.Proofs.Tryz.underlying218 rfl rfl Go.Proofs.Tryz.underlying9 (by kernel_rfl) (by kernel_rfl)
    have hc := World.var?_cell (g := gRng) (by kernel_rfl) hv1 0
    have hc' : W.cell? ⟨gRng, 0, none⟩ = some (.iface 216 (.pointer (some a1))) := by simpa using hc
    exact ⟨⟨rfl, by rw [hc']; rfl⟩, _, _, hc'⟩
  · have hT : Lib.TabIs Go.Proofs.Tryz.prog W ascName .u8 ascZs := by
      refine Lib.tabIs_of_head (rest := []) (g := gAsc) (t := 221) (e := 5) (n := 256) (by kernel_rfl) (by kernel_rfl) Go.Proofs.Tryz.underlying221 Go.Proofs.Tryz.underlying5 (by kernel_rfl) (by kernel_rfl) ?_
      rw [← asc_data]
      exact hL'.tail.tail.tail.tail.tail.tail
    have := hT.cell (g := gAsc) (by kernel_rfl) c (by simpa [ascZs] using hc)
    have h2 : W.cell? ⟨gAsc, c, none⟩ = some (.int .u8 (if blank c then 1 else 0)) := by
      rw [this]; simp [ascZs, List.getD, hc]
    exact ⟨⟨rfl, by rw [h2]; rfl⟩, h2⟩
  · obtain ⟨m, hm⟩ := cell_of_shapedOpen_int (g := gMxl) (t := 3) (zero := #[.int .i64 0]) (k := .i64) hS (of_decide_eq_true (by kernel_rfl)) (by kernel_rfl) rfl (by kernel_rfl) (by kernel_rfl) Go.Proofs.Tryz.underlying3
    exact ⟨⟨rfl, by rw [hm]; rfl⟩, m, hm⟩
theorem sameAt_heap {W W' : World} {p : MemPlace} (h : W'.heap[p.block]? = W.heap[p.block]?) : W.sameAt W' p := by
  cases p with
  | cell b off =>
    simp only [MemPlace.block] at h
    simp only [World.sameAt, World.cell?, h]
  | map b =>
    simp only [MemPlace.block] at h
    simp only [World.sameAt, h]
theorem keptBut_heap {W W' : World} {may : MemPlace → Prop} (h0 : W'.os = W.os ∧ W'.output = W.output) (h : ∀ i, i < W.heap.size → W'.heap[i]? = W.heap[i]?) : W.keptBut W' may := by
  refine ⟨h0.1, h0.2, fun i hi => ?_⟩
  rw [h i hi]
  split
  · rename_i h1 h2; rw [h1] at h2; cases h2; exact ⟨rfl, rfl, rfl, fun _ _ => rfl⟩
  · rename_i h1 h2; rw [h1] at h2; cases h2; exact .inr ⟨rfl, rfl⟩
  · rfl
end Go.Proofs.YtblbepjnkehoaaaGreatDoor
/- EncodeMoves' row and its card. -/
namespace Go.Proofs.YtblbepjnkehoaaaGreatDoor
open Go Go.ChangeShapes Go.WideShapes Go.ChangeAt Go.RowKit Go.Lib
set_option maxRecDepth 100000
/-- The zero of the argument's type, and how it reads. -/
def mvArgs : Array Value := #[.agg #[.int .i64 0, .int .i64 0, .string ⟨#[]⟩, .int .i64 0, .int .i64 0, .string ⟨#[]⟩, .slice none 0 0, .slice none 0 0, .slice none 0 0, .slice none 0 0, .slice none 0 0, .slice none 0 0, .slice none 0 0, .slice none 0 0], .int .u8 0, .int .u8 0, .slice none 0 0]
def mvRead {H : Type} : List (DataW H) := [.agg [.lit (.int .i64 0), .lit (.int .i64 0), .lit (.string []), .agg [.lit (.int .i64 0), .lit (.int .i64 0), .lit (.string []), .agg [.nil], .nil, .nil], .agg [.nil], .nil, .nil, .nil, .nil], .lit (.int .u8 0), .lit (.int .u8 0), .nil]
theorem mv_witness_row (os : Os) {H : Type} (enc : TypeId × Value → H) :
    (Rows.OpenSpec.upto Rows.encodeMovesSpec).preRow enc Go.Proofs.Tryz.prog Go.Proofs.Tryz.f4 Rows.encodeMovesUptoRow.domain false Rows.encodeMovesUptoRow.laid ((laidWorld os).forCall (fun _ _ => 0) ⟨#[], mvArgs, []⟩).memory mvArgs := by
  have hw : (DataW.whole enc Go.Proofs.Tryz.prog ((laidWorld os).forCall (fun _ _ => 0) ⟨#[], mvArgs, []⟩).memory Go.Proofs.Tryz.f4.params.toList (Rows.OpenSpec.upto Rows.encodeMovesSpec).vars false mvArgs.toList 8).map (fun x => (x.1, x.2.1)) =
      some (mvRead, []) := by kernel_rfl
  obtain ⟨⟨x1, x2, x3⟩, hx, hx1⟩ := Option.map_eq_some_iff.1 hw
  simp only [Prod.mk.injEq] at hx1
  obtain ⟨rfl, rfl⟩ := hx1
  exact OpenSpec.preRow_of_cond 8 hx (by kernel_rfl) (fun k hk => by cases hk; kernel_rfl) (by kernel_rfl) (laid_met os _)
theorem mv_witness (os : Os) {H : Type} (enc : TypeId × Value → H) : ∃ (w : World) (tape : Tape) (i : Input), w.os = os ∧ (w.forCall tape i).Shaped Go.Proofs.Tryz.checked.prog ∧ i.vars = [] ∧ Input.okWide Go.Proofs.Tryz.checked.prog (w.forCall tape i) .any w.heap.size 4 i ∧
      (Rows.OpenSpec.upto Rows.encodeMovesSpec).preRow enc Go.Proofs.Tryz.checked.prog Go.Proofs.Tryz.f4 Rows.encodeMovesUptoRow.domain false Rows.encodeMovesUptoRow.laid (w.forCall tape i).memory i.args ∧ ({} : Assume).holds Go.Proofs.Tryz.checked.prog (lone (Frame.enter Go.Proofs.Tryz.checked.prog 4 i.args .normal) [] (w.forCall tape i)) :=
  witness_row_atRef (enc := enc) (C := Go.Proofs.Tryz.checked) false (laidWorld os) mvArgs rfl (by kernel_rfl) (by kernel_rfl) (by kernel_rfl) (mv_witness_row os enc)
theorem mv_wf_row : Rows.encodeMovesUptoRow.wf (Rows.OpenSpec.upto Rows.encodeMovesSpec) = true := by kernel_rfl
theorem trodAll_stays {H : Type} {enc : TypeId × Value → H} {P : Program} (hl : laidOutB P = true) {W W' : World} {sp' : Nat → Bool} : ∀ {ts : List TypeId} {vs : List Value} {ds : List (DataW H)} {p : List MemPlace}, (∀ t ∈ ts, P.readableRec t = true ∧ t < P.types.size) →
    DataW.TrodAll enc P W 0 (fun _ => true) true ts vs ds p → (∀ x ∈ p, W.sameAt W' x) → (∀ x ∈ p, sp' x.block = true) → DataW.TrodAll enc P W' 0 sp' true ts vs ds p
  | [], _, _, _, _, h, _, _ => by
    obtain ⟨rfl, rfl, rfl⟩ := trodAll_nil h
    rfl
  | t :: ts, _, _, _, ht, h, h1, h2 => by
    obtain ⟨v, vs1, d, ds1, p, q, rfl, rfl, rfl, h0, r⟩ := trodAll_cons h
    exact ⟨p, q, WideElems.Trod_stays hl (ht t (by simp)).1 (ht t (by simp)).2 h0 (fun x hx => h1 x (by simp [hx])) (fun x hx => h2 x (by simp [hx])), trodAll_stays hl (fun t h => ht t (by simp [h])) r (fun x hx => h1 x (by simp [hx])) (fun x hx => h2 x (by simp [hx])), rfl⟩
theorem EncodeMoves_given (s : Sm) (b fr : Int) (l : List Cn) (hc : conB s) (hz : ∀ x ∈ l, cnSize x ≤ 1000000000000) (hb0 : 0 ≤ b) (hb1 : b ≤ 255) (hf0 : 0 ≤ fr) (hf1 : fr ≤ 255) :
    HCall Go.Proofs.Tryz.prog i_pilasterlaw25_EncodeMoves [smAV s, .int .u8 b, .int .u8 fr, .sl .none (l.map cnCells)] [] (.bool true) [] :=
  EncodeMoves_of encode_under_call awakeOk s b fr l hc hz hb0 hb1 hf0 hf1
theorem u8_of {W : World} {n : Int} (h : (Lit.int .u8 n).wf = true) : R (FW W) g00 W (.int .u8 n) (.int .u8 n) ∧ 0 ≤ n ∧ n ≤ 255 := by
  simp [Lit.wf, IntKind.min, IntKind.max, IntKind.signed, IntKind.bits] at h
  refine ⟨?_, by omega, by omega⟩
  simp only [R]
  refine ⟨trivial, ?_⟩
  simp [IntKind.has, IntKind.min, IntKind.max, IntKind.signed, IntKind.bits]; omega
theorem mv_contract (H : Type) (enc : TypeId × Value → H) (F : Stop.Interp) (W : World) (base : Nat) (args : Array Value) (ds gs : List (DataW H)) (before : List MemPlace)
    (hval : ∀ (j : Nat) t v, Go.Proofs.Tryz.f4.params[j]? = some t → args[j]? = some v → Value.okWide Go.Proofs.Tryz.prog W .any base t v)
    (hW : DataW.Whole enc Go.Proofs.Tryz.prog Go.Proofs.Tryz.f4.params.toList (Rows.OpenSpec.upto Rows.encodeMovesSpec).vars false W args.toList ds gs before)
    (hk : ∀ k, (Rows.OpenSpec.upto Rows.encodeMovesSpec).cond = some k → k H (ds ++ gs) = true)
    (hL : laidMetH Go.Proofs.Tryz.prog Rows.encodeMovesUptoRow.laid W) (hS : W.ShapedOpen Go.Proofs.Tryz.prog) :
    Calls Go.Proofs.Tryz.prog 4 args W fun e W' => ∃ v, e = .returned v ∧ ((Rows.OpenSpec.upto Rows.encodeMovesSpec).at F).post enc Go.Proofs.Tryz.prog Go.Proofs.Tryz.f4 false true false false W args v W' := by
  have hW' := hW
  have hlt := hW.lt
  obtain ⟨p, q, hA0, hV, rfl, hfz, hnd⟩ := hW
  have hA : DataW.TrodAll enc Go.Proofs.Tryz.prog W 0 (fun _ => true) true Go.Proofs.Tryz.f4.params.toList args.toList ds p := hA0
  rw [Go.Proofs.Tryz.params4] at hA hval
  have hA1 := hA
  obtain ⟨v0, vs0, d0, ds0, p0, q0, hargs, rfl, rfl, h0, r0⟩ := trodAll_cons hA
  obtain ⟨v1, vs1, d1, ds1, p1, q1, rfl, rfl, rfl, h1, r1⟩ := trodAll_cons r0
  obtain ⟨v2, vs2, d2, ds2, p2, q2, rfl, rfl, rfl, h2, r2⟩ := trodAll_cons r1
  obtain ⟨v3, vs3, d3, ds3, p3, q3, rfl, rfl, rfl, h3, r3⟩ := trodAll_cons r2
  obtain ⟨rfl, rfl, rfl⟩ := trodAll_nil r3
  obtain rfl : args = #[v0, v1, v2, v3] := by cases args; simp_all
  obtain ⟨rfl, rfl⟩ := trodVars_none hV
  have hb0 : Rows.uptoSmall H [d0, d1, d2, d3] = true := by simpa using hk _ rfl
  have hb : Rows.uptoBulk d0 ≤ bmax ∧ Rows.uptoBulk d3 ≤ bmax := by
    unfold bmax
    have := of_decide_eq_true hb0
    simp only [Rows.uptoBulkAll] at this
    omega
  obtain ⟨cs, rfl⟩ : ∃ cs, v0 = .agg cs := by
    have h := hval 0 31 v0 rfl rfl
    unfold Value.okWide at h
    rw [Go.Proofs.Tryz.underlying31] at h
    obtain ⟨cs, h, _⟩ := h
    exact ⟨cs, h⟩
  obtain ⟨n1, rfl, rfl, rfl, w1⟩ := open_int Go.Proofs.Tryz.underlying5 (hval 1 5 v1 rfl rfl) h1
  obtain ⟨n2, rfl, rfl, rfl, w2⟩ := open_int Go.Proofs.Tryz.underlying5 (hval 2 5 v2 rfl rfl) h2
  obtain ⟨sa, sn, sc, rfl⟩ := okWide_slice Go.Proofs.Tryz.underlying26 (hval 3 26 v3 rfl rfl)
  obtain ⟨n, hn⟩ := h0
  obtain ⟨s, hR0, hc⟩ := sm_of n _ d0 p0 hn hb.1
  obtain ⟨u1, b1, b2⟩ := u8_of (W := W) w1
  obtain ⟨u2, b3, b4⟩ := u8_of (W := W) w2
  obtain ⟨m, hm⟩ := h3
  obtain ⟨v, l, e3, hR3, ds3, g1, g2, g3⟩ := slice_of (Good := fun c d => cnSize c ≤ Rows.uptoBulk d) cnCells (by simp) (by simp) Go.Proofs.Tryz.underlying26 cells_28 (by omega) hm hb.2 fun m hm cs' d' p' hd hb' => cn_of m cs' d' p' hd hb'
  obtain rfl : v = .slice sa sn sc := by
    simp only [Value.cells] at e3
    cases e3; rfl
  have hz : ∀ x ∈ l, cnSize x ≤ 1000000000000 := fun x hx => by
    obtain ⟨i, hi, rfl⟩ := List.getElem_of_mem hx
    have h1 := g3 i hi (by omega)
    have h2 := bulk_mem (List.getElem_mem (l := ds3) (n := i) (by omega))
    have := bmax_le
    omega
  have hrun := (EncodeMoves_given s n1 n2 l hc hz b1 b2 b3 b4).2 (FW W) g00 W [.agg cs, .int .u8 n1, .int .u8 n2, .slice sa sn sc] (glob_of hL hS) (St.none (fun a ha => by
    obtain ⟨v, hv⟩ := Option.isSome_iff_exists.1 ha.2
    unfold World.cell? at hv
    rcases Nat.lt_or_ge a.block W.heap.size with h | h
    · exact h
    · simp [h] at hv) (fun b off s h => by cases h.1)) (RL_pure (by simp only [smAV, R]; exact ⟨cs, rfl, hR0⟩) (RL_pure u1 (RL_pure u2 (RL_pure hR3 RL_z))))
  refine hrun.mono ?_
  rintro e W' ⟨v, F', g', rfl, hv, _, hx⟩
  have hheap : ∀ i, i < W.heap.size → W'.heap[i]? = W.heap[i]? := fun i hi => hx.frame i hi fun b hb => absurd hb (Nat.not_lt_zero b)
  obtain rfl : v = .bool true := by simpa only [R] using hv
  refine ⟨_, rfl, _, [], _, [], p0 ++ ([] ++ ([] ++ (p3 ++ []))), [], hW', ?_, ?_, rfl, keptBut_heap hx.io hheap, fun h => by cases h⟩
  · exact trodAll_cons_mk (shut_bool Go.Proofs.Tryz.underlying4 _) trodAll_mk0
  · rw [Go.Proofs.Tryz.params4]
    refine trodAll_stays (by kernel_rfl) (fun t ht => ?_) hA1 (fun x hx => sameAt_heap (hheap _ (hlt x (List.mem_append_left _ hx)))) (fun x hx => by simpa using hlt x (List.mem_append_left _ hx))
    have : t = 31 ∨ t = 5 ∨ t = 26 := by simpa using ht
    rcases this with rfl | rfl | rfl
    · exact ⟨by kernel_rfl, of_decide_eq_true (by kernel_rfl)⟩
    · exact ⟨by kernel_rfl, of_decide_eq_true (by kernel_rfl)⟩
    · exact ⟨by kernel_rfl, of_decide_eq_true (by kernel_rfl)⟩
set_option maxRecDepth 100000 in
theorem mv_lifted (os : Os) (started : os.Started) (H : Type) (enc : TypeId × Value → H) (F : Stop.Interp) :
    ReturnsInHanded {} Go.Proofs.Tryz.checked os 4 .any ((Rows.OpenSpec.upto Rows.encodeMovesSpec).preRow enc Go.Proofs.Tryz.prog Go.Proofs.Tryz.f4 Rows.encodeMovesUptoRow.domain false Rows.encodeMovesUptoRow.laid) (((Rows.OpenSpec.upto Rows.encodeMovesSpec).at F).post enc Go.Proofs.Tryz.prog Go.Proofs.Tryz.f4 false true false false) :=
  returnsInHanded_of_row (C := Go.Proofs.Tryz.checked) (s := Rows.OpenSpec.upto Rows.encodeMovesSpec) own started (by kernel_rfl) Go.Proofs.Tryz.func4
    (mv_witness os enc) (fun W base args ds gs before hval hW _ hk _ hL hS _ => mv_contract H enc F W base args ds gs before hval hW hk hL hS)
theorem mv_said : Rows.EncodeMovesUptoSaid :=
  OpenClaim.holds_of_cond 4 Go.Proofs.Tryz.f4 rfl rfl rfl rfl rfl rfl rfl ⟨rfl, rfl, rfl, rfl, rfl⟩ rfl rfl rfl rfl rfl (by kernel_rfl) Go.Proofs.Tryz.func4 (by kernel_rfl)
    (of_decide_eq_true (by kernel_rfl)) (by unfold Func.isWrapper; first | (rw [if_pos (by decide +kernel)]; kernel_rfl) | (rw [if_neg (by decide +kernel)]; exact ⟨rfl, rfl⟩))
    (fun os started H enc _ F => by rw [OpenClaim.pre_eq_preRow]; exact mv_lifted os started H enc F)
theorem mv_plain (f : FuncId) (fn : Func) (hf : Tryz.pinned.checked.prog.funcNamed Rows.encodeMovesUptoRow.func = some f) (hfn : Tryz.pinned.checked.prog.funcs[f]? = some fn) :
    true = Tryz.pinned.checked.prog.looks [] ∧ ∀ (j : Nat) t, fn.params[j]? = some t → Tryz.pinned.checked.prog.wantsStandIn t = false := by
  obtain rfl : f = 4 := Option.some.inj ((show Go.Proofs.Tryz.prog.funcNamed Rows.encodeMovesUptoRow.func = some 4 by kernel_rfl).symm.trans hf) |>.symm
  obtain rfl : fn = Go.Proofs.Tryz.f4 := (Option.some.inj (Go.Proofs.Tryz.func4.symm.trans hfn)).symm
  refine ⟨by kernel_rfl, fun j t ht => ?_⟩
  rw [Go.Proofs.Tryz.params4] at ht
  have : t = 31 ∨ t = 5 ∨ t = 26 := by simpa using Array.mem_of_getElem? ht
  rcases this with rfl | rfl | rfl
  · exact (show Go.Proofs.Tryz.prog.wantsStandIn 31 = false by kernel_rfl)
  · exact (show Go.Proofs.Tryz.prog.wantsStandIn 5 = false by kernel_rfl)
  · exact (show Go.Proofs.Tryz.prog.wantsStandIn 26 = false by kernel_rfl)
/-- The card. -/
theorem EncodeMovesUpto_card : Rows.EncodeMovesUptoCardSaid :=
  Claim7.holds_tied_plain_at .later [] _ _ _ _ mv_said (fun _ h => by cases h) (by kernel_rfl) (fun _ h => by cases h) encodeMovesUpto_row_tie rfl ⟨rfl, rfl⟩ (by kernel_rfl) rfl mv_plain (by kernel_rfl)
end Go.Proofs.YtblbepjnkehoaaaGreatDoor
