/- Joined: Grw M1 M2 M3 M4. -/
import Derived.Laws.Externs
import Derived.Lib.Walk
import Derived.WalkKit
import Derived.Shelf.Abstract
import Derived.Test.YtblbepjnkehoaaaGreatDoorG21
import Derived.Test.YtblbepjnkehoaaaGreatDoorG03
import Derived.Test.YtblbepjnkehoaaaGreatDoorG13
import Derived.Test.YtblbepjnkehoaaaGreatDoorG15
import Derived.Test.YtblbepjnkehoaaaGreatDoorY00
import Derived.Test.YtblbepjnkehoaaaGreatDoorG05
import Derived.Test.YtblbepjnkehoaaaGreatDoorG06
import Derived.Test.YtblbepjnkehoaaaGreatDoorG07
import Derived.Test.YtblbepjnkehoaaaGreatDoorG08
set_option linter.unusedSimpArgs false
set_option linter.unusedVariables false
set_option maxHeartbeats 4000000
/- slices.Grow of no slice: walked; as a contract. -/
namespace Go.Proofs.YtblbepjnkehoaaaGreatDoor
open Go Go.RowKit Go.Shelf Go.Proofs
set_option maxHeartbeats 1000000 in
set_option maxRecDepth 100000 in
theorem Grow_walk (n : Nat) (w : World) (h0 : 0 < n) (hn : n ≤ 1099511627776) :
    Calls Go.Proofs.Tryz.prog 166 #[.slice none 0 0, .int .i64 n] w fun e w' => ∃ (nc : Nat) (cs : Array Value), n ≤ nc ∧ cs.size = nc ∧ e = .returned (.slice (some ⟨w.heap.size, 0, none⟩) 0 nc) ∧ w' = { w with drawn := w.drawn + 1, heap := w.heap.push (.cells cs 24) } := by
  have hb : Go.Proofs.Tryz.t24.bytes = 24 := by kernel_rfl
  have hneg : ¬ ((n : Int) < 0) := by omega
  have hpos : (0 : Int) < (n : Int) := by omega
  have hA : ¬ 281474976710656 < Builtin.nextslicecap n 0 * Go.Proofs.Tryz.t24.bytes := by
    have := growslice_fits (need := n) (old := 0) (bytes := 24) h0 (by omega)
    rw [hb]; omega
  have hB : (n : Int) * (Go.Proofs.Tryz.t24.bytes : Int) ≤ 281474976710656 := by rw [hb]; omega
  have hC : (n : Int) ≤ 9223372036854775807 := by omega
  have hD : ¬ n = 0 := by omega
  clear hb
  go_enter Go.Proofs.Tryz.func166, Go.Proofs.Tryz.ntmps166
  go_wp2
  all_goals first
    | (exfalso; omega)
    | (go_ret
       refine ⟨(Question.appendCap n 0 24).cut (w.tape w.drawn (Question.appendCap n 0 24)), by simp only [Question.cut]; omega, _, ?_, rfl, rfl⟩
       simp [Builtin.zeroCells, Question.cut])
set_option maxHeartbeats 1000000 in
set_option maxRecDepth 100000 in
theorem Grow_walk0 (w : World) : Calls Go.Proofs.Tryz.prog 166 #[.slice none 0 0, .int .i64 0] w fun e w' => e = .returned (.slice none 0 0) ∧ w' = w := by
  go_enter Go.Proofs.Tryz.func166, Go.Proofs.Tryz.ntmps166
  go_wp2
  all_goals go_ret
  all_goals exact ⟨rfl, rfl⟩
/-- What growing no slice gives: an array with room, of which nothing is used. -/
def growV (n : Nat) (H : List HB) : AV := if n = 0 then .sl .nilT [] else .sl (.own H.length) []
def growH (n : Nat) (H : List HB) : List HB := if n = 0 then H else H ++ [.tok 0 1 24]
theorem slices_Grow_call (n : Nat) (hn : n ≤ 1099511627776) (H : List HB) : HCall Go.Proofs.Tryz.prog i_slices_Grow_Kind [.sl .nilT [], .int .i64 n] H (growV n H) (growH n H) := by
  refine ⟨by kernel_rfl, fun F g w vs _ hs hr => ?_⟩
  obtain ⟨v, u, rfl, hv, hu⟩ := RL_two' hr
  obtain rfl : u = .int .i64 n := (R_int hu).1
  obtain rfl : v = .slice none 0 0 := by
    obtain ⟨_, h | ⟨_, _, _, _, _, _, _, _, _, h⟩⟩ := R_sl hv
    · exact h.2.1
    · exact absurd h (by simp [RT])
  by_cases h0 : n = 0
  · subst h0
    refine (Grow_walk0 w).mono ?_
    rintro _ w' ⟨rfl, rfl⟩
    refine ⟨_, F, g, rfl, by simpa [growV] using hv, by simpa [growH] using hs, by simpa [growH] using Ext.refl _ _ _ _⟩
  · refine (Grow_walk n w (by omega) hn).mono ?_
    rintro _ w' ⟨nc, cs, h1, h2, rfl, rfl⟩
    obtain ⟨F', g', f0, f1, f2, f3, f4⟩ := arr_out hs (H' := H ++ [.tok 0 1 24]) (t := H.length) (n := 0) (k := 1) (cap := nc) (ty := 24) (by simp) (fun x hx => by
      by_cases hlt : x < H.length
      · rw [List.getElem?_append_left hlt]
      · rw [List.getElem?_eq_none (by simp; omega), List.getElem?_eq_none (by omega)]) (by simp) (by simp) (.inl rfl) (vs := cs) (e := 24) (fun _ => rfl) (by omega) (Nat.zero_le _)
      (w' := { w with drawn := w.drawn + 1, heap := w.heap.push (.cells cs 24) }) rfl ⟨rfl, rfl⟩
    refine ⟨_, F', g', rfl, ?_, by simpa [growH, h0] using f1, by simpa [growH, h0] using f2⟩
    simp only [growV, if_neg h0, R]
    exact ⟨by simp, .inr ⟨w.heap.size, 0, none, nc, 1, rfl, Nat.zero_le _, ⟨by omega, by simp⟩, by simp [RE], ⟨_, _, f4, Nat.le_refl _, fun _ => ⟨f3, rfl, rfl, rfl⟩⟩⟩⟩
end Go.Proofs.YtblbepjnkehoaaaGreatDoor
/- slices.Clone and slices.Concat of kinds; the kinds that are bound around a part of a signature. -/
namespace Go.Proofs.YtblbepjnkehoaaaGreatDoor
open Go
theorem append_many {e : TypeId} {A G : List HB} {tok : Tok} {els ys : List (List AV)} {k : Nat} (h : owns A.length G tok els k) (hl : els.length + ys.length ≤ maxL) (hk : headK k els = true) (hk2 : headK k ys = true) :
    ∃ tok' G', aappend k e tok els ys (A ++ G) = some (.sl tok' (els ++ ys), A ++ G') ∧ owns A.length G' tok' (els ++ ys) k ∧ G.length ≤ G'.length := by
  rcases h with ⟨rfl, rfl⟩ | ⟨j, e', rfl, hj⟩
  · cases ys with
    | nil => exact ⟨.nilT, G, by simp [aappend, appendNew, maxL, headK], .inl ⟨rfl, rfl⟩, Nat.le_refl _⟩
    | cons y ys =>
      refine ⟨.own (A ++ G).length, G ++ [.tok (ys.length + 1) k e], ?_, ?_, by simp⟩
      · simp only [List.length_nil, Nat.zero_add, List.length_cons] at hl
        simp [aappend, hk, hk2, appendNew, hl]
      · exact .inr ⟨G.length, e, by simp, by simp⟩
  · have hjl := (List.getElem?_eq_some_iff.1 hj).1
    refine ⟨.own (A.length + j), G.set j (.tok (els.length + ys.length) k (if e' = e then e else 0)), ?_, .inr ⟨j, (if e' = e then e else 0), rfl, ?_⟩, by simp⟩
    · have hg : (A ++ G)[A.length + j]? = some (.tok els.length k e') := by
        rw [List.getElem?_append_right (by omega)]; simpa using hj
      have hset : (A ++ G).set (A.length + j) (.tok (els.length + ys.length) k (if e' = e then e else 0)) = A ++ G.set j (.tok (els.length + ys.length) k (if e' = e then e else 0)) := by
        rw [List.set_append_right _ _ (by omega)]; simp
      simp only [aappend, hl, hk, hk2, and_self, if_true, hg, hset]
    · simp [List.getElem?_set_self hjl]
theorem OPT_appendM {e : TypeId} {P : Program} {A G : List HB} {tok : Tok} {els ys : List (List AV)} {k : Nat} {dst : Option Nat} {l : List AO} {kf : List Fr} {Q : Post} {t : List AV} (h : owns A.length G tok els k) (hl : els.length + ys.length ≤ maxL) (hk : headK k els = true) (hk2 : headK k ys = true)
    (hn : ∀ tok' G', owns A.length G' tok' (els ++ ys) k → G.length ≤ G'.length → AR_ P l kf Q (putA t dst (.sl tok' (els ++ ys))) (A ++ G')) : OPT P (aappend k e tok els ys (A ++ G)) dst l kf Q t := by
  obtain ⟨tok', G', e1, e2, e3⟩ := append_many (e := e) h hl hk hk2
  rw [e1]
  exact hn tok' G' e2 e3
/-- The loop rule, where the heap's new part is not empty as the loop begins. -/
theorem AWp.loopG {P : Program} {x : AC} {t0 : List AV} {A G0 : List HB} {Q : AX → List AV → List HB → Prop} (bs : List Nat) (I : Nat → (Nat → AV) → (Nat → List AV) → List HB → Prop) (n0 : Nat)
    (hb : ∀ b ∈ bs, ∃ cs, A[b]? = some (.var cs)) (h0 : I n0 (slots t0) (varsOf A) G0)
    (hr : ∀ n f h G, I n f h G → AWp P x (updT t0 x.dsts f) (updH A bs h ++ G) (RoundQ t0 x.dsts A bs I n Q)) : AWp P (.loop x) t0 (A ++ G0) Q := by
  refine AWp.loop (fun n t H => ∃ f h G, t = updT t0 x.dsts f ∧ H = updH A bs h ++ G ∧ I n f h G) n0 ⟨slots t0, varsOf A, G0, (updT_self _ _).symm, by rw [updH_self bs A hb], h0⟩ ?_
  rintro n t H ⟨f, h, G, rfl, rfl, hI⟩
  refine AWp.mono (hr n f h G hI) ?_
  intro e t' H' hq
  cases e with
  | normal =>
    obtain ⟨e1, m, h', G', hm, e2, hI'⟩ := hq
    exact ⟨m, hm, slots t', h', G', e1.symm, e2, hI'⟩
  | exit _ => exact hq
  | ret => exact hq
theorem grow_own (n : Nat) : ∃ tok, growV n [] = .sl tok [] ∧ owns 0 (growH n []) tok [] 1 := by
  unfold growV growH
  by_cases h : n = 0
  · rw [if_pos h, if_pos h]; exact ⟨_, rfl, owns_nil _ _ _⟩
  · rw [if_neg h, if_neg h]; exact ⟨_, rfl, .inr ⟨0, 24, rfl, rfl⟩⟩
def catK : List (List Kd) → List Kd
  | [] => []
  | l :: ls => l ++ catK ls
theorem flat_take : ∀ (ls : List (List Kd)) (k : Nat) (h : k < ls.length), catK (ls.take (k + 1)) = catK (ls.take k) ++ ls[k]
  | [], k, h => by simp at h
  | l :: ls, 0, _ => by simp [catK]
  | l :: ls, k + 1, h => by
    simp only [List.take_succ_cons, catK, List.getElem_cons_succ]
    rw [flat_take ls k (by simpa using h), List.append_assoc]
attribute [local simp] astep aev putA guardA start AV.cells AV.undef takeCells splice intBin strBin abin AV.isCell loadV fillR fillA
attribute [local simp] fin aRes aResL aRes1 AV.strip stripL stripE AV.inScope scopedL scopedE scopedH
set_option maxRecDepth 10000
set_option linter.unusedSimpArgs false
attribute [local simp] beq_dec bne_dec
theorem slices_Clone_Kind_call (l : List Kd) : HCall Go.Proofs.Tryz.prog i_slices_Clone_Kind [.sl .none (l.map kdCells)] [] (.sl .none (l.map kdCells)) [] := by
  cases l with
  | nil =>
    refine HCall.nilOr (A := []) (B := []) ?_ ?_
    · refine HCall.go mixed ok_slices_Clone_Kind (by simp) fun hfit Q hQ => ?_
      clear hfit
      simp -implicitDefEqProofs [-Int.not_lt, -Int.not_le, c_slices_Clone_Kind, isNil]
      refine hQ _ _ _ ?_
      simp -implicitDefEqProofs [-Int.not_lt, -Int.not_le]
    · refine HCall.go mixed ok_slices_Clone_Kind (by simp) fun hfit Q hQ => ?_
      clear hfit
      simp -implicitDefEqProofs [-Int.not_lt, -Int.not_le, c_slices_Clone_Kind, isNil, aappend, maxL, headK, appendNew]
      refine hQ _ _ _ ?_
      simp -implicitDefEqProofs [-Int.not_lt, -Int.not_le]
  | cons s l =>
    refine HCall.go mixed ok_slices_Clone_Kind (by simp) fun hfit Q hQ => ?_
    have hln : l.length + 1 ≤ maxL := by simpa [fitsL, AV.fits] using hfit.1.1
    clear hfit
    simp -implicitDefEqProofs [-Int.not_lt, -Int.not_le, c_slices_Clone_Kind, isNil, aappend, hln, headK, appendNew]
    refine hQ _ _ _ ?_
    simp -implicitDefEqProofs [-Int.not_lt, -Int.not_le]
def lens : List (List Kd) → Nat
  | [] => 0
  | l :: ls => l.length + lens ls
theorem lens_take (ls : List (List Kd)) (k : Nat) (h : k < ls.length) : lens (ls.take (k + 1)) = lens (ls.take k) + ls[k].length := by
  induction ls generalizing k with
  | nil => simp at h
  | cons l ls ih =>
    cases k with
    | zero => simp [lens]
    | succ k =>
      simp only [List.take_succ_cons, lens, List.getElem_cons_succ]
      rw [ih k (by simpa using h)]; omega
theorem lens_le (ls : List (List Kd)) (k : Nat) : lens (ls.take k) ≤ lens ls := by
  induction ls generalizing k with
  | nil => simp
  | cons l ls ih =>
    cases k with
    | zero => simp [lens]
    | succ k => simp only [List.take_succ_cons, lens]; have := ih k; omega
theorem lens_flat (ls : List (List Kd)) : (catK ls).length = lens ls := by
  induction ls with
  | nil => rfl
  | cons l ls ih => simp [lens, catK, ih]
def lsRows (ls : List (List Kd)) : List (List AV) := ls.map fun l => [.sl .none (l.map kdCells)]
theorem slices_Concat_Kind_call (ls : List (List Kd)) (hT : lens ls ≤ 1000000000) : HCall Go.Proofs.Tryz.prog i_slices_Concat_Kind [.sl .none (lsRows ls)] [] (.sl .none ((catK ls).map kdCells)) [] := by
  refine HCall.go mixed ok_slices_Concat_Kind (by simp) fun hfit Q hQ => ?_
  have hln : ls.length ≤ 1073741824 := by simpa [fitsL, AV.fits, maxL, lsRows] using hfit.1.1
  clear hfit
  simp -implicitDefEqProofs [-Int.not_lt, -Int.not_le, c_slices_Concat_Kind, lsRows]
  refine WP_loop (AWp.loopI [] (fun n f h G => ∃ k : Nat, k + n = ls.length ∧ f 11 = .int .i64 k ∧ f 3 = .int .i64 (lens (ls.take k)) ∧ G = []) (ls.length) (by simp) ⟨0, by simp, rfl, rfl, rfl⟩ ?_)
  rintro n f h G ⟨k, hk, h11, h3, rfl⟩
  refine AWp.run mixed fun Q2 hQ2 => ?_
  simp -implicitDefEqProofs [-Int.not_lt, -Int.not_le, AC.dsts, aoDsts, updT, updH, h11, h3]
  by_cases hlt : k < ls.length
  · have ht := lens_take ls k hlt
    have hle := lens_le ls (k + 1)
    have hnn : ¬ ((lens (ls.take k) : Int) + (ls[k].length : Int) < 0) := by omega
    simp -implicitDefEqProofs [-Int.not_lt, -Int.not_le, hlt, wrap_i64 (n := (k : Int) + 1) (by omega) (by omega), wrap_i64 (n := (lens (ls.take k) : Int) + (ls[k].length : Int)) (by omega) (by omega), hnn]
    refine hQ2 _ _ _ (loop_next (n - 1) (h) rfl (by omega) (by simp -implicitDefEqProofs [AC.dsts, aoDsts, updT, slots]) ?_)
    refine ⟨k + 1, by omega, by simp [slots], ?_, rfl⟩
    simp -implicitDefEqProofs [slots, ht]
  · have hkl : ls.take k = ls := List.take_of_length_le (by omega)
    simp -implicitDefEqProofs [-Int.not_lt, -Int.not_le, hlt, hkl]
    refine hQ2 _ _ _ (loop_exit ?_)
    show KE _ 0 _ Q _ _
    simp -implicitDefEqProofs [-Int.not_lt, -Int.not_le]
    obtain ⟨tok0, hv, ho⟩ := grow_own (lens ls)
    have hgrow := slices_Grow_call (lens ls) (by omega) []
    rw [hv] at hgrow
    generalize growH (lens ls) [] = G0 at hgrow ho
    refine CALL_of (r := .sl tok0 []) (by simpa using hgrow) ?_
    simp -implicitDefEqProofs [-Int.not_lt, -Int.not_le]
    refine WP_loop (AWp.loopG (A := []) (G0 := G0) [] (fun n f h G => ∃ (k : Nat) (tok : Tok), k + n = ls.length ∧ f 27 = .int .i64 k ∧ f 6 = .sl tok ((catK (ls.take k)).map kdCells) ∧ owns 0 G tok ((catK (ls.take k)).map kdCells) 1) ls.length (by simp) ⟨0, tok0, by simp, rfl, rfl, by simpa [catK] using ho⟩ ?_)
    clear hlt hkl hk h11 h3 hgrow ho hv hQ2 Q2
    rintro n f h G ⟨k, tok, hk, h27, h6, hown⟩
    refine AWp.run mixed fun Q2 hQ2 => ?_
    simp -implicitDefEqProofs [-Int.not_lt, -Int.not_le, AC.dsts, aoDsts, updT, updH, h27, h6]
    by_cases hlt : k < ls.length
    · have ht := lens_take ls k hlt
      have hle := lens_le ls (k + 1)
      have hfl := lens_flat (ls.take k)
      simp -implicitDefEqProofs [-Int.not_lt, -Int.not_le, hlt]
      refine OPT_appendM (A := []) (by simpa using hown) (by simp [maxL]; omega) (headK_map _ _ fun _ => by simp) (headK_map _ _ fun _ => by simp) fun tok' G' hown' hG' => ?_
      simp -implicitDefEqProofs [-Int.not_lt, -Int.not_le, wrap_i64 (n := (k : Int) + 1) (by omega) (by omega)]
      refine hQ2 _ _ _ (loop_next (n - 1) (h) rfl (by omega) (by simp -implicitDefEqProofs [AC.dsts, aoDsts, updT, slots]) ?_)
      have e : (catK (ls.take (k + 1))).map kdCells = (catK (ls.take k)).map kdCells ++ ls[k].map kdCells := by rw [flat_take _ _ hlt]; simp
      refine ⟨k + 1, tok', by omega, by simp [slots], ?_, ?_⟩
      · rw [e]; simp [slots]
      · rw [e]; exact hown'
    · have hkl : ls.take k = ls := List.take_of_length_le (by omega)
      simp -implicitDefEqProofs [-Int.not_lt, -Int.not_le, hlt, hkl]
      refine hQ2 _ _ _ (loop_exit ?_)
      show KE _ 2 _ Q _ _
      simp -implicitDefEqProofs [-Int.not_lt, -Int.not_le]
      refine hQ _ _ _ ?_
      simp -implicitDefEqProofs [-Int.not_lt, -Int.not_le]
/-- The kinds that part i of a signature is in the scope of besides. -/
def bndK (s : Sm) (i : Int) : List Kd := if s.op = 4 then s.ks else if s.op = 6 then (if i = 0 then s.ks else s.ks ++ s.more) else []
theorem sem_bound_call (s : Sm) (i : Int) (h1 : s.ks.length ≤ 1000000) (h2 : s.more.length ≤ 1000000) : HCall Go.Proofs.Tryz.prog i_sem_bound [smAV s, .int .i64 i] [] (.sl .none ((bndK s i).map kdCells)) [] := by
  have hcc := slices_Concat_Kind_call [s.ks, s.more] (by simp [lens]; omega)
  have hcat : catK [s.ks, s.more] = s.ks ++ s.more := by simp [catK]
  rw [hcat] at hcc
  have key : bndK s i = if s.op = 4 then s.ks else if s.op = 6 then (if i = 0 then s.ks else s.ks ++ s.more) else [] := rfl
  generalize s.ks ++ s.more = kk at hcc key
  refine HCall.go mixed ok_sem_bound (by simp) fun hfit Q hQ => ?_
  clear hfit
  simp -implicitDefEqProofs [-Int.not_lt, -Int.not_le, c_sem_bound, smAV, smCells_eq s]
  by_cases a1 : s.op = 4
  · simp -implicitDefEqProofs [-Int.not_lt, -Int.not_le, a1]
    refine hQ _ _ _ ?_
    simp -implicitDefEqProofs [-Int.not_lt, -Int.not_le, key, a1]
  · by_cases a2 : s.op = 6
    · by_cases a3 : i = 0
      · have key0 : bndK s i = s.ks := by simp [bndK, a2, a3]
        simp -implicitDefEqProofs [-Int.not_lt, -Int.not_le, a1, a2, a3]
        refine hQ _ _ _ ?_
        simp -implicitDefEqProofs [-Int.not_lt, -Int.not_le, key0]
      · simp -implicitDefEqProofs [-Int.not_lt, -Int.not_le, a1, a2, a3]
        refine CALL_pure hcc (by simp [lsRows]) (by simp) (by simp [lsRows]) ?_
        simp -implicitDefEqProofs [-Int.not_lt, -Int.not_le]
        refine hQ _ _ _ ?_
        simp -implicitDefEqProofs [-Int.not_lt, -Int.not_le, key, a1, a2, a3]
    · simp -implicitDefEqProofs [-Int.not_lt, -Int.not_le, a1, a2]
      refine hQ _ _ _ ?_
      simp -implicitDefEqProofs [-Int.not_lt, -Int.not_le, key, a1, a2]
end Go.Proofs.YtblbepjnkehoaaaGreatDoor
/- Semantic signatures rebuilt. -/
namespace Go.Proofs.YtblbepjnkehoaaaGreatDoor
open Go
def smZero : Sm := .mk 0 0 [] cnZero (.mk []) [] [] [] []
def smE (p : Sm × Int) : AV := .tup [smAV p.1, .int .i64 p.2]
theorem smCells_mk (o n : Int) (t : List UInt8) (c : Cn) (k : Kd) (ks more : List Kd) (names : List (List UInt8)) (l : List Sm) : smCells (.mk o n t c k ks more names l) = [.int .i64 o, .int .i64 n, .str t, .int .i64 c.op, .int .i64 c.n, .str c.s, .sl .none (c.k.l.map kdCells), .sl .none (strRows c.names), .sl .none (c.l.map cnCells),
    .sl .none (k.l.map kdCells), .sl .none (ks.map kdCells), .sl .none (more.map kdCells), .sl .none (strRows names), .sl .none (l.map smCells)] := smCells_eq _
theorem smZero_cells : smCells smZero = [.int .i64 0, .int .i64 0, .str [], .int .i64 0, .int .i64 0, .str [], .sl .none [], .sl .none [], .sl .none [], .sl .none [], .sl .none [], .sl .none [], .sl .none [], .sl .none []] := by
  rw [smCells_eq]; rfl
theorem smE_scoped (p : Sm × Int) (n : Nat) : (smE p).inScope n = true := by simp [smE, AV.inScope, scopedL]
/-- How many kinds are bound around part i. -/
def blen (o : Int) (ks more : List Kd) (i : Nat) : Int := if o = 4 then ks.length else if o = 6 then (if i = 0 then ks.length else ks.length + more.length) else 0
theorem blen_eq (s : Sm) (i : Nat) : ((bndK s (i : Int)).length : Int) = blen s.op s.ks s.more i := by
  unfold bndK blen
  split
  · rfl
  · split
    · by_cases h : i = 0
      · subst h; simp
      · rw [if_neg (by omega), if_neg h]; simp
    · rfl
mutual
def rbS (f : Cn → Int → Cn × Int) : Sm → Int → Sm × Int
  | .mk o n s c k ks more names l, d =>
    if opC3 o = true ∧ (f c d).2 ≠ 0 then (smZero, (f c d).2) else
    if (rbSs f o ks more l 0 d).2 ≠ 0 then (smZero, (rbSs f o ks more l 0 d).2) else
    (.mk o n s (if opC3 o = true then (f c d).1 else cnZero) k ks more names (rbSs f o ks more l 0 d).1, 0)
def rbSs (f : Cn → Int → Cn × Int) (o : Int) (ks more : List Kd) : List Sm → Nat → Int → List Sm × Int
  | [], _, _ => ([], 0)
  | x :: xs, i, d => if (rbS f x (d + blen o ks more i)).2 ≠ 0 then ([], (rbS f x (d + blen o ks more i)).2) else
    ((rbS f x (d + blen o ks more i)).1 :: (rbSs f o ks more xs (i + 1) d).1, (rbSs f o ks more xs (i + 1) d).2)
end
theorem rbS_eq (f : Cn → Int → Cn × Int) (s : Sm) (d : Int) : rbS f s d = if opC3 s.op = true ∧ (f s.con d).2 ≠ 0 then (smZero, (f s.con d).2) else
    if (rbSs f s.op s.ks s.more s.l 0 d).2 ≠ 0 then (smZero, (rbSs f s.op s.ks s.more s.l 0 d).2) else
    (.mk s.op s.n s.s (if opC3 s.op = true then (f s.con d).1 else cnZero) s.k s.ks s.more s.names (rbSs f s.op s.ks s.more s.l 0 d).1, 0) := by
  cases s; rw [rbS]; rfl
/-- Well-formed, of a depth. -/
def tame : Nat → Sm → Prop
  | 0, _ => False
  | h + 1, s => nodeM s = true ∧ ∀ x ∈ s.l, tame h x
mutual
theorem mS_tame : ∀ (s : Sm) (left d : Int) (h : Nat), 401 - d ≤ h → (mS s left d).2 = true → tame h s
  | .mk o n s c k ks more names l, left, d, h, hh, hm => by
    rw [mS] at hm
    split at hm
    · cases hm
    · rename_i hc
      have h1 : ¬ 400 < d := fun e => hc (.inr (.inl e))
      have h3 : nodeM (.mk o n s c k ks more names l) = true := by
        cases e : nodeM (.mk o n s c k ks more names l)
        · exact absurd (.inr (.inr e)) hc
        · rfl
      obtain ⟨h', rfl⟩ : ∃ h', h = h' + 1 := ⟨h - 1, by omega⟩
      exact ⟨h3, mSs_tame l left d _ h' (by omega) hm⟩
theorem mSs_tame : ∀ (l : List Sm) (left d n : Int) (h : Nat), 401 - (d + 1) ≤ h → (mSs l left d n).2 = true → ∀ x ∈ l, tame h x
  | [], _, _, _, _, _, _ => by simp
  | y :: ys, left, d, n, h, hh, hm => by
    rw [mSs] at hm
    split at hm
    · rename_i hc
      intro x hx
      rcases List.mem_cons.1 hx with e | hx
      · rw [e]; exact mS_tame y _ _ h hh hc
      · exact mSs_tame ys left d _ h hh hm x hx
    · cases hm
end
theorem form_tame {s : Sm} (h : formM s = true) : tame 400 s := mS_tame s 20000 1 400 (by omega) h
theorem k1000 {ks : List Kd} (h : kinds1000 ks = true) : ks.length ≤ 1000 := by
  unfold kinds1000 at h
  simp only [Bool.and_eq_true, decide_eq_true_eq] at h
  omega
theorem nodeM_kinds {s : Sm} (h : nodeM s = true) : s.ks.length ≤ 1000 ∧ s.more.length ≤ 1000 := by
  simp only [nodeM, Bool.and_eq_true] at h
  have h5 := h.2.2.2.2
  unfold m5 at h5
  split at h5
  · simp only [Bool.and_eq_true, decide_eq_true_eq] at h5
    exact ⟨k1000 h5.2.1, by rw [h5.2.2]; simp⟩
  · split at h5
    · simp only [Bool.and_eq_true] at h5
      exact ⟨k1000 h5.1, k1000 h5.2.1⟩
    · simp only [Bool.and_eq_true, decide_eq_true_eq] at h5
      rw [h5.2.1, h5.2.2]; simp
theorem nodeM_valid {s : Sm} (h : nodeM s = true) (ho : opC3 s.op = true) : cnValid s.con = true := by
  simp only [nodeM, Bool.and_eq_true] at h
  have := h.2.1
  rwa [m2, if_pos ho] at this
theorem blen_le {s : Sm} (h : nodeM s = true) (i : Nat) : 0 ≤ blen s.op s.ks s.more i ∧ blen s.op s.ks s.more i ≤ 2000 := by
  have := nodeM_kinds h
  unfold blen
  (repeat' split) <;> omega
attribute [local simp] astep aev putA guardA start AV.cells AV.undef takeCells splice intBin strBin abin AV.isCell loadV fillR fillA
attribute [local simp] fin aRes aResL aRes1 AV.strip stripL stripE AV.inScope scopedL scopedE scopedH
set_option maxRecDepth 10000
set_option linter.unusedSimpArgs false
attribute [local simp] beq_dec bne_dec
theorem cnZ_op : cnZero.op = 0 := rfl
theorem cnZ_n : cnZero.n = 0 := rfl
theorem cnZ_s : cnZero.s = [] := rfl
theorem cnZ_k : cnZero.k.l = [] := rfl
theorem cnZ_names : cnZero.names = [] := rfl
theorem cnZ_l : cnZero.l = [] := rfl
set_option maxHeartbeats 2000000 in
theorem sem_rebuild_step (m : Nat) (cap : List AV) (A : List HB) (f : Cn → Int → Cn × Int) (hvA : ∀ b, b < A.length → ∃ cs, A[b]? = some (.var cs)) (hsc : ∀ n, A.length ≤ n → scopedH n A = true) (hcap : ∀ n, A.length ≤ n → scopedL n cap = true)
    (hcb : ∀ (c : Cn) (d : Int), cnValid c = true → 0 ≤ d → d ≤ 1000000 → HCall Go.Proofs.Tryz.prog m ([cnAV c, .int .i64 d] ++ cap) A (cnE (f c d)) A)
    (h : Nat) (s : Sm) (d : Int) (ht : tame (h + 1) s) (h0 : 0 ≤ d) (hd : d + 2000 * (h + 1 : Nat) ≤ 1000000)
    (hrec : ∀ x ∈ s.l, ∀ d : Int, 0 ≤ d → d + 2000 * h ≤ 1000000 → HCall Go.Proofs.Tryz.prog i_sem_rebuild [smAV x, .int .i64 d, .fn (.func m) [] cap] A (smE (rbS f x d)) A) :
    HCall Go.Proofs.Tryz.prog i_sem_rebuild [smAV s, .int .i64 d, .fn (.func m) [] cap] A (smE (rbS f s d)) A := by
  have hsA := hsc A.length (Nat.le_refl _)
  have hcA := hcap A.length (Nat.le_refl _)
  have key := rbS_eq f s d
  have hn := ht.1
  have hks := nodeM_kinds hn
  refine HCall.go mixed ok_sem_rebuild (by simp) fun hfit Q hQ => ?_
  have hf := sm_fits (c := s) (by simpa [fitsL, smAV, AV.fits] using hfit.1)
  have hln : s.l.length ≤ 1073741824 := hf.2.2.2.2.1
  clear hfit hf
  simp -implicitDefEqProofs [-Int.not_lt, -Int.not_le, -WP_seq, c_sem_rebuild, smAV, smCells_eq s]
  rw [WP_seq]
  simp -implicitDefEqProofs [-Int.not_lt, -Int.not_le, -WP_seq]
  rw [WP_seq]
  refine WP_draw (by rfl) ?_
  simp -implicitDefEqProofs [-Int.not_lt, -Int.not_le]
  refine DCALL_pure (slices_Clone_Kind_call s.ks) (by simp) (by simp) (by simp [kdAV, cnAV, cnCells_eq, kdCells_eq, strRows, Kd.l, smAV, smCells_eq]) ?_
  simp -implicitDefEqProofs [-Int.not_lt, -Int.not_le]
  refine DCALL_pure (slices_Clone_Kind_call s.more) (by simp) (by simp) (by simp [kdAV, cnAV, cnCells_eq, kdCells_eq, strRows, Kd.l, smAV, smCells_eq]) ?_
  simp -implicitDefEqProofs [-Int.not_lt, -Int.not_le]
  refine DCALL_pure (slices_Clone_string_call s.names) (by simp) (by simp) (by simp [kdAV, cnAV, cnCells_eq, kdCells_eq, strRows, Kd.l, smAV, smCells_eq]) ?_
  simp -implicitDefEqProofs [-Int.not_lt, -Int.not_le]
  refine CALL_pure (sem_hasCon_call s.op) (by simp) (by simp) (by simp [kdAV, cnAV, cnCells_eq, kdCells_eq, strRows, Kd.l, smAV, smCells_eq]) ?_
  cases ho : opC3 s.op
  · rw [if_neg (by simp [ho])] at key
    simp only [ho, Bool.false_eq_true, if_false] at key
    simp -implicitDefEqProofs [-Int.not_lt, -Int.not_le]
    have hbound := fun i : Nat => sem_bound_call s (i : Int) (by omega) (by omega)
    have hbl := fun i : Nat => blen_eq s i
    have hble := fun i : Nat => blen_le hn i
    have hln2 : s.l.length ≤ 1073741824 := hln
    refine WP_loop (AWp.loopI [A.length + 2] (fun n f' h G => ∃ (k : Nat) (tok : Tok) (P : List Sm), k + n = s.l.length ∧ P.length = k ∧ f' 53 = .int .i64 k ∧
      h (A.length + 2) = [.int .i64 s.op, .int .i64 s.n, .str s.s, .int .i64 0, .int .i64 0, .str [], .sl .nilT [], .sl .nilT [], .sl .nilT [], .sl .none (s.k.l.map kdCells), .sl .none (s.ks.map kdCells), .sl .none (s.more.map kdCells), .sl .none (strRows s.names), .sl tok (P.map smCells)] ∧
      owns (A.length + 3) G tok (P.map smCells) 14 ∧ (rbSs f s.op s.ks s.more (s.l.drop k) k d).2 = (rbSs f s.op s.ks s.more s.l 0 d).2 ∧ P ++ (rbSs f s.op s.ks s.more (s.l.drop k) k d).1 = (rbSs f s.op s.ks s.more s.l 0 d).1) s.l.length (by simp) ⟨0, .nilT, [], by simp, rfl, rfl, by simp [varsOf], owns_nil _ _ _, rfl, rfl⟩ ?_)
    rintro n f' h' G ⟨k, tok, P, hk, hP, h53, ho', hown, he2, he1⟩
    refine AWp.run mixed fun Q2 hQ2 => ?_
    simp -implicitDefEqProofs [-Int.not_lt, -Int.not_le, AC.dsts, aoDsts, updT, updH, h53, ho']
    by_cases hlt : k < s.l.length
    · have hd' := List.drop_eq_getElem_cons hlt
      have hrec := hrec s.l[k] (List.getElem_mem _) (d + blen s.op s.ks s.more k) (by have := hble k; omega) (by have := hble k; omega)
      rw [hd', rbSs] at he1 he2
      simp -implicitDefEqProofs [-Int.not_lt, -Int.not_le, hlt, smCells_eq s.l[k]]
      refine WP_drawF (fun _ => true) [] (by rfl) (by rfl) ?_
      simp -implicitDefEqProofs [-Int.not_lt, -Int.not_le]
      refine DCALL_pure (hbound k) (by simp) (by simp) (by simp [kdAV, cnAV, cnCells_eq, kdCells_eq, strRows, Kd.l, smAV, smCells_eq]) ?_
      simp -implicitDefEqProofs [-Int.not_lt, -Int.not_le, hbl k, wrap_i64 (n := d + blen s.op s.ks s.more k) (by have := hble k; omega) (by have := hble k; omega)]
      refine DCALL_keep (r := smE (rbS f s.l[k] (d + blen s.op s.ks s.more k))) (fun H hH => ?_) ?_
      · obtain ⟨M, rfl⟩ := keep_front hvA (fun _ _ => rfl) hH
        have := hrec.suffix rfl (by simp [scopedL, AV.inScope, hcA]) hsA M
        simpa [smAV, smCells_eq s.l[k]] using this
      generalize rbS f s.l[k] (d + blen s.op s.ks s.more k) = p at he1 he2 ⊢
      obtain ⟨y, e2⟩ := p
      simp only at he1 he2
      simp -implicitDefEqProofs [-Int.not_lt, -Int.not_le, smE, smAV, smCells_eq y]
      refine ⟨fun b cs _ hb => by simpa using keep_append (L := [_]) hb, ?_⟩
      by_cases hz : e2 = 0
      · rw [if_neg (by simpa using hz)] at he1 he2
        simp only at he1 he2
        simp -implicitDefEqProofs [-Int.not_lt, -Int.not_le, hz, fillR]
        refine OPT_appendE (A ++ [_, _, _]) (G ++ [_, _]) (by simp only [List.append_assoc, List.cons_append, List.nil_append]; rfl) (by simpa using owns_more hown) (by simp [maxL]; omega) (headK_map _ _ smCells_length) (by simp) fun tok' G' hown' hG' => ?_
        simp -implicitDefEqProofs [-Int.not_lt, -Int.not_le, wrap_i64 (n := (k : Int) + 1) (by omega) (by omega)]
        refine hQ2 _ _ _ (loop_next (n - 1) (fun _ => [.int .i64 s.op, .int .i64 s.n, .str s.s, .int .i64 0, .int .i64 0, .str [], .sl .nilT [], .sl .nilT [], .sl .nilT [], .sl .none (s.k.l.map kdCells), .sl .none (s.ks.map kdCells), .sl .none (s.more.map kdCells), .sl .none (strRows s.names), .sl tok' ((P ++ [y]).map smCells)]) (G' := G') (by simp [updH, smCells_eq y]) (by omega) (by simp -implicitDefEqProofs [AC.dsts, aoDsts, updT, slots]) ?_)
        refine ⟨k + 1, tok', P ++ [y], by omega, by simp [hP], by simp [slots], by simp, by simpa [smCells_eq y] using hown', he2, by rw [← he1]; simp⟩
      · rw [if_pos hz] at he1 he2
        simp only at he1 he2
        have hz' : (e2 != 0) = true := by simpa using hz
        have e1 : rbS f s d = (smZero, e2) := by rw [key, ← he2, if_pos hz]
        simp -implicitDefEqProofs [-Int.not_lt, -Int.not_le, hz', hz]
        refine hQ2 _ _ _ (loop_ret ?_)
        show KR _ _ Q _ _
        simp -implicitDefEqProofs [-Int.not_lt, -Int.not_le]
        refine hQ _ _ _ ?_
        simp -implicitDefEqProofs [-Int.not_lt, -Int.not_le, e1, smE, smAV, smZero_cells, hsA]
    · have hPe : P = (rbSs f s.op s.ks s.more s.l 0 d).1 := by rw [← he1, List.drop_eq_nil_of_le (by omega)]; simp [rbSs]
      have hs0 : (rbSs f s.op s.ks s.more s.l 0 d).2 = 0 := by rw [← he2, List.drop_eq_nil_of_le (by omega)]; rfl
      rw [if_neg (by simpa using hs0), ← hPe] at key
      simp -implicitDefEqProofs [-Int.not_lt, -Int.not_le, hlt]
      refine hQ2 _ _ _ (loop_exit ?_)
      show KE _ 0 _ Q _ _
      simp -implicitDefEqProofs [-Int.not_lt, -Int.not_le]
      refine hQ _ _ _ ?_
      simp -implicitDefEqProofs [-Int.not_lt, -Int.not_le, key, smE, smAV, smCells_mk, cnZ_op, cnZ_n, cnZ_s, cnZ_k, cnZ_names, cnZ_l, strRows_nil, hsA]
  · have hv := nodeM_valid hn ho
    have hcbs := fun L => (hcb s.con d hv h0 (by omega)).suffix rfl (by simp [scopedL, hcA]) hsA L
    clear hv
    generalize f s.con d = p at key hcbs
    obtain ⟨c, e⟩ := p
    simp only [ho, true_and, if_true] at key
    simp -implicitDefEqProofs [-Int.not_lt, -Int.not_le]
    refine CALL_cap (first := []) (r := cnE (c, e)) (by simpa [cnAV, cnCells_eq s.con] using hcbs [_, _, _]) ?_
    simp -implicitDefEqProofs [-Int.not_lt, -Int.not_le, cnE, cnAV, cnCells_eq c]
    by_cases he : e = 0
    case neg =>
      rw [if_pos he] at key
      have he' : (e != 0) = true := by simpa using he
      simp -implicitDefEqProofs [-Int.not_lt, -Int.not_le, he', he]
      refine hQ _ _ _ ?_
      simp -implicitDefEqProofs [-Int.not_lt, -Int.not_le, key, smE, smAV, smZero_cells, hsA]
    rw [if_neg (by simpa using he)] at key
    simp -implicitDefEqProofs [-Int.not_lt, -Int.not_le, he]
    have hbound := fun i : Nat => sem_bound_call s (i : Int) (by omega) (by omega)
    have hbl := fun i : Nat => blen_eq s i
    have hble := fun i : Nat => blen_le hn i
    have hln2 : s.l.length ≤ 1073741824 := hln
    refine WP_loop (AWp.loopI [A.length + 2] (fun n f' h G => ∃ (k : Nat) (tok : Tok) (P : List Sm), k + n = s.l.length ∧ P.length = k ∧ f' 53 = .int .i64 k ∧
      h (A.length + 2) = [.int .i64 s.op, .int .i64 s.n, .str s.s, .int .i64 c.op, .int .i64 c.n, .str c.s, .sl .none (c.k.l.map kdCells), .sl .none (strRows c.names), .sl .none (c.l.map cnCells), .sl .none (s.k.l.map kdCells), .sl .none (s.ks.map kdCells), .sl .none (s.more.map kdCells), .sl .none (strRows s.names), .sl tok (P.map smCells)] ∧
      owns (A.length + 4) G tok (P.map smCells) 14 ∧ (rbSs f s.op s.ks s.more (s.l.drop k) k d).2 = (rbSs f s.op s.ks s.more s.l 0 d).2 ∧ P ++ (rbSs f s.op s.ks s.more (s.l.drop k) k d).1 = (rbSs f s.op s.ks s.more s.l 0 d).1) s.l.length (by simp) ⟨0, .nilT, [], by simp, rfl, rfl, by simp [varsOf], owns_nil _ _ _, rfl, rfl⟩ ?_)
    rintro n f' h' G ⟨k, tok, P, hk, hP, h53, ho', hown, he2, he1⟩
    refine AWp.run mixed fun Q2 hQ2 => ?_
    simp -implicitDefEqProofs [-Int.not_lt, -Int.not_le, AC.dsts, aoDsts, updT, updH, h53, ho']
    by_cases hlt : k < s.l.length
    · have hd' := List.drop_eq_getElem_cons hlt
      have hrec := hrec s.l[k] (List.getElem_mem _) (d + blen s.op s.ks s.more k) (by have := hble k; omega) (by have := hble k; omega)
      rw [hd', rbSs] at he1 he2
      simp -implicitDefEqProofs [-Int.not_lt, -Int.not_le, hlt, smCells_eq s.l[k]]
      refine WP_drawF (fun _ => true) [] (by rfl) (by rfl) ?_
      simp -implicitDefEqProofs [-Int.not_lt, -Int.not_le]
      refine DCALL_pure (hbound k) (by simp) (by simp) (by simp [kdAV, cnAV, cnCells_eq, kdCells_eq, strRows, Kd.l, smAV, smCells_eq]) ?_
      simp -implicitDefEqProofs [-Int.not_lt, -Int.not_le, hbl k, wrap_i64 (n := d + blen s.op s.ks s.more k) (by have := hble k; omega) (by have := hble k; omega)]
      refine DCALL_keep (r := smE (rbS f s.l[k] (d + blen s.op s.ks s.more k))) (fun H hH => ?_) ?_
      · obtain ⟨M, rfl⟩ := keep_front hvA (fun _ _ => rfl) hH
        have := hrec.suffix rfl (by simp [scopedL, AV.inScope, hcA]) hsA M
        simpa [smAV, smCells_eq s.l[k]] using this
      generalize rbS f s.l[k] (d + blen s.op s.ks s.more k) = p at he1 he2 ⊢
      obtain ⟨y, e2⟩ := p
      simp only at he1 he2
      simp -implicitDefEqProofs [-Int.not_lt, -Int.not_le, smE, smAV, smCells_eq y]
      refine ⟨fun b cs _ hb => by simpa using keep_append (L := [_]) hb, ?_⟩
      by_cases hz : e2 = 0
      · rw [if_neg (by simpa using hz)] at he1 he2
        simp only at he1 he2
        simp -implicitDefEqProofs [-Int.not_lt, -Int.not_le, hz, fillR]
        refine OPT_appendE (A ++ [_, _, _, _]) (G ++ [_, _]) (by simp only [List.append_assoc, List.cons_append, List.nil_append]; rfl) (by simpa using owns_more hown) (by simp [maxL]; omega) (headK_map _ _ smCells_length) (by simp) fun tok' G' hown' hG' => ?_
        simp -implicitDefEqProofs [-Int.not_lt, -Int.not_le, wrap_i64 (n := (k : Int) + 1) (by omega) (by omega)]
        refine hQ2 _ _ _ (loop_next (n - 1) (fun _ => [.int .i64 s.op, .int .i64 s.n, .str s.s, .int .i64 c.op, .int .i64 c.n, .str c.s, .sl .none (c.k.l.map kdCells), .sl .none (strRows c.names), .sl .none (c.l.map cnCells), .sl .none (s.k.l.map kdCells), .sl .none (s.ks.map kdCells), .sl .none (s.more.map kdCells), .sl .none (strRows s.names), .sl tok' ((P ++ [y]).map smCells)]) (G' := G') (by simp [updH, smCells_eq y]) (by omega) (by simp -implicitDefEqProofs [AC.dsts, aoDsts, updT, slots]) ?_)
        refine ⟨k + 1, tok', P ++ [y], by omega, by simp [hP], by simp [slots], by simp, by simpa [smCells_eq y] using hown', he2, by rw [← he1]; simp⟩
      · rw [if_pos hz] at he1 he2
        simp only at he1 he2
        have hz' : (e2 != 0) = true := by simpa using hz
        have e1 : rbS f s d = (smZero, e2) := by rw [key, ← he2, if_pos hz]
        simp -implicitDefEqProofs [-Int.not_lt, -Int.not_le, hz', hz]
        refine hQ2 _ _ _ (loop_ret ?_)
        show KR _ _ Q _ _
        simp -implicitDefEqProofs [-Int.not_lt, -Int.not_le]
        refine hQ _ _ _ ?_
        simp -implicitDefEqProofs [-Int.not_lt, -Int.not_le, e1, smE, smAV, smZero_cells, hsA]
    · have hPe : P = (rbSs f s.op s.ks s.more s.l 0 d).1 := by rw [← he1, List.drop_eq_nil_of_le (by omega)]; simp [rbSs]
      have hs0 : (rbSs f s.op s.ks s.more s.l 0 d).2 = 0 := by rw [← he2, List.drop_eq_nil_of_le (by omega)]; rfl
      rw [if_neg (by simpa using hs0), ← hPe] at key
      simp -implicitDefEqProofs [-Int.not_lt, -Int.not_le, hlt]
      refine hQ2 _ _ _ (loop_exit ?_)
      show KE _ 0 _ Q _ _
      simp -implicitDefEqProofs [-Int.not_lt, -Int.not_le]
      refine hQ _ _ _ ?_
      simp -implicitDefEqProofs [-Int.not_lt, -Int.not_le, key, smE, smAV, smCells_mk, hsA]
theorem sem_rebuild_call (m : Nat) (cap : List AV) (A : List HB) (f : Cn → Int → Cn × Int) (hvA : ∀ b, b < A.length → ∃ cs, A[b]? = some (.var cs)) (hsc : ∀ n, A.length ≤ n → scopedH n A = true) (hcap : ∀ n, A.length ≤ n → scopedL n cap = true)
    (hcb : ∀ (c : Cn) (d : Int), cnValid c = true → 0 ≤ d → d ≤ 1000000 → HCall Go.Proofs.Tryz.prog m ([cnAV c, .int .i64 d] ++ cap) A (cnE (f c d)) A) :
    ∀ (h : Nat) (s : Sm) (d : Int), tame h s → 0 ≤ d → d + 2000 * h ≤ 1000000 → HCall Go.Proofs.Tryz.prog i_sem_rebuild [smAV s, .int .i64 d, .fn (.func m) [] cap] A (smE (rbS f s d)) A
  | 0, _, _, ht, _, _ => ht.elim
  | h + 1, s, d, ht, h0, hd => sem_rebuild_step m cap A f hvA hsc hcap hcb h s d ht h0 hd fun x hx d h0 hd => sem_rebuild_call m cap A f hvA hsc hcap hcb h x d (ht.2 x hx) h0 hd
end Go.Proofs.YtblbepjnkehoaaaGreatDoor
/- Semantic signatures: shifting by the program. -/
namespace Go.Proofs.YtblbepjnkehoaaaGreatDoor
open Go
theorem conB_zero : conB smZero := by
  rw [conB_eq]; exact ⟨by decide, fun x hx => by simp [smZero, Sm.l] at hx⟩
mutual
theorem rbS_conB (f : Cn → Int → Cn × Int) : ∀ (s : Sm) (d : Int) (h : Nat), tame h s → 0 ≤ d → d + 2000 * h ≤ 1000000 → (∀ c d, cnValid c = true → 0 ≤ d → d ≤ 1000000 → cnSize (f c d).1 ≤ 1000000000000) → conB (rbS f s d).1
  | .mk o n s c k ks more names l, d, 0, ht, _, _, _ => ht.elim
  | .mk o n s c k ks more names l, d, h + 1, ht, h0, hd, hf => by
    rw [rbS]
    split
    · exact conB_zero
    · split
      · exact conB_zero
      · rw [conB_eq]
        refine ⟨?_, rbSs_conB f l o ks more 0 d h (fun x hx => ht.2 x hx) (blen_le ht.1) h0 (by omega) hf⟩
        show cnSize (if opC3 o = true then (f c d).1 else cnZero) ≤ _
        split
        · rename_i ho
          exact hf c d (nodeM_valid ht.1 ho) h0 (by omega)
        · decide
theorem rbSs_conB (f : Cn → Int → Cn × Int) : ∀ (l : List Sm) (o : Int) (ks more : List Kd) (i : Nat) (d : Int) (h : Nat), (∀ x ∈ l, tame h x) → (∀ i, 0 ≤ blen o ks more i ∧ blen o ks more i ≤ 2000) → 0 ≤ d → d + 2000 + 2000 * h ≤ 1000000 → (∀ c d, cnValid c = true → 0 ≤ d → d ≤ 1000000 → cnSize (f c d).1 ≤ 1000000000000) → ∀ x ∈ (rbSs f o ks more l i d).1, conB x
  | [], _, _, _, _, _, _, _, _, _, _, _ => by simp [rbSs]
  | y :: ys, o, ks, more, i, d, h, ht, hb, h0, hd, hf => by
    rw [rbSs]
    split
    · simp
    · intro x hx
      have h1 := hb i
      have e1 := rbS_conB f y (d + blen o ks more i) h (ht y (by simp)) (by omega) (by omega) hf
      have e2 := rbSs_conB f ys o ks more (i + 1) d h (fun x hx => ht x (by simp [hx])) hb h0 hd hf
      rcases List.mem_cons.1 hx with e | hx
      · rw [e]; exact e1
      · exact e2 x hx
end
def finS (p : Sm × Int) : Sm × Int := if p.2 ≠ 0 ∨ formM p.1 = false then (smZero, 6) else (p.1, 0)
def zero14 : List AV := [.int .i64 0, .int .i64 0, .str [], .int .i64 0, .int .i64 0, .str [], .sl .nilT [], .sl .nilT [], .sl .nilT [], .sl .nilT [], .sl .nilT [], .sl .nilT [], .sl .nilT [], .sl .nilT []]
attribute [local simp] astep aev putA guardA start AV.cells AV.undef takeCells splice intBin strBin abin AV.isCell loadV fillR fillA
attribute [local simp] fin aRes aResL aRes1 AV.strip stripL stripE AV.inScope scopedL scopedE scopedH
set_option maxRecDepth 10000
set_option linter.unusedSimpArgs false
attribute [local simp] beq_dec bne_dec
theorem sem_finish_call (p : Sm × Int) (hc : conB p.1) : HCall Go.Proofs.Tryz.prog i_sem_finish [smAV p.1, .int .i64 p.2] [] (smE (finS p)) [] := by
  obtain ⟨y, e⟩ := p
  have key : finS (y, e) = if e ≠ 0 ∨ formM y = false then (smZero, 6) else (y, 0) := rfl
  refine HCall.go mixed ok_sem_finish (by simp) fun hfit Q hQ => ?_
  clear hfit
  simp -implicitDefEqProofs [-Int.not_lt, -Int.not_le, c_sem_finish, smAV, smCells_eq y]
  by_cases he : e = 0
  · have he' : (e != 0) = false := by simpa using he
    simp -implicitDefEqProofs [-Int.not_lt, -Int.not_le, he', he]
    refine CALL_pure (sem_formed_call y hc) (by simp) (by simp) (by simp [kdAV, cnAV, cnCells_eq, kdCells_eq, strRows, Kd.l, smAV, smCells_eq]) ?_
    cases hf : formM y
    · rw [if_pos (.inr hf)] at key
      simp -implicitDefEqProofs [-Int.not_lt, -Int.not_le]
      refine hQ _ _ _ ?_
      simp -implicitDefEqProofs [-Int.not_lt, -Int.not_le, key, smE, smAV, smZero_cells]
    · rw [if_neg (by simp [he, hf])] at key
      simp -implicitDefEqProofs [-Int.not_lt, -Int.not_le]
      refine hQ _ _ _ ?_
      simp -implicitDefEqProofs [-Int.not_lt, -Int.not_le, key, smE, smAV, smCells_eq y]
  · have he' : (e != 0) = true := by simpa using he
    rw [if_pos (.inl he)] at key
    simp -implicitDefEqProofs [-Int.not_lt, -Int.not_le, he', he]
    refine hQ _ _ _ ?_
    simp -implicitDefEqProofs [-Int.not_lt, -Int.not_le, key, smE, smAV, smZero_cells]
theorem sem_Shift_2_call (c : Cn) (d by' fr : Int) (A : List HB) (i j : Nat) (hi : A[i]? = some (.var [.int .i64 by'])) (hj : A[j]? = some (.var [.int .i64 fr])) (hsc : scopedH A.length A = true)
    (hv : cnValid c = true) (h0 : 0 ≤ d) (hd : d ≤ 1000000) (hb0 : 0 ≤ by') (hb : by' ≤ 20000) (hf0 : 0 ≤ fr) (hf : fr ≤ 1000000) :
    HCall Go.Proofs.Tryz.prog i_sem_Shift_2 [cnAV c, .int .i64 d, .ptr i 0, .ptr j 0] A (cnE (shS c by' (fr + d))) A := by
  have hil := (List.getElem?_eq_some_iff.1 hi).1
  have hjl := (List.getElem?_eq_some_iff.1 hj).1
  have hi' : ∀ L : List HB, (A ++ L)[i]? = some (.var [.int .i64 by']) := fun L => by rw [List.getElem?_append_left hil]; exact hi
  have hj' : ∀ L : List HB, (A ++ L)[j]? = some (.var [.int .i64 fr]) := fun L => by rw [List.getElem?_append_left hjl]; exact hj
  have hsh := tycon_Shift_call c by' (fr + d) (sizes_one hv) hb0 hb (by omega) (by omega)
  generalize shS c by' (fr + d) = p at hsh ⊢
  obtain ⟨r, e⟩ := p
  refine HCall.go mixed ok_sem_Shift_2 (by simp) fun hfit Q hQ => ?_
  clear hfit
  simp -implicitDefEqProofs [-Int.not_lt, -Int.not_le, c_sem_Shift_2, cnAV, cnCells_eq c, hi', hj', wrap_i64 (n := fr + d) (by omega) (by omega)]
  refine CALL_pure hsh (by simp) (cnE_scoped _ 0) (by simp [cnAV, cnCells_eq c]) ?_
  simp -implicitDefEqProofs [-Int.not_lt, -Int.not_le, cnE, cnAV, cnCells_eq r]
  refine hQ _ _ _ ?_
  simp -implicitDefEqProofs [-Int.not_lt, -Int.not_le, hsc, cnE, cnAV, cnCells_eq r]
def shM (s : Sm) (d fr : Int) : Sm × Int := if formM s = false then (smZero, 1) else finS (rbS (fun c k => shS c d (fr + k)) s 0)
theorem sem_Shift_call (s : Sm) (d fr : Int) (hc : conB s) (hd0 : 0 ≤ d) (hd : d ≤ 20000) (hf0 : 0 ≤ fr) (hf : fr ≤ 20000) : HCall Go.Proofs.Tryz.prog i_sem_Shift [smAV s, .int .i64 d, .int .i64 fr] [] (smE (shM s d fr)) [] := by
  have a1 : ¬ fr < 0 := by omega
  have a2 : ¬ d < -20000 := by omega
  have a3 : ¬ 20000 < d := by omega
  have a4 : ¬ d < 0 := by omega
  have a5 : ¬ 20001 < fr := by omega
  refine HCall.go mixed ok_sem_Shift (by simp) fun hfit Q hQ => ?_
  clear hfit
  simp -implicitDefEqProofs [-Int.not_lt, -Int.not_le, c_sem_Shift, smAV, smCells_eq s]
  refine CALL_pure (sem_formed_call s hc) (by simp) (by simp) (by simp [kdAV, cnAV, cnCells_eq, kdCells_eq, strRows, Kd.l, smAV, smCells_eq]) ?_
  cases hf1 : formM s
  · have key : shM s d fr = (smZero, 1) := by rw [shM, if_pos hf1]
    simp -implicitDefEqProofs [-Int.not_lt, -Int.not_le]
    refine hQ _ _ _ ?_
    simp -implicitDefEqProofs [-Int.not_lt, -Int.not_le, key, smE, smAV, smZero_cells]
  have key : shM s d fr = finS (rbS (fun c k => shS c d (fr + k)) s 0) := by rw [shM, if_neg (by simp [hf1])]
  have ht := form_tame hf1
  simp -implicitDefEqProofs [-Int.not_lt, -Int.not_le, a1, a2, a3, a4, a5, minA, minF]
  have hreb := sem_rebuild_call i_sem_Shift_2 [.ptr 1 0, .ptr 2 0] [.var (smCells s), .var [.int .i64 d], .var [.int .i64 fr], .var zero14] (fun c k => shS c d (fr + k)) (fun b hb => by
      match b, hb with
      | 0, _ => exact ⟨_, rfl⟩
      | 1, _ => exact ⟨_, rfl⟩
      | 2, _ => exact ⟨_, rfl⟩
      | 3, _ => exact ⟨_, rfl⟩) (fun n _ => by simp [scopedH, scopedL, scopedE, AV.inScope, zero14, smCells_eq s]) (fun n hn => by simp only [List.length_cons, List.length_nil] at hn; simp [scopedL, AV.inScope]; omega)
    (fun c k hv h0 h1 => sem_Shift_2_call c k d fr _ 1 2 rfl rfl (by simp [scopedH, scopedL, scopedE, AV.inScope, zero14, smCells_eq s]) hv h0 h1 hd0 hd hf0 (by omega)) 400 s 0 ht (by omega) (by omega)
  have hcr := rbS_conB (fun c k => shS c d (fr + k)) s 0 400 ht (by omega) (by omega) (fun c k _ _ _ => by have := shS_size (c := c) (d := d) (fr := fr + k); omega)
  have hfin := sem_finish_call _ hcr
  clear ht hcr
  generalize rbS (fun c k => shS c d (fr + k)) s 0 = p at key hreb hfin
  obtain ⟨y, e⟩ := p
  refine CALL_of (r := smE (y, e)) (by simpa [smAV, smCells_eq s, zero14] using hreb) ?_
  clear hreb
  simp -implicitDefEqProofs [-Int.not_lt, -Int.not_le, smE, smAV, smCells_eq y]
  generalize finS (y, e) = q at hfin key
  obtain ⟨z, g⟩ := q
  refine CALL_pure hfin (by simp) (smE_scoped _ 0) (by simp [smAV, smCells_eq y]) ?_
  simp -implicitDefEqProofs [-Int.not_lt, -Int.not_le, smE, smAV, smCells_eq z]
  refine hQ _ _ _ ?_
  simp -implicitDefEqProofs [-Int.not_lt, -Int.not_le, key, smE, smAV, smCells_eq z]
end Go.Proofs.YtblbepjnkehoaaaGreatDoor
/- Constructors: substituting by the program. -/
namespace Go.Proofs.YtblbepjnkehoaaaGreatDoor
open Go
mutual
theorem reb_le (L : Cn → Int → Cn) (hL : ∀ c bd, cnSize (L c bd) = 1) : ∀ (c : Cn) (bd left : Int), cnSize (reb L c bd left).1 ≤ cnSize c
  | .mk o n s k ns l, bd, left => by
    rw [reb]
    split
    · rw [cnSize]; show 1 ≤ _; omega
    · split
      · rw [hL, cnSize]; omega
      · have := rebs_le L hL l (if opB o = true then IntKind.i64.wrap (bd + 1) else bd) (left - 1)
        simp only [cnSize]; omega
theorem rebs_le (L : Cn → Int → Cn) (hL : ∀ c bd, cnSize (L c bd) = 1) : ∀ (l : List Cn) (bd left : Int), cnSizes (rebs L l bd left).1 ≤ cnSizes l
  | [], _, _ => by simp [rebs]
  | c :: cs, bd, left => by
    rw [rebs]
    have h1 := reb_le L hL c bd left
    have h2 := rebs_le L hL cs bd (reb L c bd left).2
    simp only [cnSizes]; omega
end
/-- What a leaf becomes that a list is substituted into. -/
def suLeaf (l : List Cn) (c : Cn) (bd : Int) : Cn :=
  if c.op ≠ 1 ∨ IntKind.i64.wrap (c.n - bd) < 0 then cnLeaf c else
  match l[(IntKind.i64.wrap (c.n - bd)).toNat]? with
  | none => cnVar (IntKind.i64.wrap (c.n - l.length))
  | some x => (reb (shLeaf bd 0) x 0 20000).1
theorem suLeaf_size (l : List Cn) (hl : ∀ x ∈ l, cnSize x ≤ 1000000000000) (c : Cn) (bd : Int) : cnSize (suLeaf l c bd) ≤ 1000000000000 := by
  unfold suLeaf
  split
  · simp [cnLeaf, cnSize, cnSizes]
  · split
    · simp [cnVar, cnSize, cnSizes]
    · rename_i x hx
      have := reb_le (shLeaf bd 0) (shLeaf_size bd 0) x 0 20000
      have := hl x (List.mem_of_getElem? hx)
      omega
attribute [local simp] astep aev putA guardA start AV.cells AV.undef takeCells splice intBin strBin abin AV.isCell loadV fillR fillA
attribute [local simp] fin aRes aResL aRes1 AV.strip stripL stripE AV.inScope scopedL scopedE scopedH
set_option maxRecDepth 10000
set_option linter.unusedSimpArgs false
attribute [local simp] beq_dec bne_dec
theorem tycon_Subst_1_call (l : List Cn) (c : Cn) (bd : Int) (A : List HB) (i : Nat) (hi : A[i]? = some (.var [.sl .none (l.map cnCells)])) (hv : ∀ b, b < A.length → ∃ cs, A[b]? = some (.var cs)) (hs : ∀ n, A.length ≤ n → scopedH n A = true) (hl : l.length ≤ 1000) :
    HCall Go.Proofs.Tryz.prog i_tycon_Subst_1 [cnAV c, .int .i64 bd, .ptr i 0] A (cnAV (suLeaf l c bd)) A := by
  have hsc := hs A.length (Nat.le_refl _)
  have hil := (List.getElem?_eq_some_iff.1 hi).1
  have hi' : ∀ L : List HB, (A ++ L)[i]? = some (.var [.sl .none (l.map cnCells)]) := fun L => by rw [List.getElem?_append_left hil]; exact hi
  refine HCall.go mixed ok_tycon_Subst_1 (by simp) fun hfit Q hQ => ?_
  clear hfit
  simp -implicitDefEqProofs [-Int.not_lt, -Int.not_le, c_tycon_Subst_1, cnAV, cnCells_eq c]
  by_cases h1 : c.op = 1
  · by_cases h2 : IntKind.i64.wrap (c.n - bd) < 0
    · have key : suLeaf l c bd = cnLeaf c := by rw [suLeaf, if_pos (.inr h2)]
      simp -implicitDefEqProofs [-Int.not_lt, -Int.not_le, h1, h2]
      refine CALL_pure (tycon_leafOf_call c) (by simp) (by simp) (by simp [cnAV, cnCells_eq, h1]) ?_
      simp -implicitDefEqProofs [-Int.not_lt, -Int.not_le, cnAV]
      refine hQ _ _ _ ?_
      simp -implicitDefEqProofs [-Int.not_lt, -Int.not_le, key, cnAV, hsc]
    · obtain ⟨j, hj⟩ : ∃ j : Nat, IntKind.i64.wrap (c.n - bd) = j := ⟨_, (Int.toNat_of_nonneg (by omega)).symm⟩
      have hj0 : ¬ ((j : Int) < 0) := by omega
      by_cases h3 : j < l.length
      · have h3' : ¬ (l.length ≤ j) := by omega
        have key : suLeaf l c bd = (reb (shLeaf bd 0) l[j] 0 20000).1 := by
          rw [suLeaf, if_neg (by rw [hj]; simp [h1]), hj]
          simp [h3]
        simp -implicitDefEqProofs [-Int.not_lt, -Int.not_le, h1, hj, hj0, hi', h3, h3']
        obtain ⟨B, hB⟩ : ∃ B : List HB, B = A ++ [.var [.int .i64 1, .int .i64 c.n, .str c.s, .sl .none (c.k.l.map kdCells), .sl .none (strRows c.names), .sl .none (c.l.map cnCells)], .var [.int .i64 0, .int .i64 0, .str [], .sl .nilT [], .sl .nilT [], .sl .nilT []]] := ⟨_, rfl⟩
        have hBl : B.length = A.length + 2 := by rw [hB]; simp
        have hBs : ∀ n, B.length ≤ n → scopedH n B = true := fun n hn => by rw [hB, scopedH_app, hs n (by omega)]; simp [scopedH, scopedL, scopedE, AV.inScope]
        have hBv : ∀ b, b < B.length → ∃ cs, B[b]? = some (.var cs) := fun b hb => by
          rw [hBl] at hb
          rw [hB]
          by_cases hlt : b < A.length
          · rw [List.getElem?_append_left hlt]; exact hv b hlt
          · rw [List.getElem?_append_right (by omega)]
            obtain hh | hh : b - A.length = 0 ∨ b - A.length = 1 := by omega
            · rw [hh]; exact ⟨_, rfl⟩
            · rw [hh]; exact ⟨_, rfl⟩
        have hsh := tycon_shifted_call bd 0 B hBs
        have hlf := shLeaf_leaf bd 0 (B ++ [.var [.int .i64 bd], .var [.int .i64 0]]) (B.length + 1) B.length (by rw [List.getElem?_append_right (by omega)]; simp) (by rw [List.getElem?_append_right (by omega)]; simp) (fun b hb => by
          by_cases hlt : b < B.length
          · rw [List.getElem?_append_left hlt]; exact hBv b hlt
          · rw [List.getElem?_append_right (by omega)]
            simp only [List.length_append, List.length_cons, List.length_nil] at hb
            obtain hh | hh : b - B.length = 0 ∨ b - B.length = 1 := by omega
            · rw [hh]; exact ⟨_, rfl⟩
            · rw [hh]; exact ⟨_, rfl⟩) (fun n hn => by
          simp only [List.length_append, List.length_cons, List.length_nil] at hn
          rw [scopedH_app, hBs n (by omega)]; simp [scopedH, scopedL, AV.inScope])
        have hreb := tycon_rebuild_call i_tycon_shifted_1 _ _ _ hlf l[j] 0 20000 (by omega) (by omega)
        rw [← key] at hreb
        generalize (reb (shLeaf bd 0) l[j] 0 20000).2 = lf2 at hreb
        rw [hBl] at hsh hreb
        rw [hB] at hsh hreb
        clear hB hlf hBs hBv hBl
        refine CALL_of (r := .fn (.func i_tycon_shifted_1) [] [.ptr (A.length + 2 + 1) 0, .ptr (A.length + 2) 0]) (by simpa using hsh) ?_
        clear hsh
        simp -implicitDefEqProofs [-Int.not_lt, -Int.not_le, hi', hj, fillA, h3]
        refine CALL_of (r := cnAV (suLeaf l c bd)) (by simpa [cnAV, cnCells_eq l[j]] using hreb) ?_
        clear hreb
        clear key
        simp -implicitDefEqProofs [-Int.not_lt, -Int.not_le, cnAV, cnCells_eq (suLeaf l c bd)]
        refine hQ _ _ _ ?_
        simp -implicitDefEqProofs [-Int.not_lt, -Int.not_le, cnAV, cnCells_eq (suLeaf l c bd), hsc]
      · have h3' : l.length ≤ j := by omega
        have key : suLeaf l c bd = cnVar (IntKind.i64.wrap (c.n - l.length)) := by
          rw [suLeaf, if_neg (by rw [hj]; simp [h1]), hj]
          simp [h3]
        simp -implicitDefEqProofs [-Int.not_lt, -Int.not_le, h1, hj, hj0, hi', h3, h3']
        refine CALL_pure (tycon_variable_call (IntKind.i64.wrap (c.n - l.length))) (by simp) (by simp) (by simp [kdAV, cnAV, cnCells_eq, kdCells_eq, strRows, Kd.l]) ?_
        simp -implicitDefEqProofs [-Int.not_lt, -Int.not_le, cnAV]
        refine hQ _ _ _ ?_
        simp -implicitDefEqProofs [-Int.not_lt, -Int.not_le, key, cnAV, hsc]
  · have key : suLeaf l c bd = cnLeaf c := by rw [suLeaf, if_pos (.inl h1)]
    simp -implicitDefEqProofs [-Int.not_lt, -Int.not_le, h1]
    refine CALL_pure (tycon_leafOf_call c) (by simp) (by simp) (by simp [kdAV, cnAV, cnCells_eq, kdCells_eq, strRows, Kd.l]) ?_
    simp -implicitDefEqProofs [-Int.not_lt, -Int.not_le, cnAV]
    refine hQ _ _ _ ?_
    simp -implicitDefEqProofs [-Int.not_lt, -Int.not_le, key, cnAV, hsc]
theorem suLeaf_leaf (l : List Cn) (A : List HB) (i : Nat) (hi : A[i]? = some (.var [.sl .none (l.map cnCells)])) (hv : ∀ b, b < A.length → ∃ cs, A[b]? = some (.var cs)) (hs : ∀ n, A.length ≤ n → scopedH n A = true) (hl : l.length ≤ 1000) (hz : ∀ x ∈ l, cnSize x ≤ 1000000000000) :
    Leaf i_tycon_Subst_1 [.ptr i 0] A (suLeaf l) where
  call c bd := tycon_Subst_1_call l c bd A i hi hv hs hl
  vars := hv
  sc := hs
  csc n hn := by
    have h1 := (List.getElem?_eq_some_iff.1 hi).1
    simp [scopedL, AV.inScope]; omega
  strip := by simp [stripL, AV.strip]
  size c bd := suLeaf_size l hz c bd
def suM (c : Cn) (l : List Cn) : Cn × Int := if cnValid c = false ∨ l.all cnValid = false then (cnZero, 1) else if 1000 < l.length then (cnZero, 5) else repl (suLeaf l) c
theorem tycon_Subst_call (c : Cn) (l : List Cn) (hc : cnSize c ≤ 1000000000000) (hz : ∀ x ∈ l, cnSize x ≤ 1000000000000) : HCall Go.Proofs.Tryz.prog i_tycon_Subst [cnAV c, .sl .none (l.map cnCells)] [] (cnE (suM c l)) [] := by
  have hall := tycon_all_call l hz
  generalize hav : l.all cnValid = av at hall
  refine HCall.go mixed ok_tycon_Subst (by simp) fun hfit Q hQ => ?_
  clear hfit
  simp -implicitDefEqProofs [-Int.not_lt, -Int.not_le, c_tycon_Subst, cnAV]
  refine CALL_pure (tycon_Valid_call c hc) (by simp) (by simp) (by simp [kdAV, cnAV, cnCells_eq, kdCells_eq, strRows, Kd.l]) ?_
  cases hv : cnValid c
  · have key : suM c l = (cnZero, 1) := by rw [suM, if_pos (.inl hv)]
    simp -implicitDefEqProofs [-Int.not_lt, -Int.not_le]
    refine hQ _ _ _ ?_
    simp -implicitDefEqProofs [-Int.not_lt, -Int.not_le, key, cnE, cnAV, cnZero_cells]
  simp -implicitDefEqProofs [-Int.not_lt, -Int.not_le]
  refine CALL_pure (hall) (by simp) (by simp) (by simp [kdAV, cnAV, cnCells_eq, kdCells_eq, strRows, Kd.l]) ?_
  cases av
  · have key : suM c l = (cnZero, 1) := by rw [suM, if_pos (.inr hav)]
    simp -implicitDefEqProofs [-Int.not_lt, -Int.not_le]
    refine hQ _ _ _ ?_
    simp -implicitDefEqProofs [-Int.not_lt, -Int.not_le, key, cnE, cnAV, cnZero_cells]
  by_cases hl : 1000 < l.length
  · have key : suM c l = (cnZero, 5) := by rw [suM, if_neg (by rw [hv, hav]; simp)]; simp [hl]
    have hl' : (1000 : Int) < (l.length : Int) := by omega
    simp -implicitDefEqProofs [-Int.not_lt, -Int.not_le, hl, hl']
    refine hQ _ _ _ ?_
    simp -implicitDefEqProofs [-Int.not_lt, -Int.not_le, key, cnE, cnAV, cnZero_cells]
  have key : suM c l = repl (suLeaf l) c := by rw [suM, if_neg (by rw [hv, hav]; simp)]; simp [hl]
  have hrep := tycon_replaced_call i_tycon_Subst_1 [.ptr 1 0] [.var (cnCells c), .var [.sl .none (l.map cnCells)], .var [.int .i64 0, .int .i64 0, .str [], .sl .nilT [], .sl .nilT [], .sl .nilT []]] _
    (suLeaf_leaf l _ 1 rfl (fun b hb => by
      match b, hb with
      | 0, _ => exact ⟨_, rfl⟩
      | 1, _ => exact ⟨_, rfl⟩
      | 2, _ => exact ⟨_, rfl⟩) (fun n _ => by simp [scopedH, scopedL, scopedE, AV.inScope]) (by omega) hz) c
  have hl' : ¬ (1000 : Int) < (l.length : Int) := by omega
  simp -implicitDefEqProofs [-Int.not_lt, -Int.not_le, hl, hl']
  refine CALL_of (r := cnE (suM c l)) (by simpa [cnAV, key] using hrep) ?_
  clear hrep key
  generalize hq : suM c l = q
  obtain ⟨r, e⟩ := q
  simp -implicitDefEqProofs [-Int.not_lt, -Int.not_le, cnE, cnAV, cnCells_eq r]
  refine hQ _ _ _ ?_
  simp -implicitDefEqProofs [-Int.not_lt, -Int.not_le, hq, cnE, cnAV, cnCells_eq r]
end Go.Proofs.YtblbepjnkehoaaaGreatDoor
