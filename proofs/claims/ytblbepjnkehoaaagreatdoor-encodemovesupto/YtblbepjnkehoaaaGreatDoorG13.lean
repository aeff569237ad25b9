/- Joined: K24 K25 K30 K31 K32 K35 D36 Brg. -/
import Derived.Test.YtblbepjnkehoaaaGreatDoorG11
import Derived.Test.YtblbepjnkehoaaaGreatDoorG04
import Derived.Test.YtblbepjnkehoaaaGreatDoorG12
import Derived.Test.YtblbepjnkehoaaaGreatDoorG09
import Derived.ChangeArms
import Derived.Test.YtblbepjnkehoaaaGreatDoorG02
import Derived.Test.YtblbepjnkehoaaaGreatDoorRows
set_option linter.unusedSimpArgs false
set_option linter.unusedVariables false
set_option maxHeartbeats 4000000
/- Constructors: shifting by the reference; binders put around. -/
namespace Go.Proofs.YtblbepjnkehoaaaGreatDoor
open Go
attribute [local simp] astep aev putA guardA start AV.cells AV.undef takeCells splice intBin strBin abin AV.isCell loadV fillR fillA
attribute [local simp] fin aRes aResL aRes1 AV.strip stripL stripE AV.inScope scopedL scopedE scopedH
set_option maxRecDepth 10000
set_option linter.unusedSimpArgs false
mutual
def rShift : Cn → Int → Int → Cn
  | .mk o n s k ns l, d, fr => if o = 1 then (if (if 20001 < fr then 20001 else fr) ≤ n then cnVar (IntKind.i64.wrap (n + d)) else .mk o n s k ns l) else .mk o n s k ns (rShifts l d (if opB o = true then IntKind.i64.wrap ((if 20001 < fr then 20001 else fr) + 1) else (if 20001 < fr then 20001 else fr)))
def rShifts : List Cn → Int → Int → List Cn
  | [], _, _ => []
  | c :: cs, d, fr => rShift c d fr :: rShifts cs d fr
end
theorem rShifts_map (l : List Cn) (d fr : Int) : rShifts l d fr = l.map fun x => rShift x d fr := by
  induction l with
  | nil => rfl
  | cons c l ih => simp [rShifts, ih]
def top (fr : Int) : Int := if 20001 < fr then 20001 else fr
theorem rShift_eq (c : Cn) (d fr : Int) : rShift c d fr = if c.op = 1 then (if top fr ≤ c.n then cnVar (IntKind.i64.wrap (c.n + d)) else c) else .mk c.op c.n c.s c.k c.names (c.l.map fun x => rShift x d (if opB c.op = true then IntKind.i64.wrap (top fr + 1) else top fr)) := by
  cases c; rw [rShift, rShifts_map]; rfl
theorem pilasterref09_Shift_step (c : Cn) (d fr : Int) (hrec : ∀ x ∈ c.l, ∀ fr, HCall Go.Proofs.Tryz.prog i_pilasterref09_Shift [cnAV x, .int .i64 d, .int .i64 fr] [] (cnAV (rShift x d fr)) []) :
    HCall Go.Proofs.Tryz.prog i_pilasterref09_Shift [cnAV c, .int .i64 d, .int .i64 fr] [] (cnAV (rShift c d fr)) [] := by
  have key := rShift_eq c d fr
  refine HCall.go mixed ok_pilasterref09_Shift (by simp) fun hfit Q hQ => ?_
  have hf := cn_fits (c := c) (by simpa [fitsL, cnAV, AV.fits] using hfit.1)
  have hln : c.l.length ≤ 1073741824 := hf.2.2.2.2.2.2.2.1
  clear hfit hf
  have htop : (if 20001 < fr then (20001 : Int) else fr) = top fr := rfl
  generalize htf : top fr = tf at key htop
  simp -implicitDefEqProofs [c_pilasterref09_Shift, cnAV, cnCells_eq c, minA, minF, htop, beq_dec]
  by_cases h1 : c.op = 1
  · rw [if_pos h1] at key
    by_cases h2 : tf ≤ c.n
    · rw [if_pos h2] at key
      simp -implicitDefEqProofs [h1, h2]
      refine hQ _ _ _ ?_
      simp -implicitDefEqProofs [key, cnAV, cnVar, cnCells_mk, strRows_nil, Kd.l_mk]
    · rw [if_neg h2] at key
      simp -implicitDefEqProofs [h1, h2]
      refine hQ _ _ _ ?_
      simp -implicitDefEqProofs [key, cnAV, cnCells_eq c, h1]
  rw [if_neg h1] at key
  generalize hdf : (if opB c.op = true then IntKind.i64.wrap (tf + 1) else tf) = df at key
  have hdeep := pilasterref09_deep_call c tf
  rw [hdf] at hdeep
  obtain ⟨l', hl'⟩ : ∃ l', l' = c.l.map fun x => rShift x d df := ⟨_, rfl⟩
  have hlen : l'.length = c.l.length := by rw [hl']; simp
  have hget : ∀ k (h : k < c.l.length) (h' : k < l'.length), l'[k] = rShift c.l[k] d df := fun k h h' => by simp [hl']
  rw [← hl'] at key
  simp -implicitDefEqProofs [h1]
  refine WP_loop (AWp.loopI [] (fun n f h G => ∃ k tok, k + n = c.l.length ∧ f 8 = .int .i64 k ∧ f 7 = .sl tok ((l'.map cnCells).take k) ∧ owns 2 G tok ((l'.map cnCells).take k) 6) (c.l.length) (by simp) ⟨0, .nilT, by simp, rfl, rfl, owns_nil _ _ _⟩ ?_)
  rintro n f h G ⟨k, tok, hk, h8, h7, hown⟩
  refine AWp.run mixed fun Q2 hQ2 => ?_
  simp -implicitDefEqProofs [AC.dsts, aoDsts, updT, updH, h8, h7]
  by_cases hlt : k < c.l.length
  · have hrec := hrec c.l[k] (List.getElem_mem _) df
    have hlt' : k < l'.length := by omega
    rw [← hget k hlt hlt'] at hrec
    simp -implicitDefEqProofs [hlt]
    refine WP_draw (by rfl) ?_
    simp -implicitDefEqProofs [hlt]
    refine DCALL_pure (hdeep) (by simp) (by simp) (by simp [kdAV, cnAV, cnCells_eq, kdCells_eq, strRows, Kd.l]) ?_
    simp -implicitDefEqProofs
    refine DCALL_pure (hrec) (by simp) (by simp) (by simp [kdAV, cnAV, cnCells_eq, kdCells_eq, strRows, Kd.l]) ?_
    simp -implicitDefEqProofs [cnAV, fillR]
    refine DOPT_append (A := [_, _]) hown (by simp [maxL]; omega) (headK_take (headK_map _ _ cnCells_length)) (by simp) fun tok' G' hown' hG' => ?_
    simp -implicitDefEqProofs [wrap_i64 (n := (k : Int) + 1) (by omega) (by omega)]
    refine hQ2 _ _ _ (loop_next (n - 1) (h) rfl (by omega) (by simp -implicitDefEqProofs [AC.dsts, aoDsts, updT, slots]) ?_)
    have e : (l'.map cnCells).take (k + 1) = (l'.map cnCells).take k ++ [cnCells l'[k]] := by
      rw [take_snoc _ _ (by simpa using hlt')]; simp
    refine ⟨k + 1, tok', by omega, by simp [slots], ?_, ?_⟩
    · rw [e]; simp [slots]
    · rw [e]; exact hown'
  · have hkl : (l'.map cnCells).take k = l'.map cnCells := List.take_of_length_le (by simp; omega)
    simp -implicitDefEqProofs [hlt]
    refine hQ2 _ _ _ (loop_exit ?_)
    show KE _ 0 _ Q _ _
    simp -implicitDefEqProofs [hkl]
    refine CALL_pure (pilasterref09_inside_call c l') (by simp) (by simp) (by simp [kdAV, cnAV, cnCells_eq, kdCells_eq, strRows, Kd.l]) ?_
    simp -implicitDefEqProofs [cnAV]
    refine hQ _ _ _ ?_
    simp -implicitDefEqProofs [key, cnAV]
theorem pilasterref09_Shift_call (c : Cn) (d fr : Int) : HCall Go.Proofs.Tryz.prog i_pilasterref09_Shift [cnAV c, .int .i64 d, .int .i64 fr] [] (cnAV (rShift c d fr)) [] :=
  pilasterref09_Shift_step c d fr fun x _ fr => pilasterref09_Shift_call x d fr
termination_by SizeOf.sizeOf c
decreasing_by exact Cn.lt_l ‹_›
/-- Binders put around. -/
def around (op : Int) (ks : List Kd) (c : Cn) : Cn := ks.foldr (cnBound op) c
theorem pilasterref25_Around_call (op : Int) (ks : List Kd) (c : Cn) : HCall Go.Proofs.Tryz.prog i_pilasterref25_Around [.int .i64 op, .sl .none (ks.map kdCells), cnAV c] [] (cnAV (around op ks c)) [] := by
  refine HCall.go mixed ok_pilasterref25_Around (by simp) fun hfit Q hQ => ?_
  have hln : ks.length ≤ 1073741824 := by simpa [fitsL, AV.fits, maxL] using hfit.2.1.1
  clear hfit
  simp -implicitDefEqProofs [c_pilasterref25_Around, cnAV, wrap_i64 (n := (ks.length : Int) - 1) (by omega) (by omega)]
  refine WP_loop (AWp.loopI [0] (fun n f h G => ∃ m : Nat, n = m ∧ m ≤ ks.length ∧ f 7 = .int .i64 ((m : Int) - 1) ∧ h 0 = cnCells (around op (ks.drop m) c) ∧ G = []) (ks.length) (by simp) ⟨ks.length, rfl, Nat.le_refl _, rfl, by simp [varsOf, around], rfl⟩ ?_)
  rintro n f h G ⟨m, hnm, hm, h7, h0, rfl⟩
  refine AWp.run mixed fun Q2 hQ2 => ?_
  simp -implicitDefEqProofs [AC.dsts, aoDsts, updT, updH, h7, h0]
  by_cases hlt : 1 ≤ m
  · have hlt' : (0 : Int) ≤ (m : Int) - 1 := by omega
    have hlt3 : (1 : Int) ≤ (m : Int) := by omega
    have hk : m - 1 < ks.length := by omega
    have e1 : ((m : Int) - 1).toNat = m - 1 := by omega
    have hg : ks[m - 1]? = some ks[m - 1] := List.getElem?_eq_getElem hk
    have hd := List.drop_eq_getElem_cons hk
    have hm1 : m - 1 + 1 = m := by omega
    rw [hm1] at hd
    simp -implicitDefEqProofs [hlt', hlt, hlt3]
    refine WP_draw (by rfl) ?_
    simp -implicitDefEqProofs [e1, hk, hg, hlt', hlt, hlt3]
    refine DCALL_pure (pilasterref09_Bound_call op ks[m - 1] (around op (ks.drop m) c)) (by simp) (by simp) (by simp [kdAV, cnAV, cnCells_eq, kdCells_eq, strRows, Kd.l]) ?_
    simp -implicitDefEqProofs [cnAV, wrap_i64 (n := (m : Int) - 1 - 1) (by omega) (by omega)]
    refine hQ2 _ _ _ (loop_next (n - 1) (fun _ => cnCells (cnBound op ks[m - 1] (around op (ks.drop m) c))) rfl (by omega) (by simp -implicitDefEqProofs [AC.dsts, aoDsts, updT, slots]) ?_)
    refine ⟨m - 1, by omega, by omega, ?_, ?_, rfl⟩
    · simp [slots]; omega
    · rw [hd]; rfl
  · have hlt' : ¬ (0 : Int) ≤ (m : Int) - 1 := by omega
    obtain rfl : m = 0 := by omega
    simp -implicitDefEqProofs
    refine hQ2 _ _ _ (loop_exit ?_)
    show KE _ 0 _ Q _ _
    simp -implicitDefEqProofs
    refine hQ _ _ _ ?_
    simp -implicitDefEqProofs [cnAV]
end Go.Proofs.YtblbepjnkehoaaaGreatDoor
/- Closures over a heap: the leaves of a shift; constructors rebuilt. -/
namespace Go.Proofs.YtblbepjnkehoaaaGreatDoor
open Go
attribute [local simp] astep aev putA guardA start AV.cells AV.undef takeCells splice intBin strBin abin AV.isCell loadV fillR fillA
attribute [local simp] fin aRes aResL aRes1 AV.strip stripL stripE AV.inScope scopedL scopedE scopedH
set_option maxRecDepth 10000
set_option linter.unusedSimpArgs false
theorem keep_front {A L0 H : List HB} {V : Nat → Bool} (hA : ∀ b, b < A.length → ∃ cs, A[b]? = some (.var cs)) (hV : ∀ b, b < A.length → V b = true) (h : keepV V (A ++ L0) H) : ∃ L, H = A ++ L := by
  have hg : ∀ b, b < A.length → H[b]? = A[b]? := fun b hb => by
    obtain ⟨cs, hcs⟩ := hA b hb
    rw [hcs]
    exact h b cs (hV b hb) (by rw [List.getElem?_append_left hb]; exact hcs)
  refine ⟨H.drop A.length, ?_⟩
  apply List.ext_getElem?
  intro b
  by_cases hb : b < A.length
  · rw [List.getElem?_append_left hb, hg b hb]
  · rw [List.getElem?_append_right (by omega), List.getElem?_drop]
    congr 1; omega
theorem keep_mid (A : List HB) (x y : HB) (L : List HB) : keepV (fun b => b != A.length) (A ++ x :: L) (A ++ y :: L) := by
  intro b cs hV hb
  by_cases hlt : b < A.length
  · rw [List.getElem?_append_left hlt] at hb ⊢; exact hb
  · have hne : b ≠ A.length := by simpa using hV
    rw [List.getElem?_append_right (by omega)] at hb ⊢
    obtain ⟨j, hj⟩ : ∃ j, b - A.length = j + 1 := ⟨b - A.length - 1, by omega⟩
    rw [hj, List.getElem?_cons_succ] at hb ⊢
    exact hb
theorem DOPT_appendE {e : TypeId} {P : Program} {V : Nat → Bool} {nq : List Nat} {H0 H : List HB} {n : Nat} (A G : List HB) (hH : H = A ++ G) {tok : Tok} {els : List (List AV)} {k : Nat} {row : List AV} {dst : Option Nat} {l : List AO} {kf : List Fr} {Q : Post} {t : List AV} (h : owns A.length G tok els k) (hl : els.length + 1 ≤ maxL) (hk : headK k els = true) (hr : row.length = k)
    (hn : ∀ tok' G', owns A.length G' tok' (els ++ [row]) k → G.length ≤ G'.length → DR P V nq H0 (n + 1) l kf Q (putA t dst (.sl tok' (els ++ [row]))) (A ++ G')) : DOPT P V nq H0 n (aappend k e tok els [row] H) dst l kf Q t := by
  subst hH
  exact DOPT_append h hl hk hr hn
/-- What a function that gives leaves does, over a heap of variables. -/
structure Leaf (lf : Nat) (cap : List AV) (A : List HB) (L : Cn → Int → Cn) : Prop where
  call : ∀ c bd, HCall Go.Proofs.Tryz.prog lf ([cnAV c, .int .i64 bd] ++ cap) A (cnAV (L c bd)) A
  vars : ∀ b, b < A.length → ∃ cs, A[b]? = some (.var cs)
  sc : ∀ n, A.length ≤ n → scopedH n A = true
  csc : ∀ n, A.length ≤ n → scopedL n cap = true
  strip : stripL cap = cap
  size : ∀ c bd, cnSize (L c bd) ≤ 1000000000000
def shLeaf (d fr : Int) (c : Cn) (bd : Int) : Cn := if c.op = 1 ∧ fr ≤ IntKind.i64.wrap (c.n - bd) then cnVar (IntKind.i64.wrap (c.n + d)) else cnLeaf c
theorem cnAV_args (c : Cn) (bd : Int) : stripL [cnAV c, .int .i64 bd] = [cnAV c, .int .i64 bd] := by simp [stripL, AV.strip, cnAV]
theorem tycon_shifted_1_call (c : Cn) (bd d fr : Int) (A : List HB) (i j : Nat) (hi : A[i]? = some (.var [.int .i64 fr])) (hj : A[j]? = some (.var [.int .i64 d])) (hsc : scopedH A.length A = true) :
    HCall Go.Proofs.Tryz.prog i_tycon_shifted_1 [cnAV c, .int .i64 bd, .ptr i 0, .ptr j 0] A (cnAV (shLeaf d fr c bd)) A := by
  have hil := (List.getElem?_eq_some_iff.1 hi).1
  have hjl := (List.getElem?_eq_some_iff.1 hj).1
  have hi' : ∀ L : List HB, (A ++ L)[i]? = some (.var [.int .i64 fr]) := fun L => by rw [List.getElem?_append_left hil]; exact hi
  have hj' : ∀ L : List HB, (A ++ L)[j]? = some (.var [.int .i64 d]) := fun L => by rw [List.getElem?_append_left hjl]; exact hj
  refine HCall.go mixed ok_tycon_shifted_1 (by simp) fun hfit Q hQ => ?_
  clear hfit
  simp -implicitDefEqProofs [c_tycon_shifted_1, cnAV, cnCells_eq c, beq_dec]
  by_cases h1 : c.op = 1
  · by_cases h2 : fr ≤ IntKind.i64.wrap (c.n - bd)
    · simp -implicitDefEqProofs [h1, hi', h2, hj']
      refine CALL_pure (tycon_variable_call (IntKind.i64.wrap (c.n + d))) (by simp) (by simp) (by simp [kdAV, cnAV, cnCells_eq, kdCells_eq, strRows, Kd.l]) ?_
      simp -implicitDefEqProofs [cnAV]
      refine hQ _ _ _ ?_
      simp -implicitDefEqProofs [shLeaf, h1, h2, cnAV, hsc]
    · simp -implicitDefEqProofs [h1, hi', h2]
      refine CALL_pure (tycon_leafOf_call c) (by simp) (by simp) (by simp [cnAV, cnCells_eq, h1]) ?_
      simp -implicitDefEqProofs [cnAV]
      refine hQ _ _ _ ?_
      simp -implicitDefEqProofs [shLeaf, h1, h2, cnAV, hsc]
  · simp -implicitDefEqProofs [h1]
    refine CALL_pure (tycon_leafOf_call c) (by simp) (by simp) (by simp [kdAV, cnAV, cnCells_eq, kdCells_eq, strRows, Kd.l]) ?_
    simp -implicitDefEqProofs [cnAV]
    refine hQ _ _ _ ?_
    simp -implicitDefEqProofs [shLeaf, h1, cnAV, hsc]
theorem tycon_shifted_call (d fr : Int) (A : List HB) (hsc : ∀ n, A.length ≤ n → scopedH n A = true) : HCall Go.Proofs.Tryz.prog i_tycon_shifted [.int .i64 d, .int .i64 fr] A (.fn (.func i_tycon_shifted_1) [] [.ptr (A.length + 1) 0, .ptr A.length 0]) (A ++ [.var [.int .i64 d], .var [.int .i64 fr]]) := by
  have h2 := hsc (A.length + 2) (by omega)
  refine HCall.go mixed ok_tycon_shifted (by simp) fun hfit Q hQ => ?_
  clear hfit
  simp -implicitDefEqProofs [c_tycon_shifted]
  refine hQ _ _ _ ?_
  simp -implicitDefEqProofs [scopedH_app, h2]
mutual
/-- A constructor rebuilt with other leaves; how many nodes may still be made. -/
def reb (L : Cn → Int → Cn) : Cn → Int → Int → Cn × Int
  | .mk o n s k ns l, bd, left => if left ≤ 0 then (cnZero, -1) else if o = 1 ∨ o = 2 then (L (.mk o n s k ns l) bd, left - cnSize (L (.mk o n s k ns l) bd)) else
      (.mk o n s k ns (rebs L l (if opB o = true then IntKind.i64.wrap (bd + 1) else bd) (left - 1)).1, (rebs L l (if opB o = true then IntKind.i64.wrap (bd + 1) else bd) (left - 1)).2)
def rebs (L : Cn → Int → Cn) : List Cn → Int → Int → List Cn × Int
  | [], _, left => ([], left)
  | c :: cs, bd, left => ((reb L c bd left).1 :: (rebs L cs bd (reb L c bd left).2).1, (rebs L cs bd (reb L c bd left).2).2)
end
def under (op bd : Int) : Int := if opB op = true then IntKind.i64.wrap (bd + 1) else bd
theorem reb_eq (L : Cn → Int → Cn) (c : Cn) (bd left : Int) : reb L c bd left = if left ≤ 0 then (cnZero, -1) else if c.op = 1 ∨ c.op = 2 then (L c bd, left - cnSize (L c bd)) else
    (.mk c.op c.n c.s c.k c.names (rebs L c.l (under c.op bd) (left - 1)).1, (rebs L c.l (under c.op bd) (left - 1)).2) := by
  cases c; rw [reb]; rfl
mutual
theorem reb_bounds (L : Cn → Int → Cn) (hL : ∀ c bd, cnSize (L c bd) ≤ 1000000000000) : ∀ (c : Cn) (bd left : Int), -1000000000000 ≤ left → left ≤ 20000 → -1000000000000 ≤ (reb L c bd left).2 ∧ (reb L c bd left).2 ≤ 20000
  | .mk o n s k ns l, bd, left, h1, h2 => by
    rw [reb]
    split
    · simp
    · split
      · have := hL (.mk o n s k ns l) bd
        simp only; omega
      · exact rebs_bounds L hL l _ (left - 1) (by omega) (by omega)
theorem rebs_bounds (L : Cn → Int → Cn) (hL : ∀ c bd, cnSize (L c bd) ≤ 1000000000000) : ∀ (l : List Cn) (bd left : Int), -1000000000000 ≤ left → left ≤ 20000 → -1000000000000 ≤ (rebs L l bd left).2 ∧ (rebs L l bd left).2 ≤ 20000
  | [], _, _, h1, h2 => ⟨h1, h2⟩
  | c :: cs, bd, left, h1, h2 => by
    rw [rebs]
    have := reb_bounds L hL c bd left h1 h2
    exact rebs_bounds L hL cs bd _ this.1 this.2
end
/-- Lists rebuilt, from the front. -/
theorem rebs_snoc (L : Cn → Int → Cn) : ∀ (l : List Cn) (c : Cn) (bd left : Int), rebs L (l ++ [c]) bd left = ((rebs L l bd left).1 ++ [(reb L c bd (rebs L l bd left).2).1], (reb L c bd (rebs L l bd left).2).2)
  | [], c, bd, left => by simp [rebs]
  | x :: xs, c, bd, left => by rw [List.cons_append, rebs, rebs_snoc L xs c bd, rebs]; simp
theorem rebs_length (L : Cn → Int → Cn) : ∀ (l : List Cn) (bd left : Int), (rebs L l bd left).1.length = l.length
  | [], _, _ => rfl
  | x :: xs, bd, left => by rw [rebs]; simp [rebs_length L xs]
theorem tycon_rebuild_step (lf : Nat) (cap : List AV) (A : List HB) (L : Cn → Int → Cn) (hL : Leaf lf cap A L) (c : Cn) (bd left : Int) (hl1 : -1000000000000 ≤ left) (hl2 : left ≤ 20000)
    (hrec : ∀ x ∈ c.l, ∀ bd left, -1000000000000 ≤ left → left ≤ 20000 → HCall Go.Proofs.Tryz.prog i_tycon_maker_rebuild [.ptr A.length 0, cnAV x, .int .i64 bd] (A ++ [.var [.fn (.func lf) [] cap, .int .i64 left]]) (cnAV (reb L x bd left).1) (A ++ [.var [.fn (.func lf) [] cap, .int .i64 (reb L x bd left).2]])) :
    HCall Go.Proofs.Tryz.prog i_tycon_maker_rebuild [.ptr A.length 0, cnAV c, .int .i64 bd] (A ++ [.var [.fn (.func lf) [] cap, .int .i64 left]]) (cnAV (reb L c bd left).1) (A ++ [.var [.fn (.func lf) [] cap, .int .i64 (reb L c bd left).2]]) := by
  have key := reb_eq L c bd left
  have hs1 := hL.sc (A.length + 1) (by omega)
  have hs2 := hL.csc (A.length + 1) (by omega)
  refine HCall.go mixed ok_tycon_maker_rebuild (by simp) fun hfit Q hQ => ?_
  have hf := cn_fits (c := c) (by simpa [fitsL, cnAV, AV.fits] using hfit.2.1)
  have hln : c.l.length ≤ 1073741824 := hf.2.2.2.2.2.2.2.1
  clear hfit hf
  simp -implicitDefEqProofs [-WP_seq, c_tycon_maker_rebuild, cnAV, cnCells_eq c]
  rw [WP_seq]
  simp -implicitDefEqProofs [-WP_seq]
  by_cases h0 : left ≤ 0
  · rw [if_pos h0] at key
    simp -implicitDefEqProofs [h0]
    refine hQ _ _ _ ?_
    simp -implicitDefEqProofs [key, cnAV, cnZero_cells, scopedH_app, hs1, hs2]
  rw [if_neg h0] at key
  simp -implicitDefEqProofs [h0]
  by_cases h1 : c.op = 1 ∨ c.op = 2
  · rw [if_pos h1] at key
    have hsz := hL.size c bd
    have hgo : ∀ (K : Prop), (c.op = 1 → K) → (c.op = 2 → K) → K := fun K a b => h1.elim a b
    refine hgo _ (fun h => ?_) (fun h => ?_)
    all_goals
      simp -implicitDefEqProofs [h, beq_dec]
      refine WP_draw (by rfl) ?_
      simp -implicitDefEqProofs
      refine DCALL_keep (r := cnAV (L c bd)) (fun H hH => ?_) ?_
      · obtain ⟨M, rfl⟩ := keep_front hL.vars (fun _ _ => rfl) hH
        have := (hL.call c bd).suffix rfl (by simp [scopedL, hL.csc _ (Nat.le_refl _)]) (hL.sc _ (Nat.le_refl _)) M
        simpa [cnAV, cnCells_eq c, h] using this
      simp -implicitDefEqProofs [cnAV]
      refine WP_draw (by rfl) ?_
      simp -implicitDefEqProofs
      refine DCALL_pure (tycon_Size_call (L c bd) hsz) (by simp) (by simp) (by simp [cnAV]) ?_
      simp -implicitDefEqProofs [wrap_i64 (n := left - cnSize (L c bd)) (by omega) (by omega)]
      refine hQ _ _ _ ?_
      simp -implicitDefEqProofs [key, cnAV, scopedH_app, hs1, hs2]
  rw [if_neg h1] at key
  have h1a : ¬ c.op = 1 := fun h => h1 (.inl h)
  have h1b : ¬ c.op = 2 := fun h => h1 (.inr h)
  obtain ⟨ub, hub⟩ : ∃ ub, ub = under c.op bd := ⟨_, rfl⟩
  rw [← hub] at key
  have hB : (opB c.op = false ∧ bd = ub) ∨ (opB c.op = true ∧ IntKind.i64.wrap (bd + 1) = ub) := by
    rw [hub, under]; cases opB c.op <;> simp
  clear hub
  simp -implicitDefEqProofs [h1a, h1b, beq_dec, wrap_i64 (n := left - 1) (by omega) (by omega)]
  refine WP_draw (by rfl) ?_
  simp -implicitDefEqProofs
  refine DCALL_pure (tycon_kindOf_call c.k) (by simp) (by simp) (by simp [kdAV, cnAV, cnCells_eq, kdCells_eq, strRows, Kd.l]) ?_
  simp -implicitDefEqProofs
  refine DCALL_pure (slices_Clone_string_call c.names) (by simp) (by simp) (by simp [kdAV, cnAV, cnCells_eq, kdCells_eq, strRows, Kd.l]) ?_
  simp -implicitDefEqProofs [kdAV, kdCells_eq c.k]
  refine CALL_pure (tycon_binder_call c) (by simp) (by simp) (by simp [kdAV, cnAV, cnCells_eq, kdCells_eq, strRows, Kd.l]) ?_
  have hl3 : -1000000000000 ≤ left - 1 := by omega
  have hl4 : left - 1 ≤ 20000 := by omega
  generalize left - 1 = lf1 at key hl3 hl4 ⊢
  rcases hB with ⟨hB, hub⟩ | ⟨hB, hub⟩
  all_goals
    simp -implicitDefEqProofs [hB, hub]
    refine WP_loop (AWp.loopI [A.length, A.length + 3] (fun n f h G => ∃ k tok, k + n = c.l.length ∧ f 72 = .int .i64 (k : Nat) ∧ h A.length = [.fn (.func lf) [] cap, .int .i64 (rebs L (c.l.take k) ub lf1).2] ∧
      h (A.length + 3) = [.int .i64 c.op, .int .i64 c.n, .str c.s, .sl .none (c.k.l.map kdCells), .sl .none (strRows c.names), .sl tok ((rebs L (c.l.take k) ub lf1).1.map cnCells)] ∧
      owns (A.length + 4) G tok ((rebs L (c.l.take k) ub lf1).1.map cnCells) 6) c.l.length (by simp) ⟨0, .nilT, by simp, rfl, by simp [varsOf, rebs], by simp [varsOf, rebs], owns_nil _ _ _⟩ ?_)
    rintro n f h G ⟨k, tok, hk, h72, hm, ho, hown⟩
    refine AWp.run mixed fun Q2 hQ2 => ?_
    simp -implicitDefEqProofs [AC.dsts, aoDsts, updT, updH, h72, hm, ho]
    by_cases hlt : k < c.l.length
    · have hbn := rebs_bounds L hL.size (c.l.take k) ub lf1 hl3 hl4
      have hrec := hrec c.l[k] (List.getElem_mem _) ub (rebs L (c.l.take k) ub lf1).2 hbn.1 hbn.2
      have hts : rebs L (c.l.take (k + 1)) ub lf1 = ((rebs L (c.l.take k) ub lf1).1 ++ [(reb L c.l[k] ub (rebs L (c.l.take k) ub lf1).2).1], (reb L c.l[k] ub (rebs L (c.l.take k) ub lf1).2).2) := by
        rw [take_snoc _ _ hlt, rebs_snoc]
      have hlen := rebs_length L (c.l.take k) ub lf1
      rw [List.length_take] at hlen
      simp -implicitDefEqProofs [hlt]
      refine WP_drawV (fun b => b != A.length) [5] (by rfl) ?_
      simp -implicitDefEqProofs
      refine DCALLI_of (first := []) (cap := []) (r := cnAV (reb L c.l[k] ub (rebs L (c.l.take k) ub lf1).2).1) (by simpa [cnAV] using hrec.suffix (by simp) (by simp [scopedL, AV.inScope]) (by simp [scopedH_app, scopedH, scopedL, AV.inScope, hs1, hs2]) _) (keep_mid A _ _ _) ?_
      simp -implicitDefEqProofs [cnAV, fillR]
      refine DOPT_appendE (A ++ [_, _, _, _]) (G ++ [_]) (by simp only [List.append_assoc, List.cons_append, List.nil_append]; rfl) (by simpa using owns_more hown) (by simp [maxL]; omega) (headK_map _ _ cnCells_length) (by simp) fun tok' G' hown' hG' => ?_
      simp -implicitDefEqProofs [wrap_i64 (n := (k : Int) + 1) (by omega) (by omega)]
      refine hQ2 _ _ _ (loop_next (n - 1) (fun b => if b = A.length then [.fn (.func lf) [] cap, .int .i64 (rebs L (c.l.take (k + 1)) ub lf1).2] else [.int .i64 c.op, .int .i64 c.n, .str c.s, .sl .none (c.k.l.map kdCells), .sl .none (strRows c.names), .sl tok' ((rebs L (c.l.take (k + 1)) ub lf1).1.map cnCells)]) (G' := G') (by simp [updH, hts]) (by omega) (by simp -implicitDefEqProofs [AC.dsts, aoDsts, updT, slots]) ?_)
      refine ⟨k + 1, tok', by omega, by simp [slots], by simp, by simp, ?_⟩
      rw [hts]
      simpa using hown'
    · have hkl : c.l.take k = c.l := List.take_of_length_le (by omega)
      rw [hkl] at hm ho hown
      simp -implicitDefEqProofs [hlt, hkl]
      refine hQ2 _ _ _ (loop_exit ?_)
      show KE _ 0 _ Q _ _
      simp -implicitDefEqProofs
      refine hQ _ _ _ ?_
      simp -implicitDefEqProofs [key, cnAV, cnCells_mk, scopedH_app, hs1, hs2]
theorem tycon_rebuild_call (lf : Nat) (cap : List AV) (A : List HB) (L : Cn → Int → Cn) (hL : Leaf lf cap A L) (c : Cn) (bd left : Int) (hl1 : -1000000000000 ≤ left) (hl2 : left ≤ 20000) :
    HCall Go.Proofs.Tryz.prog i_tycon_maker_rebuild [.ptr A.length 0, cnAV c, .int .i64 bd] (A ++ [.var [.fn (.func lf) [] cap, .int .i64 left]]) (cnAV (reb L c bd left).1) (A ++ [.var [.fn (.func lf) [] cap, .int .i64 (reb L c bd left).2]]) :=
  tycon_rebuild_step lf cap A L hL c bd left hl1 hl2 fun x _ bd left h1 h2 => tycon_rebuild_call lf cap A L hL x bd left h1 h2
termination_by SizeOf.sizeOf c
decreasing_by exact Cn.lt_l ‹_›
end Go.Proofs.YtblbepjnkehoaaaGreatDoor
/- Constructors: walks, replacing, shifting by the program. -/
namespace Go.Proofs.YtblbepjnkehoaaaGreatDoor
open Go
attribute [local simp] astep aev putA guardA start AV.cells AV.undef takeCells splice intBin strBin abin AV.isCell loadV fillR fillA
attribute [local simp] fin aRes aResL aRes1 AV.strip stripL stripE AV.inScope scopedL scopedE scopedH
set_option maxRecDepth 10000
set_option linter.unusedSimpArgs false
attribute [local simp] beq_dec bne_dec
theorem Leaf.more {lf : Nat} {cap : List AV} {A : List HB} {L : Cn → Int → Cn} (h : Leaf lf cap A L) (M : List HB) (hv : ∀ b, b < M.length → ∃ cs, M[b]? = some (.var cs)) (hs : ∀ n, A.length + M.length ≤ n → scopedH n M = true) : Leaf lf cap (A ++ M) L where
  call c bd := (h.call c bd).suffix rfl (by simp [scopedL, h.csc _ (Nat.le_refl _)]) (h.sc _ (Nat.le_refl _)) M
  vars b hb := by
    by_cases hlt : b < A.length
    · rw [List.getElem?_append_left hlt]; exact h.vars b hlt
    · rw [List.getElem?_append_right (by omega)]
      exact hv _ (by simp at hb; omega)
  sc n hn := by
    simp only [List.length_append] at hn
    rw [scopedH_app, h.sc n (by omega), hs n hn]; rfl
  csc n hn := h.csc n (by simp at hn; omega)
  strip := h.strip
  size := h.size
theorem form_n {c : Cn} (h : cnForm c = true) (ho : c.op = 1) : 0 ≤ c.n ∧ c.n ≤ 20000 := by
  rw [cnForm_eq] at h
  simp only [nodeS, Bool.and_eq_true] at h
  have h2 := h.1.2.1
  simp only [n2, ho, true_or, if_true, Bool.not_eq_true', Bool.or_eq_false_iff, decide_eq_false_iff_not] at h2
  omega
theorem form_l {c x : Cn} (h : cnForm c = true) (hx : x ∈ c.l) : cnForm x = true := by
  rw [cnForm_eq] at h
  simp only [Bool.and_eq_true, List.all_eq_true] at h
  exact h.2 x hx
theorem tycon_each_step (m : Nat) (cap : List AV) (A : List HB) (hsc : ∀ n, A.length ≤ n → scopedH n A = true) (hcap : ∀ n, A.length ≤ n → scopedL n cap = true)
    (hcb : ∀ (c : Cn) (bd : Int), (c.op = 1 → 0 ≤ c.n ∧ c.n ≤ 20000) → 0 ≤ bd → bd ≤ 1000 → HCall Go.Proofs.Tryz.prog m ([cnAV c, .int .i64 bd] ++ cap) A (.tup []) A)
    (c : Cn) (bd : Int) (hform : cnForm c = true) (h0 : 0 ≤ bd) (hd : bd + cnDepth c ≤ 1000)
    (hrec : ∀ x ∈ c.l, ∀ bd : Int, 0 ≤ bd → bd + cnDepth x ≤ 1000 → HCall Go.Proofs.Tryz.prog i_tycon_each [cnAV x, .int .i64 bd, .fn (.func m) [] cap] A (.tup []) A) :
    HCall Go.Proofs.Tryz.prog i_tycon_each [cnAV c, .int .i64 bd, .fn (.func m) [] cap] A (.tup []) A := by
  have hsA := hsc A.length (Nat.le_refl _)
  have hcA := hcap A.length (Nat.le_refl _)
  have hcb := fun (L : List HB) => (hcb c bd (form_n hform) h0 (by omega)).suffix rfl (by simp [scopedL, hcA]) hsA L
  have hdep := cnDepth_eq c
  refine HCall.go mixed ok_tycon_each (by simp) fun hfit Q hQ => ?_
  have hf := cn_fits (c := c) (by simpa [fitsL, cnAV, AV.fits] using hfit.1)
  have hln : c.l.length ≤ 1073741824 := hf.2.2.2.2.2.2.2.1
  clear hfit hf
  have hB : (opB c.op = false ∧ bd = under c.op bd) ∨ (opB c.op = true ∧ IntKind.i64.wrap (bd + 1) = under c.op bd) := by
    rw [under]; cases opB c.op <;> simp
  have hub : 0 ≤ under c.op bd ∧ under c.op bd ≤ bd + 1 := by
    rw [under]; split
    · rw [wrap_i64 (by omega) (by omega)]; omega
    · omega
  generalize under c.op bd = ub at hB hub
  simp -implicitDefEqProofs [-Int.not_lt, -Int.not_le, -WP_seq, c_tycon_each, cnAV, cnCells_eq c]
  rw [WP_seq]
  simp -implicitDefEqProofs [-Int.not_lt, -Int.not_le, -WP_seq]
  refine WP_cut (fun f => True) (fun Q' hn hr => ?_) (fun f hI => ?_)
  · simp -implicitDefEqProofs [-Int.not_lt, -Int.not_le]
    have hn2 : ∀ t' (e : updT _ _ _ = t'), Q' .normal t' _ := fun t' e => hn t' e trivial
    clear hn
    cases e1 : decide (c.op = 1)
    · simp -implicitDefEqProofs [-Int.not_lt, -Int.not_le, e1]
      cases e2 : decide (c.op = 2)
      · simp -implicitDefEqProofs [-Int.not_lt, -Int.not_le, e2]
        exact hn2 _ (by simp -implicitDefEqProofs [AC.dsts, aoDsts, updT, slots])
      · simp -implicitDefEqProofs [-Int.not_lt, -Int.not_le, e2]
        refine CALL_cap (first := []) (r := .tup []) (by simpa [cnAV, cnCells_eq c] using hcb [.var (cnCells c)]) ?_
        simp -implicitDefEqProofs [-Int.not_lt, -Int.not_le]
        exact hn2 _ (by simp -implicitDefEqProofs [AC.dsts, aoDsts, updT, slots])
    · simp -implicitDefEqProofs [-Int.not_lt, -Int.not_le, e1]
      refine CALL_cap (first := []) (r := .tup []) (by simpa [cnAV, cnCells_eq c] using hcb [.var (cnCells c)]) ?_
      simp -implicitDefEqProofs [-Int.not_lt, -Int.not_le]
      exact hn2 _ (by simp -implicitDefEqProofs [AC.dsts, aoDsts, updT, slots])
  simp -implicitDefEqProofs [-Int.not_lt, -Int.not_le, -WP_seq, AC.dsts, aoDsts, updT]
  refine WP_cut (fun f => f 1 = .int .i64 ub) (fun Q' hn hr => ?_) (fun f hI => ?_)
  · simp -implicitDefEqProofs [-Int.not_lt, -Int.not_le]
    refine CALL_pure (tycon_binder_call c) (by simp) (by simp) (by simp [kdAV, cnAV, cnCells_eq, kdCells_eq, strRows, Kd.l]) ?_
    rcases hB with ⟨hB, e⟩ | ⟨hB, e⟩
    · simp -implicitDefEqProofs [-Int.not_lt, -Int.not_le, hB]
      refine hn _ (by simp -implicitDefEqProofs [AC.dsts, aoDsts, updT, slots]) ?_
      simp [slots, e]
    · simp -implicitDefEqProofs [-Int.not_lt, -Int.not_le, hB]
      refine hn _ (by simp -implicitDefEqProofs [AC.dsts, aoDsts, updT, slots]) ?_
      simp [slots, e]
  clear hcb
  simp -implicitDefEqProofs [-Int.not_lt, -Int.not_le, AC.dsts, aoDsts, updT, hI]
  refine WP_loop (AWp.loopI [] (fun n f h G => ∃ k : Nat, k + n = c.l.length ∧ f 27 = .int .i64 k) (c.l.length) (by simp) ⟨0, by simp, rfl⟩ ?_)
  rintro n f h G ⟨k, hk, h27⟩
  refine AWp.run mixed fun Q2 hQ2 => ?_
  simp -implicitDefEqProofs [-Int.not_lt, -Int.not_le, AC.dsts, aoDsts, updT, updH, h27]
  by_cases hlt : k < c.l.length
  · have hdm := cnDepth_mem (List.getElem_mem hlt)
    have hr := hrec c.l[k] (List.getElem_mem _) ub hub.1 (by omega)
    simp -implicitDefEqProofs [-Int.not_lt, -Int.not_le, hlt]
    refine CALL_of (r := .tup []) (by simpa [cnAV, cnCells_eq c] using hr.suffix rfl (by simp [scopedL, AV.inScope, hcA]) hsA (.var (cnCells c) :: (G ++ [.var (cnCells c.l[k])]))) ?_
    simp -implicitDefEqProofs [-Int.not_lt, -Int.not_le, wrap_i64 (n := (k : Int) + 1) (by omega) (by omega)]
    refine hQ2 _ _ _ (loop_next (n - 1) h (G' := G ++ [.var (cnCells c.l[k])]) (by simp [updH, cnCells_eq c]) (by omega) (by simp -implicitDefEqProofs [AC.dsts, aoDsts, updT, slots]) ?_)
    exact ⟨k + 1, by omega, by simp [slots]⟩
  · simp -implicitDefEqProofs [-Int.not_lt, -Int.not_le, hlt]
    refine hQ2 _ _ _ (loop_exit ?_)
    show KE _ 0 _ Q _ _
    simp -implicitDefEqProofs [-Int.not_lt, -Int.not_le]
    refine hQ _ _ _ ?_
    simp -implicitDefEqProofs [-Int.not_lt, -Int.not_le, hsA]
theorem tycon_each_call (m : Nat) (cap : List AV) (A : List HB) (hsc : ∀ n, A.length ≤ n → scopedH n A = true) (hcap : ∀ n, A.length ≤ n → scopedL n cap = true)
    (hcb : ∀ (c : Cn) (bd : Int), (c.op = 1 → 0 ≤ c.n ∧ c.n ≤ 20000) → 0 ≤ bd → bd ≤ 1000 → HCall Go.Proofs.Tryz.prog m ([cnAV c, .int .i64 bd] ++ cap) A (.tup []) A)
    (c : Cn) (bd : Int) (hform : cnForm c = true) (h0 : 0 ≤ bd) (hd : bd + cnDepth c ≤ 1000) :
    HCall Go.Proofs.Tryz.prog i_tycon_each [cnAV c, .int .i64 bd, .fn (.func m) [] cap] A (.tup []) A :=
  tycon_each_step m cap A hsc hcap hcb c bd hform h0 hd fun x hx bd h0 hd => tycon_each_call m cap A hsc hcap hcb x bd (form_l hform hx) h0 hd
termination_by SizeOf.sizeOf c
decreasing_by exact Cn.lt_l ‹_›
mutual
theorem reb_size (L : Cn → Int → Cn) : ∀ (c : Cn) (bd left : Int), 0 ≤ (reb L c bd left).2 → (cnSize (reb L c bd left).1 : Int) = left - (reb L c bd left).2
  | .mk o n s k ns l, bd, left, h => by
    rw [reb] at h ⊢
    split
    · rename_i hc; rw [if_pos hc] at h; simp at h
    · rename_i hc; rw [if_neg hc] at h
      split
      · simp only; omega
      · rename_i hc2; rw [if_neg hc2] at h
        have := rebs_size L l _ (left - 1) h
        simp only [cnSize]
        omega
theorem rebs_size (L : Cn → Int → Cn) : ∀ (l : List Cn) (bd left : Int), 0 ≤ (rebs L l bd left).2 → (cnSizes (rebs L l bd left).1 : Int) = left - (rebs L l bd left).2
  | [], bd, left, h => by simp [rebs, cnSizes]
  | c :: cs, bd, left, h => by
    rw [rebs] at h ⊢
    have h1 := rebs_size L cs bd (reb L c bd left).2 h
    have h2 : 0 ≤ (reb L c bd left).2 := by
      rcases Int.lt_or_le (reb L c bd left).2 0 with hn | hn
      · have := rebs_neg L cs bd _ hn; simp only at h; omega
      · exact hn
    have h3 := reb_size L c bd left h2
    simp only [cnSizes]
    omega
theorem rebs_neg (L : Cn → Int → Cn) : ∀ (l : List Cn) (bd left : Int), left < 0 → (rebs L l bd left).2 < 0
  | [], bd, left, h => h
  | c :: cs, bd, left, h => by
    rw [rebs]
    exact rebs_neg L cs bd _ (by rw [reb_eq, if_pos (by omega)]; simp)
end
/-- What replacing comes to. -/
def repl (L : Cn → Int → Cn) (c : Cn) : Cn × Int := if (reb L c 0 20000).2 < 0 ∨ cnValid (reb L c 0 20000).1 = false then (cnZero, 6) else ((reb L c 0 20000).1, 0)
def cnE (p : Cn × Int) : AV := .tup [cnAV p.1, .int .i64 p.2]
theorem cnE_scoped (p : Cn × Int) (n : Nat) : (cnE p).inScope n = true := by simp [cnE]
theorem tycon_replaced_call (lf : Nat) (cap : List AV) (A : List HB) (L : Cn → Int → Cn) (hL : Leaf lf cap A L) (c : Cn) : HCall Go.Proofs.Tryz.prog i_tycon_replaced [cnAV c, .fn (.func lf) [] cap] A (cnE (repl L c)) A := by
  have hL2 := hL.more [.var (cnCells c), .var [.int .i64 0, .int .i64 0, .str [], .sl .nilT [], .sl .nilT [], .sl .nilT []]] (fun b hb => by
    match b, hb with
    | 0, _ => exact ⟨_, rfl⟩
    | 1, _ => exact ⟨_, rfl⟩) (fun n _ => by simp [scopedH, scopedL, scopedE, AV.inScope])
  have hb := tycon_rebuild_call lf cap _ L hL2 c 0 20000 (by omega) (by omega)
  have hbn := reb_bounds L hL.size c 0 20000 (by omega) (by omega)
  have hsz := reb_size L c 0 20000
  have hsA := hL.sc A.length (Nat.le_refl _)
  simp only [List.length_append, List.length_cons, List.length_nil, List.append_assoc, List.cons_append, List.nil_append] at hb
  obtain ⟨r, lf2, hr⟩ : ∃ r lf2, reb L c 0 20000 = (r, lf2) := ⟨_, _, rfl⟩
  simp only [hr] at hb hbn hsz
  have hrep : repl L c = if lf2 < 0 ∨ cnValid r = false then (cnZero, 6) else (r, 0) := by rw [repl, hr]
  refine HCall.go mixed ok_tycon_replaced (by simp) fun hfit Q hQ => ?_
  clear hfit
  simp -implicitDefEqProofs [-Int.not_lt, -Int.not_le, c_tycon_replaced, cnAV]
  refine CALL_of (r := cnAV r) (by simpa [cnAV, cnZero_cells] using hb) ?_
  simp -implicitDefEqProofs [-Int.not_lt, -Int.not_le, cnAV]
  by_cases h1 : lf2 < 0
  · rw [if_pos (.inl h1)] at hrep
    simp -implicitDefEqProofs [-Int.not_lt, -Int.not_le, h1]
    refine hQ _ _ _ ?_
    simp -implicitDefEqProofs [-Int.not_lt, -Int.not_le, hrep, cnE, cnAV, cnZero_cells, hsA]
  · simp -implicitDefEqProofs [-Int.not_lt, -Int.not_le, h1]
    refine CALL_pure (tycon_Valid_call r (by have := hsz (by omega); omega)) (by simp) (by simp) (by simp [kdAV, cnAV, cnCells_eq, kdCells_eq, strRows, Kd.l]) ?_
    cases hv : cnValid r
    · rw [if_pos (.inr hv)] at hrep
      simp -implicitDefEqProofs [-Int.not_lt, -Int.not_le]
      refine hQ _ _ _ ?_
      simp -implicitDefEqProofs [-Int.not_lt, -Int.not_le, hrep, cnE, cnAV, cnZero_cells, hsA]
    · rw [if_neg (by simp [h1, hv])] at hrep
      simp -implicitDefEqProofs [-Int.not_lt, -Int.not_le]
      refine hQ _ _ _ ?_
      simp -implicitDefEqProofs [-Int.not_lt, -Int.not_le, hrep, cnE, cnAV, hsA]
theorem tycon_Shift_1_call (c : Cn) (bd d fr : Int) (A : List HB) (i j k : Nat) (hi : A[i]? = some (.var [.int .i64 fr])) (hj : A[j]? = some (.var [.int .i64 d])) (hsc : scopedH A.length A = true)
    (hno : c.op = 1 → fr ≤ IntKind.i64.wrap (c.n - bd) → ¬ IntKind.i64.wrap (IntKind.i64.wrap (c.n - bd) + d) < fr) :
    HCall Go.Proofs.Tryz.prog i_tycon_Shift_1 [cnAV c, .int .i64 bd, .ptr i 0, .ptr j 0, .ptr k 0] A (.tup []) A := by
  have hil := (List.getElem?_eq_some_iff.1 hi).1
  have hjl := (List.getElem?_eq_some_iff.1 hj).1
  have hi' : ∀ L : List HB, (A ++ L)[i]? = some (.var [.int .i64 fr]) := fun L => by rw [List.getElem?_append_left hil]; exact hi
  have hj' : ∀ L : List HB, (A ++ L)[j]? = some (.var [.int .i64 d]) := fun L => by rw [List.getElem?_append_left hjl]; exact hj
  refine HCall.go mixed ok_tycon_Shift_1 (by simp) fun hfit Q hQ => ?_
  clear hfit
  simp -implicitDefEqProofs [-Int.not_lt, -Int.not_le, c_tycon_Shift_1, cnAV, cnCells_eq c]
  by_cases h1 : c.op = 1
  · by_cases h2 : fr ≤ IntKind.i64.wrap (c.n - bd)
    · have h3 := hno h1 h2
      simp -implicitDefEqProofs [-Int.not_lt, -Int.not_le, h1, hi', hj', h2, h3]
      refine hQ _ _ _ ?_
      simp -implicitDefEqProofs [-Int.not_lt, -Int.not_le, hsc]
    · simp -implicitDefEqProofs [-Int.not_lt, -Int.not_le, h1, hi', hj', h2]
      refine hQ _ _ _ ?_
      simp -implicitDefEqProofs [-Int.not_lt, -Int.not_le, hsc]
  · simp -implicitDefEqProofs [-Int.not_lt, -Int.not_le, h1]
    refine hQ _ _ _ ?_
    simp -implicitDefEqProofs [-Int.not_lt, -Int.not_le, hsc]
end Go.Proofs.YtblbepjnkehoaaaGreatDoor
/- Constructors: shifting by the program. -/
namespace Go.Proofs.YtblbepjnkehoaaaGreatDoor
open Go
attribute [local simp] astep aev putA guardA start AV.cells AV.undef takeCells splice intBin strBin abin AV.isCell loadV fillR fillA
attribute [local simp] fin aRes aResL aRes1 AV.strip stripL stripE AV.inScope scopedL scopedE scopedH
set_option maxRecDepth 10000
set_option linter.unusedSimpArgs false
attribute [local simp] beq_dec bne_dec
theorem shLeaf_size (d fr : Int) (c : Cn) (bd : Int) : cnSize (shLeaf d fr c bd) = 1 := by
  unfold shLeaf; split
  · simp [cnVar, cnSize, cnSizes]
  · simp [cnLeaf, cnSize, cnSizes]
theorem shLeaf_leaf (d fr : Int) (A : List HB) (i j : Nat) (hi : A[i]? = some (.var [.int .i64 fr])) (hj : A[j]? = some (.var [.int .i64 d])) (hv : ∀ b, b < A.length → ∃ cs, A[b]? = some (.var cs)) (hs : ∀ n, A.length ≤ n → scopedH n A = true) :
    Leaf i_tycon_shifted_1 [.ptr i 0, .ptr j 0] A (shLeaf d fr) where
  call c bd := tycon_shifted_1_call c bd d fr A i j hi hj (hs _ (Nat.le_refl _))
  vars := hv
  sc := hs
  csc n hn := by
    have h1 := (List.getElem?_eq_some_iff.1 hi).1
    have h2 := (List.getElem?_eq_some_iff.1 hj).1
    simp [scopedL, AV.inScope]; omega
  strip := by simp [stripL, AV.strip]
  size c bd := by rw [shLeaf_size]; omega
def shS (c : Cn) (d fr : Int) : Cn × Int := if cnValid c = true then repl (shLeaf d fr) c else (cnZero, 1)
theorem tycon_Shift_call (c : Cn) (d fr : Int) (hc : cnSize c ≤ 1000000000000) (hd0 : 0 ≤ d) (hd : d ≤ 20000) (hf0 : 0 ≤ fr) (hf1 : fr ≤ 1000000000) :
    HCall Go.Proofs.Tryz.prog i_tycon_Shift [cnAV c, .int .i64 d, .int .i64 fr] [] (cnE (shS c d fr)) [] := by
  refine HCall.go mixed ok_tycon_Shift (by simp) fun hfit Q hQ => ?_
  clear hfit
  simp -implicitDefEqProofs [-Int.not_lt, -Int.not_le, c_tycon_Shift, cnAV]
  refine CALL_pure (tycon_Valid_call c hc) (by simp) (by simp) (by simp [kdAV, cnAV, cnCells_eq, kdCells_eq, strRows, Kd.l]) ?_
  cases hv : cnValid c
  · have e : shS c d fr = (cnZero, 1) := by simp [shS, hv]
    simp -implicitDefEqProofs [-Int.not_lt, -Int.not_le]
    refine hQ _ _ _ ?_
    simp -implicitDefEqProofs [-Int.not_lt, -Int.not_le, e, cnE, cnAV, cnZero_cells]
  have key : shS c d fr = repl (shLeaf d fr) c := by simp [shS, hv]
  have hform : cnForm c = true := by simp only [cnValid, Bool.and_eq_true] at hv; exact hv.2.2
  have hdep : cnDepth c ≤ 400 := by simp only [cnValid, Bool.and_eq_true, decide_eq_true_eq] at hv; exact hv.2.1
  have a1 : ¬ fr < 0 := by omega
  have a2 : ¬ d < -20000 := by omega
  have a3 : ¬ 20000 < d := by omega
  have heach := tycon_each_call i_tycon_Shift_1 [.ptr 2 0, .ptr 1 0, .ptr 4 0]
    [.var (cnCells c), .var [.int .i64 d], .var [.int .i64 fr], .var [.int .i64 0, .int .i64 0, .str [], .sl .nilT [], .sl .nilT [], .sl .nilT []], .var [.bool false]]
    (fun n _ => by simp [scopedH, scopedL, scopedE, AV.inScope]) (fun n hn => by simp only [List.length_cons, List.length_nil] at hn; simp [scopedL, AV.inScope]; omega)
    (fun c bd hn h0 hb => tycon_Shift_1_call c bd d fr _ 2 1 4 rfl rfl (by simp [scopedH, scopedL, scopedE, AV.inScope]) (fun ho h => by
      have := hn ho
      have e1 : IntKind.i64.wrap (c.n - bd) = c.n - bd := wrap_i64 (by omega) (by omega)
      have e2 : IntKind.i64.wrap (c.n - bd + d) = c.n - bd + d := wrap_i64 (by omega) (by omega)
      rw [e1] at h ⊢
      rw [e2]
      omega)) c 0 hform (by omega) (by omega)
  simp -implicitDefEqProofs [-Int.not_lt, -Int.not_le, a1, a2, a3]
  refine CALL_of (r := .tup []) (by simpa [cnAV] using heach) ?_
  simp -implicitDefEqProofs [-Int.not_lt, -Int.not_le]
  refine WP_drawV (fun _ => true) [3, 4, 8] (by rfl) ?_
  simp -implicitDefEqProofs [-Int.not_lt, -Int.not_le]
  have hsh : HCall Go.Proofs.Tryz.prog i_tycon_shifted [.int .i64 d, .int .i64 fr] [.var (cnCells c), .var [.int .i64 d], .var [.int .i64 fr], .var [.int .i64 0, .int .i64 0, .str [], .sl .nilT [], .sl .nilT [], .sl .nilT []], .var [.bool false]]
      (.fn (.func i_tycon_shifted_1) [] [.ptr 6 0, .ptr 5 0])
      [.var (cnCells c), .var [.int .i64 d], .var [.int .i64 fr], .var [.int .i64 0, .int .i64 0, .str [], .sl .nilT [], .sl .nilT [], .sl .nilT []], .var [.bool false], .var [.int .i64 d], .var [.int .i64 fr]] :=
    tycon_shifted_call d fr _ (fun n _ => by simp [scopedH, scopedL, scopedE, AV.inScope])
  refine DCALLI_of (first := []) (cap := []) hsh (fun b cs _ hb => keep_append (L := [_, _]) hb) ?_
  simp -implicitDefEqProofs [-Int.not_lt, -Int.not_le]
  have hrep := tycon_replaced_call i_tycon_shifted_1 [.ptr 6 0, .ptr 5 0]
    [.var (cnCells c), .var [.int .i64 d], .var [.int .i64 fr], .var [.int .i64 0, .int .i64 0, .str [], .sl .nilT [], .sl .nilT [], .sl .nilT []], .var [.bool false], .var [.int .i64 d], .var [.int .i64 fr]] _
    (shLeaf_leaf d fr _ 6 5 rfl rfl (fun b hb => by
      match b, hb with
      | 0, _ => exact ⟨_, rfl⟩
      | 1, _ => exact ⟨_, rfl⟩
      | 2, _ => exact ⟨_, rfl⟩
      | 3, _ => exact ⟨_, rfl⟩
      | 4, _ => exact ⟨_, rfl⟩
      | 5, _ => exact ⟨_, rfl⟩
      | 6, _ => exact ⟨_, rfl⟩) (fun n _ => by simp [scopedH, scopedL, scopedE, AV.inScope])) c
  refine DCALLI_of (first := []) (cap := []) (by simpa [cnAV] using hrep) (fun b cs _ hb => keep_append (L := [_, _]) hb) ?_
  simp -implicitDefEqProofs [-Int.not_lt, -Int.not_le, cnE, cnAV]
  refine hQ _ _ _ ?_
  simp -implicitDefEqProofs [-Int.not_lt, -Int.not_le, key, cnE, cnAV]
end Go.Proofs.YtblbepjnkehoaaaGreatDoor
/- Encodings: the small functions. -/
namespace Go.Proofs.YtblbepjnkehoaaaGreatDoor
open Go
attribute [local simp] astep aev putA guardA start AV.cells AV.undef takeCells splice intBin strBin abin AV.isCell loadV fillR fillA
attribute [local simp] fin aRes aResL aRes1 AV.strip stripL stripE AV.inScope scopedL scopedE scopedH
set_option maxRecDepth 10000
set_option linter.unusedSimpArgs false
def UnderOk : Prop := ∀ (op : Int) (ks : List Kd) (c : Cn), HCall Go.Proofs.Tryz.prog i_encode_under [.int .i64 op, .sl .none (ks.map kdCells), cnAV c] [] (cnAV (around op ks c)) []
def chS (c : Cn) : Cn × Int := if cnValid c = true then (c, 0) else (cnZero, 6)
theorem encode_checked_call (c : Cn) (hc : cnSize c ≤ 1000000000000) : HCall Go.Proofs.Tryz.prog i_encode_checked [cnAV c] [] (cnE (chS c)) [] := by
  refine HCall.go mixed ok_encode_checked (by simp) fun hfit Q hQ => ?_
  clear hfit
  simp -implicitDefEqProofs [c_encode_checked, cnAV]
  refine CALL_pure (tycon_Valid_call c hc) (by simp) (by simp) (by simp [kdAV, cnAV, cnCells_eq, kdCells_eq, strRows, Kd.l, smAV, smCells_eq]) ?_
  cases hv : cnValid c
  · simp -implicitDefEqProofs
    refine hQ _ _ _ ?_
    simp -implicitDefEqProofs [chS, hv, cnE, cnAV, cnZero_cells]
  · simp -implicitDefEqProofs
    refine hQ _ _ _ ?_
    simp -implicitDefEqProofs [chS, hv, cnE, cnAV]
def apS (c : Cn) : Cn × Int := if (shS c 1 0).2 = 0 then (cnOp2 12 (cnVar 0) (shS c 1 0).1, 0) else (cnZero, 6)
theorem encode_applied_call (c : Cn) (hc : cnSize c ≤ 1000000000000) : HCall Go.Proofs.Tryz.prog i_encode_applied [cnAV c] [] (cnE (apS c)) [] := by
  refine HCall.go mixed ok_encode_applied (by simp) fun hfit Q hQ => ?_
  clear hfit
  simp -implicitDefEqProofs [c_encode_applied, cnAV]
  refine CALL_pure (tycon_Shift_call c 1 0 hc (by omega) (by omega) (by omega) (by omega)) (by simp) (cnE_scoped _ 0) (by simp [cnAV]) ?_
  generalize he : shS c 1 0 = p
  obtain ⟨x, e⟩ := p
  simp -implicitDefEqProofs [cnE, cnAV]
  by_cases h : e = 0
  · simp -implicitDefEqProofs [h]
    refine hQ _ _ _ ?_
    simp -implicitDefEqProofs [apS, he, h, cnE, cnAV, cnOp2, cnVar, cnCells_mk, strRows_nil, Kd.l_mk]
  · have h2 : (e != 0) = true := by simpa using h
    simp -implicitDefEqProofs [h2]
    refine hQ _ _ _ ?_
    simp -implicitDefEqProofs [apS, he, h, cnE, cnAV, cnZero_cells]
theorem repl_valid {L : Cn → Int → Cn} {c : Cn} (h : (repl L c).2 = 0) : cnValid (repl L c).1 = true := by
  unfold repl at h ⊢
  split
  · rename_i hc; rw [if_pos hc] at h; simp at h
  · rename_i hc; simp only [not_or, Bool.not_eq_false] at hc; exact hc.2
theorem shS_valid {c : Cn} {d fr : Int} (h : (shS c d fr).2 = 0) : cnValid (shS c d fr).1 = true := by
  unfold shS at h ⊢
  split
  · rename_i hc; rw [if_pos hc] at h; exact repl_valid h
  · rename_i hc; rw [if_neg hc] at h; simp at h
theorem chS_valid {c : Cn} (h : (chS c).2 = 0) : cnValid (chS c).1 = true := by
  unfold chS at h ⊢
  split
  · rename_i hc; exact hc
  · rename_i hc; rw [if_neg hc] at h; simp at h
theorem unit_valid : cnValid cnUnit = true := by decide
def encTop (o : Int) (c : Cn) (k : Kd) (ks more : List Kd) (names : List (List UInt8)) (parts : List Cn) : Cn × Int :=
  if o = 1 then shS c 0 0
  else if o = 2 then (if (apS c).2 = 0 then chS (cnBound 9 (kPair k (.mk [])) (cnOp2 6 (apS c).1 (apS c).1)) else (cnZero, (apS c).2))
  else if o = 3 then (cnUnit, 0)
  else if o = 4 then (if (chS (around 10 ks (parts.headD cnZero))).2 = 0 then chS (cnOp2 6 (chS (around 10 ks (parts.headD cnZero))).1 (shS (chS (around 10 ks (parts.headD cnZero))).1 0 0).1) else (cnZero, (chS (around 10 ks (parts.headD cnZero))).2))
  else if o = 5 then chS (.mk 7 0 [] (.mk []) names parts)
  else chS (around 9 ks (cnOp2 6 (parts.headD cnZero) (around 10 more (parts.getD 1 cnZero))))
mutual
def enc : Sm → Cn × Int
  | .mk o _ _ c k ks more names l => if (encs l).2 = 0 then encTop o c k ks more names (encs l).1 else (cnZero, (encs l).2)
def encs : List Sm → List Cn × Int
  | [] => ([], 0)
  | x :: xs => if (enc x).2 = 0 then ((enc x).1 :: (encs xs).1, (encs xs).2) else ([], (enc x).2)
end
theorem enc_eq (s : Sm) : enc s = if (encs s.l).2 = 0 then encTop s.op s.con s.k s.ks s.more s.names (encs s.l).1 else (cnZero, (encs s.l).2) := by
  cases s; rw [enc]; rfl
theorem encTop_valid {o : Int} {c : Cn} {k : Kd} {ks more : List Kd} {names : List (List UInt8)} {parts : List Cn} (h : (encTop o c k ks more names parts).2 = 0) : cnValid (encTop o c k ks more names parts).1 = true := by
  unfold encTop at h ⊢
  (repeat' split) <;> simp_all [shS_valid, chS_valid, unit_valid]
theorem enc_valid {s : Sm} (h : (enc s).2 = 0) : cnValid (enc s).1 = true := by
  rw [enc_eq] at h ⊢
  split
  · rename_i hc; rw [if_pos hc] at h; exact encTop_valid h
  · rename_i hc; rw [if_neg hc] at h; exact absurd h hc
theorem encs_length : ∀ l : List Sm, (encs l).2 = 0 → (encs l).1.length = l.length
  | [], _ => rfl
  | x :: xs, h => by
    rw [encs] at h ⊢
    split
    · rename_i hc; rw [if_pos hc] at h
      simp [encs_length xs h]
    · rename_i hc; rw [if_neg hc] at h; exact absurd h hc
theorem encs_valid : ∀ l : List Sm, (encs l).2 = 0 → ∀ x ∈ (encs l).1, cnValid x = true
  | [], _, x, hx => by simp [encs] at hx
  | y :: ys, h, x, hx => by
    rw [encs] at h hx
    split at hx
    · rename_i hc; rw [if_pos hc] at h
      simp only [List.mem_cons] at hx
      rcases hx with rfl | hx
      · exact enc_valid hc
      · exact encs_valid ys h x hx
    · rename_i hc; rw [if_neg hc] at h; exact absurd h hc
theorem around_size (op : Int) (ks : List Kd) (c : Cn) : cnSize (around op ks c) = ks.length + cnSize c := by
  unfold around
  induction ks with
  | nil => simp
  | cons k ks ih => simp [cnBound, cnSize, cnSizes, ih]; omega
theorem cnSizes_bound (l : List Cn) (h : ∀ x ∈ l, cnValid x = true) : cnSizes l ≤ 20000 * l.length := by
  induction l with
  | nil => simp [cnSizes]
  | cons c l ih =>
    have h1 := valid_size (h c (by simp))
    have h2 := ih fun x hx => h x (by simp [hx])
    simp only [cnSizes, List.length_cons]; omega
/-- All nodes are right. -/
def wfM : Sm → Prop
  | .mk o n s c k ks more names l => nodeM (.mk o n s c k ks more names l) = true ∧ ∀ x ∈ l, wfM x
theorem wfM_eq (s : Sm) : wfM s ↔ nodeM s = true ∧ ∀ x ∈ s.l, wfM x := by
  cases s; rw [wfM]; rfl
end Go.Proofs.YtblbepjnkehoaaaGreatDoor
/- Encodings: a signature's encoding. -/
namespace Go.Proofs.YtblbepjnkehoaaaGreatDoor
open Go
attribute [local simp] astep aev putA guardA start AV.cells AV.undef takeCells splice intBin strBin abin AV.isCell loadV fillR fillA
attribute [local simp] fin aRes aResL aRes1 AV.strip stripL stripE AV.inScope scopedL scopedE scopedH
set_option maxRecDepth 10000
set_option linter.unusedSimpArgs false
theorem OPT_appendE {e : TypeId} {P : Program} {H : List HB} (A G : List HB) (hH : H = A ++ G) {tok : Tok} {els : List (List AV)} {k : Nat} {row : List AV} {dst : Option Nat} {l : List AO} {kf : List Fr} {Q : Post} {t : List AV} (h : owns A.length G tok els k) (hl : els.length + 1 ≤ maxL) (hk : headK k els = true) (hr : row.length = k)
    (hn : ∀ tok' G', owns A.length G' tok' (els ++ [row]) k → G.length ≤ G'.length → AR_ P l kf Q (putA t dst (.sl tok' (els ++ [row]))) (A ++ G')) : OPT P (aappend k e tok els [row] H) dst l kf Q t := by
  subst hH
  exact OPT_append h hl hk hr hn
theorem sizes_one {c : Cn} (h : cnValid c = true) : cnSize c ≤ 1000000000000 := by have := valid_size h; omega
theorem nodeM_shape {s : Sm} (h : nodeM s = true) : (s.op = 1 ∨ s.op = 2 ∨ s.op = 3 ∨ s.op = 4 ∨ s.op = 5 ∨ s.op = 6) ∧ (s.op = 4 → s.l.length = 1) ∧ (s.op = 6 → s.l.length = 2) ∧ (s.op = 5 → s.names.length ≤ 1000 ∧ s.names.length = s.l.length) := by
  simp only [nodeM, m1, Bool.and_eq_true] at h
  have hr := h.1.1
  unfold rightS at hr
  refine ⟨?_, fun ho => ?_, fun ho => ?_, fun ho => ?_⟩
  · by_cases h1 : s.op = 1 ∨ s.op = 2 ∨ s.op = 3
    · omega
    · rw [if_neg h1] at hr
      by_cases h2 : s.op = 4
      · omega
      · rw [if_neg h2] at hr
        by_cases h3 : s.op = 6
        · omega
        · rw [if_neg h3] at hr
          by_cases h4 : s.op = 5
          · omega
          · rw [if_neg h4] at hr; cases hr
  · rw [if_neg (by omega), if_pos ho] at hr
    rcases hl : s.l with _ | ⟨a, _ | ⟨b, r⟩⟩
    · rw [hl] at hr; cases hr
    · rfl
    · rw [hl] at hr; cases hr
  · rw [if_neg (by omega), if_neg (by omega), if_pos ho] at hr
    rcases hl : s.l with _ | ⟨a, _ | ⟨b, _ | ⟨c, r⟩⟩⟩
    · rw [hl] at hr; cases hr
    · rw [hl] at hr; cases hr
    · rfl
    · rw [hl] at hr; cases hr
  · rw [if_neg (by omega), if_neg (by omega), if_neg (by omega), if_pos ho] at hr
    simp only [Bool.and_eq_true, decide_eq_true_eq] at hr
    refine ⟨hr.1, ?_⟩
    by_cases hn : s.names.length = s.l.length
    · exact hn
    · rw [eqBy_len _ _ _ hn] at hr; simp at hr
theorem cnSize_op2 (op : Int) (a b : Cn) : cnSize (cnOp2 op a b) = 1 + (cnSize a + cnSize b) := by simp [cnOp2, cnSize, cnSizes]
theorem cnSize_bound (op : Int) (k : Kd) (a : Cn) : cnSize (cnBound op k a) = 1 + cnSize a := by simp [cnBound, cnSize, cnSizes]
theorem shS_size {c : Cn} {d fr : Int} : cnSize (shS c d fr).1 ≤ 20000 := by
  by_cases h : (shS c d fr).2 = 0
  · exact valid_size (shS_valid h)
  · have : (shS c d fr).1 = cnZero := by
      unfold shS repl at h ⊢
      (repeat' split) <;> simp_all
    rw [this]; decide
theorem apS_size {c : Cn} (h : (apS c).2 = 0) : cnSize (apS c).1 ≤ 20002 := by
  unfold apS at h ⊢
  split
  · rename_i hs
    have := valid_size (shS_valid hs)
    rw [cnSize_op2]
    have : cnSize (cnVar 0) = 1 := by rfl
    omega
  · rename_i hs; rw [if_neg hs] at h; simp at h
set_option maxHeartbeats 2000000 in
theorem encode_encoded_step (hu : UnderOk) (s : Sm) (hc : conB s) (hw : wfM s) (hrec : ∀ x ∈ s.l, HCall Go.Proofs.Tryz.prog i_encode_encoded [smAV x] [] (cnE (enc x)) []) :
    HCall Go.Proofs.Tryz.prog i_encode_encoded [smAV s] [] (cnE (enc s)) [] := by
  have hcs := ((conB_eq s).1 hc).1
  have hn := ((wfM_eq s).1 hw).1
  have key0 := enc_eq s
  refine HCall.go mixed ok_encode_encoded (by simp) fun hfit Q hQ => ?_
  have hf := sm_fits (c := s) (by simpa [fitsL, smAV, AV.fits] using hfit)
  have hln : s.l.length ≤ 1073741824 := hf.2.2.2.2.1
  clear hfit
  simp -implicitDefEqProofs [c_encode_encoded, smAV, smCells_eq s]
  refine WP_loop (AWp.loopI [] (fun n f h G => ∃ (k : Nat) (tok : Tok) (P : List Cn), k + n = s.l.length ∧ P.length = k ∧ f 20 = .int .i64 k ∧ f 4 = .sl tok (P.map cnCells) ∧ owns 2 G tok (P.map cnCells) 6 ∧ (encs (s.l.drop k)).2 = (encs s.l).2 ∧ P ++ (encs (s.l.drop k)).1 = (encs s.l).1) (s.l.length) (by simp) ⟨0, .nilT, [], by simp, rfl, rfl, rfl, owns_nil _ _ _, rfl, rfl⟩ ?_)
  rintro n f h G ⟨k, tok, P, hk, hP, h20, hf4, hown, he2, he1⟩
  refine AWp.run mixed fun Q2 hQ2 => ?_
  simp -implicitDefEqProofs [AC.dsts, aoDsts, updT, updH, h20, hf4]
  by_cases hlt : k < s.l.length
  · have hd' := List.drop_eq_getElem_cons hlt
    have hrec := hrec s.l[k] (List.getElem_mem _)
    rw [hd', encs] at he1 he2
    simp -implicitDefEqProofs [hlt, smCells_eq s.l[k]]
    refine CALL_pure hrec (by simp) (cnE_scoped _ 0) (by simp [smAV, smCells_eq]) ?_
    generalize enc s.l[k] = p at he1 he2 ⊢
    obtain ⟨c, e⟩ := p
    simp only at he1 he2
    by_cases h0 : e = 0
    · subst h0
      simp only [if_true] at he1 he2
      simp -implicitDefEqProofs [cnE, cnAV, cnCells_eq c, fillR]
      refine OPT_appendE [_, _] (G ++ [_, _]) (by simp only [List.append_assoc, List.cons_append, List.nil_append]; rfl) (by simpa using owns_more hown) (by simp [maxL]; omega) (headK_map _ _ cnCells_length) (by simp) fun tok' G' hown' hG' => ?_
      simp -implicitDefEqProofs [wrap_i64 (n := (k : Int) + 1) (by omega) (by omega)]
      refine hQ2 _ _ _ (loop_next (n - 1) (h) rfl (by omega) (by simp -implicitDefEqProofs [AC.dsts, aoDsts, updT, slots]) ?_)
      refine ⟨k + 1, tok', P ++ [c], by omega, by simp [hP], by simp [slots], by simp [slots, cnCells_eq c], by simpa [cnCells_eq c] using hown', he2, by rw [← he1]; simp⟩
    · rw [if_neg h0] at he1 he2
      simp only at he1 he2
      have h0' : (e != 0) = true := by simpa using h0
      have e1 : enc s = (cnZero, e) := by rw [key0, ← he2, if_neg h0]
      simp -implicitDefEqProofs [cnE, cnAV, cnCells_eq c, h0', h0]
      refine hQ2 _ _ _ (loop_ret ?_)
      show KR _ _ Q _ _
      simp -implicitDefEqProofs
      refine hQ _ _ _ ?_
      simp -implicitDefEqProofs [e1, cnE, cnAV, cnZero_cells]
  · have hPe : P = (encs s.l).1 := by rw [← he1, List.drop_eq_nil_of_le (by omega)]; simp [encs]
    have hs0 : (encs s.l).2 = 0 := by rw [← he2, List.drop_eq_nil_of_le (by omega)]; rfl
    rw [if_pos hs0, ← hPe] at key0
    have hPv := encs_valid s.l hs0
    rw [← hPe] at hPv
    have hPl : P.length = s.l.length := by omega
    clear he1 he2 hrec hs0 hPe
    simp -implicitDefEqProofs [hlt]
    refine hQ2 _ _ _ (loop_exit ?_)
    show KE _ 0 _ Q _ _
    by_cases h1 : s.op = 1
    · simp -implicitDefEqProofs [h1]
      refine CALL_pure (tycon_Shift_call s.con 0 0 hcs (by omega) (by omega) (by omega) (by omega)) (by simp) (cnE_scoped _ 0) (by simp [cnAV, cnCells_eq]) ?_
      rw [encTop, if_pos h1] at key0
      generalize shS s.con 0 0 = p at key0 ⊢
      obtain ⟨c, e⟩ := p
      simp -implicitDefEqProofs [cnE, cnAV, cnCells_eq c]
      refine hQ _ _ _ ?_
      simp -implicitDefEqProofs [key0, cnE, cnAV, cnCells_eq c]
    by_cases h2 : s.op = 2
    · simp -implicitDefEqProofs [h2]
      refine CALL_pure (encode_applied_call s.con hcs) (by simp) (cnE_scoped _ 0) (by simp [cnAV, cnCells_eq]) ?_
      rw [encTop, if_neg h1, if_pos h2] at key0
      have hap := @apS_size s.con
      have hcall := encode_applied_call s.con hcs
      generalize apS s.con = p at key0 hap hcall ⊢
      obtain ⟨c, e⟩ := p
      simp only at key0 hap
      simp -implicitDefEqProofs [cnE, cnAV]
      by_cases h0 : e = 0
      case neg =>
        have h0' : (e != 0) = true := by simpa using h0
        rw [if_neg h0] at key0
        simp -implicitDefEqProofs [h0', h0]
        refine hQ _ _ _ ?_
        simp -implicitDefEqProofs [key0, cnE, cnAV, cnZero_cells]
      subst h0
      rw [if_pos rfl] at key0
      have hap := hap rfl
      simp -implicitDefEqProofs
      refine CALL_pure hcall (by simp) (cnE_scoped _ 0) (by simp [cnAV, cnCells_eq]) ?_
      simp -implicitDefEqProofs [cnE, cnAV]
      refine WP_drawV (fun _ => true) [12] (by rfl) ?_
      simp -implicitDefEqProofs
      refine DCALL_pure (encode_over_call s.k) (by simp) (by simp) (by simp [kdAV, kdCells_eq]) ?_
      simp -implicitDefEqProofs [kdAV]
      refine DCALL_pure (encode_arrow_call c c) (by simp) (by simp) (by simp [cnAV]) ?_
      simp -implicitDefEqProofs [cnAV, fillR]
      have hz : cnSize (cnBound 9 (kPair s.k (.mk [])) (cnOp2 6 c c)) ≤ 1000000000000 := by rw [cnSize_bound, cnSize_op2]; omega
      refine DCALL_pure (encode_checked_call _ hz) (by simp) (cnE_scoped _ 0) (by simp [cnAV, cnBound, cnCells_mk, kdCells_eq, strRows_nil]) ?_
      generalize chS (cnBound 9 (kPair s.k (.mk [])) (cnOp2 6 c c)) = p at key0 ⊢
      obtain ⟨c', e'⟩ := p
      simp -implicitDefEqProofs [cnE, cnAV]
      refine hQ _ _ _ ?_
      simp -implicitDefEqProofs [key0, cnE, cnAV]
    by_cases h3 : s.op = 3
    · rw [encTop, if_neg h1, if_neg h2, if_pos h3] at key0
      simp -implicitDefEqProofs [h3]
      refine CALL_pure (tycon_Unit_call) (by simp) (by simp) (by simp [kdAV, cnAV, cnCells_eq, kdCells_eq, strRows, Kd.l, smAV, smCells_eq]) ?_
      simp -implicitDefEqProofs [cnAV]
      refine hQ _ _ _ ?_
      simp -implicitDefEqProofs [key0, cnE, cnAV]
    by_cases h4 : s.op = 4
    · rw [encTop, if_neg h1, if_neg h2, if_neg h3, if_pos h4] at key0
      have hl1 := (nodeM_shape hn).2.1 h4
      obtain ⟨p, rfl⟩ : ∃ p, P = [p] := List.length_eq_one_iff.1 (by omega)
      have hpv := hPv p (by simp)
      have key0 : enc s = if (chS (around 10 s.ks p)).2 = 0 then chS (cnOp2 6 (chS (around 10 s.ks p)).1 (shS (chS (around 10 s.ks p)).1 0 0).1) else (cnZero, (chS (around 10 s.ks p)).2) := key0
      have hz : cnSize (around 10 s.ks p) ≤ 1000000000000 := by rw [around_size]; have := valid_size hpv; have := hf.2.1; unfold maxL at this; omega
      have hcall := encode_checked_call _ hz
      have hval := @chS_valid (around 10 s.ks p)
      obtain ⟨q, hq⟩ : ∃ q, q = chS (around 10 s.ks p) := ⟨_, rfl⟩
      rw [← hq] at key0 hval hcall
      clear hq
      simp -implicitDefEqProofs [h4]
      refine WP_drawF (fun _ => true) [] (by rfl) (by rfl) ?_
      simp -implicitDefEqProofs
      refine DCALL_pure (hu 10 s.ks p) (by simp) (by simp) (by simp [cnAV]) ?_
      simp -implicitDefEqProofs [cnAV]
      refine DCALL_pure hcall (by simp) (cnE_scoped _ 0) (by simp [cnAV]) ?_
      clear hcall
      obtain ⟨c, e⟩ := q
      simp only at key0 hval
      simp -implicitDefEqProofs [cnE, cnAV]
      refine ⟨fun b cs _ hb => by simpa using keep_append (L := [_]) hb, ?_⟩
      by_cases h0 : e = 0
      case neg =>
        have h0' : (e != 0) = true := by simpa using h0
        rw [if_neg h0] at key0
        simp -implicitDefEqProofs [h0', h0]
        refine hQ _ _ _ ?_
        simp -implicitDefEqProofs [key0, cnE, cnAV, cnZero_cells]
      subst h0
      rw [if_pos rfl] at key0
      have hval := hval rfl
      simp -implicitDefEqProofs
      refine CALL_pure (tycon_Shift_call c 0 0 (sizes_one hval) (by omega) (by omega) (by omega) (by omega)) (by simp) (cnE_scoped _ 0) (by simp [cnAV]) ?_
      have hsz := @shS_size c 0 0
      generalize shS c 0 0 = q at key0 hsz ⊢
      obtain ⟨c', e'⟩ := q
      simp -implicitDefEqProofs [cnE, cnAV]
      refine CALL_pure (encode_arrow_call c c') (by simp) (by simp) (by simp [cnAV]) ?_
      simp -implicitDefEqProofs [cnAV]
      have hz : cnSize (cnOp2 6 c c') ≤ 1000000000000 := by rw [cnSize_op2]; have := valid_size hval; have := hsz; simp only at this; omega
      refine CALL_pure (encode_checked_call _ hz) (by simp) (cnE_scoped _ 0) (by simp [cnAV]) ?_
      generalize chS (cnOp2 6 c c') = q at key0 ⊢
      obtain ⟨c2, e2⟩ := q
      simp -implicitDefEqProofs [cnE, cnAV]
      refine hQ _ _ _ ?_
      simp -implicitDefEqProofs [key0, cnE, cnAV]
    by_cases h5 : s.op = 5
    · rw [encTop, if_neg h1, if_neg h2, if_neg h3, if_neg h4, if_pos h5] at key0
      have hl5 := (nodeM_shape hn).2.2.2 h5
      simp -implicitDefEqProofs [h5]
      refine CALL_pure (slices_Clone_string_call s.names) (by simp) (by simp) (by simp [kdAV, cnAV, cnCells_eq, kdCells_eq, strRows, Kd.l, smAV, smCells_eq]) ?_
      simp -implicitDefEqProofs
      have hz : cnSize (.mk 7 0 [] (.mk []) s.names P) ≤ 1000000000000 := by simp only [cnSize]; have := cnSizes_bound P hPv; omega
      refine CALL_pure (encode_checked_call _ hz) (by simp) (cnE_scoped _ 0) (by simp [cnAV, cnCells_mk, Kd.l_mk]) ?_
      generalize chS (.mk 7 0 [] (.mk []) s.names P) = q at key0 ⊢
      obtain ⟨c2, e2⟩ := q
      simp -implicitDefEqProofs [cnE, cnAV]
      refine hQ _ _ _ ?_
      simp -implicitDefEqProofs [key0, cnE, cnAV]
    · have h6 : s.op = 6 := by have := (nodeM_shape hn).1; omega
      rw [encTop, if_neg h1, if_neg h2, if_neg h3, if_neg h4, if_neg h5] at key0
      have hl6 := (nodeM_shape hn).2.2.1 h6
      obtain ⟨p, q, rfl⟩ : ∃ p q, P = [p, q] := get2 (by omega)
      have hpv := hPv p (by simp)
      have hqv := hPv q (by simp)
      simp only [List.headD_cons, List.getD_cons_succ, List.getD_cons_zero] at key0
      have hz : cnSize (around 9 s.ks (cnOp2 6 p (around 10 s.more q))) ≤ 1000000000000 := by
        rw [around_size, cnSize_op2, around_size]; have := valid_size hpv; have := valid_size hqv; have := hf.2.1; have := hf.2.2.1; unfold maxL at *; omega
      simp -implicitDefEqProofs [h6]
      refine WP_drawV (fun _ => true) [17] (by rfl) ?_
      simp -implicitDefEqProofs
      refine DCALL_pure (hu 10 s.more q) (by simp) (by simp) (by simp [cnAV]) ?_
      simp -implicitDefEqProofs [cnAV]
      refine DCALL_pure (encode_arrow_call p (around 10 s.more q)) (by simp) (by simp) (by simp [cnAV]) ?_
      simp -implicitDefEqProofs [cnAV]
      refine DCALL_pure (hu 9 s.ks (cnOp2 6 p (around 10 s.more q))) (by simp) (by simp) (by simp [cnAV]) ?_
      simp -implicitDefEqProofs [cnAV]
      refine DCALL_pure (encode_checked_call _ hz) (by simp) (cnE_scoped _ 0) (by simp [cnAV]) ?_
      generalize chS (around 9 s.ks (cnOp2 6 p (around 10 s.more q))) = q at key0 ⊢
      obtain ⟨c2, e2⟩ := q
      simp -implicitDefEqProofs [cnE, cnAV]
      refine hQ _ _ _ ?_
      simp -implicitDefEqProofs [key0, cnE, cnAV]
theorem encode_encoded_call (hu : UnderOk) (s : Sm) (hc : conB s) (hw : wfM s) : HCall Go.Proofs.Tryz.prog i_encode_encoded [smAV s] [] (cnE (enc s)) [] :=
  encode_encoded_step hu s hc hw fun x hx => encode_encoded_call hu x (((conB_eq s).1 hc).2 x hx) (((wfM_eq s).1 hw).2 x hx)
termination_by SizeOf.sizeOf s
decreasing_by exact Sm.lt_l ‹_›
end Go.Proofs.YtblbepjnkehoaaaGreatDoor
/- Encodings: what they are, by the program and by the reference. -/
namespace Go.Proofs.YtblbepjnkehoaaaGreatDoor
open Go
attribute [local simp] astep aev putA guardA start AV.cells AV.undef takeCells splice intBin strBin abin AV.isCell loadV fillR fillA
attribute [local simp] fin aRes aResL aRes1 AV.strip stripL stripE AV.inScope scopedL scopedE scopedH
set_option maxRecDepth 10000
set_option linter.unusedSimpArgs false
mutual
theorem mS_wf : ∀ (s : Sm) (left d : Int), (mS s left d).2 = true → wfM s
  | .mk o n s c k ks more names l, left, d, h => by
    rw [mS] at h
    split at h
    · cases h
    · rename_i hc
      rw [wfM]
      refine ⟨?_, mSs_wf l _ _ _ h⟩
      cases hn : nodeM (.mk o n s c k ks more names l)
      · exact absurd (.inr (.inr hn)) hc
      · rfl
theorem mSs_wf : ∀ (l : List Sm) (left d n : Int), (mSs l left d n).2 = true → ∀ x ∈ l, wfM x
  | [], _, _, _, _, x, hx => by cases hx
  | y :: ys, left, d, n, h, x, hx => by
    rw [mSs] at h
    split at h
    · rename_i hc
      rcases List.mem_cons.1 hx with e | hx
      · rw [e]; exact mS_wf y _ _ hc
      · exact mSs_wf ys _ _ _ h x hx
    · cases h
end
theorem form_wf {s : Sm} (h : formM s = true) : wfM s := mS_wf s _ _ h
theorem size_zero (s : Sm) : (sizeM s = 0) ↔ formM s = false := by
  unfold sizeM
  cases h : formM s
  · simp
  · have := (mS_le s 20000 1 h).1
    simp; omega
def encSem (s : Sm) : Cn × Int := if formM s = true then enc s else (cnZero, 1)
/-- An abstract signature. -/
def abAV (ks : List Kd) (s : Sm) : AV := .agg (.sl .none (ks.map kdCells) :: smCells s)
def encAb (ks : List Kd) (s : Sm) : Cn × Int := if (enc s).2 = 0 then chS (around 10 ks (enc s).1) else (cnZero, (enc s).2)
def abOk (ks : List Kd) (s : Sm) : Bool := formM s && kinds1000 ks
def encAbs (ks : List Kd) (s : Sm) : Cn × Int := if abOk ks s = true then encAb ks s else (cnZero, 1)
def rApp (c : Cn) : Cn := cnOp2 12 (cnVar 0) (rShift c 1 0)
mutual
def rSem : Sm → Cn
  | .mk o _ _ c k ks more names l => if o = 1 then c
    else if o = 2 then cnBound 9 (kPair k (.mk [])) (cnOp2 6 (rApp c) (rApp c))
    else if o = 3 then cnUnit
    else if o = 4 then cnOp2 6 (around 10 ks ((rSems l).headD cnZero)) (around 10 ks ((rSems l).headD cnZero))
    else if o = 6 then around 9 ks (cnOp2 6 ((rSems l).headD cnZero) (around 10 more ((rSems l).getD 1 cnZero)))
    else .mk 7 0 [] (.mk []) names (rSems l)
def rSems : List Sm → List Cn
  | [] => []
  | x :: xs => rSem x :: rSems xs
end
theorem rSems_map (l : List Sm) : rSems l = l.map rSem := by
  induction l with
  | nil => rfl
  | cons x xs ih => rw [rSems, ih]; rfl
theorem rSem_eq (s : Sm) : rSem s = if s.op = 1 then s.con
    else if s.op = 2 then cnBound 9 (kPair s.k (.mk [])) (cnOp2 6 (rApp s.con) (rApp s.con))
    else if s.op = 3 then cnUnit
    else if s.op = 4 then cnOp2 6 (around 10 s.ks ((s.l.map rSem).headD cnZero)) (around 10 s.ks ((s.l.map rSem).headD cnZero))
    else if s.op = 6 then around 9 s.ks (cnOp2 6 ((s.l.map rSem).headD cnZero) (around 10 s.more ((s.l.map rSem).getD 1 cnZero)))
    else .mk 7 0 [] (.mk []) s.names (s.l.map rSem) := by
  cases s; rw [rSem, rSems_map]; rfl
end Go.Proofs.YtblbepjnkehoaaaGreatDoor
/- What an argument reads as, as data: kinds, constructors, semantic signatures. -/
namespace Go.Proofs.YtblbepjnkehoaaaGreatDoor
open Go
open Rows (uptoBulk uptoBulkAll)
set_option maxRecDepth 10000
set_option linter.unusedSimpArgs false
/-- All cells of a world. -/
def FW (w : World) : Addr → Prop := fun a => a.spot = none ∧ (w.cell? a).isSome = true
/-- The bound. -/
@[irreducible] def bmax : Nat := 1048576
theorem bmax_le : bmax ≤ 1048576 := by unfold bmax; exact Nat.le_refl _
def g00 : Gh := ⟨fun _ => none, fun _ => none⟩

theorem list_choose {α : Type} {P : Nat → α → Prop} : ∀ (n : Nat), (∀ i, i < n → ∃ x, P i x) → ∃ l : List α, l.length = n ∧ ∀ (i : Nat) (h : i < l.length), P i l[i]
  | 0, _ => ⟨[], rfl, fun i h => absurd h (Nat.not_lt_zero i)⟩
  | n + 1, h => by
    obtain ⟨l, h1, h2⟩ := list_choose n fun i hi => h i (by omega)
    obtain ⟨x, hx⟩ := h n (by omega)
    refine ⟨l ++ [x], by simp [h1], fun i hi => ?_⟩
    rw [List.getElem_append]
    split
    · exact h2 i _
    · have : i = n := by simp at hi; omega
      subst this; simpa using hx
theorem mapM_get {α β : Type} {f : α → Option β} : ∀ {l : List α} {r : List β}, l.mapM f = some r → r.length = l.length ∧ ∀ (i : Nat) (x : α), l[i]? = some x → ∃ y, f x = some y ∧ r[i]? = some y
  | [], r, h => by simp at h; subst h; simp
  | x :: l, r, h => by
    simp only [List.mapM_cons, Option.bind_eq_bind, Option.pure_def, Option.bind_eq_some_iff, Option.some.injEq] at h
    obtain ⟨y, h1, ys, h2, rfl⟩ := h
    obtain ⟨e1, e2⟩ := mapM_get h2
    refine ⟨by simp [e1], fun i z hz => ?_⟩
    cases i with
    | zero => simp at hz; subst hz; exact ⟨y, h1, rfl⟩
    | succ i => simp at hz; simpa using e2 i z hz
section
variable {H : Type} {enc : TypeId × Value → H} {P : Program} {w : World} {base : Nat} {spare : Nat → Bool} {held : Bool}
theorem bulk_pos (d : DataW H) : 1 ≤ uptoBulk d := by
  cases d with
  | lit l => cases l <;> simp [uptoBulk]
  | nil => simp [uptoBulk]
  | ptr d => simp [uptoBulk]
  | slice elems spare => simp [uptoBulk]
  | agg parts => simp [uptoBulk]
  | iface t d => simp [uptoBulk]
  | map entries => simp [uptoBulk]
  | held h => simp [uptoBulk]
theorem bulk_mem {d : DataW H} {l : List (DataW H)} (h : d ∈ l) : uptoBulk d ≤ uptoBulkAll l := by
  induction l with
  | nil => cases h
  | cons x r ih =>
    simp only [uptoBulkAll]
    cases List.mem_cons.1 h with
    | inl e => subst e; omega
    | inr e => have := ih e; omega
theorem bulk_len (l : List (DataW H)) : l.length ≤ uptoBulkAll l := by
  induction l with
  | nil => simp [uptoBulkAll]
  | cons x r ih => have := bulk_pos x; simp only [uptoBulkAll, List.length_cons]; omega

theorem int_of {t : TypeId} {k : IntKind} {fuel : Nat} {cs : List Value} {d : DataW H} {ps : List MemPlace} (ht : P.underlying t = some (.int k)) (h : DataW.trod enc P w base spare held fuel t cs = some (d, ps)) :
    ∃ n, cs = [.int k n] ∧ R (FW w) g00 w (.int k n) (.int k n) := by
  cases fuel with
  | zero => simp [DataW.trod] at h
  | succ n =>
    unfold DataW.trod at h
    rw [ht] at h
    split at h <;> simp_all
    simp only [R]
    refine ⟨trivial, ?_⟩
    have := h.1.2
    simp only [Lit.wf, Bool.and_eq_true, decide_eq_true_eq] at this
    exact this
theorem str_of {t : TypeId} {fuel : Nat} {cs : List Value} {d : DataW H} {ps : List MemPlace} (ht : P.underlying t = some .string) (h : DataW.trod enc P w base spare held fuel t cs = some (d, ps)) (hb : uptoBulk d ≤ bmax) :
    ∃ (s : List UInt8) (v : Value), cs = [v] ∧ R (FW w) g00 w (.str s) v := by
  cases fuel with
  | zero => simp [DataW.trod] at h
  | succ n =>
    unfold DataW.trod at h
    rw [ht] at h
    split at h <;> simp_all
    rename_i s
    obtain ⟨_, rfl, _⟩ := h
    refine ⟨s.data.toList, ?_⟩
    simp only [R]
    refine ⟨by simp, ?_⟩
    simp only [uptoBulk, Array.length_toList] at hb
    have := bmax_le
    simp only [maxL, Array.length_toList]; omega

theorem RE_by {α : Type} {F : Addr → Prop} {g : Gh} (f : α → List AV) {k : Nat} (hlen : ∀ x, (f x).length = k) (hcell : ∀ x, (f x).all AV.isCell = true) {B : Nat} : ∀ (l : List α) (off : Nat),
    (∀ (i : Nat) (h : i < l.length), ∃ cs, RL F g w (f l[i]) cs ∧ ∀ (j : Nat) (v : Value), cs[j]? = some v → w.cell? ⟨B, off + i * k + j, none⟩ = some v ∧ F ⟨B, off + i * k + j, none⟩) → RE F g w B off k (l.map f)
  | [], _, _ => by simp [RE]
  | x :: l, off, h => by
    simp only [List.map_cons, RE]
    refine ⟨hlen x, ?_, RE_by f hlen hcell l (off + k) fun i hi => ?_⟩
    · obtain ⟨cs, h1, h2⟩ := h 0 (by simp)
      exact RM_of h1 (hcell x) (by simpa using h2)
    · obtain ⟨cs, h1, h2⟩ := h (i + 1) (by simp; omega)
      refine ⟨cs, by simpa using h1, fun j v hv => ?_⟩
      have := h2 j v hv
      rwa [show off + (i + 1) * k + j = off + k + i * k + j by rw [Nat.add_mul]; omega] at this

/-- A slice whose elements are read as data. -/
theorem slice_of {α : Type} {t e : TypeId} {k : Nat} (f : α → List AV) (hlen : ∀ x, (f x).length = k) (hcell : ∀ x, (f x).all AV.isCell = true) (ht : P.underlying t = some (.slice e)) (hk : P.cellsOf e = k) (h0 : 0 < k) {Good : α → DataW H → Prop} {fuel : Nat} {cs : List Value} {d : DataW H} {ps : List MemPlace}
    (h : DataW.trod enc P w base spare held fuel t cs = some (d, ps)) (hb : uptoBulk d ≤ bmax) (hrec : ∀ n, n < fuel → ∀ cs' d' p', DataW.trod enc P w base spare held n e cs' = some (d', p') → uptoBulk d' ≤ bmax → ∃ x, RL (FW w) g00 w (f x) cs' ∧ Good x d') :
    ∃ (v : Value) (l : List α), cs = [v] ∧ R (FW w) g00 w (.sl .none (l.map f)) v ∧ ∃ ds, l.length = ds.length ∧ uptoBulkAll ds < uptoBulk d ∧ ∀ (i : Nat) (hi : i < l.length) (hi' : i < ds.length), Good l[i] ds[i] := by
  rcases DataW.trod_slice ht h with ⟨rfl, hx⟩ | ⟨a, len, cap, elems, rest, n, rfl, rfl, hx, hbase, hl, _, hel, hget, _, _⟩
  · refine ⟨_, [], rfl, ?_, [], rfl, ?_, fun i hi => absurd hi (Nat.not_lt_zero i)⟩
    · simp [R]
    · have := bulk_pos d; simp only [uptoBulkAll]; omega
  · cases hx
    simp only [uptoBulk] at hb
    have hlen0 := bulk_len (elems.map (·.1))
    simp only [List.length_map] at hlen0
    have key : ∀ i, i < len → ∃ x : α, (∃ cs', RL (FW w) g00 w (f x) cs' ∧ ∀ (j : Nat) (v : Value), cs'[j]? = some v → w.cell? ((a.add (i * k)).add j) = some v) ∧ ∃ y, elems[i]? = some y ∧ Good x y.1 := by
      intro i hi
      have hg := hget i hi
      rw [hk] at hg
      have hy : elems[i]? = some elems[i] := List.getElem?_eq_getElem (by omega)
      rw [hy, Option.bind_eq_some_iff] at hg
      obtain ⟨cs', c1, c2⟩ := hg
      have hbi : uptoBulk elems[i].1 ≤ bmax := by
        have := bulk_mem (d := elems[i].1) (l := elems.map (·.1)) (List.mem_map.2 ⟨_, List.getElem_mem _, rfl⟩)
        omega
      obtain ⟨x, x1, x2⟩ := hrec n (by omega) cs' elems[i].1 elems[i].2 (by rw [c2]) hbi
      refine ⟨x, ⟨cs', x1, fun j v hv => ?_⟩, elems[i], hy, x2⟩
      unfold World.cells? at c1
      rw [if_pos (by unfold Addr.add; split <;> exact hbase)] at c1
      obtain ⟨e1, e2⟩ := mapM_get c1
      have hj : j < k := by
        have := (List.getElem?_eq_some_iff.1 hv).1
        simp at e1; omega
      obtain ⟨y, y1, y2⟩ := e2 j j (by simp [hj])
      rw [hv] at y2; cases y2
      exact y1
    obtain ⟨l, l1, l2⟩ := list_choose len key
    refine ⟨_, l, rfl, ?_, elems.map (·.1), by simp [l1, hel], by simp only [uptoBulk]; omega, fun i hi hi' => ?_⟩
    · simp only [R, List.length_map, l1]
      refine ⟨by have := bmax_le; simp only [maxL]; omega, .inr ?_⟩
      obtain ⟨B, off, sp⟩ := a
      have hsp : l.map f = [] ∨ sp = none := by
        cases l with
        | nil => exact .inl rfl
        | cons x l =>
          right
          obtain ⟨⟨cs', c1, c2⟩, _⟩ := l2 0 (by simp)
          have hpos : 0 < cs'.length := by rw [← RL_len c1, hlen]; exact h0
          have := c2 0 cs'[0] (List.getElem?_eq_getElem hpos)
          simp only [Nat.zero_mul, Addr.add, if_true] at this
          cases sp with
          | none => rfl
          | some s => unfold World.cell? at this; split at this <;> simp at this
      refine ⟨B, off, sp, cap, k, rfl, hl, ⟨h0, hsp⟩, ?_, trivial⟩
      rcases hsp with he | rfl
      · rw [he]; simp [RE]
      refine RE_by f hlen hcell l off fun i hi => ?_
      obtain ⟨⟨cs', c1, c2⟩, _⟩ := l2 i hi
      refine ⟨cs', c1, fun j v hv => ?_⟩
      have := c2 j v hv
      rw [add_plain, add_plain] at this
      exact ⟨this, rfl, by rw [this]; rfl⟩
    · obtain ⟨_, y, y1, y2⟩ := l2 i hi
      rw [List.getElem?_eq_getElem (by omega), Option.some.injEq] at y1
      subst y1
      simpa using y2
end

section
variable {H : Type} {enc : TypeId × Value → H} {w : World} {base : Nat} {spare : Nat → Bool} {held : Bool}
theorem cells_3 : Go.Proofs.Tryz.prog.cellsOf 3 = 1 := by kernel_rfl
theorem cells_9 : Go.Proofs.Tryz.prog.cellsOf 9 = 1 := by kernel_rfl
theorem cells_22 : Go.Proofs.Tryz.prog.cellsOf 22 = 1 := by kernel_rfl
theorem cells_24 : Go.Proofs.Tryz.prog.cellsOf 24 = 1 := by kernel_rfl
theorem cells_25 : Go.Proofs.Tryz.prog.cellsOf 25 = 1 := by kernel_rfl
theorem cells_26 : Go.Proofs.Tryz.prog.cellsOf 26 = 1 := by kernel_rfl
theorem cells_28 : Go.Proofs.Tryz.prog.cellsOf 28 = 6 := by kernel_rfl
theorem cells_29 : Go.Proofs.Tryz.prog.cellsOf 29 = 1 := by kernel_rfl
theorem cells_31 : Go.Proofs.Tryz.prog.cellsOf 31 = 14 := by kernel_rfl
theorem cells_33 : Go.Proofs.Tryz.prog.cellsOf 33 = 15 := by kernel_rfl
theorem kd_of : ∀ (fuel : Nat) (cs : List Value) (d : DataW H) (ps : List MemPlace), DataW.trod enc Go.Proofs.Tryz.prog w base spare held fuel 24 cs = some (d, ps) → uptoBulk d ≤ bmax → ∃ k : Kd, RL (FW w) g00 w (kdCells k) cs ∧ True := by
  intro fuel
  induction fuel using Nat.strongRecOn with
  | _ fuel ih =>
    intro cs d ps h hb
    obtain ⟨xs, n, rfl, hx, hl, hxs, hf⟩ := DataW.trod_struct Go.Proofs.Tryz.underlying24 h
    cases hx
    have e0 := hf 0 _ rfl
    simp only [cells_24, cells_28, cells_31, cells_33] at hl
    obtain ⟨x0, rfl⟩ : ∃ x, xs = [x] := by
      match xs, hxs with
      | [x], _ => exact ⟨x, rfl⟩
    simp only [uptoBulk, List.map_cons, List.map_nil, uptoBulkAll] at hb
    obtain ⟨v, l, h1, h2, _⟩ := slice_of (Good := fun _ _ => True) kdCells (by simp) (by simp) Go.Proofs.Tryz.underlying22 cells_24 (by omega) (fuel := n) (d := x0.1) (ps := x0.2) (cs := cs) (by simpa [cells_22, List.take_of_length_le (Nat.le_of_eq hl)] using e0) (by omega) fun m hm cs' d' p' hd hb' => ih m (by omega) cs' d' p' hd hb'
    subst h1
    exact ⟨.mk l, by rw [kdCells_eq]; simp only [RL]; exact ⟨v, [], rfl, h2, rfl⟩, trivial⟩
theorem sizes_le : ∀ (l : List Cn) (ds : List (DataW H)), l.length = ds.length → (∀ (i : Nat) (hi : i < l.length) (hi' : i < ds.length), cnSize l[i] ≤ uptoBulk ds[i]) → cnSizes l ≤ uptoBulkAll ds
  | [], ds, _, _ => by simp [cnSizes]
  | x :: l, [], h, _ => by simp at h
  | x :: l, d :: ds, h, hi => by
    have h1 := hi 0 (by simp) (by simp)
    have h2 := sizes_le l ds (by simpa using h) fun i a b => by
      have := hi (i + 1) (by simp; omega) (by simp; omega)
      simpa only [List.getElem_cons_succ] using this
    simp only [cnSizes, uptoBulkAll]
    simp only [List.getElem_cons_zero] at h1
    omega
theorem strs_of {fuel : Nat} {cs : List Value} {d : DataW H} {ps : List MemPlace} (h : DataW.trod enc Go.Proofs.Tryz.prog w base spare held fuel 25 cs = some (d, ps)) (hb : uptoBulk d ≤ bmax) : ∃ (v : Value) (l : List (List UInt8)), cs = [v] ∧ R (FW w) g00 w (.sl .none (strRows l)) v := by
  obtain ⟨v, l, h1, h2, _⟩ := slice_of (Good := fun _ _ => True) (fun s : List UInt8 => [AV.str s]) (by simp) (by simp [AV.isCell]) Go.Proofs.Tryz.underlying25 cells_9 (by omega) h hb fun m hm cs' d' p' hd hb' => by
    obtain ⟨s, v, rfl, hv⟩ := str_of Go.Proofs.Tryz.underlying9 hd hb'
    exact ⟨s, by simp only [RL]; exact ⟨v, [], rfl, hv, rfl⟩, trivial⟩
  exact ⟨v, l, h1, h2⟩
theorem kds_of {fuel : Nat} {cs : List Value} {d : DataW H} {ps : List MemPlace} (h : DataW.trod enc Go.Proofs.Tryz.prog w base spare held fuel 22 cs = some (d, ps)) (hb : uptoBulk d ≤ bmax) : ∃ (v : Value) (l : List Kd), cs = [v] ∧ R (FW w) g00 w (.sl .none (l.map kdCells)) v := by
  obtain ⟨v, l, h1, h2, _⟩ := slice_of (Good := fun _ _ => True) kdCells (by simp) (by simp) Go.Proofs.Tryz.underlying22 cells_24 (by omega) h hb fun m hm cs' d' p' hd hb' => kd_of m cs' d' p' hd hb'
  exact ⟨v, l, h1, h2⟩
theorem list6 {α : Type} {l : List α} (h : l.length = 6) : ∃ a b c d e f, l = [a, b, c, d, e, f] := by
  match l, h with
  | [a, b, c, d, e, f], _ => exact ⟨a, b, c, d, e, f, rfl⟩
theorem list9 {α : Type} {l : List α} (h : l.length = 9) : ∃ a b c d e f g i j, l = [a, b, c, d, e, f, g, i, j] := by
  match l, h with
  | [a, b, c, d, e, f, g, i, j], _ => exact ⟨a, b, c, d, e, f, g, i, j, rfl⟩
theorem list14 {α : Type} {l : List α} (h : l.length = 14) : ∃ a b c d e f g i j k m n o p, l = [a, b, c, d, e, f, g, i, j, k, m, n, o, p] := by
  match l, h with
  | [a, b, c, d, e, f, g, i, j, k, m, n, o, p], _ => exact ⟨a, b, c, d, e, f, g, i, j, k, m, n, o, p, rfl⟩
theorem RL_pure {F : Addr → Prop} {g : Gh} {w : World} {x : AV} {xs : List AV} {v : Value} {vs : List Value} (h : R F g w x v) (h' : RL F g w xs vs) : RL F g w (x :: xs) (v :: vs) := by
  simp only [RL]; exact ⟨v, vs, rfl, h, h'⟩
theorem RL_z {F : Addr → Prop} {g : Gh} {w : World} : RL F g w [] [] := by simp [RL]
theorem RL_inv {F : Addr → Prop} {g : Gh} {w : World} {x : AV} {v : Value} (h : RL F g w [x] [v]) : R F g w x v := by
  simp only [RL] at h
  obtain ⟨_, _, e, h, _⟩ := h
  cases e; exact h
theorem cn_of : ∀ (fuel : Nat) (cs : List Value) (d : DataW H) (ps : List MemPlace), DataW.trod enc Go.Proofs.Tryz.prog w base spare held fuel 28 cs = some (d, ps) → uptoBulk d ≤ bmax → ∃ c : Cn, RL (FW w) g00 w (cnCells c) cs ∧ cnSize c ≤ uptoBulk d := by
  intro fuel
  induction fuel using Nat.strongRecOn with
  | _ fuel ih =>
    intro cs d ps h hb
    obtain ⟨xs, n, rfl, hx, hl, hxs, hf⟩ := DataW.trod_struct Go.Proofs.Tryz.underlying28 h
    cases hx
    have e0 := hf 0 _ rfl
    have e1 := hf 1 _ rfl
    have e2 := hf 2 _ rfl
    have e3 := hf 3 _ rfl
    have e4 := hf 4 _ rfl
    have e5 := hf 5 _ rfl
    simp only [cells_24, cells_28, cells_31, cells_33] at hl
    obtain ⟨x0, x1, x2, x3, x4, x5, rfl⟩ := list6 hxs
    obtain ⟨c0, c1, c2, c3, c4, c5, rfl⟩ := list6 hl
    simp [cells_3, cells_9, cells_22, cells_24, cells_25, cells_26, cells_28, cells_29, cells_31, cells_33] at e0 e1 e2 e3 e4 e5
    simp only [uptoBulk, List.map_cons, List.map_nil, uptoBulkAll] at hb
    obtain ⟨i0, f0, r0⟩ := int_of Go.Proofs.Tryz.underlying3 (d := x0.1) (ps := x0.2) e0
    obtain ⟨i1, f1, r1⟩ := int_of Go.Proofs.Tryz.underlying3 (d := x1.1) (ps := x1.2) e1
    obtain ⟨s, v2, f2, r2⟩ := str_of Go.Proofs.Tryz.underlying9 (d := x2.1) (ps := x2.2) e2 (by omega)
    obtain ⟨k, r3, _⟩ := kd_of n [c3] x3.1 x3.2 e3 (by omega)
    obtain ⟨v4, ns, f4, r4⟩ := strs_of (d := x4.1) (ps := x4.2) e4 (by omega)
    obtain ⟨v5, l, f5, r5, ds, g1, g2, g3⟩ := slice_of (Good := fun c d => cnSize c ≤ uptoBulk d) cnCells (by simp) (by simp) Go.Proofs.Tryz.underlying26 cells_28 (by omega) (d := x5.1) (ps := x5.2) e5 (by omega) fun m hm cs' d' p' hd hb' => ih m (by omega) cs' d' p' hd hb'
    cases f0; cases f1; cases f2; cases f4; cases f5
    refine ⟨.mk i0 i1 s k ns l, ?_, ?_⟩
    · rw [kdCells_eq] at r3
      rw [cnCells_eq]
      exact RL_pure r0 (RL_pure r1 (RL_pure r2 (RL_pure (RL_inv r3) (RL_pure r4 (RL_pure r5 RL_z)))))
    · have := sizes_le l ds g1 g3
      simp only [cnSize, List.map_cons, List.map_nil, uptoBulk, uptoBulkAll]
      omega
theorem sm_of : ∀ (fuel : Nat) (cs : List Value) (d : DataW H) (ps : List MemPlace), DataW.trod enc Go.Proofs.Tryz.prog w base spare held fuel 31 cs = some (d, ps) → uptoBulk d ≤ bmax → ∃ s : Sm, RL (FW w) g00 w (smCells s) cs ∧ conB s := by
  intro fuel
  induction fuel using Nat.strongRecOn with
  | _ fuel ih =>
    intro cs d ps h hb
    obtain ⟨xs, n, rfl, hx, hl, hxs, hf⟩ := DataW.trod_struct Go.Proofs.Tryz.underlying31 h
    cases hx
    have e0 := hf 0 _ rfl
    have e1 := hf 1 _ rfl
    have e2 := hf 2 _ rfl
    have e3 := hf 3 _ rfl
    have e4 := hf 4 _ rfl
    have e5 := hf 5 _ rfl
    have e6 := hf 6 _ rfl
    have e7 := hf 7 _ rfl
    have e8 := hf 8 _ rfl
    simp only [cells_24, cells_28, cells_31, cells_33] at hl
    obtain ⟨x0, x1, x2, x3, x4, x5, x6, x7, x8, rfl⟩ := list9 hxs
    obtain ⟨c0, c1, c2, c3, c4, c5, c6, c7, c8, c9, c10, c11, c12, c13, rfl⟩ := list14 hl
    simp [cells_3, cells_9, cells_22, cells_24, cells_25, cells_26, cells_28, cells_29, cells_31, cells_33] at e0 e1 e2 e3 e4 e5 e6 e7 e8
    simp only [uptoBulk, List.map_cons, List.map_nil, uptoBulkAll] at hb
    obtain ⟨i0, f0, r0⟩ := int_of Go.Proofs.Tryz.underlying3 (d := x0.1) (ps := x0.2) e0
    obtain ⟨i1, f1, r1⟩ := int_of Go.Proofs.Tryz.underlying3 (d := x1.1) (ps := x1.2) e1
    obtain ⟨s, v2, f2, r2⟩ := str_of Go.Proofs.Tryz.underlying9 (d := x2.1) (ps := x2.2) e2 (by omega)
    obtain ⟨c, r3, hc⟩ := cn_of n _ x3.1 x3.2 e3 (by omega)
    obtain ⟨k, r4, _⟩ := kd_of n [c9] x4.1 x4.2 e4 (by omega)
    obtain ⟨v5, ks, f5, r5⟩ := kds_of (d := x5.1) (ps := x5.2) e5 (by omega)
    obtain ⟨v6, more, f6, r6⟩ := kds_of (d := x6.1) (ps := x6.2) e6 (by omega)
    obtain ⟨v7, ns, f7, r7⟩ := strs_of (d := x7.1) (ps := x7.2) e7 (by omega)
    obtain ⟨v8, l, f8, r8, ds, g1, g2, g3⟩ := slice_of (Good := fun s _ => conB s) smCells (by simp) (by simp) Go.Proofs.Tryz.underlying29 cells_31 (by omega) (d := x8.1) (ps := x8.2) e8 (by omega) fun m hm cs' d' p' hd hb' => ih m (by omega) cs' d' p' hd hb'
    cases f0; cases f1; cases f2; cases f5; cases f6; cases f7; cases f8
    refine ⟨.mk i0 i1 s c k ks more ns l, ?_, (conB_eq _).2 ⟨?_, fun x hx => ?_⟩⟩
    · rw [kdCells_eq] at r4
      rw [smCells_con]
      exact RL_pure r0 (RL_pure r1 (RL_pure r2 (RL_append r3 (RL_pure (RL_inv r4) (RL_pure r5 (RL_pure r6 (RL_pure r7 (RL_pure r8 RL_z))))))))
    · have := bmax_le
      show cnSize c ≤ _
      omega
    · obtain ⟨i, hi, rfl⟩ := List.getElem_of_mem hx
      exact g3 i hi (by have : i < l.length := hi; omega)
theorem ab_of {fuel : Nat} {v : Value} {d : DataW H} {ps : List MemPlace} {cs : Array Value} (hv : v = .agg cs) (h : DataW.trod enc Go.Proofs.Tryz.prog w base spare held fuel 33 v.cells.toList = some (d, ps)) (hb : uptoBulk d ≤ bmax) : ∃ (ks : List Kd) (s : Sm), R (FW w) g00 w (abAV ks s) v ∧ conB s := by
  subst hv
  simp only [Value.cells] at h
  obtain ⟨xs, n, rfl, hx, hl, hxs, hf⟩ := DataW.trod_struct Go.Proofs.Tryz.underlying33 h
  cases hx
  have e0 := hf 0 _ rfl
  have e1 := hf 1 _ rfl
  simp only [cells_24, cells_28, cells_31, cells_33] at hl
  obtain ⟨x0, x1, rfl⟩ : ∃ a b, xs = [a, b] := by
    match xs, hxs with
    | [a, b], _ => exact ⟨a, b, rfl⟩
  obtain ⟨c0, r, hr⟩ : ∃ c0 r, cs.toList = c0 :: r := by
    cases hc : cs.toList with
    | nil => rw [hc] at hl; simp at hl
    | cons a b => exact ⟨a, b, rfl⟩
  rw [hr] at e0 e1 hl
  simp [cells_3, cells_9, cells_22, cells_24, cells_25, cells_26, cells_28, cells_29, cells_31, cells_33] at e0 e1 hl
  simp only [uptoBulk, List.map_cons, List.map_nil, uptoBulkAll] at hb
  obtain ⟨v0, ks, f0, r0⟩ := kds_of (d := x0.1) (ps := x0.2) e0 (by omega)
  rw [List.take_of_length_le (by omega)] at e1
  obtain ⟨s, r1, hc⟩ := sm_of n r x1.1 x1.2 e1 (by omega)
  cases f0
  refine ⟨ks, s, ?_, hc⟩
  simp only [abAV, R]
  exact ⟨cs, rfl, by rw [hr]; exact RL_pure r0 r1⟩
end
end Go.Proofs.YtblbepjnkehoaaaGreatDoor
