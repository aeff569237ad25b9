/- The statement EncodeSems, tied to the program's text: for every argument of bulk at most 1048576 the call returns true, and the argument reads afterwards as it read before.
   Conditions: the bound on the argument's bulk; the listed package-level variables hold at the start what the program's text lays (the card's tie is given). Nothing else is assumed.
   How: an abstract code for each function (checked against the translation by the kernel) runs on abstract values; each function's contract is proved over it; encode.under's round over an iterator is walked at the kit's law; the samples of pilasterref24.awake are evaluated by the kernel. -/
import Derived.Test.YtblbepjnkehoaaaGreatDoorRows
import Derived.Test.YtblbepjnkehoaaaGreatDoorG05
import Derived.Deep.DeepHandedRow
import Derived.Deep.DeepWitnessRowRef
import Derived.Lib.LaidIn
import Derived.Lib.LaidTab
import Derived.Stop.LaidErr
import Derived.ProofKit
import Derived.Test.YtblbepjnkehoaaaGreatDoorG13
import Derived.Test.YtblbepjnkehoaaaGreatDoorG20
import Derived.Test.YtblbepjnkehoaaaGreatDoorG22
import Derived.Test.YtblbepjnkehoaaaGreatDoorCards
import Derived.Test.YtblbepjnkehoaaaGreatDoorTie
import Derived.OpenShut
import Derived.WideKeyArgs
import Derived.Shelf.Vars
set_option linter.unusedSimpArgs false
set_option linter.unusedVariables false
set_option maxHeartbeats 4000000
/- An input at which EncodeSems' row is met: the world as its package's variables are laid, the arguments' zero. -/
namespace Go.Proofs.YtblbepjnkehoaaaGreatDoor
open Go Go.Lib
set_option maxRecDepth 100000
/-- The cells of an array of integers. -/
def tabCells (d : DataW Unit) : Array Value := match d with
  | .agg l => (l.map fun x => match x with
    | .lit (.int k z) => Value.int k z
    | _ => .nilIface).toArray
  | _ => #[]
noncomputable def laidWorld (os : Os) : World :=
  let N := (World.settled Go.Proofs.Tryz.prog os).heap.size
  let w0 := World.holding Go.Proofs.Tryz.prog os ⟨#[
    .cells #[.string ⟨#[118, 97, 108, 117, 101, 32, 111, 117, 116, 32, 111, 102, 32, 114, 97, 110, 103, 101]⟩] 218,
    .cells #[.string ⟨#[105, 110, 118, 97, 108, 105, 100, 32, 115, 121, 110, 116, 97, 120]⟩] 218,
    .cells #[.slice (some ⟨N + 3, 0, none⟩) 7 7, .slice none 0 0, .int .i64 2] 232,
    .cells (([9, 13, 1, 32, 133, 101, 160, 5760, 5600, 8192, 8202, 1, 8232, 8233, 1, 8239, 8287, 48, 12288, 12288, 1] : List Int).map fun z => Value.int .u16 z).toArray 235], #[], []⟩
  let put (h : Array Obj) (g : Nat) (cs : Array Value) : Array Obj := h.modify g fun
    | .cells _ t frozen => .cells cs t frozen
    | o => o
  let h0 := put w0.heap 0 (tabCells Rows.laid_internal_strconv_uint64pow10)
  let h1 := put h0 3 #[.iface 216 (.pointer (some ⟨N, 0, none⟩))]
  let h2 := put h1 2 #[.iface 216 (.pointer (some ⟨N + 1, 0, none⟩))]
  let h3 := put h2 4 (tabCells Rows.laid_math_bits_deBruijn32tab)
  let h4 := put h3 5 (tabCells Rows.laid_math_bits_deBruijn64tab)
  let h5 := put h4 6 (tabCells Rows.laid_strings_asciiSpace)
  let h6 := put h5 7 #[.pointer (some ⟨N + 2, 0, none⟩)]
  { w0 with heap := h6 }
noncomputable abbrev N0 : Nat := (World.settled Go.Proofs.Tryz.prog default).heap.size
theorem laid_in (os : Os) (args : Array Value) : LaidIn Go.Proofs.Tryz.prog ((laidWorld os).forCall (fun _ _ => 0) ⟨#[], args, []⟩).memory Rows.encodeSemsUptoRow.laid [4, 5, 0, 3, N0, 2, N0 + 1, 7, N0 + 2, N0 + 3, 6] :=
  LaidIn.of_run [4, 5, 0, 3, N0, 2, N0 + 1, 7, N0 + 2, N0 + 3, 6] 12 (by kernel_rfl) (by kernel_rfl) (by kernel_rfl) (by kernel_rfl)
theorem laid_met (os : Os) (args : Array Value) : laidMet Go.Proofs.Tryz.prog Rows.encodeSemsUptoRow.laid ((laidWorld os).forCall (fun _ _ => 0) ⟨#[], args, []⟩).memory := (laid_in os args).met
/-- The zero of the argument's type, and how it reads. -/
def zArgs : Array Value := #[.agg #[.slice none 0 0, .int .i64 0, .int .i64 0, .string ⟨#[]⟩, .int .i64 0, .int .i64 0, .string ⟨#[]⟩, .slice none 0 0, .slice none 0 0, .slice none 0 0, .slice none 0 0, .slice none 0 0, .slice none 0 0, .slice none 0 0, .slice none 0 0]]
def zRead {H : Type} : DataW H := .agg [.nil, .agg [.lit (.int .i64 0), .lit (.int .i64 0), .lit (.string []), .agg [.lit (.int .i64 0), .lit (.int .i64 0), .lit (.string []), .agg [.nil], .nil, .nil], .agg [.nil], .nil, .nil, .nil, .nil]]
theorem witness_row (os : Os) {H : Type} (enc : TypeId × Value → H) :
    (Rows.OpenSpec.upto Rows.encodeSemsSpec).preRow enc Go.Proofs.Tryz.prog Go.Proofs.Tryz.f3 Rows.encodeSemsUptoRow.domain false Rows.encodeSemsUptoRow.laid ((laidWorld os).forCall (fun _ _ => 0) ⟨#[], zArgs, []⟩).memory zArgs := by
  have hw : (DataW.whole enc Go.Proofs.Tryz.prog ((laidWorld os).forCall (fun _ _ => 0) ⟨#[], zArgs, []⟩).memory Go.Proofs.Tryz.f3.params.toList (Rows.OpenSpec.upto Rows.encodeSemsSpec).vars false zArgs.toList 8).map (fun x => (x.1, x.2.1)) =
      some ([zRead], []) := by kernel_rfl
  obtain ⟨⟨x1, x2, x3⟩, hx, hx1⟩ := Option.map_eq_some_iff.1 hw
  simp only [Prod.mk.injEq] at hx1
  obtain ⟨rfl, rfl⟩ := hx1
  exact OpenSpec.preRow_of_cond 8 hx (by kernel_rfl) (fun k hk => by cases hk; kernel_rfl) (by kernel_rfl) (laid_met os _)
theorem own : ownKnob Go.Proofs.Tryz.prog.godebug = none := by kernel_rfl
theorem witness (os : Os) {H : Type} (enc : TypeId × Value → H) : ∃ (w : World) (tape : Tape) (i : Input), w.os = os ∧ (w.forCall tape i).Shaped Go.Proofs.Tryz.checked.prog ∧ i.vars = [] ∧ Input.okWide Go.Proofs.Tryz.checked.prog (w.forCall tape i) .any w.heap.size 3 i ∧
      (Rows.OpenSpec.upto Rows.encodeSemsSpec).preRow enc Go.Proofs.Tryz.checked.prog Go.Proofs.Tryz.f3 Rows.encodeSemsUptoRow.domain false Rows.encodeSemsUptoRow.laid (w.forCall tape i).memory i.args ∧ ({} : Assume).holds Go.Proofs.Tryz.checked.prog (lone (Frame.enter Go.Proofs.Tryz.checked.prog 3 i.args .normal) [] (w.forCall tape i)) :=
  witness_row_atRef (enc := enc) (C := Go.Proofs.Tryz.checked) false (laidWorld os) zArgs rfl (by kernel_rfl) (by kernel_rfl) (by kernel_rfl) (witness_row os enc)
theorem wf_row : Rows.encodeSemsUptoRow.wf (Rows.OpenSpec.upto Rows.encodeSemsSpec) = true := by kernel_rfl
end Go.Proofs.YtblbepjnkehoaaaGreatDoor
/- EncodeSems' row and its card. -/
namespace Go.Proofs.YtblbepjnkehoaaaGreatDoor
open Go Go.ChangeShapes Go.WideShapes Go.ChangeAt Go.RowKit Go.Lib
set_option maxRecDepth 100000
/-- The one type of that name. -/
def errName : String := match (Rows.laid_strconv_ErrRange : DataW Unit) with
  | .iface n _ => n
  | _ => ""
theorem es_row218 (u : TypeId) (h : Go.Proofs.Tryz.prog.typeName? 3 u = some errName) : u = 216 :=
  typeName_ptr_named (nm := "errors.errorString") (by kernel_rfl) (by kernel_rfl) (by decide) u (h.trans (congrArg some (by kernel_rfl)))
/-- The asciiSpace table is that of the blanks. -/
def ascZs : List Int := (List.range 256).map fun c => if blank c then 1 else 0
def ascName : String := "strings.asciiSpace"
theorem asc_data {H : Type} : (Rows.laid_strings_asciiSpace : DataW H) = tabData .u8 ascZs := by kernel_rfl
theorem glob_of {W : World} (hL : laidMetH Go.Proofs.Tryz.prog Rows.encodeSemsUptoRow.laid W) (hS : W.ShapedOpen Go.Proofs.Tryz.prog) : GlobOk Go.Proofs.Tryz.prog (FW W) W := by
  have hL' : laidMet Go.Proofs.Tryz.prog Rows.encodeSemsUptoRow.laid W := hL
  refine ⟨?_, fun c hc => ?_, ?_⟩
  · obtain ⟨a1, t1, hv1, hc1, ht1, _⟩ := laid_sentinel (g := gRng) hL'.tail.tail.tail (by kernel_rfl) (by kernel_rfl) Go.Proofs.Tryz.underlying136 es_row218 Go.Proofs.Tryz.underlying216 Go.Proofs.Tryz.underlying218 rfl rfl Go.Proofs.Tryz.underlying9 (by kernel_rfl) (by kernel_rfl)
    have hc := World.var?_cell (g := gRng) (by kernel_rfl) hv1 0
    have hc' : W.cell? ⟨gRng, 0, none⟩ = some (.iface 216 (.pointer (some a1))) := by simpa using hc
    exact ⟨⟨rfl, by rw [hc']; rfl⟩, _, _, hc'⟩
  · have hT : Lib.TabIs Go.Proofs.Tryz.prog W ascName .u8 ascZs := by
      refine Lib.tabIs_of_head (rest := []) (g := gAsc) (t := 221) (e := 5) (n := 256) (by kernel_rfl) (by kernel_rfl) Go.Proofs.Tryz.underlying221 Go.Proofs.Tryz.underlying5 (by kernel_rfl) (by kernel_rfl) ?_
      rw [← asc_data]
      exact hL'.tail.tail.tail.tail.tail.tail
    have := hT.cell (g := gAsc) (by kernel_rfl) c (by simpa [ascZs] using hc)
    have h2 : W.cell? ⟨gAsc, c, none⟩ = some (.int .u8 (if blank c then 1 else 0)) := by
      rw [this]; simp [ascZs, List.getD, hc]
    exact ⟨⟨rfl, by rw [h2]; rfl⟩, h2⟩
  · obtain ⟨m, hm⟩ := cell_of_shapedOpen_int (g := gMxl) (t := 3) (zero := #[.int .i64 0]) (k := .i64) hS (of_decide_eq_true (by kernel_rfl)) (by kernel_rfl) rfl (by kernel_rfl) (by kernel_rfl) Go.Proofs.Tryz.underlying3
    exact ⟨⟨rfl, by rw [hm]; rfl⟩, m, hm⟩
theorem sameAt_heap {W W' : World} {p : MemPlace} (h : W'.heap[p.block]? = W.heap[p.block]?) : W.sameAt W' p := by
  cases p with
  | cell b off =>
    simp only [MemPlace.block] at h
    simp only [World.sameAt, World.cell?, h]
  | map b =>
    simp only [MemPlace.block] at h
    simp only [World.sameAt, h]
theorem keptBut_heap {W W' : World} {may : MemPlace → Prop} (h0 : W'.os = W.os ∧ W'.output = W.output) (h : ∀ i, i < W.heap.size → W'.heap[i]? = W.heap[i]?) : W.keptBut W' may := by
  refine ⟨h0.1, h0.2, fun i hi => ?_⟩
  rw [h i hi]
  split
  · rename_i h1 h2; rw [h1] at h2; cases h2; exact ⟨rfl, rfl, rfl, fun _ _ => rfl⟩
  · rename_i h1 h2; rw [h1] at h2; cases h2; exact .inr ⟨rfl, rfl⟩
  · rfl
theorem contract (H : Type) (enc : TypeId × Value → H) (F : Stop.Interp) (W : World) (base : Nat) (args : Array Value) (ds gs : List (DataW H)) (before : List MemPlace)
    (hval : ∀ (j : Nat) t v, Go.Proofs.Tryz.f3.params[j]? = some t → args[j]? = some v → Value.okWide Go.Proofs.Tryz.prog W .any base t v)
    (hW : DataW.Whole enc Go.Proofs.Tryz.prog Go.Proofs.Tryz.f3.params.toList (Rows.OpenSpec.upto Rows.encodeSemsSpec).vars false W args.toList ds gs before)
    (hk : ∀ k, (Rows.OpenSpec.upto Rows.encodeSemsSpec).cond = some k → k H (ds ++ gs) = true)
    (hL : laidMetH Go.Proofs.Tryz.prog Rows.encodeSemsUptoRow.laid W) (hS : W.ShapedOpen Go.Proofs.Tryz.prog) :
    Calls Go.Proofs.Tryz.prog 3 args W fun e W' => ∃ v, e = .returned v ∧ ((Rows.OpenSpec.upto Rows.encodeSemsSpec).at F).post enc Go.Proofs.Tryz.prog Go.Proofs.Tryz.f3 false true false false W args v W' := by
  have hW' := hW
  have hlt := hW.lt
  obtain ⟨p, q, hA0, hV, rfl, hfz, hnd⟩ := hW
  have hA : DataW.TrodAll enc Go.Proofs.Tryz.prog W 0 (fun _ => true) true Go.Proofs.Tryz.f3.params.toList args.toList ds p := hA0
  rw [Go.Proofs.Tryz.params3] at hA hval
  obtain ⟨v0, vs0, d0, ds0, p0, q0, hargs, rfl, rfl, h0, r0⟩ := trodAll_cons hA
  obtain ⟨rfl, rfl, rfl⟩ := trodAll_nil r0
  obtain rfl : args = #[v0] := by cases args; simp_all
  obtain ⟨rfl, rfl⟩ := trodVars_none hV
  have hb0 : Rows.uptoSmall H [d0] = true := by simpa using hk _ rfl
  have hb : Rows.uptoBulk d0 ≤ bmax := by
    unfold bmax
    have := of_decide_eq_true hb0
    simp only [Rows.uptoBulkAll] at this
    omega
  obtain ⟨cs, hcs⟩ : ∃ cs, v0 = .agg cs := by
    have h := hval 0 33 v0 rfl rfl
    unfold Value.okWide at h
    rw [Go.Proofs.Tryz.underlying33] at h
    obtain ⟨cs, h, _⟩ := h
    exact ⟨cs, h⟩
  obtain ⟨n, hn⟩ := h0
  obtain ⟨ks, s, hR, hc⟩ := ab_of hcs hn hb
  have hrun := (EncodeSems_given awakeOk ks s hc).2 (FW W) g00 W [v0] (glob_of hL hS) (St.none (fun a ha => by
    obtain ⟨v, hv⟩ := Option.isSome_iff_exists.1 ha.2
    unfold World.cell? at hv
    rcases Nat.lt_or_ge a.block W.heap.size with h | h
    · exact h
    · simp [h] at hv) (fun b off s h => by cases h.1)) (by simp only [RL]; exact ⟨_, _, rfl, hR, rfl⟩)
  refine hrun.mono ?_
  rintro e W' ⟨v, F', g', rfl, hv, _, hx⟩
  have hheap : ∀ i, i < W.heap.size → W'.heap[i]? = W.heap[i]? := fun i hi => hx.frame i hi fun b hb => absurd hb (Nat.not_lt_zero b)
  obtain rfl : v = .bool true := by simpa only [R] using hv
  refine ⟨_, rfl, [d0], [], p0 ++ [] ++ [], [], p0 ++ [], [], hW', ?_, ?_, rfl, keptBut_heap hx.io hheap, fun h => by cases h⟩
  · exact trodAll_cons_mk (shut_bool Go.Proofs.Tryz.underlying4 _) trodAll_mk0
  · rw [Go.Proofs.Tryz.params3]
    refine ⟨p0, [], ?_, rfl, by simp⟩
    exact WideElems.Trod_stays (by kernel_rfl) (by kernel_rfl) (of_decide_eq_true (by kernel_rfl)) ⟨n, hn⟩ (fun x hx => sameAt_heap (hheap _ (hlt x (by simpa using hx)))) (fun x hx => by simpa using hlt x (by simpa using hx))
set_option maxRecDepth 100000 in
theorem liftedUpto (os : Os) (started : os.Started) (H : Type) (enc : TypeId × Value → H) (F : Stop.Interp) :
    ReturnsInHanded {} Go.Proofs.Tryz.checked os 3 .any ((Rows.OpenSpec.upto Rows.encodeSemsSpec).preRow enc Go.Proofs.Tryz.prog Go.Proofs.Tryz.f3 Rows.encodeSemsUptoRow.domain false Rows.encodeSemsUptoRow.laid) (((Rows.OpenSpec.upto Rows.encodeSemsSpec).at F).post enc Go.Proofs.Tryz.prog Go.Proofs.Tryz.f3 false true false false) :=
  returnsInHanded_of_row (C := Go.Proofs.Tryz.checked) (s := Rows.OpenSpec.upto Rows.encodeSemsSpec) own started (by kernel_rfl) Go.Proofs.Tryz.func3
    (witness os enc) (fun W base args ds gs before hval hW _ hk _ hL hS _ => contract H enc F W base args ds gs before hval hW hk hL hS)
theorem saidUpto : Rows.EncodeSemsUptoSaid :=
  OpenClaim.holds_of_cond 3 Go.Proofs.Tryz.f3 rfl rfl rfl rfl rfl rfl rfl ⟨rfl, rfl, rfl, rfl, rfl⟩ rfl rfl rfl rfl rfl (by kernel_rfl) Go.Proofs.Tryz.func3 (by kernel_rfl)
    (of_decide_eq_true (by kernel_rfl)) (by unfold Func.isWrapper; first | (rw [if_pos (by decide +kernel)]; kernel_rfl) | (rw [if_neg (by decide +kernel)]; exact ⟨rfl, rfl⟩))
    (fun os started H enc _ F => by rw [OpenClaim.pre_eq_preRow]; exact liftedUpto os started H enc F)
theorem plain (f : FuncId) (fn : Func) (hf : Tryz.pinned.checked.prog.funcNamed Rows.encodeSemsUptoRow.func = some f) (hfn : Tryz.pinned.checked.prog.funcs[f]? = some fn) :
    true = Tryz.pinned.checked.prog.looks [] ∧ ∀ (j : Nat) t, fn.params[j]? = some t → Tryz.pinned.checked.prog.wantsStandIn t = false := by
  obtain rfl : f = 3 := Option.some.inj ((show Go.Proofs.Tryz.prog.funcNamed Rows.encodeSemsUptoRow.func = some 3 by kernel_rfl).symm.trans hf) |>.symm
  obtain rfl : fn = Go.Proofs.Tryz.f3 := (Option.some.inj (Go.Proofs.Tryz.func3.symm.trans hfn)).symm
  refine ⟨by kernel_rfl, fun j t ht => ?_⟩
  rw [Go.Proofs.Tryz.params3] at ht
  obtain rfl : t = 33 := by simpa using Array.mem_of_getElem? ht
  exact (show Go.Proofs.Tryz.prog.wantsStandIn 33 = false by kernel_rfl)
/-- The card. -/
theorem EncodeSemsUpto_card : Rows.EncodeSemsUptoCardSaid :=
  Claim7.holds_tied_plain_at .later [] _ _ _ _ saidUpto (fun _ h => by cases h) (by kernel_rfl) (fun _ h => by cases h) encodeSemsUpto_row_tie rfl ⟨rfl, rfl⟩ (by kernel_rfl) rfl plain (by kernel_rfl)
end Go.Proofs.YtblbepjnkehoaaaGreatDoor
