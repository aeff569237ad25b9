/- Joined: Bld Bld2. -/
import Derived.Lib.Builder
import Derived.Lib.UnsafeStr
import Derived.Laws.Externs
import Derived.Lib.Walk
import Derived.WalkKit
import Derived.Shelf.Abstract
import Derived.Test.YtblbepjnkehoaaaGreatDoorG01
import Derived.Test.YtblbepjnkehoaaaGreatDoorProg
import Derived.Test.YtblbepjnkehoaaaGreatDoorG20
import Derived.Test.YtblbepjnkehoaaaGreatDoorG05
set_option linter.unusedSimpArgs false
set_option linter.unusedVariables false
set_option maxHeartbeats 4000000
/- strings.Builder: copyCheck and String, walked. -/
namespace Go.Proofs.YtblbepjnkehoaaaGreatDoor
open Go Go.RowKit Go.Shelf Go.Proofs
theorem size92 : (Go.Proofs.Tryz.prog.info? 92).map (·.size) = some 2 := by kernel_rfl
set_option maxHeartbeats 1000000 in
set_option maxRecDepth 100000 in
theorem copyCheck_used (b : Nat) (w : World) (h0 : w.cell? ⟨b, 0, none⟩ = some (.pointer (some ⟨b, 0, none⟩))) :
    Calls Go.Proofs.Tryz.prog 170 #[.pointer (some ⟨b, 0, none⟩)] w fun e w' => e = .returned (.tuple #[]) ∧ w' = w := by
  obtain ⟨j, hj, _⟩ := Option.map_eq_some_iff.1 size92
  go_enter Go.Proofs.Tryz.func170, Go.Proofs.Tryz.ntmps170
  go_wp2
  rw [Lib.run_neq_ptr_same w _ Go.Proofs.Tryz.underlying89 hj]
  go_wp2
  go_end0
  exact ⟨rfl, rfl⟩
set_option maxHeartbeats 1000000 in
set_option maxRecDepth 100000 in
theorem copyCheck_fresh (b : Nat) (e : TypeId) (w : World) (h0 : w.cell? ⟨b, 0, none⟩ = some (.pointer none)) (hsh : w.shape? b = some (e, 2)) (hlie : liesAt Go.Proofs.Tryz.prog Go.Proofs.Tryz.prog.depth e (2 / Go.Proofs.Tryz.prog.cellsOf e) 0 92 1 = true) (hfz : w.frozen? ⟨b, 0, none⟩ = false) :
    Calls Go.Proofs.Tryz.prog 170 #[.pointer (some ⟨b, 0, none⟩)] w fun e w' => e = .returned (.tuple #[]) ∧ w' = w.setCell ⟨b, 0, none⟩ (.pointer (some ⟨b, 0, none⟩)) := by
  obtain ⟨j, hj, hjs⟩ := Option.map_eq_some_iff.1 size92
  go_enter Go.Proofs.Tryz.func170, Go.Proofs.Tryz.ntmps170
  go_wp2
  rw [Lib.run_to_unsafe w ⟨b, 0, none⟩ Go.Proofs.Tryz.underlying89 Go.Proofs.Tryz.underlying177 hj (by rw [hjs]; decide) hsh (Nat.zero_lt_succ 1)]
  simp only [Result.andThen]
  rw [Oper.upon_value]
  go_wp2
  rw [run_callFunc_extern Go.Proofs.Tryz.func193 (by kernel_rfl) (by kernel_rfl) (by kernel_rfl) (e := Extern.AbiNoEscape.same) (by kernel_rfl)]
  rw [Lib.run_noEscape]
  simp only [Result.andThen]
  rw [Oper.upon_value]
  go_wp2
  rw [Lib.run_from_unsafe w ⟨b, 0, none⟩ Go.Proofs.Tryz.underlying177 Go.Proofs.Tryz.underlying89 hj hsh hlie]
  simp only [Result.andThen]
  rw [Oper.upon_value]
  go_wp2
  go_end0
  exact ⟨rfl, rfl⟩
theorem lies92 : liesAt Go.Proofs.Tryz.prog Go.Proofs.Tryz.prog.depth 92 (2 / Go.Proofs.Tryz.prog.cellsOf 92) 0 92 1 = true := by kernel_rfl
theorem lies94 : liesAt Go.Proofs.Tryz.prog Go.Proofs.Tryz.prog.depth 94 (2 / Go.Proofs.Tryz.prog.cellsOf 94) 0 92 1 = true := by kernel_rfl
theorem cellsByte : Go.Proofs.Tryz.prog.cellsOf 5 = 1 := by kernel_rfl
set_option maxHeartbeats 2000000 in
set_option maxRecDepth 100000 in
theorem Builder_String_walk (b g len cap el : Nat) (n : Nat) (l : List UInt8) (w : World) (h0 : l ≠ []) (hlen : l.length ≤ 1073741824) (hc : w.cell? ⟨b, 1, none⟩ = some (.slice (some ⟨g, 0, none⟩) l.length cap)) (hcap : l.length ≤ cap) (hsh : w.shape? g = some (5, n)) (hn : l.length ≤ n)
    (hb : ∀ j x, l[j]? = some x → w.cell? ⟨g, j, none⟩ = some (.int .u8 x.toNat)) :
    Calls Go.Proofs.Tryz.prog 69 #[.pointer (some ⟨b, 0, none⟩)] w fun e w' => e = .returned (.string ⟨l.toArray⟩) ∧ w' = w.drew.freeze ⟨g, 0, none⟩ l.length := by
  have c1 : w.drew.cell? ⟨b, 1, none⟩ = some (.slice (some ⟨g, 0, none⟩) l.length cap) := hc
  have hl0 : 0 < l.length := List.length_pos_iff.2 h0
  have hSD : (Builtin.unsafeSliceData_ #[90] 119 #[.slice (some ⟨g, 0, none⟩) l.length cap]).run Go.Proofs.Tryz.prog w.drew = .ok (.pointer (some ⟨g, 0, none⟩)) w.drew :=
    Lib.run_unsafeSliceData_row _ _ _ _ _ _ (by omega)
  have hUS : (Builtin.unsafeString_ #[119, 3] 9 #[.pointer (some ⟨g, 0, none⟩), .int .i64 l.length]).run Go.Proofs.Tryz.prog w.drew = .ok (.string ⟨l.toArray⟩) (w.drew.freeze ⟨g, 0, none⟩ l.length) := by
    refine Lib.run_unsafeString_row w.drew 119 3 9 5 Go.Proofs.Tryz.underlying119 cellsByte g n hsh l h0 (by omega) (by omega) ?_
    intro j x hx
    rw [add_plain, Nat.zero_add]
    exact hb j x hx
  go_enter Go.Proofs.Tryz.func69, Go.Proofs.Tryz.ntmps69
  go_wp2
  go_region
  all_goals (go_wp2; go_ret; exact ⟨rfl, rfl⟩)
end Go.Proofs.YtblbepjnkehoaaaGreatDoor
/- strings.Builder: copyCheck and String at the level of data. -/
namespace Go.Proofs.YtblbepjnkehoaaaGreatDoor
open Go Go.RowKit
theorem RL_two' {F : Addr → Prop} {g : Gh} {w : World} {x y : AV} {vs : List Value} (h : RL F g w [x, y] vs) : ∃ v u, vs = [v, u] ∧ R F g w x v ∧ R F g w y u := by
  simp only [RL] at h
  obtain ⟨v, r, rfl, hv, u, r', rfl, hu, rfl⟩ := h
  exact ⟨v, u, rfl, hv, hu⟩
theorem RL_one' {F : Addr → Prop} {g : Gh} {w : World} {x : AV} {vs : List Value} (h : RL F g w [x] vs) : ∃ v, vs = [v] ∧ R F g w x v := by
  simp only [RL] at h
  obtain ⟨v, r, rfl, hv, rfl⟩ := h
  exact ⟨v, rfl, hv⟩
theorem R_unit {F : Addr → Prop} {g : Gh} {w : World} : R F g w (.tup []) (.tuple #[]) := by
  simp only [R]; exact ⟨#[], rfl, by simp [RL]⟩
theorem copyCheck_en : enterable Go.Proofs.Tryz.prog i_strings_Builder_copyCheck = true := by kernel_rfl
theorem copyCheck_fresh_call {H : List HB} {b : Nat} {e : TypeId} {buf : AV} (hb : H[b]? = some (.tvar e [.nilp, buf])) (he : e = 92 ∨ e = 94) : HCall Go.Proofs.Tryz.prog i_strings_Builder_copyCheck [.ptr b 0] H (.tup []) (H.set b (.tvar e [.ptr b 0, buf])) := by
  refine ⟨copyCheck_en, fun F g w vs _ hs hr => ?_⟩
  obtain ⟨v, rfl, hv⟩ := RL_one' hr
  obtain ⟨B, q1, q2, rfl⟩ := R_ptr hv
  obtain ⟨B', us, p1, p2, p3, p4, p5⟩ := hs.tvar b e _ hb
  rw [q1] at p1; cases p1
  obtain ⟨nv, bv, hus, hnv, hbv⟩ := RL_two' p4
  obtain rfl : us = #[nv, bv] := by apply Array.ext'; simpa using hus
  obtain rfl : nv = .pointer none := by simpa only [R] using hnv
  have hlie : liesAt Go.Proofs.Tryz.prog Go.Proofs.Tryz.prog.depth e (2 / Go.Proofs.Tryz.prog.cellsOf e) 0 92 1 = true := by
    rcases he with rfl | rfl
    · exact lies92
    · exact lies94
  refine (copyCheck_fresh B e w (by simp [World.cell?, p3]) (by simp [World.shape?, p3]) hlie (by simp [World.frozen?, p3])).mono ?_
  rintro _ w' ⟨rfl, rfl⟩
  have h1 : (w.setCell ⟨B, 0, none⟩ (.pointer (some ⟨B, 0, none⟩))).heap[B]? = some (.cells #[.pointer (some ⟨B, 0, none⟩), bv] e (0, 0)) := by
    rw [heap_setCell_same w B 0 _ e _ p3]; rfl
  obtain ⟨m1, m2⟩ := put_x (cs := [.nilp, buf]) (cs' := [.ptr b 0, buf]) (e := e) hs (.inr ⟨rfl, rfl⟩) hb q1 (w' := w.setCell ⟨B, 0, none⟩ (.pointer (some ⟨B, 0, none⟩))) (vs' := #[.pointer (some ⟨B, 0, none⟩), bv]) (by simp only [RL]; exact ⟨_, _, rfl, hv, _, _, rfl, hbv, rfl⟩) (by simp [World.setCell]) h1 (fun x hx => heap_setCell_other w _ x _ hx) ⟨rfl, rfl⟩
  exact ⟨_, F, g, rfl, R_unit, m1, m2⟩
theorem copyCheck_used_call {H : List HB} {b : Nat} {e : TypeId} {buf : AV} (hb : H[b]? = some (.tvar e [.ptr b 0, buf])) : HCall Go.Proofs.Tryz.prog i_strings_Builder_copyCheck [.ptr b 0] H (.tup []) H := by
  refine ⟨copyCheck_en, fun F g w vs _ hs hr => ?_⟩
  obtain ⟨v, rfl, hv⟩ := RL_one' hr
  obtain ⟨B, q1, q2, rfl⟩ := R_ptr hv
  obtain ⟨B', us, p1, p2, p3, p4, p5⟩ := hs.tvar b e _ hb
  rw [q1] at p1; cases p1
  obtain ⟨nv, bv, hus, hnv, hbv⟩ := RL_two' p4
  obtain rfl : us = #[nv, bv] := by apply Array.ext'; simpa using hus
  obtain ⟨B2, q3, _, rfl⟩ := R_ptr hnv
  rw [q1] at q3; cases q3
  refine (copyCheck_used B w (by simp [World.cell?, p3])).mono ?_
  rintro _ w' ⟨rfl, rfl⟩
  exact ⟨_, F, g, rfl, R_unit, hs, Ext.refl _ _ _ _⟩

/-! ### String -/
theorem freeze_heap {w : World} {B : Nat} {vs : Array Value} {e : TypeId} {fr : Nat × Nat} (h : w.heap[B]? = some (.cells vs e fr)) (n : Nat) (hn : fr.2 ≤ n) :
    (w.freeze ⟨B, 0, none⟩ n).heap.size = w.heap.size ∧ (∃ fr', (w.freeze ⟨B, 0, none⟩ n).heap[B]? = some (.cells vs e fr') ∧ fr'.2 ≤ n) ∧ (∀ x, x ≠ B → (w.freeze ⟨B, 0, none⟩ n).heap[x]? = w.heap[x]?) ∧ (w.freeze ⟨B, 0, none⟩ n).os = w.os ∧ (w.freeze ⟨B, 0, none⟩ n).output = w.output := by
  unfold World.freeze
  split
  · exact ⟨rfl, ⟨fr, h, hn⟩, fun _ _ => rfl, rfl, rfl⟩
  · refine ⟨by simp, ?_, fun x hx => by simp [Array.getElem?_modify, Ne.symm hx], rfl, rfl⟩
    obtain ⟨lo, hi⟩ := fr
    simp only [Array.getElem?_modify, h, if_true, Option.map_some]
    refine ⟨_, rfl, ?_⟩
    simp only at hn
    split <;> simp <;> omega
theorem cells_same {w w' : World} {B : Nat} {vs : Array Value} {e : TypeId} {fr fr' : Nat × Nat} (h : w.heap[B]? = some (.cells vs e fr)) (h' : w'.heap[B]? = some (.cells vs e fr')) (ho : ∀ x, x ≠ B → w'.heap[x]? = w.heap[x]?) (a : Addr) : w'.cell? a = w.cell? a := by
  by_cases e : a.block = B
  · unfold World.cell?; rw [e, h, h']
  · exact cell_of_heap (ho _ e)
/-- An array's bytes are read as a text: its first part is not to be written again. -/
theorem St.refreeze {F : Addr → Prop} {g : Gh} {H : List HB} {w w' : World} (hs : St F g H w) {t B n k : Nat} {ty : TypeId} (ht : H[t]? = some (.tok n k ty)) (hB : g.blk t = some B) {vs : Array Value} {e : TypeId} {fr fr' : Nat × Nat} (h : w.heap[B]? = some (.cells vs e fr)) (hz : w'.heap.size = w.heap.size)
    (h' : w'.heap[B]? = some (.cells vs e fr')) (hf : fr'.2 ≤ n * k) (ho : ∀ x, x ≠ B → w'.heap[x]? = w.heap[x]?) (hio : w'.os = w.os ∧ w'.output = w.output) : St F g H w' ∧ Ext F g H w F g H w' := by
  have hc := cells_same h h' ho
  have hK : Keeps F g w F g w' := ⟨fun _ h => h, fun a _ => hc a, Gh.le_refl g⟩
  have hne : ∀ x X, x ≠ t → g.blk x = some X → X ≠ B := fun x X hx hX e => hx (hs.inj x t B (by rw [hX, e]) hB)
  have htl : t < H.length := (List.getElem?_eq_some_iff.1 ht).1
  refine ⟨⟨fun a ha => by rw [hz]; exact hs.live a ha, hs.beyond, hs.inj, fun b cs hb => ?_, fun x nx kx tx hx => ?_, hs.spots, fun b e' cs hb => ?_⟩, ⟨fun _ h => h, hK.keep, hK.gh, by omega, fun x hx hn => ho x (fun e => hn t htl (by rw [hB, e])), fun _ h => .inl h, fun b X hb h => .inl ⟨hb, h⟩, Nat.le_refl _, hio⟩⟩
  · obtain ⟨X, us, e', q1, q2, q3, q4, q5⟩ := hs.var b cs hb
    have : X ≠ B := hne b X (fun e => by subst e; rw [ht] at hb; cases hb) q1
    exact ⟨X, us, e', q1, q2, (ho X this).trans q3, RL.mono hK _ _ q4, q5⟩
  · obtain ⟨X, cx, us, e', fx, q1, q2, q3, q4, q5⟩ := hs.tok x nx kx tx hx
    by_cases hxt : x = t
    · subst hxt
      rw [ht] at hx; cases hx
      rw [hB] at q1; cases q1
      rw [h] at q3; cases q3
      exact ⟨B, cx, vs, e, fr', hB, q2, h', ⟨hf, q4.2⟩, q5⟩
    · exact ⟨X, cx, us, e', fx, q1, q2, (ho X (hne x X hxt q1)).trans q3, q4, q5⟩
  · obtain ⟨X, us, q1, q2, q3, q4, q5⟩ := hs.tvar b e' cs hb
    have : X ≠ B := hne b X (fun e => by subst e; rw [ht] at hb; cases hb) q1
    exact ⟨X, us, q1, q2, (ho X this).trans q3, RL.mono hK _ _ q4, q5⟩
def byteRows (l : List UInt8) : List (List AV) := l.map fun c => [.int .u8 c.toNat]
theorem Builder_String_call {H : List HB} {b t : Nat} {e : TypeId} {p : AV} {l : List UInt8} (hl : l ≠ []) (hb : H[b]? = some (.tvar e [p, .sl (.own t) (byteRows l)])) (ht : H[t]? = some (.tok l.length 1 5)) : HCall Go.Proofs.Tryz.prog i_strings_Builder_String [.ptr b 0] H (.str l) H := by
  refine ⟨by kernel_rfl, fun F g w vs _ hs hr => ?_⟩
  obtain ⟨v, rfl, hv⟩ := RL_one' hr
  obtain ⟨B, q1, q2, rfl⟩ := R_ptr hv
  obtain ⟨B', us, p1, p2, p3, p4, p5⟩ := hs.tvar b e _ hb
  rw [q1] at p1; cases p1
  obtain ⟨nv, bv, hus, hnv, hbv⟩ := RL_two' p4
  obtain rfl : us = #[nv, bv] := by apply Array.ext'; simpa using hus
  obtain ⟨hmax, h | ⟨D, off, sp, cap, k, rfl, c1, c2, c3, c4⟩⟩ := R_sl hbv
  · exact absurd h.1 (by simpa [byteRows] using hl)
  simp only [byteRows, List.length_map] at hmax c1
  obtain ⟨m, c, r1, r2, r3⟩ := c4
  obtain ⟨X, cx, ws, el, fr, s1, s2, s3, ⟨s4, s5, s6⟩, s7, s8⟩ := hs.tok t _ _ _ ht
  rw [s2] at r1; cases r1
  obtain ⟨d1, d2, d3, d4⟩ := r3 (by simp [byteRows])
  rw [s1] at d1; cases d1
  simp only at d2 d4; subst d2 d3 d4
  obtain rfl : el = 5 := s6 (by decide)
  have hcell : ∀ j x, l[j]? = some x → w.cell? ⟨D, j, none⟩ = some (.int .u8 x.toNat) := by
    intro j x hj
    obtain ⟨e1, e2⟩ := RE_get c3 j [.int .u8 x.toNat] (by simp [byteRows, hj])
    have hk1 : k = 1 := by simpa using e1.symm
    subst hk1
    simp only [RM, Nat.mul_one, Nat.zero_add] at e2
    obtain ⟨⟨_, v, _, f2, f3⟩, _⟩ := e2
    rw [f2, (R_int f3).1]
  simp only [byteRows, List.length_map] at p3
  refine (Builder_String_walk B D l.length cap 5 ws.size l w hl (by simpa [maxL] using hmax) (by simp [World.cell?, p3]) c1 (by simp [World.shape?, s3]) (by omega) hcell).mono ?_
  rintro _ w' ⟨rfl, rfl⟩
  obtain ⟨z1, ⟨fr', z2, z3⟩, z4, z5⟩ := freeze_heap (w := w.drew) (B := D) s3 l.length (by simpa using s4)
  obtain ⟨m1, m2⟩ := hs.refreeze ht s1 s3 (w' := w.drew.freeze ⟨D, 0, none⟩ l.length) z1 z2 (by simpa using z3) z4 z5
  exact ⟨_, F, g, rfl, by simp only [R]; exact ⟨trivial, hmax⟩, m1, m2⟩
end Go.Proofs.YtblbepjnkehoaaaGreatDoor
