/- Joined: Cut Suf. -/
import Derived.Test.YtblbepjnkehoaaaGreatDoorG03
set_option linter.unusedSimpArgs false
set_option linter.unusedVariables false
/- Ways through a piece of code meet again behind it. -/
namespace Go.Proofs.YtblbepjnkehoaaaGreatDoor
open Go
/-- The ways through a meet: what the slots that it writes are like; the heap goes on. -/
theorem WP_cutG {P : Program} {a b : AC} {k : List Fr} {Q : Post} {t : List AV} {H : List HB} (I : (Nat → AV) → List HB → Prop)
    (h1 : ∀ Q' : Post, (∀ t' G, updT t a.dsts (slots t') = t' → I (slots t') G → Q' .normal t' (H ++ G)) → (∀ t' H', KR P k Q t' H' → Q' .ret t' H') → WP P a [] Q' t H)
    (h2 : ∀ f G, I f G → WP P b k Q (updT t a.dsts f) (H ++ G)) : WP P (.seq a b) k Q t H := by
  rw [WP_seq]
  have h := h1 (kq P (.code b :: k) Q) (fun t' G e hI => by
    have := h2 _ G hI
    rw [e] at this
    exact this) (fun t' H' h => h)
  have e : kq P [] (kq P (.code b :: k) Q) = kq P (.code b :: k) Q := by funext x t H; rfl
  unfold WP at h ⊢
  rw [e] at h
  exact h
/-- The same where the heap stays. -/
theorem WP_cut {P : Program} {a b : AC} {k : List Fr} {Q : Post} {t : List AV} {H : List HB} (I : (Nat → AV) → Prop)
    (h1 : ∀ Q' : Post, (∀ t', updT t a.dsts (slots t') = t' → I (slots t') → Q' .normal t' H) → (∀ t' H', KR P k Q t' H' → Q' .ret t' H') → WP P a [] Q' t H)
    (h2 : ∀ f, I f → WP P b k Q (updT t a.dsts f) H) : WP P (.seq a b) k Q t H :=
  WP_cutG (fun f G => I f ∧ G = []) (fun Q' hn hr => h1 Q' (fun t' e hI => by simpa using hn t' [] e ⟨hI, rfl⟩) hr) (fun f G hI => by rw [hI.2, List.append_nil]; exact h2 f hI.1)
end Go.Proofs.YtblbepjnkehoaaaGreatDoor
/- Contracts over a heap serve over every longer one. -/
namespace Go.Proofs.YtblbepjnkehoaaaGreatDoor
open Go
theorem St.ltB {F : Addr → Prop} {g : Gh} {H : List HB} {w : World} (hs : St F g H w) {b B : Nat} (h : g.blk b = some B) : b < H.length ∧ B < w.heap.size := by
  have hb : b < H.length := by
    rcases Nat.lt_or_ge b H.length with hb | hb
    · exact hb
    · rw [(hs.beyond b hb).1] at h; cases h
  refine ⟨hb, ?_⟩
  have hg := List.getElem?_eq_getElem hb
  cases hx : H[b] with
  | var cs =>
    obtain ⟨B', vs, e, q1, q2, q3, _⟩ := hs.var b cs (by rw [hg, hx])
    rw [q1] at h; cases h
    exact heap_lt q3
  | tvar e cs =>
    obtain ⟨B', vs, q1, q2, q3, _⟩ := hs.tvar b e cs (by rw [hg, hx])
    rw [q1] at h; cases h
    exact heap_lt q3
  | tok n k ty =>
    obtain ⟨B', cap, vs, e, fr, q1, q2, q3, _⟩ := hs.tok b n k _ (by rw [hg, hx])
    rw [q1] at h; cases h
    exact heap_lt q3
theorem HCall.suffix {P : Program} {f : FuncId} {args : List AV} {H H' : List HB} {res : AV} (h : HCall P f args H res H') (hl : H'.length = H.length) (ha : scopedL H.length args = true) (hsc : scopedH H.length H = true) (L : List HB) : HCall P f args (H ++ L) res (H' ++ L) := by
  refine ⟨h.1, fun F g w vs hG hs hr => ?_⟩
  let g0 : Gh := ⟨fun b => if b < H.length then g.blk b else none, fun b => if b < H.length then g.tk b else none⟩
  have e1 : ∀ b, b < H.length → g0.blk b = g.blk b ∧ g0.tk b = g.tk b := fun b hb => ⟨if_pos hb, if_pos hb⟩
  have e2 : ∀ b, ¬ b < H.length → g0.blk b = none ∧ g0.tk b = none := fun b hb => ⟨if_neg hb, if_neg hb⟩
  have e3 : ∀ b B, g0.blk b = some B → b < H.length ∧ g.blk b = some B := fun b B hb => by
    by_cases hlt : b < H.length
    · exact ⟨hlt, by rw [← (e1 b hlt).1]; exact hb⟩
    · rw [(e2 b hlt).1] at hb; cases hb
  have hs0 : St F g0 H w := by
    refine ⟨hs.live, fun b hb => e2 b (by omega), fun b b' B h1 h2 => hs.inj b b' B (e3 b B h1).2 (e3 b' B h2).2, fun b cs hb => ?_, fun t n k ty ht => ?_, hs.spots, fun b e cs hb => ?_⟩
    · have hlt := (List.getElem?_eq_some_iff.1 hb).1
      obtain ⟨B, us, e, q1, q2, q3, q4, q5⟩ := hs.var b cs (by rw [List.getElem?_append_left hlt]; exact hb)
      exact ⟨B, us, e, (e1 b hlt).1.trans q1, (e1 b hlt).2.trans q2, q3, RL_scoped e1 _ _ (scopedH_get hsc b cs hb) q4, q5⟩
    · have hlt := (List.getElem?_eq_some_iff.1 ht).1
      obtain ⟨B, cap, us, e, fr, q1, q2, q3⟩ := hs.tok t n k _ (by rw [List.getElem?_append_left hlt]; exact ht)
      exact ⟨B, cap, us, e, fr, (e1 t hlt).1.trans q1, (e1 t hlt).2.trans q2, q3⟩
    · have hlt := (List.getElem?_eq_some_iff.1 hb).1
      obtain ⟨B, us, q1, q2, q3, q4, q5⟩ := hs.tvar b e cs (by rw [List.getElem?_append_left hlt]; exact hb)
      exact ⟨B, us, (e1 b hlt).1.trans q1, (e1 b hlt).2.trans q2, q3, RL_scoped e1 _ _ (scopedH_getT hsc b e cs hb) q4, q5⟩
  refine (h.2 F g0 w vs hG hs0 (RL_scoped e1 _ _ ha hr)).mono ?_
  rintro e w' ⟨v, F', g', rfl, hv, hs', hx⟩
  let g2 : Gh := ⟨fun b => if b < H.length then g'.blk b else g.blk b, fun b => if b < H.length then g'.tk b else g.tk b⟩
  have d1 : ∀ b, b < H.length → g2.blk b = g'.blk b ∧ g2.tk b = g'.tk b := fun b hb => ⟨if_pos hb, if_pos hb⟩
  have d2 : ∀ b, ¬ b < H.length → g2.blk b = g.blk b ∧ g2.tk b = g.tk b := fun b hb => ⟨if_neg hb, if_neg hb⟩
  have hlt' : ∀ b B, g'.blk b = some B → b < H.length := fun b B hb => by have := (hs'.ltB hb).1; omega
  -- from the call's own map to the one behind it
  have le1 : g'.le g2 := by
    refine ⟨fun b B h1 h2 => ?_, fun t m c h1 => ?_⟩
    · have hb := d1 b (hlt' b B h1)
      exact ⟨hb.1.trans h1, hb.2.trans h2⟩
    · have ht : t < H.length := by
        rcases Nat.lt_or_ge t H.length with ht | ht
        · exact ht
        · rw [(hs'.beyond t (by omega)).2] at h1; cases h1
      have hb := d1 t ht
      exact ⟨m, c, hb.2.trans h1, Nat.le_refl _, fun _ => ⟨rfl, hb.1⟩⟩
  have le2 : g.le g2 := by
    refine ⟨fun b B h1 h2 => ?_, fun t m c h1 => ?_⟩
    · by_cases hb : b < H.length
      · obtain ⟨p, q⟩ := hx.gh.blk b B ((e1 b hb).1.trans h1) ((e1 b hb).2.trans h2)
        exact ⟨(d1 b hb).1.trans p, (d1 b hb).2.trans q⟩
      · exact ⟨(d2 b hb).1.trans h1, (d2 b hb).2.trans h2⟩
    · by_cases ht : t < H.length
      · obtain ⟨m', c', p, q, r⟩ := hx.gh.tk t m c ((e1 t ht).2.trans h1)
        refine ⟨m', c', (d1 t ht).2.trans p, q, fun e => ?_⟩
        obtain ⟨r1, r2⟩ := r e
        exact ⟨r1, (d1 t ht).1.trans (r2.trans (e1 t ht).1)⟩
      · exact ⟨m, c, (d2 t ht).2.trans h1, Nat.le_refl _, fun _ => ⟨rfl, (d2 t ht).1⟩⟩
  have K1 : Keeps F' g' w' F' g2 w' := ⟨fun _ h => h, fun _ _ => rfl, le1⟩
  have K2 : Keeps F g w F' g2 w' := ⟨hx.sub, hx.keep, le2⟩
  -- the blocks of L
  have hfr : ∀ b B, ¬ b < H.length → g.blk b = some B → w'.heap[B]? = w.heap[B]? := fun b B hb h1 => by
    refine hx.frame B (hs.ltB h1).2 fun b' hb' h2 => ?_
    have := hs.inj b b' B h1 (e3 b' B h2).2
    omega
  have hnew : ∀ b B off, ¬ b < H.length → g.blk b = some B → ¬ F ⟨B, off, none⟩ → ¬ F' ⟨B, off, none⟩ := fun b B off hb h1 h2 h3 => by
    rcases hx.new _ h3 with h | h | ⟨t, ht, _, h⟩
    · exact h2 h
    · have := (hs.ltB h1).2; simp only at h; omega
    · have := hs.inj b t B h1 (e3 t B h).2
      omega
  refine ⟨v, F', g2, rfl, R.mono K1 res v hv, ⟨hs'.live, fun b hb => ?_, fun b b' B h1 h2 => ?_, fun b cs hb => ?_, fun t n k ty ht => ?_, hs'.spots, fun b e cs hb => ?_⟩, ⟨hx.sub, hx.keep, le2, hx.size, fun B hB hn => ?_, fun a ha => ?_, fun b B hb h1 => ?_, by simp; omega, hx.io⟩⟩
  · simp only [List.length_append, hl] at hb
    have hb' : ¬ b < H.length := by omega
    have := hs.beyond b (by simpa using hb)
    exact ⟨(d2 b hb').1.trans this.1, (d2 b hb').2.trans this.2⟩
  · have cross : ∀ b b', b < H.length → ¬ b' < H.length → g'.blk b = some B → g.blk b' = some B → False := fun b b' hb hb' q1 q2 => by
      rcases hx.blks b B (by omega) q1 with ⟨_, q3⟩ | q3
      · have := hs.inj b b' B (e3 b B q3).2 q2; omega
      · have := (hs.ltB q2).2; omega
    by_cases hb : b < H.length <;> by_cases hb' : b' < H.length
    · rw [(d1 b hb).1] at h1; rw [(d1 b' hb').1] at h2; exact hs'.inj b b' B h1 h2
    · rw [(d1 b hb).1] at h1; rw [(d2 b' hb').1] at h2; exact (cross b b' hb hb' h1 h2).elim
    · rw [(d2 b hb).1] at h1; rw [(d1 b' hb').1] at h2; exact (cross b' b hb' hb h2 h1).elim
    · rw [(d2 b hb).1] at h1; rw [(d2 b' hb').1] at h2; exact hs.inj b b' B h1 h2
  · by_cases hlt : b < H.length
    · rw [List.getElem?_append_left (by omega)] at hb
      obtain ⟨B, us, e, q1, q2, q3, q4, q5⟩ := hs'.var b cs hb
      exact ⟨B, us, e, (d1 b hlt).1.trans q1, (d1 b hlt).2.trans q2, q3, RL.mono K1 _ _ q4, q5⟩
    · rw [List.getElem?_append_right (by omega), hl] at hb
      obtain ⟨B, us, e, q1, q2, q3, q4, q5⟩ := hs.var b cs (by rw [List.getElem?_append_right (by omega)]; exact hb)
      exact ⟨B, us, e, (d2 b hlt).1.trans q1, (d2 b hlt).2.trans q2, (hfr b B hlt q1).trans q3, RL.mono K2 _ _ q4, fun off => hnew b B off hlt q1 (q5 off)⟩
  · by_cases hlt : t < H.length
    · rw [List.getElem?_append_left (by omega)] at ht
      obtain ⟨B, cap, us, e, fr, q1, q2, q3⟩ := hs'.tok t n k _ ht
      exact ⟨B, cap, us, e, fr, (d1 t hlt).1.trans q1, (d1 t hlt).2.trans q2, q3⟩
    · rw [List.getElem?_append_right (by omega), hl] at ht
      obtain ⟨B, cap, us, e, fr, q1, q2, q3, q4, q5, q6⟩ := hs.tok t n k _ (by rw [List.getElem?_append_right (by omega)]; exact ht)
      exact ⟨B, cap, us, e, fr, (d2 t hlt).1.trans q1, (d2 t hlt).2.trans q2, (hfr t B hlt q1).trans q3, q4, q5, fun off ho => hnew t B off hlt q1 (q6 off ho)⟩
  · by_cases hlt : b < H.length
    · rw [List.getElem?_append_left (by omega)] at hb
      obtain ⟨B, us, q1, q2, q3, q4, q5⟩ := hs'.tvar b e cs hb
      exact ⟨B, us, (d1 b hlt).1.trans q1, (d1 b hlt).2.trans q2, q3, RL.mono K1 _ _ q4, q5⟩
    · rw [List.getElem?_append_right (by omega), hl] at hb
      obtain ⟨B, us, q1, q2, q3, q4, q5⟩ := hs.tvar b e cs (by rw [List.getElem?_append_right (by omega)]; exact hb)
      exact ⟨B, us, (d2 b hlt).1.trans q1, (d2 b hlt).2.trans q2, (hfr b B hlt q1).trans q3, RL.mono K2 _ _ q4, fun off => hnew b B off hlt q1 (q5 off)⟩
  · exact hx.frame B hB fun b hb h2 => hn b (by simp; omega) (e3 b B h2).2
  · rcases hx.new a ha with h | h | ⟨t, ht, q1, q2⟩
    · exact .inl h
    · exact .inr (.inl h)
    · exact .inr (.inr ⟨t, by simp; omega, by rw [← (e1 t ht).2]; exact q1, (e3 t _ q2).2⟩)
  · by_cases hlt : b < H.length
    · rw [(d1 b hlt).1] at h1
      rcases hx.blks b B (by omega) h1 with ⟨_, q⟩ | q
      · exact .inl ⟨by simp; omega, (e3 b B q).2⟩
      · exact .inr q
    · rw [(d2 b hlt).1] at h1
      exact .inl ⟨(hs.ltB h1).1, h1⟩
/-! Heaps whose first part is not known. -/
@[simp] theorem get_app (A B : List HB) : (A ++ B)[A.length]? = B[0]? := by rw [List.getElem?_append_right (Nat.le_refl _)]; congr 1; omega
@[simp] theorem get_app_add (A B : List HB) (j : Nat) : (A ++ B)[A.length + j]? = B[j]? := by
  rw [List.getElem?_append_right (by omega)]; congr 1; omega
@[simp] theorem set_app (A B : List HB) (x : HB) : (A ++ B).set A.length x = A ++ B.set 0 x := by
  rw [List.set_append_right _ _ (by omega)]; congr 2; omega
@[simp] theorem set_app_add (A B : List HB) (j : Nat) (x : HB) : (A ++ B).set (A.length + j) x = A ++ B.set j x := by
  rw [List.set_append_right _ _ (by omega)]; congr 2; omega
theorem scopedH_app (n : Nat) : ∀ (A B : List HB), scopedH n (A ++ B) = (scopedH n A && scopedH n B)
  | [], B => by simp [scopedH]
  | .var cs :: A, B => by simp [scopedH, scopedH_app n A B, Bool.and_assoc]
  | .tvar _ cs :: A, B => by simp [scopedH, scopedH_app n A B, Bool.and_assoc]
  | .tok _ _ _ :: A, B => by simp [scopedH, scopedH_app n A B]
end Go.Proofs.YtblbepjnkehoaaaGreatDoor
