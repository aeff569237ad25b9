/- Joined: Snd8 Snd9 Snd10 Snd11 Snd12 Step Code Draw Draw2 Wp. -/
import Derived.Test.YtblbepjnkehoaaaGreatDoorG01
import Derived.Laws.Append
import Derived.Test.YtblbepjnkehoaaaGreatDoorG00
import Derived.LoopN
set_option linter.unusedSimpArgs false
set_option linter.unusedVariables false
/- The abstract operations are sound, eighth part: slice literals and append. -/
namespace Go.Proofs.YtblbepjnkehoaaaGreatDoor
open Go

section
variable {F : Addr → Prop} {g : Gh} {w : World} {P : Program}

theorem RM_cells : ∀ {xs : List AV} {B off : Nat}, RM F g w B off xs → xs.all AV.isCell = true
  | [], _, _, _ => rfl
  | x :: xs, B, off, h => by
    simp only [RM] at h
    simp only [List.all_cons, Bool.and_eq_true]
    exact ⟨h.1.1, RM_cells h.2⟩
theorem RE_flat : ∀ {els : List (List AV)} {B off k : Nat}, RE F g w B off k els → ∃ vs : List Value, vs.length = els.length * k ∧ RL F g w els.flatten vs ∧ els.flatten.all AV.isCell = true ∧ (∀ r ∈ els, r.length = k) ∧
    ∀ (j : Nat) (v : Value), vs[j]? = some v → w.cell? ⟨B, off + j, none⟩ = some v ∧ F ⟨B, off + j, none⟩
  | [], B, off, k, _ => ⟨[], by simp, by simp [RL], rfl, by simp, by simp⟩
  | x :: xs, B, off, k, h => by
    simp only [RE] at h
    obtain ⟨h1, h2, h3⟩ := h
    obtain ⟨us, a1, a2, a3⟩ := RM_list h2
    obtain ⟨vs, b1, b2, b3, b5, b4⟩ := RE_flat h3
    refine ⟨us ++ vs, by simp [a1, b1, h1, Nat.add_mul]; omega, by simpa using RL_append a2 b2, by simp only [List.flatten_cons, List.all_append, Bool.and_eq_true]; exact ⟨RM_cells h2, b3⟩, by simpa using ⟨h1, b5⟩, fun j v hj => ?_⟩
    rcases Nat.lt_or_ge j us.length with hlt | hge
    · rw [List.getElem?_append_left hlt] at hj; exact a3 j v hj
    · rw [List.getElem?_append_right hge] at hj
      have := b4 _ v hj
      rwa [show off + k + (j - us.length) = off + j by omega] at this
theorem RM_of : ∀ {xs : List AV} {B off : Nat} {vs : List Value}, RL F g w xs vs → xs.all AV.isCell = true → (∀ (j : Nat) (v : Value), vs[j]? = some v → w.cell? ⟨B, off + j, none⟩ = some v ∧ F ⟨B, off + j, none⟩) → RM F g w B off xs
  | [], _, _, _, _, _, _ => by simp [RM]
  | x :: xs, B, off, vs, h, hc, hv => by
    simp only [RL] at h
    obtain ⟨v, r, rfl, h1, h2⟩ := h
    simp only [List.all_cons, Bool.and_eq_true] at hc
    simp only [RM]
    have h0 := hv 0 v rfl
    refine ⟨⟨hc.1, v, h0.2, h0.1, h1⟩, RM_of h2 hc.2 fun j u hj => ?_⟩
    have := hv (j + 1) u (by simpa using hj)
    rwa [show off + (j + 1) = off + 1 + j by omega] at this
theorem RE_of : ∀ {els : List (List AV)} {B off k : Nat} {vs : List Value}, (∀ r ∈ els, r.length = k) → RL F g w els.flatten vs → els.flatten.all AV.isCell = true → (∀ (j : Nat) (v : Value), vs[j]? = some v → w.cell? ⟨B, off + j, none⟩ = some v ∧ F ⟨B, off + j, none⟩) → RE F g w B off k els
  | [], _, _, _, _, _, _, _, _ => by simp [RE]
  | x :: xs, B, off, k, vs, hk, h, hc, hv => by
    simp only [List.flatten_cons, List.all_append, Bool.and_eq_true] at hc h
    have hx := hk x (by simp)
    have hlen := RL_len h
    have h1 := RL_take h x.length
    have h2 := RL_drop h x.length
    rw [List.take_left] at h1
    rw [List.drop_left] at h2
    simp only [RE]
    refine ⟨hx, RM_of h1 hc.1 fun j v hj => ?_, RE_of (fun r hr => hk r (by simp [hr])) h2 hc.2 fun j v hj => ?_⟩
    · rw [List.getElem?_take] at hj
      split at hj
      · exact hv j v hj
      · cases hj
    · rw [List.getElem?_drop] at hj
      have := hv _ v hj
      rw [show off + (x.length + j) = off + k + j by omega] at this
      exact this

theorem flatten_len {els : List (List AV)} {k : Nat} (h : ∀ r ∈ els, r.length = k) : els.flatten.length = els.length * k := by
  induction els with
  | nil => simp
  | cons x xs ih =>
    have := ih fun r hr => h r (by simp [hr])
    simp only [List.flatten_cons, List.length_append, this, h x (by simp), List.length_cons, Nat.add_mul]; omega
theorem flatten_set {k : Nat} : ∀ {rows : List (List AV)} {i : Nat} {c : List AV}, (∀ r ∈ rows, r.length = k) → c.length = k → i < rows.length → (rows.set i c).flatten = splice rows.flatten (i * k) c
  | [], i, c, _, _, hi => by simp at hi
  | x :: xs, i, c, hk, hc, hi => by
    have hx := hk x (by simp)
    cases i with
    | zero =>
      simp only [List.set_cons_zero, List.flatten_cons, splice, Nat.zero_mul, List.take_zero, List.nil_append, Nat.zero_add]
      rw [hc, ← hx, List.drop_left]
    | succ i =>
      have ih := flatten_set (k := k) (rows := xs) (i := i) (c := c) (fun r hr => hk r (by simp [hr])) hc (by simpa using hi)
      simp only [List.set_cons_succ, List.flatten_cons, ih, splice]
      rw [show (i + 1) * k = x.length + i * k by rw [Nat.add_mul, hx]; omega, List.take_length_add_append, show x.length + i * k + c.length = x.length + (i * k + c.length) by omega, List.drop_length_add_append]
      simp [List.append_assoc]

theorem fillR_R {k : Nat} : ∀ {ps : List (Nat × AV)} {vs : List (Nat × Value)} {rows : List (List AV)} {cv : Array Value} {r : List (List AV)}, (∀ x ∈ rows, x.length = k) → RL F g w rows.flatten cv.toList → rows.flatten.all AV.isCell = true → fillR k rows ps = some r →
    ps.length = vs.length → (∀ (j : Nat) p q, ps[j]? = some p → vs[j]? = some q → q.1 = p.1 ∧ R F g w p.2 q.2) → ∃ rv, Instr.fill (fun i => some (i * k, k)) cv vs = some rv ∧ RL F g w r.flatten rv.toList ∧ (∀ x ∈ r, x.length = k) ∧ r.length = rows.length ∧ r.flatten.all AV.isCell = true
  | [], vs, rows, cv, r, hk, h, hc, hf, hl, _ => by
    simp only [fillR, Option.some.injEq] at hf; subst hf
    have : vs = [] := by cases vs with | nil => rfl | cons _ _ => simp at hl
    subst this
    exact ⟨cv, rfl, h, hk, rfl, hc⟩
  | p :: ps, vs, rows, cv, r, hk, h, hc, hf, hl, hp => by
    cases vs with
    | nil => simp at hl
    | cons q vs =>
      obtain ⟨i, x⟩ := p
      obtain ⟨i', v⟩ := q
      obtain ⟨h1, h2⟩ := hp 0 _ _ rfl rfl
      simp only at h1 h2; subst h1
      simp only [fillR] at hf
      split at hf
      · rename_i hcond
        obtain ⟨c1, c2, c3⟩ := hcond
        have hcl := cells_R h2
        have hlen := RL_len hcl
        have hcs := RL_len h
        rw [flatten_len hk] at hcs
        simp only [Array.length_toList] at hlen hcs
        have hmul : i' * k + k ≤ rows.length * k := by
          have : (i' + 1) * k ≤ rows.length * k := Nat.mul_le_mul_right k c2
          rw [Nat.add_mul] at this; omega
        have hfit : i' * k + v.cells.size ≤ cv.size := by omega
        obtain ⟨rv, e1, e2, e3, e4, e5⟩ := fillR_R (k := k) (ps := ps) (vs := vs) (rows := rows.set i' x.cells) (cv := v.cells.zipIdx.foldl (fun (cs : Array Value) (c, j) => cs.setIfInBounds (i' * k + j) c) cv) (r := r)
          (fun y hy => by rcases List.mem_or_eq_of_mem_set hy with hy | rfl; exact hk y hy; exact c1) (by rw [fill_step cv v _ hfit, flatten_set hk c1 c2]; exact RL_splice h hcl _)
          (by
            rw [flatten_set hk c1 c2]
            simp only [splice, List.all_append, Bool.and_eq_true]
            rw [List.all_eq_true] at hc
            exact ⟨⟨List.all_eq_true.2 fun y hy => hc y (List.mem_of_mem_take hy), c3⟩, List.all_eq_true.2 fun y hy => hc y (List.mem_of_mem_drop hy)⟩) hf (by simpa using hl) (fun j a b ha hb => hp (j + 1) a b (by simpa using ha) (by simpa using hb))
        refine ⟨rv, ?_, e2, e3, by rw [e4, List.length_set], e5⟩
        simp only [Instr.fill]
        have : (decide (v.cells.size ≠ k) || decide (i' * k + v.cells.size > cv.size)) = false := by simp; omega
        simp only [this, Bool.false_eq_true, if_false]
        exact e1
      · cases hf

/-- A new block of cells that are never written again. -/
theorem push_data {H : List HB} (hs : St F g H w) {ob : Obj} {w' : World} (hw' : w'.heap = w.heap.push ob) (hio : w'.os = w.os ∧ w'.output = w.output) :
    St (fun a => F a ∨ (a.block = w.heap.size ∧ a.spot = none)) g H w' ∧ Ext F g H w (fun a => F a ∨ (a.block = w.heap.size ∧ a.spot = none)) g H w' := by
  have hlt : ∀ b, b < w.heap.size → w'.heap[b]? = w.heap[b]? := fun b hb => by rw [hw']; exact push_heap_lt w _ b hb
  have hK : Keeps F g w (fun a => F a ∨ (a.block = w.heap.size ∧ a.spot = none)) g w' := ⟨fun _ h => .inl h, fun a ha => cell_of_heap (hlt _ (hs.live a ha)), Gh.le_refl g⟩
  have hz : w'.heap.size = w.heap.size + 1 := by rw [hw']; simp
  refine ⟨⟨fun a ha => ?_, hs.beyond, hs.inj, fun b cs hb => ?_, fun t n k ty ht => ?_, fun b off s h => ?_, fun b e cs hb => ?_⟩, ⟨hK.sub, hK.keep, hK.gh, by omega, fun B hB _ => hlt B hB, fun a h => ?_, fun b B hb h => .inl ⟨hb, h⟩, Nat.le_refl _, hio⟩⟩
  · rcases ha with ha | ⟨ha, _⟩
    · have := hs.live a ha; omega
    · omega
  · obtain ⟨B, us, e', h1, h2, h3, h4, h5⟩ := hs.var b cs hb
    exact ⟨B, us, e', h1, h2, (hlt B (heap_lt h3)).trans h3, RL.mono hK _ _ h4, fun off h => by
      rcases h with h | ⟨h, _⟩
      · exact h5 off h
      · have := heap_lt h3; simp at h; omega⟩
  · obtain ⟨B, cap, us, e', fr, h1, h2, h3, h4, h5, h6⟩ := hs.tok t n k _ ht
    exact ⟨B, cap, us, e', fr, h1, h2, (hlt B (heap_lt h3)).trans h3, h4, h5, fun off ho h => by
      rcases h with h | ⟨h, _⟩
      · exact h6 off ho h
      · have := heap_lt h3; simp at h; omega⟩
  · rcases h with h | ⟨_, h⟩
    · exact hs.spots b off s h
    · cases h
  · obtain ⟨B, us, h1, h2, h3, h4, h5⟩ := hs.tvar b e cs hb
    exact ⟨B, us, h1, h2, (hlt B (heap_lt h3)).trans h3, RL.mono hK _ _ h4, fun off h => by
      rcases h with h | ⟨h, _⟩
      · exact h5 off h
      · have := heap_lt h3; simp at h; omega⟩
  · rcases h with h | ⟨h, _⟩
    · exact .inl h
    · exact .inr (.inl (by omega))

theorem elemParts_spec : ∀ {parts : List (Nat × Operand)} {ps : List (Nat × AR)}, elemParts parts = some ps → ps.length = parts.length ∧ ∀ (j : Nat) q, parts[j]? = some q → ∃ y, cvX q.2 = some y ∧ ps[j]? = some (q.1, y)
  | [], ps, h => by simp only [elemParts, Option.some.injEq] at h; subst h; simp
  | (i, x) :: r, ps, h => by
    simp only [elemParts] at h
    split at h
    · rename_i y ys h2 h3
      simp only [Option.some.injEq] at h; subst h
      obtain ⟨e1, e2⟩ := elemParts_spec h3
      refine ⟨by simp [e1], fun j q hq => ?_⟩
      cases j with
      | zero => simp at hq; subst hq; exact ⟨y, h2, rfl⟩
      | succ j => simp at hq; simpa using e2 j q hq
    · cases h

theorem zero_cells : ∀ {vs : List Value} {xs : List AV}, toAVs vs = some xs → xs.all AV.isCell = true
  | [], xs, h => by simp only [toAVs, Option.some.injEq] at h; subst h; rfl
  | v :: r, xs, h => by
    simp only [toAVs] at h
    split at h
    · rename_i x ys h1 h2
      simp only [Option.some.injEq] at h; subst h
      simp only [List.all_cons, Bool.and_eq_true]
      refine ⟨?_, zero_cells h2⟩
      unfold toAV at h1
      split at h1 <;> first
        | (simp only [Option.some.injEq] at h1; subst h1; rfl)
        | (split at h1 <;> first | (simp only [Option.some.injEq] at h1; subst h1; rfl) | cases h1)
        | cases h1
    · cases h

theorem zeros_flat (z : Array Value) (k len : Nat) (hz : z.size = k) (hk : 0 < k) : ((Array.range (len * k)).map (fun x => z[x % z.size]!)).toList = (List.replicate len z.toList).flatten := by
  apply List.ext_getElem?
  intro i
  rw [Array.toList_map, Array.toList_range, List.getElem?_map]
  have hl : (List.replicate len z.toList).flatten.length = len * k := by simp [hz]
  rcases Nat.lt_or_ge i (len * k) with hi | hi
  · rw [List.getElem?_range hi, Option.map_some, hz]
    have hmod : i % k < z.size := by rw [hz]; exact Nat.mod_lt _ hk
    rw [getElem!_pos z _ hmod]
    clear hl
    induction len generalizing i with
    | zero => simp at hi
    | succ len ih =>
      rw [List.replicate_succ, List.flatten_cons]
      rcases Nat.lt_or_ge i k with h | h
      · rw [List.getElem?_append_left (by simpa [hz] using h)]
        simp [Nat.mod_eq_of_lt h, hz, h]
      · rw [List.getElem?_append_right (by simpa [hz] using h)]
        simp only [Array.length_toList, hz]
        rw [Nat.add_mul, Nat.one_mul] at hi
        have hmod' : (i - k) % k < z.size := by rw [hz]; exact Nat.mod_lt _ hk
        rw [← ih (i - k) (by omega) hmod']
        congr 1
        have : i % k = (i - k) % k := by rw [Nat.mod_eq_sub_mod h]
        simp only [this]
  · rw [List.getElem?_eq_none (by simpa using hi), List.getElem?_eq_none (by omega)]; rfl

section
variable {H H' : List HB} {t : List AV} {a : Act} {o : Oper} {v : AV} (hs : St F g H w) (ht : Tm F g w t a)
include hs ht
theorem ok_buildSl {ty e : TypeId} {len : Nat} {parts : Array (Nat × Operand)} {z : List AV} {i : TypeInfo} {ps : List (Nat × AR)} (ho : o.op = .buildSlice ty len parts) (h1 : P.underlying ty = some (.slice e)) (hi : P.info? e = some i) (h2 : zeroCellsOf P e = some z)
    (h4 : elemParts parts.toList = some ps) (hsz : 0 < i.size ∧ z.length = i.size ∧ len * i.size ≤ 10000 ∧ 0 < len) (he : astep (.buildSl i.size z len ps) (aev t) H = some (v, H')) : OpOk P o a F g H w v H' := by
  obtain ⟨z1, z2, z3, z4⟩ := hsz
  have h2' := h2
  unfold zeroCellsOf at h2'
  rw [hi] at h2'
  simp only at h2'
  cases hzv : i.zero with
  | none => rw [hzv] at h2'; cases h2'
  | some zv =>
    rw [hzv] at h2'
    simp only at h2'
    have hzR : RL F g w z zv.cells.toList := toAVs_R h2'
    have hzl := RL_len hzR
    simp only [Array.length_toList] at hzl
    obtain ⟨f1, f2⟩ := elemParts_spec h4
    simp only [astep] at he
    split at he
    · rename_i rows hrows
      simp only [Option.some.injEq, Prod.mk.injEq] at he
      obtain ⟨rfl, rfl⟩ := he
      have hrep : ∀ n, RL F g w (List.replicate n z).flatten (List.replicate n zv.cells.toList).flatten := by
        intro n
        induction n with
        | zero => simp [RL]
        | succ n ih => simp only [List.replicate_succ, List.flatten_cons]; exact RL_append hzR ih
      have hrepc : ∀ n, (List.replicate n z).flatten.all AV.isCell = true := by
        intro n
        induction n with
        | zero => simp
        | succ n ih => simp only [List.replicate_succ, List.flatten_cons, List.all_append, Bool.and_eq_true]; exact ⟨zero_cells h2', ih⟩
      obtain ⟨rv, e1, e2, e3, e4, e5⟩ := fillR_R (k := i.size) (vs := (parts.map fun (i, x) => (i, a.eval x)).toList) (cv := (Array.range (len * i.size)).map (fun x => zv.cells[x % zv.cells.size]!)) (rows := List.replicate len z)
        (fun x hx => by rw [List.eq_of_mem_replicate hx]; exact z2) (by rw [zeros_flat zv.cells i.size len (by omega) z1]; exact hrep len) (hrepc len) hrows (by simp [f1]) (fun j p q hp hq => by
          simp only [Array.toList_map, List.getElem?_map, Option.map_eq_some_iff] at hq hp
          obtain ⟨q', hq', rfl⟩ := hq
          obtain ⟨p', hp', rfl⟩ := hp
          obtain ⟨y, g1, g2⟩ := f2 j q' hq'
          rw [hp'] at g2; cases g2
          exact ⟨rfl, aev_R ht g1⟩)
      simp only [List.length_replicate] at e4
      let w' : World := { w with heap := w.heap.push (.cells rv e) }
      obtain ⟨s1, s2⟩ := push_data hs (ob := .cells rv e) (w' := w') rfl ⟨rfl, rfl⟩
      refine ⟨.value (.slice (some ⟨w.heap.size, 0, none⟩) len len), w', _, g, ?_, .inl ⟨_, rfl, ?_⟩, s1, s2⟩
      · have hne : ¬ len * i.size > 2 ^ 24 := by omega
        have hne0 : ¬ len * i.size = 0 := by
          have := Nat.mul_pos z4 z1; omega
        simp only [execOp, ho, Instr.buildSlice, Sem.run_bind, run_underlying h1, Result.andThen_ok, run_sizeOf hi, if_neg hne, if_neg hne0, run_zero hi hzv, Sem.run_pure, newRow]
        rw [e1]
        rfl
      · simp only [R, e4]
        have hlen1 : len ≤ 10000 := by
          have : len * 1 ≤ len * i.size := Nat.mul_le_mul_left len z1
          omega
        refine ⟨by unfold maxL; omega, .inr ⟨w.heap.size, 0, none, len, i.size, rfl, Nat.le_refl _, ⟨z1, .inr rfl⟩, ?_, rfl⟩⟩
        refine RE_of e3 (RL.mono s2.keeps _ _ e2) e5 fun j u hj => ⟨?_, .inr ⟨rfl, rfl⟩⟩
        have : w'.heap[w.heap.size]? = some (.cells rv e) := push_heap_new w _
        simp only [World.cell?, this, Option.isSome_none, Bool.false_eq_true, if_false, Nat.zero_add]
        simpa using hj
    · cases he
end
end
end Go.Proofs.YtblbepjnkehoaaaGreatDoor
/- The abstract operations are sound, ninth part: append. -/
namespace Go.Proofs.YtblbepjnkehoaaaGreatDoor
open Go

section
variable {F : Addr → Prop} {g : Gh} {w : World} {P : Program}

/-- What append reads of its second argument. -/
structure Src (P : Program) (w : World) (size : Nat) (x : Value) (m : Nat) (news : List Value) : Prop where
  len : ∀ w', (Builtin.lenOf x).run P w' = .ok m w'
  read : ∀ w' : World, (∀ a, w'.cell? a = w.cell? a) → (Builtin.firstCells size m x).run P w' = .ok news.toArray w'

structure ArgT (P : Program) (ats : Array TypeId) (e : TypeId) (i : TypeInfo) : Prop where
  t0 : ∃ t, ats[0]? = some t ∧ P.underlying t = some (.slice e)
  t1 : ∃ u d, ats[1]? = some u ∧ P.underlying u = some d ∧ (d matches .int _) = false
  info : P.info? e = some i

theorem run_append_in {ats : Array TypeId} {e ty : TypeId} {i : TypeInfo} (hA : ArgT P ats e i) {B n cap m : Nat} {x : Value} {news : List Value} (hS : Src P w i.size x m news) {vs : List Value} {el : TypeId} {fr : Nat × Nat}
    (hb : w.heap[B]? = some (.cells vs.toArray el fr)) (hc : news.all Value.oneCell' = true) (hfit : n * i.size + news.length ≤ vs.length) (hfr : fr.2 ≤ n * i.size) (hroom : n + m ≤ cap) :
    ∃ w', (Builtin.append_ ats ty #[.slice (some ⟨B, 0, none⟩) n cap, x]).run P w = .ok (.slice (some ⟨B, 0, none⟩) (n + m) cap) w' ∧ w'.heap.size = w.heap.size ∧
      w'.heap[B]? = some (.cells (vsplice vs (n * i.size) news).toArray el fr) ∧ (∀ b, b ≠ B → w'.heap[b]? = w.heap[b]?) ∧ w'.os = w.os ∧ w'.output = w.output := by
  obtain ⟨t, a0, u0⟩ := hA.t0
  obtain ⟨u, d, a1, u1, hd⟩ := hA.t1
  obtain ⟨w', k1, k2, k3, k4, k5⟩ := run_storeCells_block P B el fr news vs (n * i.size) 0 w hb hc (by omega) (by omega)
  refine ⟨w', ?_, k2, k3, k4, k5⟩
  have hr := hS.read w fun _ => rfl
  simp only [Builtin.append_, a0, a1, List.getElem?_toArray, List.getElem?_cons_zero, List.getElem?_cons_succ, Sem.run_bind, run_underlying u0, run_underlying u1, Result.andThen_ok, run_sizeOf hA.info, Sem.run_pure]
  cases d <;> first | (cases hd; done) | skip
  all_goals
    simp only [Bool.false_eq_true, if_false, hS.len w, Result.andThen_ok, if_pos hroom, Bool.not_false, if_true, Sem.run_bind, hr, add_plain, Nat.zero_add, k1, Sem.run_pure]

theorem run_append_out {ats : Array TypeId} {e ty : TypeId} {i : TypeInfo} {z : Value} (hA : ArgT P ats e i) (hz : i.zero = some z) {base : Option Addr} {n cap m : Nat} {x : Value} {news olds : List Value} (hS : Src P w i.size x m news)
    (hO : Src P w i.size (.slice base n cap) n olds) (hroom : cap < n + m) (hmax : n + m ≤ maxL) (hbig : (n + m) * i.bytes ≤ 140737488355328) :
    ∃ nc, n + m ≤ nc ∧ (Builtin.append_ ats ty #[.slice base n cap, x]).run P w = .ok (.slice (some ⟨w.heap.size, 0, none⟩) (n + m) nc)
      { w with drawn := w.drawn + 1, heap := w.heap.push (.cells (olds.toArray ++ news.toArray ++ Builtin.zeroCells z.cells (nc - (n + m))) e) } := by
  obtain ⟨t, a0, u0⟩ := hA.t0
  obtain ⟨u, d, a1, u1, hd⟩ := hA.t1
  have hn : ¬ (n + m ≤ cap) := by omega
  have hfits := growslice_fits (bytes := i.bytes) hroom hbig
  have hfits' : ¬ Builtin.nextslicecap (n + m) cap * i.bytes > 2 ^ 48 := by omega
  have hnm : ∀ q : Prop, ¬ (((n + m : Nat) : Int) > IntKind.i64.max ∧ q) := by
    intro q h
    have h1 := h.1
    unfold IntKind.max IntKind.signed IntKind.bits at h1; unfold maxL at hmax; simp at h1; omega
  refine ⟨(Question.appendCap (n + m) cap e).cut (w.tape w.drawn (.appendCap (n + m) cap e)), by simp only [Question.cut]; omega, ?_⟩
  have hr := hS.read { w with drawn := w.drawn + 1 } fun _ => rfl
  have hro := hO.read { w with drawn := w.drawn + 1 } fun _ => rfl
  simp only [Builtin.append_, a0, a1, List.getElem?_toArray, List.getElem?_cons_zero, List.getElem?_cons_succ, Sem.run_bind, run_underlying u0, run_underlying u1, Result.andThen_ok, run_sizeOf hA.info, Sem.run_pure]
  cases d <;> first | (cases hd; done) | skip
  all_goals
    simp only [Bool.false_eq_true, if_false, hS.len w, Result.andThen_ok, if_neg hn, if_neg (hnm _), Sem.run_bind, run_typeInfo hA.info, if_neg hfits', run_choose, Question.forced, run_askRoom, hro, Bool.not_false, if_true, hr, run_zero hA.info hz, newRow, run_newObj, Sem.run_pure]
end
end Go.Proofs.YtblbepjnkehoaaaGreatDoor
/- The abstract operations are sound, tenth part: append, the abstract side. -/
namespace Go.Proofs.YtblbepjnkehoaaaGreatDoor
open Go

section
variable {F : Addr → Prop} {g : Gh} {w : World} {P : Program}

theorem RE_append : ∀ {xs ys : List (List AV)} {B off k : Nat}, RE F g w B off k xs → RE F g w B (off + xs.length * k) k ys → RE F g w B off k (xs ++ ys)
  | [], ys, B, off, k, _, h => by simpa using h
  | x :: xs, ys, B, off, k, h, h' => by
    simp only [RE] at h
    simp only [List.cons_append, RE]
    refine ⟨h.1, h.2.1, RE_append h.2.2 ?_⟩
    simp only [List.length_cons, Nat.add_mul, Nat.one_mul] at h'
    rwa [show off + k + xs.length * k = off + (xs.length * k + k) by omega]

/-- A growing array grows where it lies. -/
theorem arr_in {H : List HB} (hs : St F g H w) {t n k cap B m : Nat} {ty ty' : TypeId} (hH : H[t]? = some (.tok n k ty)) (hB : g.blk t = some B) (hT : g.tk t = some (n, cap)) {vs news : List Value} {el : TypeId} {fr : Nat × Nat} (hty : ty' ≠ 0 → el = ty')
    (hb : w.heap[B]? = some (.cells vs.toArray el fr)) (hsz : vs.length = cap * k) (hfr : fr.2 ≤ n * k) (hcap : n + m ≤ cap) (hl : news.length = m * k) (hF : ∀ off, n * k ≤ off → ¬ F ⟨B, off, none⟩)
    {w' : World} (z : w'.heap.size = w.heap.size) (hn : w'.heap[B]? = some (.cells (vsplice vs (n * k) news).toArray el fr)) (ho : ∀ b, b ≠ B → w'.heap[b]? = w.heap[b]?) (hio : w'.os = w.os ∧ w'.output = w.output) :
    ∃ F' g', (∀ off, off < (n + m) * k → F' ⟨B, off, none⟩) ∧ St F' g' (H.set t (.tok (n + m) k ty')) w' ∧ Ext F g H w F' g' (H.set t (.tok (n + m) k ty')) w' ∧ g'.blk t = some B ∧ g'.tk t = some (n + m, cap) := by
  have htl : t < H.length := (List.getElem?_eq_some_iff.1 hH).1
  have hlt := heap_lt hb
  let F' : Addr → Prop := fun a => F a ∨ (a.block = B ∧ a.spot = none ∧ a.off < (n + m) * k)
  let g' : Gh := ⟨g.blk, fun x => if x = t then some (n + m, cap) else g.tk x⟩
  have gt : g'.tk t = some (n + m, cap) := by show (if t = t then _ else _) = _; rw [if_pos rfl]
  have gx : ∀ x, x ≠ t → g'.tk x = g.tk x := fun x hx => by show (if x = t then _ else _) = _; rw [if_neg hx]
  have hmul : (n + m) * k = n * k + m * k := Nat.add_mul _ _ _
  have hcapk : (n + m) * k ≤ cap * k := Nat.mul_le_mul_right k hcap
  have hK : Keeps F g w F' g' w' := by
    refine ⟨fun _ h => .inl h, fun a ha => ?_, ⟨fun b X h1 h2 => ?_, fun x mx c h => ?_⟩⟩
    · by_cases e : a.block = B
      · cases a with
        | mk bl off spot =>
          simp only at e; subst e
          cases spot with
          | some s => exact absurd ha (hs.spots _ _ _)
          | none =>
            have hoff : off < n * k := by
              rcases Nat.lt_or_ge off (n * k) with h | h
              · exact h
              · exact absurd ha (hF off h)
            simp only [World.cell?, hn, hb, Option.isSome_none, Bool.false_eq_true, if_false]
            simp only [vsplice, List.getElem?_toArray, List.append_assoc]
            rw [List.getElem?_append_left (by simp; omega), List.getElem?_take, if_pos hoff]
      · exact cell_of_heap (ho _ e)
    · have : b ≠ t := fun e => by subst e; rw [hT] at h2; cases h2
      exact ⟨h1, (gx b this).trans h2⟩
    · by_cases e : x = t
      · subst e
        rw [hT] at h; cases h
        exact ⟨n + m, cap, gt, by omega, fun _ => ⟨rfl, rfl⟩⟩
      · exact ⟨mx, c, (gx x e).trans h, Nat.le_refl _, fun _ => ⟨rfl, rfl⟩⟩
  have hXB : ∀ x X, x ≠ t → g.blk x = some X → X ≠ B := fun x X hx hX e => hx (hs.inj x t B (by rw [hX, e]) hB)
  refine ⟨F', g', fun off h => .inr ⟨rfl, rfl, h⟩, ⟨fun a ha => ?_, fun x hx => ?_, hs.inj, fun x cx hx => ?_, fun x nx kx tx hx => ?_, fun b off s h => ?_, fun x ex cx hx => ?_⟩, ⟨hK.sub, hK.keep, hK.gh, by omega, fun X hX hnx => ho X (fun e => hnx t htl (by rw [hB, e])), fun a h => ?_, fun x X hx h => .inl ⟨by simpa using hx, h⟩, by simp, hio⟩, hB, gt⟩
  · rcases ha with ha | ⟨ha, _⟩
    · rw [z]; exact hs.live a ha
    · omega
  · have := hs.beyond x (by simpa using hx)
    exact ⟨this.1, (gx x (fun e => by subst e; rw [List.length_set] at hx; omega)).trans this.2⟩
  · by_cases e : x = t
    · subst e; rw [List.getElem?_set_self htl] at hx; cases hx
    · rw [List.getElem?_set_ne (Ne.symm e)] at hx
      obtain ⟨X, us, ex, h1, h2, h3, h4, h5⟩ := hs.var x cx hx
      have hne := hXB x X e h1
      exact ⟨X, us, ex, h1, (gx x e).trans h2, (ho X hne).trans h3, RL.mono hK _ _ h4, fun off h => by
        rcases h with h | ⟨h, _⟩
        · exact h5 off h
        · exact hne h⟩
  · by_cases e : x = t
    · subst e
      rw [List.getElem?_set_self htl] at hx; cases hx
      refine ⟨B, cap, _, el, fr, hB, gt, hn, ⟨by omega, ?_, hty⟩, hcap, fun off hoff h => ?_⟩
      · simp [vsplice, hl]; omega
      · rcases h with h | ⟨_, _, h⟩
        · exact hF off (by omega) h
        · simp only at h; omega
    · rw [List.getElem?_set_ne (Ne.symm e)] at hx
      obtain ⟨X, cx, us, ex, frx, h1, h2, h3, h4, h5, h6⟩ := hs.tok x nx kx _ hx
      have hne := hXB x X e h1
      exact ⟨X, cx, us, ex, frx, h1, (gx x e).trans h2, (ho X hne).trans h3, h4, h5, fun off hoff h => by
        rcases h with h | ⟨h, _⟩
        · exact h6 off hoff h
        · exact hne h⟩
  · rcases h with h | ⟨_, h, _⟩
    · exact hs.spots b off s h
    · cases h
  · by_cases e : x = t
    · subst e; rw [List.getElem?_set_self htl] at hx; cases hx
    · rw [List.getElem?_set_ne (Ne.symm e)] at hx
      obtain ⟨X, us, h1, h2, h3, h4, h5⟩ := hs.tvar x ex cx hx
      have hne := hXB x X e h1
      exact ⟨X, us, h1, (gx x e).trans h2, (ho X hne).trans h3, RL.mono hK _ _ h4, fun off h => by
        rcases h with h | ⟨h, _⟩
        · exact h5 off h
        · exact hne h⟩
  · rcases h with h | ⟨h, _⟩
    · exact .inl h
    · exact .inr (.inr ⟨t, htl, by rw [hT]; simp, by rw [hB, h]⟩)

/-- A growing array is laid anew, or begun. -/
theorem arr_out {H H' : List HB} (hs : St F g H w) {t n k cap : Nat} {ty : TypeId} (h1 : H'[t]? = some (.tok n k ty)) (h2 : ∀ x, x ≠ t → H'[x]? = H[x]?) (h3 : H.length ≤ H'.length) (h4 : H'.length ≤ max H.length (t + 1))
    (h5 : (t = H.length) ∨ (∃ n0 c0, g.tk t = some (n0, c0) ∧ n0 < n ∧ t < H.length)) {vs : Array Value} {e : TypeId} (hte : ty ≠ 0 → e = ty) (hsz : vs.size = cap * k) (hcap : n ≤ cap) {w' : World} (hw : w'.heap = w.heap.push (.cells vs e)) (hio : w'.os = w.os ∧ w'.output = w.output) :
    ∃ F' g', (∀ off, off < n * k → F' ⟨w.heap.size, off, none⟩) ∧ St F' g' H' w' ∧ Ext F g H w F' g' H' w' ∧ g'.blk t = some w.heap.size ∧ g'.tk t = some (n, cap) := by
  have hlt : ∀ b, b < w.heap.size → w'.heap[b]? = w.heap[b]? := fun b hb => by rw [hw]; exact push_heap_lt w _ b hb
  have hz : w'.heap.size = w.heap.size + 1 := by rw [hw]; simp
  have hnew : w'.heap[w.heap.size]? = some (.cells vs e) := by rw [hw]; exact push_heap_new w _
  have htl : t < H'.length := (List.getElem?_eq_some_iff.1 h1).1
  let F' : Addr → Prop := fun a => F a ∨ (a.block = w.heap.size ∧ a.spot = none ∧ a.off < n * k)
  let g' : Gh := ⟨fun x => if x = t then some w.heap.size else g.blk x, fun x => if x = t then some (n, cap) else g.tk x⟩
  have gt : g'.tk t = some (n, cap) := by show (if t = t then _ else _) = _; rw [if_pos rfl]
  have gbt : g'.blk t = some w.heap.size := by show (if t = t then _ else _) = _; rw [if_pos rfl]
  have gx : ∀ x, x ≠ t → g'.tk x = g.tk x := fun x hx => by show (if x = t then _ else _) = _; rw [if_neg hx]
  have gbx : ∀ x, x ≠ t → g'.blk x = g.blk x := fun x hx => by show (if x = t then _ else _) = _; rw [if_neg hx]
  have hK : Keeps F g w F' g' w' := by
    refine ⟨fun _ h => .inl h, fun a ha => cell_of_heap (hlt _ (hs.live a ha)), ⟨fun b X q1 q2 => ?_, fun x mx c h => ?_⟩⟩
    · have : b ≠ t := fun e => by
        subst e
        rcases h5 with h5 | ⟨n0, c0, h5, _⟩
        · have := (hs.beyond b (by omega)).1; rw [this] at q1; cases q1
        · rw [h5] at q2; cases q2
      exact ⟨(gbx b this).trans q1, (gx b this).trans q2⟩
    · by_cases e : x = t
      · subst e
        rcases h5 with h5 | ⟨n0, c0, h5, hn, _⟩
        · have := (hs.beyond x (by omega)).2; rw [this] at h; cases h
        · rw [h5] at h; cases h
          exact ⟨n, cap, gt, by omega, fun e => by omega⟩
      · exact ⟨mx, c, (gx x e).trans h, Nat.le_refl _, fun _ => ⟨rfl, gbx x e⟩⟩
  refine ⟨F', g', fun off h => .inr ⟨rfl, rfl, h⟩, ⟨fun a ha => ?_, fun x hx => ?_, fun b b' X q1 q2 => ?_, fun x cx hx => ?_, fun x nx kx tx hx => ?_, fun b off s h => ?_, fun x ex cx hx => ?_⟩, ⟨hK.sub, hK.keep, hK.gh, by omega, fun X hX _ => hlt X hX, fun a h => ?_, fun x X hx h => ?_, h3, hio⟩, gbt, gt⟩
  · rcases ha with ha | ⟨ha, _⟩
    · have := hs.live a ha; omega
    · omega
  · have hxt : x ≠ t := by omega
    have := hs.beyond x (by omega)
    exact ⟨(gbx x hxt).trans this.1, (gx x hxt).trans this.2⟩
  · by_cases e : b = t <;> by_cases e' : b' = t
    · omega
    · subst e; rw [gbt] at q1; cases q1; rw [gbx b' e'] at q2; have := hs.blk_lt q2; omega
    · subst e'; rw [gbt] at q2; cases q2; rw [gbx b e] at q1; have := hs.blk_lt q1; omega
    · rw [gbx b e] at q1; rw [gbx b' e'] at q2; exact hs.inj b b' X q1 q2
  · by_cases e : x = t
    · subst e; rw [h1] at hx; cases hx
    · rw [h2 x e] at hx
      obtain ⟨X, us, ex, q1, q2, q3, q4, q5⟩ := hs.var x cx hx
      exact ⟨X, us, ex, (gbx x e).trans q1, (gx x e).trans q2, (hlt X (heap_lt q3)).trans q3, RL.mono hK _ _ q4, fun off h => by
        rcases h with h | ⟨h, _⟩
        · exact q5 off h
        · have := heap_lt q3; simp only at h; omega⟩
  · by_cases e : x = t
    · subst e
      rw [h1] at hx; cases hx
      refine ⟨w.heap.size, cap, vs, _, (0, 0), gbt, gt, hnew, ⟨Nat.zero_le _, hsz, hte⟩, hcap, fun off hoff h => ?_⟩
      rcases h with h | ⟨_, _, h⟩
      · have := hs.live _ h; simp at this
      · simp only at h; omega
    · rw [h2 x e] at hx
      obtain ⟨X, cx, us, ex, frx, q1, q2, q3, q4, q5, q6⟩ := hs.tok x nx kx _ hx
      exact ⟨X, cx, us, ex, frx, (gbx x e).trans q1, (gx x e).trans q2, (hlt X (heap_lt q3)).trans q3, q4, q5, fun off hoff h => by
        rcases h with h | ⟨h, _⟩
        · exact q6 off hoff h
        · have := heap_lt q3; simp only at h; omega⟩
  · rcases h with h | ⟨_, h, _⟩
    · exact hs.spots b off s h
    · cases h
  · by_cases e : x = t
    · subst e; rw [h1] at hx; cases hx
    · rw [h2 x e] at hx
      obtain ⟨X, us, q1, q2, q3, q4, q5⟩ := hs.tvar x ex cx hx
      exact ⟨X, us, (gbx x e).trans q1, (gx x e).trans q2, (hlt X (heap_lt q3)).trans q3, RL.mono hK _ _ q4, fun off h => by
        rcases h with h | ⟨h, _⟩
        · exact q5 off h
        · have := heap_lt q3; simp only at h; omega⟩
  · rcases h with h | ⟨h, _⟩
    · exact .inl h
    · exact .inr (.inl (by omega))
  · by_cases e : x = t
    · subst e; rw [gbt] at h; cases h; right; omega
    · rw [gbx x e] at h; exact .inl ⟨hs.lt h, h⟩
end
end Go.Proofs.YtblbepjnkehoaaaGreatDoor
/- The abstract operations are sound, eleventh part: append, whole. -/
namespace Go.Proofs.YtblbepjnkehoaaaGreatDoor
open Go

section
variable {F : Addr → Prop} {g : Gh} {w : World} {P : Program}

/-- What append reads of a slice by value. -/
theorem src_sl {tok : Tok} {ys : List (List AV)} {x : Value} (h : R F g w (.sl tok ys) x) {k : Nat} (hk : headK k ys = true) :
    ∃ news : List Value, Src P w k x ys.length news ∧ news.length = ys.length * k ∧ RL F g w ys.flatten news ∧ ys.flatten.all AV.isCell = true ∧ (∀ r ∈ ys, r.length = k) := by
  obtain ⟨_, ⟨rfl, rfl, _⟩ | ⟨B, off, sp, cap, k', rfl, _, ⟨hk', hsp⟩, h3, _⟩⟩ := R_sl h
  · exact ⟨[], ⟨fun _ => rfl, fun _ _ => rfl⟩, by simp, by simp [RL], rfl, by simp⟩
  · have : ys = [] ∨ k' = k := headK_eq h3 hk
    rcases this with rfl | rfl
    · refine ⟨[], ⟨fun _ => rfl, fun w' _ => ?_⟩, by simp, by simp [RL], rfl, by simp⟩
      simp only [Builtin.firstCells, List.length_nil, Nat.zero_mul]
      rfl
    · rcases hsp with rfl | rfl
      · refine ⟨[], ⟨fun _ => rfl, fun w' _ => ?_⟩, by simp, by simp [RL], rfl, by simp⟩
        simp only [Builtin.firstCells, List.length_nil, Nat.zero_mul]
        rfl
      obtain ⟨vs, a1, a2, a3, a4, a5⟩ := RE_flat h3
      refine ⟨vs, ⟨fun _ => rfl, fun w' hw' => ?_⟩, a1, a2, a3, a4⟩
      exact run_firstCells_some (P := P) w' k' ys.length ⟨B, off, none⟩ ys.length cap vs a1 fun j v hj => by
        rw [add_plain, hw']; exact (a5 j v hj).1
theorem src_str {s : List UInt8} {x : Value} (h : R F g w (.str s) x) :
    ∃ news : List Value, Src P w 1 x (s.map fun c => [AV.int .u8 c.toNat]).length news ∧ news.length = (s.map fun c => [AV.int .u8 c.toNat]).length * 1 ∧ RL F g w (s.map fun c => [AV.int .u8 c.toNat]).flatten news ∧ (s.map fun c => [AV.int .u8 c.toNat]).flatten.all AV.isCell = true ∧ (∀ r ∈ (s.map fun c => [AV.int .u8 c.toNat]), r.length = 1) := by
  obtain ⟨rfl, hl⟩ := R_str h
  refine ⟨s.map fun c => .int .u8 c.toNat, ⟨fun _ => by simp [Builtin.lenOf, bytes_size], fun w' _ => ?_⟩, by simp, ?_, ?_, by simp⟩
  · simp only [Builtin.firstCells, List.length_map, Sem.run_pure]
    congr 1
    apply Array.ext'
    simp [ByteArray.data_extract]
  · clear hl h
    induction s with
    | nil => simp [RL]
    | cons c s ih =>
      simp only [List.map_cons, List.flatten_cons, List.cons_append, List.nil_append, RL]
      exact ⟨_, _, rfl, by simp only [R]; exact ⟨trivial, by have := c.toNat_lt; unfold IntKind.has IntKind.min IntKind.max IntKind.signed IntKind.bits; simp; omega⟩, ih⟩
  · simp [List.all_flatten, AV.isCell]

theorem run_append_no {ats : Array TypeId} {e ty : TypeId} {i : TypeInfo} (hA : ArgT P ats e i) {base : Option Addr} {n cap : Nat} {x : Value} (hS : Src P w i.size x 0 []) (hroom : n ≤ cap) :
    (Builtin.append_ ats ty #[.slice base n cap, x]).run P w = .ok (.slice base n cap) w := by
  obtain ⟨t, a0, u0⟩ := hA.t0
  obtain ⟨u, d, a1, u1, hd⟩ := hA.t1
  have hr := hS.read w fun _ => rfl
  have hroom' : n + 0 ≤ cap := by omega
  simp only [Builtin.append_, a0, a1, List.getElem?_toArray, List.getElem?_cons_zero, List.getElem?_cons_succ, Sem.run_bind, run_underlying u0, run_underlying u1, Result.andThen_ok, run_sizeOf hA.info, Sem.run_pure]
  cases d <;> first | (cases hd; done) | skip
  all_goals
    simp only [Bool.false_eq_true, if_false, hS.len w, Result.andThen_ok, if_pos hroom', Bool.not_false, if_true, Sem.run_bind, hr]
    cases base <;> simp [storeCells]

theorem append_sound {H H' : List HB} (hs : St F g H w) {tok : Tok} {els ys : List (List AV)} {s x : Value} {v : AV} {k : Nat} (hk0 : 0 < k) (hr : R F g w (.sl tok els) s) {ats : Array TypeId} {e ty : TypeId} {i : TypeInfo} (hA : ArgT P ats e i) (hi : i.size = k) (hby : i.bytes ≤ 1000)
    {z : Value} (hz : i.zero = some z) (hzl : z.cells.size = k) {news : List Value} (hS : Src P w k x ys.length news) (hl : news.length = ys.length * k) (hn : RL F g w ys.flatten news) (hc : ys.flatten.all AV.isCell = true) (hrows : ∀ r ∈ ys, r.length = k)
    (he : aappend k e tok els ys H = some (v, H')) : ∃ u w' F' g', (Builtin.append_ ats ty #[s, x]).run P w = .ok u w' ∧ R F' g' w' v u ∧ St F' g' H' w' ∧ Ext F g H w F' g' H' w' := by
  subst hi
  unfold aappend at he
  split at he
  case isFalse => cases he
  rename_i hcond
  obtain ⟨hmax, hke, hky⟩ := hcond
  have hbig : (els.length + ys.length) * i.bytes ≤ 140737488355328 := by
    have : (els.length + ys.length) * i.bytes ≤ maxL * 1000 := Nat.mul_le_mul hmax hby
    unfold maxL at this; omega
  have hcells := oneCells_of_RL hn hc
  -- a new array
  have out : ∀ (te : TypeId) (t : Nat) (H2 : List HB) (base : Option Addr) (cap : Nat), s = .slice base els.length cap → cap < els.length + ys.length → H2[t]? = some (.tok (els.length + ys.length) i.size te) → (te ≠ 0 → e = te) → (∀ y, y ≠ t → H2[y]? = H[y]?) → H.length ≤ H2.length → H2.length ≤ max H.length (t + 1) →
      ((t = H.length) ∨ (∃ n0 c0, g.tk t = some (n0, c0) ∧ n0 < els.length + ys.length ∧ t < H.length)) →
      ∃ u w' F' g', (Builtin.append_ ats ty #[s, x]).run P w = .ok u w' ∧ R F' g' w' (.sl (.own t) (els ++ ys)) u ∧ St F' g' H2 w' ∧ Ext F g H w F' g' H2 w' := by
    intro te t H2 base cap hs0 hroom q1 hte q2 q3 q4 q5
    subst hs0
    obtain ⟨olds, o1, o2, o3, o4, o5⟩ := src_sl (P := P) hr hke
    obtain ⟨nc, n1, n2⟩ := run_append_out (ty := ty) hA hz hS o1 hroom hmax hbig
    have hsz : (olds.toArray ++ news.toArray ++ Builtin.zeroCells z.cells (nc - (els.length + ys.length))).size = nc * i.size := by
      have : (Builtin.zeroCells z.cells (nc - (els.length + ys.length))).size = (nc - (els.length + ys.length)) * i.size := by simp [Builtin.zeroCells, hzl]
      simp only [Array.size_append, List.size_toArray, this, o2, hl]
      rw [← Nat.add_mul, ← Nat.add_mul]; congr 1; omega
    obtain ⟨F', g', f0, f1, f2, f3, f4⟩ := arr_out hs (w' := { w with drawn := w.drawn + 1, heap := w.heap.push (.cells (olds.toArray ++ news.toArray ++ Builtin.zeroCells z.cells (nc - (els.length + ys.length))) e) }) q1 q2 q3 q4 q5 hte hsz n1 rfl ⟨rfl, rfl⟩
    refine ⟨_, _, F', g', n2, ?_, f1, f2⟩
    simp only [R, List.length_append]
    refine ⟨hmax, .inr ⟨w.heap.size, 0, none, nc, i.size, rfl, n1, ⟨hk0, .inr rfl⟩, ?_, ⟨_, _, f4, Nat.le_refl _, fun _ => ⟨f3, rfl, rfl, rfl⟩⟩⟩⟩
    refine RE_of (vs := olds ++ news) (fun r hr => ?_) ?_ ?_ fun j u hj => ⟨?_, f0 _ ?_⟩
    · rcases List.mem_append.1 hr with hr | hr
      · exact o5 r hr
      · exact hrows r hr
    · rw [List.flatten_append]; exact RL_append (RL.mono f2.keeps _ _ o3) (RL.mono f2.keeps _ _ hn)
    · simp only [List.flatten_append, List.all_append, Bool.and_eq_true]; exact ⟨o4, hc⟩
    · simp only [World.cell?, push_heap_new, Option.isSome_none, Bool.false_eq_true, if_false, Nat.zero_add]
      have hj' := (List.getElem?_eq_some_iff.1 hj).1
      rw [← Array.getElem?_toList]
      simp only [Array.toList_append]
      rw [List.getElem?_append_left (by simpa using hj')]
      exact hj
    · have hj' := (List.getElem?_eq_some_iff.1 hj).1
      rw [List.length_append, o2, hl, ← Nat.add_mul] at hj'; omega
  -- a slice without room
  have small : (∃ base cap, s = .slice base els.length cap ∧ cap = els.length) → appendNew i.size e tok els H ys = some (v, H') →
      ∃ u w' F' g', (Builtin.append_ ats ty #[s, x]).run P w = .ok u w' ∧ R F' g' w' v u ∧ St F' g' H' w' ∧ Ext F g H w F' g' H' w' := by
    intro hcap he
    obtain ⟨base, cap, hs0, hcap⟩ := hcap
    cases ys with
    | nil =>
      simp only [appendNew, Option.some.injEq, Prod.mk.injEq] at he
      obtain ⟨rfl, rfl⟩ := he
      refine ⟨s, w, F, g, ?_, hr, hs, Ext.refl _ _ _ _⟩
      subst hs0
      have : news = [] := by simpa using hl
      subst this
      exact run_append_no hA hS (by omega)
    | cons y ys =>
      simp only [appendNew, Option.some.injEq, Prod.mk.injEq] at he
      obtain ⟨rfl, rfl⟩ := he
      exact out e H.length _ base cap hs0 (by simp; omega) (by simp) (fun _ => rfl) (fun y hy => by
        rcases Nat.lt_or_ge y H.length with h | h
        · exact List.getElem?_append_left h
        · rw [List.getElem?_eq_none (by simp; omega), List.getElem?_eq_none h]) (by simp) (by simp) (.inl rfl)
  cases tok with
  | own t =>
    simp only at he
    split at he
    · rename_i n k' e' hH
      split at he
      · rename_i hnk
        obtain ⟨rfl, rfl⟩ := hnk
        simp only [Option.some.injEq, Prod.mk.injEq] at he
        obtain ⟨rfl, rfl⟩ := he
        have htl : t < H.length := (List.getElem?_eq_some_iff.1 hH).1
        obtain ⟨B, cap, vs, el, fr, b1, b2, b3, b4, b5, b6⟩ := hs.tok t _ _ _ hH
        obtain ⟨_, ⟨_, _, h0, _⟩ | ⟨B', off, sp, cap', k', rfl, c1, c2, c3, m, c', c4, c5, c6⟩⟩ := R_sl hr
        · exact absurd rfl (h0 t)
        rw [b2] at c4; cases c4
        obtain ⟨d1, d2, d3, d4⟩ := c6 rfl
        simp only at d1 d2 d4; rw [b1] at d1; cases d1; subst d2; subst d3; subst d4
        rcases Nat.lt_or_ge cap' (els.length + ys.length) with hlt | hge
        · refine out (if e' = e then e else 0) t _ _ _ rfl hlt (List.getElem?_set_self htl) (by by_cases c : e' = e <;> simp [c]) (fun y hy => List.getElem?_set_ne (Ne.symm hy)) (by simp) (by simp; omega) (.inr ⟨_, _, b2, by omega, htl⟩)
        · obtain ⟨w', r1, r2, r3, r4, r5⟩ := run_append_in (ty := ty) hA hS (vs := vs.toList) (by simpa using b3) hcells (by
            have : (els.length + ys.length) * i.size ≤ cap' * i.size := Nat.mul_le_mul_right _ hge
            rw [Nat.add_mul] at this
            simp only [Array.length_toList]; omega) b4.1 hge
          obtain ⟨F', g', f0, f1, f2, f3, f4⟩ := arr_in hs hH b1 b2 (vs := vs.toList) (ty' := if e' = e then e else 0) (by by_cases c : e' = e <;> simp [c]; exact c ▸ b4.2.2) (by simpa using b3) (by simpa using b4.2.1) b4.1 hge hl b6 r2 r3 r4 r5
          refine ⟨_, w', F', g', r1, ?_, f1, f2⟩
          simp only [R, List.length_append]
          refine ⟨hmax, .inr ⟨B, 0, none, cap', i.size, rfl, hge, ⟨hk0, .inr rfl⟩, RE_append ?_ ?_, ⟨_, _, f4, Nat.le_refl _, fun _ => ⟨f3, rfl, rfl, rfl⟩⟩⟩⟩
          · rcases headK_eq c3 hke with rfl | rfl
            · simp [RE]
            · exact RE.mono f2.keeps _ _ _ _ c3
          · refine RE_of hrows (RL.mono f2.keeps _ _ hn) hc fun j u hj => ?_
            have hj' := (List.getElem?_eq_some_iff.1 hj).1
            have hmul : (els.length + ys.length) * i.size = els.length * i.size + ys.length * i.size := Nat.add_mul _ _ _
            have hcapk : (els.length + ys.length) * i.size ≤ cap' * i.size := Nat.mul_le_mul_right _ hge
            refine ⟨?_, f0 _ (by omega)⟩
            simp only [World.cell?, r3, Option.isSome_none, Bool.false_eq_true, if_false, Nat.zero_add, vsplice, List.getElem?_toArray]
            have hvl : vs.toList.length = cap' * i.size := by simpa using b4.2.1
            rw [List.append_assoc, List.getElem?_append_right (by rw [List.length_take]; omega), List.length_take, Nat.min_eq_left (by omega), List.getElem?_append_left (by omega)]
            rw [show els.length * i.size + j - els.length * i.size = j by omega]; exact hj
      · cases he
    · cases he
  | tight =>
    exact small (by
      obtain ⟨_, ⟨rfl, rfl, h0, _⟩ | ⟨B', off, sp, cap', k', rfl, c1, c2, c3, c4⟩⟩ := R_sl hr
      · exact ⟨none, 0, rfl, rfl⟩
      · exact ⟨_, _, rfl, c4⟩) he
  | nilT =>
    exact small (by
      obtain ⟨_, ⟨rfl, rfl, h0, _⟩ | ⟨B', off, sp, cap', k', rfl, c1, c2, c3, c4⟩⟩ := R_sl hr
      · exact ⟨none, 0, rfl, rfl⟩
      · exact c4.elim) he
  | none => cases he
  | nn => cases he

section
variable {H H' : List HB} {t : List AV} {a : Act} {o : Oper} {v : AV} (hs : St F g H w) (ht : Tm F g w t a)
include hs ht
theorem ok_append {c : Call} {x x' : Operand} {y y' : AR} {ty u e : TypeId} {d : TypeDesc} {i : TypeInfo} {z : List AV} (ho : o.op = .call c) (hb : c.callee = .builtin .append) (ha : c.args.toList = [x, x']) (hty : c.argTypes.toList = [ty, u]) (h1 : P.underlying ty = some (.slice e)) (hd : (d matches .int _) = false) (h2 : P.underlying u = some d)
    (hi : P.info? e = some i) (hz : zeroCellsOf P e = some z) (hc : 0 < i.size ∧ z.length = i.size ∧ i.bytes ≤ 1000) (hx : cvX x = some y) (hx' : cvX x' = some y') (he : astep (.append i.size e y y') (aev t) H = some (v, H')) : OpOk P o a F g H w v H' := by
  have hr := aev_R ht hx
  have hr' := aev_R ht hx'
  obtain ⟨i', zv, q1, q2, q3⟩ := zero_R hz
  rw [hi] at q1; cases q1
  have hzl := RL_len (q3 F g w)
  simp only [Array.length_toList] at hzl
  have hA : ArgT P c.argTypes e i := ⟨⟨ty, by rw [← Array.getElem?_toList, hty]; rfl, h1⟩, ⟨u, d, by rw [← Array.getElem?_toList, hty]; rfl, h2, hd⟩, hi⟩
  have hargs : c.args = #[x, x'] := by apply Array.ext'; simpa using ha
  simp only [astep] at he
  split at he
  · rename_i tok els tok' ys p1 p2
    rw [p1] at hr; rw [p2] at hr'
    have hk : headK i.size ys = true := by
      unfold aappend at he
      split at he
      · rename_i h; exact h.2.2
      · cases he
    obtain ⟨news, n1, n2, n3, n4, n5⟩ := src_sl (P := P) hr' hk
    obtain ⟨r, w', F', g', e1, e2, e3, e4⟩ := append_sound (ty := o.type) hs hc.1 hr hA rfl hc.2.2 q2 (by omega) n1 n2 n3 n4 n5 he
    exact ⟨.value r, w', F', g', run_builtin ho hb (args := #[a.eval x, a.eval x']) (by simp [hargs]) (run_v _ _ _ e1), .inl ⟨r, rfl, e2⟩, e3, e4⟩
  · cases he
theorem ok_appendS {c : Call} {x x' : Operand} {y y' : AR} {ty u e : TypeId} {i : TypeInfo} {z : List AV} (ho : o.op = .call c) (hb : c.callee = .builtin .append) (ha : c.args.toList = [x, x']) (hty : c.argTypes.toList = [ty, u]) (h1 : P.underlying ty = some (.slice e)) (h2 : P.underlying u = some .string)
    (hi : P.info? e = some i) (hz : zeroCellsOf P e = some z) (hc : i.size = 1 ∧ z.length = 1 ∧ i.bytes ≤ 1000) (hx : cvX x = some y) (hx' : cvX x' = some y') (he : astep (.appendS e y y') (aev t) H = some (v, H')) : OpOk P o a F g H w v H' := by
  have hr := aev_R ht hx
  have hr' := aev_R ht hx'
  obtain ⟨i', zv, q1, q2, q3⟩ := zero_R hz
  rw [hi] at q1; cases q1
  have hzl := RL_len (q3 F g w)
  simp only [Array.length_toList] at hzl
  have hA : ArgT P c.argTypes e i := ⟨⟨ty, by rw [← Array.getElem?_toList, hty]; rfl, h1⟩, ⟨u, .string, by rw [← Array.getElem?_toList, hty]; rfl, h2, rfl⟩, hi⟩
  have hargs : c.args = #[x, x'] := by apply Array.ext'; simpa using ha
  simp only [astep] at he
  split at he
  · rename_i tok els s p1 p2
    rw [p1] at hr; rw [p2] at hr'
    obtain ⟨news, n1, n2, n3, n4, n5⟩ := src_str (P := P) hr'
    obtain ⟨r, w', F', g', e1, e2, e3, e4⟩ := append_sound (ty := o.type) hs (by omega) hr hA hc.1 hc.2.2 q2 (by omega) n1 n2 n3 n4 n5 he
    exact ⟨.value r, w', F', g', run_builtin ho hb (args := #[a.eval x, a.eval x']) (by simp [hargs]) (run_v _ _ _ e1), .inl ⟨r, rfl, e2⟩, e3, e4⟩
  · cases he
end
end
end Go.Proofs.YtblbepjnkehoaaaGreatDoor
/- The abstract operations are sound, twelfth part: empty slices, make, bytes of a string. -/
namespace Go.Proofs.YtblbepjnkehoaaaGreatDoor
open Go

theorem RL_bytes {F : Addr → Prop} {g : Gh} {w : World} : ∀ (l : List UInt8), RL F g w (l.map fun c => [AV.int .u8 c.toNat]).flatten (l.map fun c => Value.int .u8 c.toNat)
  | [] => by simp [RL]
  | c :: l => by
    simp only [List.map_cons, List.flatten_cons, List.cons_append, List.nil_append, RL]
    exact ⟨_, _, rfl, by simp only [R]; exact ⟨trivial, by have := c.toNat_lt; unfold IntKind.has IntKind.min IntKind.max IntKind.signed IntKind.bits; simp; omega⟩, RL_bytes l⟩

theorem modify_push {α : Type} (xs : Array α) (a : α) (f : α → α) : (xs.push a).modify xs.size f = xs.push (f a) := by
  apply Array.ext
  · simp
  · intro i h1 h2
    simp only [Array.size_modify, Array.size_push] at h1
    rw [Array.getElem_modify]
    rcases Nat.lt_or_ge i xs.size with h | h
    · rw [if_neg (by omega), Array.getElem_push_lt h, Array.getElem_push_lt h]
    · have : i = xs.size := by omega
      subst this
      simp
theorem run_markNew (P : Program) (w : World) (cs : Array Value) (e : TypeId) (d : Nat) : (markStringish ⟨w.heap.size, 0, none⟩).run P { w with heap := w.heap.push (.cells cs e), drawn := d } = .ok () { w with heap := w.heap.push (.cells cs e (cs.size, cs.size + 1)), drawn := d } := by
  have hsh : World.shape? { w with heap := w.heap.push (.cells cs e), drawn := d } w.heap.size = some (e, cs.size) := by
    simp [World.shape?]
  simp only [markStringish, Sem.run_bind, run_shape, hsh, Result.andThen_ok, run_freeze, World.freeze]
  simp only [Nat.one_ne_zero, if_false]
  rw [modify_push]
  simp

section
variable {F : Addr → Prop} {g : Gh} {w : World} {P : Program} {H H' : List HB} {t : List AV} {a : Act} {o : Oper} {v : AV} (hs : St F g H w) (ht : Tm F g w t a)
include hs
theorem ok_emptySl {ty e : TypeId} {parts : Array (Nat × Operand)} {i : TypeInfo} (ho : o.op = .buildSlice ty 0 parts) (hp : parts.toList = []) (h1 : P.underlying ty = some (.slice e)) (hi : P.info? e = some i) (he : astep .emptySl (aev t) H = some (v, H')) : OpOk P o a F g H w v H' := by
  simp only [astep, Option.some.injEq, Prod.mk.injEq] at he
  obtain ⟨rfl, rfl⟩ := he
  let w' : World := { w with heap := w.heap.push (.cells #[] e) }
  obtain ⟨s1, s2⟩ := push_data hs (ob := .cells #[] e) (w' := w') rfl ⟨rfl, rfl⟩
  have hp' : parts = #[] := by apply Array.ext'; simpa using hp
  refine ⟨.value (.slice (some ⟨w.heap.size, 0, none⟩) 0 0), w', _, g, ?_, .inl ⟨_, rfl, ?_⟩, s1, s2⟩
  · subst hp'
    simp only [execOp, ho, Instr.buildSlice, Sem.run_bind, run_underlying h1, Result.andThen_ok, run_sizeOf hi, Nat.zero_mul, if_neg (show ¬ (0 : Nat) > 2 ^ 24 by decide), if_true, Sem.run_pure]
    have hr0 : Array.range 0 = #[] := rfl
    simp [Instr.fill, newRow, w', hr0]
  · simp only [R]
    exact ⟨Nat.zero_le _, .inr ⟨_, _, _, 0, 1, rfl, Nat.le_refl _, ⟨by omega, .inr rfl⟩, by simp [RE], rfl⟩⟩

theorem ok_makeSl {ty e : TypeId} {n m : Int} {z : List AV} {i : TypeInfo} (ho : o.op = .makeSlice ty (.const (.int .i64 n)) (.const (.int .i64 m))) (h1 : P.underlying ty = some (.slice e)) (hi : P.info? e = some i) (h2 : zeroCellsOf P e = some z)
    (hsz : 0 < i.size ∧ z.length = i.size ∧ 0 < n ∧ n ≤ 1000 ∧ m = n ∧ i.bytes ≤ 1000) (he : astep (.makeSl i.size z n.toNat) (aev t) H = some (v, H')) : OpOk P o a F g H w v H' := by
  obtain ⟨z1, z2, z3, z4, rfl, z5⟩ := hsz
  have h2' := h2
  unfold zeroCellsOf at h2'
  rw [hi] at h2'
  simp only at h2'
  cases hzv : i.zero with
  | none => rw [hzv] at h2'; cases h2'
  | some zv =>
    rw [hzv] at h2'
    simp only at h2'
    have hzR : RL F g w z zv.cells.toList := toAVs_R h2'
    have hzl := RL_len hzR
    simp only [Array.length_toList] at hzl
    simp only [astep, Option.some.injEq, Prod.mk.injEq] at he
    obtain ⟨rfl, rfl⟩ := he
    have hrep : ∀ n, RL F g w (List.replicate n z).flatten (List.replicate n zv.cells.toList).flatten := by
      intro n
      induction n with
      | zero => simp [RL]
      | succ n ih => simp only [List.replicate_succ, List.flatten_cons]; exact RL_append hzR ih
    have hrepc : ∀ n, (List.replicate n z).flatten.all AV.isCell = true := by
      intro n
      induction n with
      | zero => simp
      | succ n ih => simp only [List.replicate_succ, List.flatten_cons, List.all_append, Bool.and_eq_true]; exact ⟨zero_cells h2', ih⟩
    have hw : IntKind.i64.wrap m = m := by unfold IntKind.wrap IntKind.signed IntKind.bits; simp; omega
    let w' : World := { w with heap := w.heap.push (.cells ((Array.range (m.toNat * i.size)).map (fun x => zv.cells[x % zv.cells.size]!)) e) }
    obtain ⟨s1, s2⟩ := push_data hs (ob := .cells ((Array.range (m.toNat * i.size)).map (fun x => zv.cells[x % zv.cells.size]!)) e) (w' := w') rfl ⟨rfl, rfl⟩
    refine ⟨.value (.slice (some ⟨w.heap.size, 0, none⟩) m.toNat m.toNat), w', _, g, ?_, .inl ⟨_, rfl, ?_⟩, s1, s2⟩
    · have hby : ¬ ((i.bytes : Int) * m > 2 ^ 48) := by
        have : (i.bytes : Int) * m ≤ 1000 * 1000 := Int.mul_le_mul (by omega) z4 (by omega) (by omega)
        omega
      have hm0 : ¬ m < 0 := by omega
      have hc : ((decide (m < 0) || decide ((i.bytes : Int) * m > 2 ^ 48)) || decide (m < 0) || decide (m > m)) = false := by simp; omega
      have hne0 : ¬ m.toNat * i.size = 0 := by
        have := Nat.mul_pos (show 0 < m.toNat by omega) z1; omega
      simp only [execOp, ho, Instr.makeSlice, Act.eval, asInt, asIntOf, Sem.run_bind, run_underlying h1, Result.andThen_ok, run_typeInfo hi, Sem.run_pure, hw, hc, Bool.false_eq_true, if_false, run_askRoom, run_sizeOf hi, if_neg hne0, run_zero hi hzv, newRow]
      rfl
    · simp only [R, List.length_replicate]
      refine ⟨by unfold maxL; omega, .inr ⟨w.heap.size, 0, none, m.toNat, i.size, rfl, Nat.le_refl _, ⟨z1, .inr rfl⟩, ?_, rfl⟩⟩
      refine RE_of (vs := (List.replicate m.toNat zv.cells.toList).flatten) (fun r hr => by rw [List.eq_of_mem_replicate hr]; exact z2) (RL.mono s2.keeps _ _ (hrep _)) (hrepc _) fun j u hj => ⟨?_, .inr ⟨rfl, rfl⟩⟩
      have hn : w'.heap[w.heap.size]? = some (.cells ((Array.range (m.toNat * i.size)).map (fun x => zv.cells[x % zv.cells.size]!)) e) := push_heap_new w _
      simp only [World.cell?, hn, Option.isSome_none, Bool.false_eq_true, if_false, Nat.zero_add]
      rw [← Array.getElem?_toList, zeros_flat zv.cells i.size m.toNat (by omega) z1]
      exact hj

include ht
theorem ok_convSB {s d e : TypeId} {x : Operand} {y : AR} (ho : o.op = .convert s d x) (h1 : P.underlying s = some .string) (h2 : P.underlying d = some (.slice e)) (h3 : P.underlying e = some (.int .u8)) (hx : cvX x = some y) (he : astep (.convSB y) (aev t) H = some (v, H')) : OpOk P o a F g H w v H' := by
  have hr := aev_R ht hx
  simp only [astep] at he
  split at he
  · rename_i l hl
    simp only [Option.some.injEq, Prod.mk.injEq] at he
    obtain ⟨rfl, rfl⟩ := he
    rw [hl] at hr
    obtain ⟨e1, e2⟩ := R_str hr
    let cap := (Question.appendCap l.length 0 e).cut (w.tape w.drawn (.appendCap l.length 0 e))
    have hcap : l.length ≤ cap := by show _ ≤ Question.cut _ _; simp only [Question.cut]; omega
    let cs : Array Value := (l.toArray.map fun b => Value.int .u8 b.toNat) ++ Array.replicate (cap - l.length) (.int .u8 0)
    let w' : World := { w with drawn := w.drawn + 1, heap := w.heap.push (.cells cs e (cs.size, cs.size + 1)) }
    obtain ⟨s1, s2⟩ := push_data hs (ob := .cells cs e (cs.size, cs.size + 1)) (w' := w') rfl ⟨rfl, rfl⟩
    refine ⟨.value (.slice (some ⟨w.heap.size, 0, none⟩) l.length cap), w', _, g, ?_, .inl ⟨_, rfl, ?_⟩, s1, s2⟩
    · simp only [execOp, ho, convert, e1, Sem.run_bind, run_underlying h1, run_underlying h2, run_underlying h3, Result.andThen_ok, Conv.stringToBytes, run_choose, Question.forced, Bool.false_eq_true, if_false, newRow, run_newObj, Sem.run_pure, run_markNew]
      rfl
    · simp only [R, List.length_map]
      refine ⟨e2, .inr ⟨w.heap.size, 0, none, cap, 1, rfl, hcap, ⟨by omega, .inr rfl⟩, ?_, trivial⟩⟩
      refine RE_of (vs := l.map fun c => Value.int .u8 c.toNat) (by simp) ?_ (by simp [List.all_flatten, AV.isCell]) fun j u hj => ⟨?_, .inr ⟨rfl, rfl⟩⟩
      · exact RL_bytes l
      · have hn : w'.heap[w.heap.size]? = some (.cells cs e (cs.size, cs.size + 1)) := push_heap_new w _
        simp only [World.cell?, hn, Option.isSome_none, Bool.false_eq_true, if_false, Nat.zero_add]
        have hj' := (List.getElem?_eq_some_iff.1 hj).1
        rw [← Array.getElem?_toList]
        simp only [cs, Array.toList_append, Array.toList_map]
        rw [List.getElem?_append_left (by simpa using hj')]
        exact hj
  · cases he
end
end Go.Proofs.YtblbepjnkehoaaaGreatDoor
/- Every abstract operation but a call is sound. -/
namespace Go.Proofs.YtblbepjnkehoaaaGreatDoor
open Go

section
variable {F : Addr → Prop} {g : Gh} {w : World} {P : Program} {H H' : List HB} {t : List AV} {a : Act} {o : Oper} {v : AV}

theorem step_sound (hs : St F g H w) (ht : Tm F g w t a) {ao : AOp} (hc : cmpOp P o.op = some ao) (he : astep ao (aev t) H = some (v, H')) : OpOk P o a F g H w v H' := by
  cases hop : o.op <;> rw [hop] at hc <;> simp only [cmpOp] at hc <;> try (cases hc; done)
  case move x =>
    simp only [Option.map_eq_some_iff] at hc; obtain ⟨y, hy, rfl⟩ := hc
    exact ok_mov hs ht (.inl hop) hy he
  case assign x =>
    simp only [Option.map_eq_some_iff] at hc; obtain ⟨y, hy, rfl⟩ := hc
    exact ok_mov hs ht (.inr hop) hy he
  case pick c x x' =>
    split at hc
    · rename_i h1 h2 h3
      simp only [Option.some.injEq] at hc; subst hc
      exact ok_pick hs ht hop h1 h2 h3 he
    · cases hc
  case alloc ty =>
    simp only [Option.map_eq_some_iff] at hc; obtain ⟨z, hz, rfl⟩ := hc
    exact ok_alloc hs hop hz he
  case box ty x =>
    split at hc
    · simp only [Option.map_eq_some_iff] at hc; obtain ⟨z, hz, rfl⟩ := hc
      exact ok_boxT hs ht hop hz he
    · simp only [Option.map_eq_some_iff] at hc; obtain ⟨z, hz, rfl⟩ := hc
      exact ok_box hs ht hop hz he
  case build ty parts =>
    split at hc
    · rename_i h1 h2
      split at hc
      · rename_i h3
        simp only [Option.map_eq_some_iff] at hc; obtain ⟨ps, hps, rfl⟩ := hc
        exact ok_build hs ht hop h1 h2 h3 hps he
      · cases hc
    · cases hc
  case buildSlice ty len parts =>
    split at hc
    · rename_i h1
      split at hc
      · rename_i h2 h3 h4
        split at hc
        · rename_i h5
          simp only [Option.some.injEq] at hc; subst hc
          exact ok_buildSl hs ht hop h1 h2 h3 h4 h5 he
        · split at hc
          · rename_i h5
            obtain ⟨rfl, h6⟩ := h5
            simp only [Option.some.injEq] at hc; subst hc
            exact ok_emptySl hs hop h6 h1 h2 he
          · cases hc
      · cases hc
    · cases hc
  case load ty x =>
    split at hc
    · rename_i h1 h2 h3
      split at hc
      · rename_i h4
        simp only [Option.some.injEq] at hc; subst hc
        exact ok_load hs ht hop h1 h2 h3 h4 he
      · cases hc
    · cases hc
  case store ty p x =>
    split at hc
    · rename_i h1 h2 h3
      split at hc
      · simp only [Option.some.injEq] at hc; subst hc
        exact ok_store hs ht hop h1 h2 h3 he
      · cases hc
    · cases hc
  case nilCheck x =>
    simp only [Option.map_eq_some_iff] at hc; obtain ⟨z, hz, rfl⟩ := hc
    exact ok_nilck hs ht hop hz he
  case binOp op ty x y yt =>
    split at hc
    · rename_i hq
      split at hc
      · rename_i c h1
        simp only [Option.map_eq_some_iff] at hc; obtain ⟨z, hz, rfl⟩ := hc
        exact ok_binNil hs ht hop hq h1 hz he
      · split at hc
        · rename_i hb
          split at hc
          · rename_i h1 h2
            simp only [Option.some.injEq] at hc; subst hc
            refine ok_binB hs ht hop hq ?_ h1 h2 he
            unfold isBoolT at hb
            split at hb
            · assumption
            · cases hb
          · cases hc
        · split at hc
          · rename_i h1 h2
            simp only [Option.some.injEq] at hc; subst hc
            exact ok_bin hs ht hop h1 h2 he
          · cases hc
    · split at hc
      · rename_i h1 h2
        simp only [Option.some.injEq] at hc; subst hc
        exact ok_bin hs ht hop h1 h2 he
      · cases hc
  case unOp op ty x =>
    simp only [Option.map_eq_some_iff] at hc; obtain ⟨z, hz, rfl⟩ := hc
    exact ok_un hs ht hop hz he
  case convert s d x =>
    split at hc
    · rename_i h1 h2 h3
      simp only [Option.some.injEq] at hc; subst hc
      exact ok_convInt hs ht hop h1 h2 h3 he
    · rename_i h1 h2 h3
      simp only [Option.some.injEq] at hc; subst hc
      exact ok_convS hs ht hop h1 h2 h3 he
    · rename_i h1 h2 h3
      split at hc
      · rename_i h4
        simp only [Option.some.injEq] at hc; subst hc
        exact ok_convSB hs ht hop h1 h2 h4 h3 he
      · cases hc
    · cases hc
  case makeSlice ty l c =>
    unfold cmpMake at hc
    split at hc <;> try (cases hc; done)
    split at hc
    · rename_i h1
      split at hc
      · rename_i h2 h3
        split at hc
        · rename_i h4
          simp only [Option.some.injEq] at hc; subst hc
          exact ok_makeSl hs hop h1 h2 h3 h4 he
        · cases hc
      · cases hc
    · cases hc
  case makeInterface ty x =>
    split at hc
    · cases hc
    · cases hc
    · rename_i d hn h1
      simp only [Option.map_eq_some_iff] at hc; obtain ⟨z, hz, rfl⟩ := hc
      refine ok_mkif hs ht hop h1 (fun ms e => ?_) hz he
      subst e; exact hn ms rfl
  case makeFunc f first cap =>
    split at hc
    · rename_i h1 h2
      simp only [Option.some.injEq] at hc; subst hc
      exact ok_mkfn hs ht hop h1 h2 he
    · cases hc
  case slice ty x lo hi mx =>
    split at hc
    · rename_i e x' lo' hi' mx' h1 h2 h3 h4 h5
      split at hc
      · rename_i i hi'
        simp only [Option.some.injEq] at hc; subst hc
        exact ok_slice hs ht hop h1 hi' h2 h3 h4 h5 he
      · cases hc
    · rename_i x' lo' hi' h1 h2 h3 h4 h5
      simp only [Option.some.injEq] at hc; subst hc
      cases mx with
      | none => exact ok_sslice hs ht hop h1 h2 h3 h4 he
      | some m => simp only [cvO, Option.map_eq_some_iff] at h5; obtain ⟨_, _, h⟩ := h5; cases h
    · cases hc
  case fieldAddr s x f =>
    split at hc
    · rename_i h1 h2
      split at hc
      · rename_i h3
        split at hc
        · rename_i h4
          split at hc
          · rename_i h5
            simp only [Option.some.injEq] at hc; subst hc
            exact ok_faddr hs ht hop h1 h3 h4 h5 h2 he
          · cases hc
        · cases hc
      · cases hc
    · cases hc
  case indexAddr ty x ix =>
    split at hc
    · rename_i h1 h2 h3
      split at hc
      · rename_i h4
        split at hc
        · rename_i h5
          simp only [Option.some.injEq] at hc; subst hc
          exact ok_iaddr hs ht hop h1 h4 h5 h2 h3 he
        · cases hc
      · cases hc
    · cases hc
  case index ty x ix =>
    split at hc
    · rename_i h1 h2 h3
      simp only [Option.some.injEq] at hc; subst hc
      exact ok_sidx hs ht hop h1 h2 h3 he
    · cases hc
  case extract x n =>
    simp only [Option.map_eq_some_iff] at hc; obtain ⟨z, hz, rfl⟩ := hc
    exact ok_extract hs ht hop hz he
  case call c =>
    unfold cmpCall at hc
    split at hc
    · split at hc
      · simp only [Option.some.injEq] at hc; subst hc
        simp [astep] at he
      · cases hc
    · cases hc
    · rename_i b hb
      split at hc
      · rename_i x ty r ha hty
        split at hc
        · rename_i h1
          simp only [Option.map_eq_some_iff] at hc; obtain ⟨z, hz, rfl⟩ := hc
          exact ok_slen hs ht hop hb ha hty h1 hz he
        · rename_i e h1
          simp only [Option.map_eq_some_iff] at hc; obtain ⟨z, hz, rfl⟩ := hc
          exact ok_len hs ht hop hb ha hty h1 hz he
        · cases hc
      · simp only [Option.map_eq_some_iff] at hc; obtain ⟨z, hz, rfl⟩ := hc
        exact ok_min hs ht hop hb hz he
      · simp only [Option.map_eq_some_iff] at hc; obtain ⟨z, hz, rfl⟩ := hc
        exact ok_max hs ht hop hb hz he
      · rename_i x y ty u ha hty
        split at hc
        · rename_i h1 h2 h3 h4
          split at hc
          · rename_i h5 h6
            split at hc
            · rename_i h7
              simp only [Option.some.injEq] at hc; subst hc
              exact ok_append hs ht hop hb ha hty h1 rfl h2 h5 h6 h7 h3 h4 he
            · cases hc
          · cases hc
        · rename_i h1 h2 h3 h4
          split at hc
          · rename_i h5 h6
            split at hc
            · rename_i h7
              simp only [Option.some.injEq] at hc; subst hc
              exact ok_appendS hs ht hop hb ha hty h1 h2 h5 h6 h7 h3 h4 he
            · cases hc
          · cases hc
        · cases hc
      · cases hc
end
end Go.Proofs.YtblbepjnkehoaaaGreatDoor
/- Abstract code: calls, runs of operations, regions whose order is that of the text. -/
namespace Go.Proofs.YtblbepjnkehoaaaGreatDoor
open Go

/-- A function that a call enters. -/
def enterable (P : Program) (f : FuncId) : Bool :=
  match P.funcs[f]? with
  | some fn => fn.name != "runtime.NumGoroutine" && fn.body.isSome
  | none => false

/-- Which bytes of ASCII are blanks. -/
def blank (c : Nat) : Bool := c == 32 || (9 ≤ c && c ≤ 13)
/-- A variable holds an error, one the table of blanks, one some int, and they are not written. -/
structure GlobOk (P : Program) (F : Addr → Prop) (w : World) : Prop where
  rng : F ⟨gRng, 0, none⟩ ∧ ∃ te pe, w.cell? ⟨gRng, 0, none⟩ = some (.iface te pe)
  asc : ∀ c : Nat, c < 256 → F ⟨gAsc, c, none⟩ ∧ w.cell? ⟨gAsc, c, none⟩ = some (.int .u8 (if blank c then 1 else 0))
  mxl : F ⟨gMxl, 0, none⟩ ∧ ∃ m, w.cell? ⟨gMxl, 0, none⟩ = some (.int .i64 m)
theorem GlobOk.mono {P : Program} {F F' : Addr → Prop} {g g' : Gh} {w w' : World} (h : GlobOk P F w) (K : Keeps F g w F' g' w') : GlobOk P F' w' where
  rng := by
    obtain ⟨h1, te, pe, h2⟩ := h.rng
    exact ⟨K.sub _ h1, te, pe, (K.keep _ h1).trans h2⟩
  asc c hc := by
    obtain ⟨h1, h2⟩ := h.asc c hc
    exact ⟨K.sub _ h1, (K.keep _ h1).trans h2⟩
  mxl := by
    obtain ⟨h1, m, h2⟩ := h.mxl
    exact ⟨K.sub _ h1, m, (K.keep _ h1).trans h2⟩

/-- The contract of a call at the level of data: with these arguments, over this abstract heap, it returns this, and leaves that heap. -/
def HCall (P : Program) (f : FuncId) (args : List AV) (H : List HB) (res : AV) (H' : List HB) : Prop :=
  enterable P f = true ∧ ∀ F g w vs, GlobOk P F w → St F g H w → RL F g w args vs →
    Calls P f vs.toArray w fun e w' => ∃ v F' g', e = .returned v ∧ R F' g' w' res v ∧ St F' g' H' w' ∧ Ext F g H w F' g' H' w'

/-- What an operation comes to. -/
def ORes (P : Program) (op : AOp) (ρ : AR → AV) (H : List HB) (v : AV) (H' : List HB) : Prop :=
  match op with
  | .call f args => ∃ n first cap, ρ f = .fn (.func n) first cap ∧ HCall P n (first ++ args.map ρ ++ cap) H v H'
  | op => astep op ρ H = some (v, H')

def putA (t : List AV) (dst : Option Nat) (v : AV) : List AV := match dst with | some d => t.set d v | none => t

section
variable {F : Addr → Prop} {g : Gh} {w : World} {P : Program}

theorem Tm.mono {F' : Addr → Prop} {g' : Gh} {w' : World} (K : Keeps F g w F' g' w') {t : List AV} {a : Act} (h : Tm F g w t a) : Tm F' g' w' t a := RL.mono K _ _ h
theorem Tm.put {t : List AV} {a : Act} (h : Tm F g w t a) {v : AV} {u : Value} (hv : R F g w v u) (dst : Option Nat) : Tm F g w (putA t dst v) (a.put dst u) := by
  cases dst with
  | none => exact h
  | some d =>
    have := RL_set h hv d
    simpa [Tm, putA, Act.put] using this

theorem callFunc_run {f : FuncId} (h : enterable P f = true) (args : Array Value) : (callFunc f args).run P w = .ok (.enter f args) w := by
  unfold enterable at h
  cases hf : P.funcs[f]? with
  | none => rw [hf] at h; cases h
  | some fn =>
    rw [hf] at h
    simp only [Bool.and_eq_true, bne_iff_ne, ne_eq] at h
    have h2 : fn.body.isNone = false := by
      cases hb : fn.body with
      | none => rw [hb] at h; simp at h
      | some _ => rfl
    simp only [callFunc, Sem.run_bind, run_program, Result.andThen_ok, hf]
    have h1 : (fn.name == "runtime.NumGoroutine") = false := by simpa using h.1
    simp only [h1, Bool.false_eq_true, if_false, h2]
    rfl

/-- One operation. -/
theorem op_sound {H H' : List HB} {t : List AV} {a : Act} {o : Oper} {v : AV} (hG : GlobOk P F w) (hs : St F g H w) (ht : Tm F g w t a) {ao : AOp} (hc : cmpOp P o.op = some ao) (he : ORes P ao (aev t) H v H')
    {K : Act → World → Prop} {Q : Exit → Act → World → Prop} (hK : ∀ w' F' g' u, R F' g' w' v u → St F' g' H' w' → Ext F g H w F' g' H' w' → K (a.put o.dst u) w') : o.wp P a w K Q := by
  by_cases hcall : ∃ f args, ao = .call f args
  · obtain ⟨f, args, rfl⟩ := hcall
    obtain ⟨n, first, cap, hf, hen, hcalls⟩ := he
    -- the operation is a call of a value
    have hop : ∃ c fo, o.op = .call c ∧ c.callee = .value fo ∧ cvX fo = some f ∧ cvXs c.args.toList = some args := by
      cases hop : o.op <;> rw [hop] at hc <;> simp only [cmpOp] at hc <;> try (first | (cases hc; done) | (simp only [Option.map_eq_some_iff] at hc; obtain ⟨_, _, hx⟩ := hc; cases hx; done) | (repeat' (split at hc)) <;> first | (cases hc; done) | (simp only [Option.map_eq_some_iff] at hc; obtain ⟨_, _, hx⟩ := hc; cases hx; done))
      case makeSlice =>
        unfold cmpMake at hc
        (repeat' (split at hc)) <;> cases hc
      case call c =>
        unfold cmpCall at hc
        split at hc
        · rename_i fo hfo
          split at hc
          · rename_i h1 h2
            simp only [Option.some.injEq, AOp.call.injEq] at hc
            obtain ⟨rfl, rfl⟩ := hc
            exact ⟨c, fo, rfl, hfo, h1, h2⟩
          · cases hc
        · cases hc
        · (repeat' (split at hc)) <;> first | (cases hc; done) | (simp only [Option.map_eq_some_iff] at hc; obtain ⟨_, _, hx⟩ := hc; cases hx; done)
    obtain ⟨c, fo, h1, h2, h3, h4⟩ := hop
    have hrf := aev_R ht h3
    rw [hf] at hrf
    obtain ⟨a1, a2, e1, e2, e3⟩ := R_fn hrf
    have hra := aev_RL ht h4
    have hrl := RL_append (RL_append e2 hra) e3
    have hcl := hcalls F g w _ hG hs hrl
    have hrun : (execOp a.eval o).run P w = .ok (.enter n (a1.toList ++ c.args.toList.map a.eval ++ a2.toList).toArray) w := by
      simp only [execOp, h1, resolve, h2, e1, Deferred.ofValue, Sem.run_bind, Sem.run_pure, Result.andThen_ok, invoke, callFunc_run hen]
      congr 2
      apply Array.ext'
      simp
    unfold Oper.wp
    rw [hrun, Oper.upon_enter]
    refine hcl.mono fun e w' ⟨u, F', g', he, r1, r2, r3⟩ => ?_
    subst he
    exact hK w' F' g' u r1 r2 r3
  · have he' : astep ao (aev t) H = some (v, H') := by
      cases ao <;> first | exact he | (exact absurd ⟨_, _, rfl⟩ hcall)
    obtain ⟨r, w', F', g', h1, h2, h3, h4⟩ := step_sound hs ht hc he'
    unfold Oper.wp
    rw [h1]
    rcases h2 with ⟨u, rfl, h2⟩ | ⟨rfl, rfl⟩
    · rw [Oper.upon_value]; exact hK w' F' g' u h2 h3 h4
    · rw [Oper.upon_skip]; exact hK w' F' g' undef R_undef h3 h4

/-! ### Guards -/
def guardA (t : List AV) : Option (Nat × Bool) → Bool
  | none => true
  | some (d, want) => match t[d]? with
    | some (.bool b) => b == want
    | _ => false
def cmpGuard (ops : Array Oper) : Option (Nat × Bool) → Option (Option (Nat × Bool))
  | none => some none
  | some (j, want) => match (ops[j]?).bind (·.dst) with
    | some d => some (some (d, want))
    | none => none
theorem guard_sound {t : List AV} {a : Act} (ht : Tm F g w t a) {ops : Array Oper} {o : Oper} {gd : Option (Nat × Bool)} (h : cmpGuard ops o.guard = some gd) : Region.wanted o (yielded ops a.tmps) = guardA t gd := by
  unfold Region.wanted
  cases hg : o.guard with
  | none => rw [hg] at h; simp only [cmpGuard, Option.some.injEq] at h; subst h; rfl
  | some p =>
    obtain ⟨j, want⟩ := p
    rw [hg] at h
    simp only [cmpGuard] at h
    split at h
    · rename_i d hd
      simp only [Option.some.injEq] at h; subst h
      simp only [yielded, hd, Option.bind_some, guardA]
      rcases Nat.lt_or_ge d t.length with hl | hl
      · obtain ⟨u, e1, e2⟩ := RL_get ht d t[d] (by simp [hl])
        rw [List.getElem?_eq_getElem hl]
        have e1' : a.tmps[d]? = some u := by simpa using e1
        rw [e1']
        cases hx : t[d] <;> rw [hx] at e2
        case bool b => rw [R_bool e2]; cases b <;> cases want <;> rfl
        all_goals
          simp only [R] at e2
          first
            | (obtain ⟨_, ⟨_, rfl, _⟩ | ⟨_, _, _, _, _, rfl, _⟩⟩ := e2 <;> rfl)
            | (subst e2; rfl)
            | (obtain ⟨rfl, _⟩ := e2; rfl)
            | (obtain ⟨_, _, _, rfl⟩ := e2; rfl)
            | (obtain ⟨_, _, rfl, _⟩ := e2; rfl)
            | (obtain ⟨_, rfl, _⟩ := e2; rfl)
      · have hlen := RL_len ht
        rw [List.getElem?_eq_none hl]
        have : a.tmps[d]? = none := by rw [Array.getElem?_eq_none]; simp at hlen; omega
        rw [this]; rfl
    · cases h

/-! ### Runs of operations in the order of the text -/
def cmpAO (P : Program) (ops : Array Oper) (o : Oper) : Option AO :=
  match cmpOp P o.op, cmpGuard ops o.guard with
  | some op, some gd => some ⟨o.dst, op, gd⟩
  | _, _ => none
def cmpAOs (P : Program) (ops : Array Oper) : List Oper → Option (List AO)
  | [] => some []
  | o :: r => match cmpAO P ops o, cmpAOs P ops r with
    | some x, some xs => some (x :: xs)
    | _, _ => none
def arun (P : Program) : List AO → List AV → List HB → (List AV → List HB → Prop) → Prop
  | [], t, H, K => K t H
  | o :: r, t, H, K => (guardA t o.guard = true ∧ ∃ v H', ORes P o.op (aev t) H v H' ∧ arun P r (putA t o.dst v) H' K) ∨ (guardA t o.guard = false ∧ arun P r (putA t o.dst .undef) H K)

/-- What the abstract state stands for. -/
def Sim (P : Program) (F : Addr → Prop) (g : Gh) (H : List HB) (w : World) (t : List AV) (a : Act) : Prop := St F g H w ∧ Tm F g w t a ∧ a.defers = [] ∧ GlobOk P F w
theorem put_defers (a : Act) (dst : Option Tmp) (v : Value) : (a.put dst v).defers = a.defers := by cases dst <;> rfl

theorem arun_sound {ops : Array Oper} {Q : Exit → Act → World → Prop} {K : List AV → List HB → Prop} : ∀ (l : List Oper) (aos : List AO) (k : Nat) (F : Addr → Prop) (g : Gh) (H : List HB) (w : World) (t : List AV) (a : Act), (∀ j, l[j]? = ops[k + j]?) → cmpAOs P ops l = some aos →
    Sim P F g H w t a → arun P aos t H K → (∀ F' g' H' w' t' a', Sim P F' g' H' w' t' a' → Ext F g H w F' g' H' w' → K t' H' → Q .normal a' w') → wpOps P ops Q (List.range' k l.length) a w
  | [], aos, k, F, g, H, w, t, a, _, hc, hs, h, hQ => by
    simp only [cmpAOs, Option.some.injEq] at hc; subst hc
    exact hQ F g H w t a hs (Ext.refl _ _ _ _) h
  | o :: l, aos, k, F, g, H, w, t, a, hl, hc, hs, h, hQ => by
    simp only [cmpAOs] at hc
    split at hc
    · rename_i x xs h1 h2
      simp only [Option.some.injEq] at hc; subst hc
      have ho : ops[k]? = some o := by simpa using (hl 0).symm
      have hl' : ∀ j, l[j]? = ops[k + 1 + j]? := fun j => by
        have := hl (j + 1)
        simp only [List.getElem?_cons_succ] at this
        rw [this]; congr 1; omega
      unfold cmpAO at h1
      split at h1
      · rename_i op gd c1 c2
        simp only [Option.some.injEq] at h1; subst h1
        obtain ⟨s1, s2, s3, s4⟩ := hs
        have hg := guard_sound s2 c2
        simp only [List.length_cons, List.range'_succ, wpOps, ho, hg]
        simp only [arun] at h
        rcases h with ⟨g1, v, H', e1, e2⟩ | ⟨g1, e2⟩
        · simp only [g1, if_true]
          refine .inl (op_sound s4 s1 s2 c1 e1 fun w' F' g' u r1 r2 r3 => ?_)
          exact arun_sound l xs (k + 1) F' g' H' w' _ _ hl' h2 ⟨r2, (s2.mono r3.keeps).put r1 _, by rw [put_defers]; exact s3, s4.mono r3.keeps⟩ e2 fun F2 g2 H2 w2 t2 a2 q1 q2 q3 => hQ F2 g2 H2 w2 t2 a2 q1 (r3.trans q2) q3
        · simp only [g1, Bool.false_eq_true, if_false]
          exact arun_sound l xs (k + 1) F g H w _ _ hl' h2 ⟨s1, s2.put R_undef _, by rw [put_defers]; exact s3, s4⟩ e2 hQ
      · cases h1
    · cases hc
end
end Go.Proofs.YtblbepjnkehoaaaGreatDoor
/- Regions that draw their order: one run in the order of the text serves every order. -/
namespace Go.Proofs.YtblbepjnkehoaaaGreatDoor
open Go

/-- The temporaries that an operand, an operation looks at. -/
def AR.ts : AR → List Nat
  | .tmp t => [t]
  | .cst _ => []
def ARs.ts (xs : List AR) : List Nat := xs.flatMap AR.ts
def oTs (x : Option AR) : List Nat := match x with | some y => y.ts | none => []
def AOp.ts : AOp → List Nat
  | .emptySl | .makeSl _ _ _ => []
  | .mov x | .box x | .boxT _ x | .convSB x | .load _ _ x | .nilck x | .binNil _ _ x | .un _ x | .convInt _ x | .faddr _ x | .extract x _ | .len x | .slen x | .convS x | .mkif _ x => x.ts
  | .pick c a b => c.ts ++ a.ts ++ b.ts
  | .alloc _ => []
  | .build _ ps => ps.flatMap fun p => p.2.2.ts
  | .buildSl _ _ _ ps => ps.flatMap fun p => p.2.ts
  | .store _ a x | .bin _ a x | .binB _ a x | .iaddr _ a x | .sidx a x | .append _ _ a x | .appendS _ a x => a.ts ++ x.ts
  | .mkfn _ a b => ARs.ts a ++ ARs.ts b
  | .slice _ x lo hi mx => x.ts ++ oTs lo ++ oTs hi ++ oTs mx
  | .sslice x lo hi => x.ts ++ oTs lo ++ oTs hi
  | .min xs | .max xs => ARs.ts xs
  | .call f args => f.ts ++ ARs.ts args
def AO.looks (o : AO) : List Nat := o.op.ts ++ (match o.guard with | some (d, _) => [d] | none => [])

theorem AR_congr {t t' : List AV} {x : AR} (h : ∀ i ∈ x.ts, t.getD i .undef = t'.getD i .undef) : aev t x = aev t' x := by
  cases x with
  | tmp i => exact h i (by simp [AR.ts])
  | cst v => rfl
theorem ARs_congr {t t' : List AV} {xs : List AR} (h : ∀ i ∈ ARs.ts xs, t.getD i .undef = t'.getD i .undef) : xs.map (aev t) = xs.map (aev t') :=
  List.map_congr_left fun x hx => AR_congr fun i hi => h i (by simp only [ARs.ts, List.mem_flatMap]; exact ⟨x, hx, hi⟩)
theorem oAR_congr {t t' : List AV} {x : Option AR} (h : ∀ i ∈ oTs x, t.getD i .undef = t'.getD i .undef) : x.map (aev t) = x.map (aev t') := by
  cases x with
  | none => rfl
  | some y => simp only [Option.map_some]; rw [AR_congr (t' := t') h]
theorem ORes_congr {P : Program} {op : AOp} {t t' : List AV} (h : ∀ i ∈ op.ts, t.getD i .undef = t'.getD i .undef) {H : List HB} {v : AV} {H' : List HB} (hr : ORes P op (aev t) H v H') : ORes P op (aev t') H v H' := by
  cases op <;> simp only [AOp.ts, List.mem_append] at h <;> simp only [ORes, astep] at hr ⊢
  case build z ps =>
    have : (ps.map fun p => (p.1, p.2.1, aev t p.2.2)) = ps.map fun p => (p.1, p.2.1, aev t' p.2.2) := List.map_congr_left fun p hp => by
      rw [AR_congr (t' := t') fun i hi => h i (List.mem_flatMap.2 ⟨p, hp, hi⟩)]
    rw [← this]; exact hr
  case buildSl k z n ps =>
    have : (ps.map fun p => (p.1, aev t p.2)) = ps.map fun p => (p.1, aev t' p.2) := List.map_congr_left fun p hp => by
      rw [AR_congr (t' := t') fun i hi => h i (List.mem_flatMap.2 ⟨p, hp, hi⟩)]
    rw [← this]; exact hr
  case pick c a b =>
    rw [← AR_congr (t := t) fun i hi => h i (.inl (.inl hi)), ← AR_congr (t := t) (x := a) fun i hi => h i (.inl (.inr hi)), ← AR_congr (t := t) (x := b) fun i hi => h i (.inr hi)]; exact hr
  case mkfn f a b =>
    rw [← ARs_congr (t := t) fun i hi => h i (.inl hi), ← ARs_congr (t := t) (xs := b) fun i hi => h i (.inr hi)]; exact hr
  case slice k x lo hi mx =>
    rw [← AR_congr (t := t) fun i hi => h i (.inl (.inl (.inl hi))), ← oAR_congr (t := t) (x := lo) fun i hi => h i (.inl (.inl (.inr hi))), ← oAR_congr (t := t) (x := hi) fun i hi => h i (.inl (.inr hi)), ← oAR_congr (t := t) (x := mx) fun i hi => h i (.inr hi)]; exact hr
  case sslice x lo hi =>
    rw [← AR_congr (t := t) fun i hi => h i (.inl (.inl hi)), ← oAR_congr (t := t) (x := lo) fun i hi => h i (.inl (.inr hi)), ← oAR_congr (t := t) (x := hi) fun i hi => h i (.inr hi)]; exact hr
  case call f args =>
    rw [← AR_congr (t := t) fun i hi => h i (.inl hi), ← ARs_congr (t := t) fun i hi => h i (.inr hi)]; exact hr
  case min xs => rw [← ARs_congr (t := t) h]; exact hr
  case max xs => rw [← ARs_congr (t := t) h]; exact hr
  case alloc z => exact hr
  case emptySl => exact hr
  case makeSl => exact hr
  all_goals first
    | (rw [← AR_congr (t := t) h]; exact hr)
    | (rename_i x y; rw [← AR_congr (t := t) fun i hi => h i (.inl hi), ← AR_congr (t := t) (x := y) fun i hi => h i (.inr hi)]; exact hr)
    | (rename_i x y _; rw [← AR_congr (t := t) fun i hi => h i (.inl hi), ← AR_congr (t := t) (x := y) fun i hi => h i (.inr hi)]; exact hr)

theorem putA_ne {t : List AV} {dst : Option Nat} {v : AV} {i : Nat} (h : ∀ d, dst = some d → i ≠ d) : (putA t dst v).getD i .undef = t.getD i .undef := by
  cases dst with
  | none => rfl
  | some d =>
    have := h d rfl
    simp [putA, List.getElem?_set_ne (Ne.symm this)]
theorem putA_ne' {t : List AV} {dst : Option Nat} {v : AV} {i : Nat} (h : ∀ d, dst = some d → i ≠ d) : (putA t dst v)[i]? = t[i]? := by
  cases dst with
  | none => rfl
  | some d =>
    have := h d rfl
    simp [putA, List.getElem?_set_ne (Ne.symm this)]
theorem putA_comm {t : List AV} {d e : Option Nat} {v u : AV} (h : ∀ x, d = some x → e ≠ some x) : putA (putA t d v) e u = putA (putA t e u) d v := by
  cases d with
  | none => rfl
  | some x =>
    cases e with
    | none => rfl
    | some y =>
      have : x ≠ y := fun e => h x rfl (e ▸ rfl)
      simp only [putA]
      exact List.set_comm _ _ this

/-- Neither looks at what the other writes. -/
def apartA (x y : AO) : Bool :=
  (match x.dst with | some d => !(y.looks).contains d && y.dst != some d | none => true) &&
  (match y.dst with | some d => !(x.looks).contains d | none => true)
theorem apartA_spec {x y : AO} (h : apartA x y = true) : (∀ d, x.dst = some d → d ∉ y.looks) ∧ (∀ d, x.dst = some d → y.dst ≠ some d) ∧ (∀ d, y.dst = some d → d ∉ x.looks) := by
  refine ⟨fun d hd => ?_, fun d hd => ?_, fun d hd => ?_⟩ <;> simp [apartA, hd] at h
  · exact h.1.1
  · exact h.1.2
  · exact h.2
theorem apartA_symm {x y : AO} (h : apartA x y = true) : apartA y x = true := by
  obtain ⟨h1, h2, h3⟩ := apartA_spec h
  unfold apartA
  cases hx : x.dst <;> cases hy : y.dst <;> simp [hx, hy] at h1 h2 h3 ⊢
  · exact h3
  · exact h1
  · exact ⟨⟨h3, fun e => h2 e.symm⟩, h1⟩

theorem ORes_put {P : Program} {o : AO} {t : List AV} {dst : Option Nat} {v : AV} (h : ∀ d, dst = some d → d ∉ o.looks) {H : List HB} {u : AV} {H' : List HB} : ORes P o.op (aev (putA t dst v)) H u H' ↔ ORes P o.op (aev t) H u H' := by
  have key : ∀ i ∈ o.op.ts, (putA t dst v).getD i .undef = t.getD i .undef := fun i hi => putA_ne fun d hd e => h d hd (by subst e; simp only [AO.looks, List.mem_append]; exact .inl hi)
  exact ⟨ORes_congr key, ORes_congr fun i hi => (key i hi).symm⟩
theorem guard_put {o : AO} {t : List AV} {dst : Option Nat} {v : AV} (h : ∀ d, dst = some d → d ∉ o.looks) : guardA (putA t dst v) o.guard = guardA t o.guard := by
  cases hg : o.guard with
  | none => rfl
  | some p =>
    obtain ⟨d, want⟩ := p
    simp only [guardA]
    rw [putA_ne' fun e he x => h e he (by subst x; simp [AO.looks, hg])]

section
variable (P : Program) (aos : List AO) (waits : List (List Nat)) (fl : Nat → Bool) (np : Nat) (C : List HB → Prop)

def readyA (listed : Array Bool) : List Nat := (List.range aos.length).filter fun i => !listed.getD i true && (waits.getD i []).all fun j => listed.getD j false

/-- One operation, whenever it comes up. Quiet operations give one value whatever the heap of the class. -/
def aOp (i : Nat) (next : List AV → List HB → Prop) (t : List AV) (H : List HB) : Prop :=
  match aos[i]? with
  | none => next t H
  | some o => if guardA t o.guard = true then (if fl i = true then C H ∧ ∃ v, (∀ H2, C H2 → ORes P o.op (aev t) H2 v H2) ∧ next (putA t o.dst v) H else ∃ v H', ORes P o.op (aev t) H v H' ∧ (C H' ∨ np ≤ i) ∧ next (putA t o.dst v) H')
      else next (putA t o.dst .undef) H

def aAny (K : List AV → List HB → Prop) : Nat → Array Bool → List AV → List HB → Prop
  | 0, listed, t, H => readyA aos waits listed = [] ∧ K t H
  | fuel + 1, listed, t, H => (readyA aos waits listed = [] → K t H) ∧ ∀ i ∈ readyA aos waits listed, aOp P aos fl np C i (aAny K fuel (listed.setIfInBounds i true)) t H

theorem mem_readyA {i : Nat} {listed : Array Bool} : i ∈ readyA aos waits listed ↔ i < aos.length ∧ listed.getD i true = false ∧ ∀ j ∈ waits.getD i [], listed.getD j false = true := by
  unfold readyA
  simp [List.mem_filter, List.all_eq_true]
theorem readyA_mono {i j : Nat} {listed : Array Bool} (h : j ∈ readyA aos waits listed) (hne : j ≠ i) : j ∈ readyA aos waits (listed.setIfInBounds i true) := by
  rw [mem_readyA] at *
  exact ⟨h.1, by rw [getD_set_ne true (Ne.symm hne)]; exact h.2.1, fun x hx => getD_set_true (h.2.2 x hx)⟩

/-- What operation i gives, taken now. -/
def Yields (i : Nat) (o : AO) (t : List AV) (H : List HB) (v : AV) (H' : List HB) : Prop :=
  (guardA t o.guard = true ∧ (if fl i = true then (∀ H2, C H2 → ORes P o.op (aev t) H2 v H2) ∧ H' = H else ORes P o.op (aev t) H v H' ∧ (C H' ∨ np ≤ i))) ∨ (guardA t o.guard = false ∧ v = .undef ∧ H' = H)

variable {P aos waits fl np C}
theorem aOp_mono {i : Nat} {n n' : List AV → List HB → Prop} (h : ∀ t H, n t H → n' t H) {t : List AV} {H : List HB} (ha : aOp P aos fl np C i n t H) : aOp P aos fl np C i n' t H := by
  unfold aOp at *
  split
  · rename_i he; simp only [he] at ha; exact h _ _ ha
  · rename_i o ho
    simp only [ho] at ha
    split
    · rename_i hg
      simp only [hg, if_true] at ha
      split
      · rename_i hf; simp only [hf, if_true] at ha; obtain ⟨c, v, a, b⟩ := ha; exact ⟨c, v, a, h _ _ b⟩
      · rename_i hf; simp only [hf] at ha; obtain ⟨v, H', a, b, c⟩ := ha; exact ⟨v, H', a, b, h _ _ c⟩
    · rename_i hg; simp only [hg] at ha; exact h _ _ ha

/-- What an operation waits for, itself or through one that it waits for. -/
def cl2 (waits : List (List Nat)) (j x : Nat) : Bool := (waits.getD j []).contains x || (waits.getD j []).any fun y => (waits.getD y []).contains x
/-- An operation that may come up now may be taken first. -/
theorem aAny_first {K : List AV → List HB → Prop} {i : Nat} {oi : AO} (hi : aos[i]? = some oi) (hpost : ∀ j, np ≤ j → j < aos.length → ∀ x, x < np → cl2 waits j x = true) (hfl : ∀ j, j < aos.length → fl j = true → j < np) :
    ∀ (fuel : Nat) (listed : Array Bool) (t : List AV) (H : List HB) (v : AV) (H' : List HB),
      (∀ y, listed.getD y false = true → ∀ z ∈ waits.getD y [], listed.getD z false = true) →
      (∀ j oj, aos[j]? = some oj → j ≠ i → listed.getD j true = false → i ∉ waits.getD j [] → apartA oi oj = true ∧ (fl i = true ∨ fl j = true)) →
      i ∈ readyA aos waits listed → (∀ j, j < aos.length → listed.getD j true = false → fl j = true → C H) → Yields P fl np C i oi t H v H' →
      aAny P aos waits fl np C K fuel (listed.setIfInBounds i true) (putA t oi.dst v) H' → aAny P aos waits fl np C K (fuel + 1) listed t H := by
  have take : ∀ (n : List AV → List HB → Prop) (t : List AV) (H : List HB) (v : AV) (H' : List HB), (fl i = true → C H) → Yields P fl np C i oi t H v H' → n (putA t oi.dst v) H' → aOp P aos fl np C i n t H := by
    intro n t H v H' hc hy hn
    unfold aOp
    simp only [hi]
    rcases hy with ⟨hg, hy⟩ | ⟨hg, rfl, rfl⟩
    · simp only [hg, if_true]
      split at hy
      · rename_i hf
        obtain ⟨h1, rfl⟩ := hy
        simp only [hf, if_true]; exact ⟨hc hf, v, h1, hn⟩
      · rename_i hf
        simp only [hf]; exact ⟨v, H', hy.1, hy.2, hn⟩
    · simp only [hg, Bool.false_eq_true, if_false]; exact hn
  intro fuel
  induction fuel with
  | zero =>
    intro listed t H v H' _ _ hr hC hy h0
    refine ⟨fun h => (by rw [h] at hr; cases hr), fun j hj => ?_⟩
    by_cases hji : j = i
    · subst hji; exact take _ t H v H' (fun hf => hC j ((mem_readyA ..).1 hr).1 ((mem_readyA ..).1 hr).2.1 hf) hy h0
    · have := readyA_mono aos waits hj hji
      rw [h0.1] at this; cases this
  | succ fuel ih =>
    intro listed t H v H' hdc hfree hr hC hy h0
    refine ⟨fun h => (by rw [h] at hr; cases hr), fun j hj => ?_⟩
    by_cases hji : j = i
    · subst hji; exact take _ t H v H' (fun hf => hC j ((mem_readyA ..).1 hr).1 ((mem_readyA ..).1 hr).2.1 hf) hy h0
    · obtain ⟨hjl, hjun, hjw⟩ := (mem_readyA ..).1 hj
      obtain ⟨hil, hiun, hiw⟩ := (mem_readyA ..).1 hr
      have hoj : ∃ oj, aos[j]? = some oj := ⟨aos[j], by simp [hjl]⟩
      obtain ⟨oj, hoj⟩ := hoj
      have hnot : i ∉ waits.getD j [] := fun hin => by
        have h1 := hjw i hin
        rcases Nat.lt_or_ge i listed.size with h' | h'
        · simp [h'] at hiun h1; rw [hiun] at h1; cases h1
        · simp [Array.getElem?_eq_none h'] at h1
      obtain ⟨hap, hfl2⟩ := hfree j oj hoj hji hjun hnot
      obtain ⟨q1, q2, q3⟩ := apartA_spec hap
      have hj0 := h0.2 j (readyA_mono aos waits hj hji)
      -- j taken now; then i first
      have rest : ∀ (u : AV) (H2 : List HB) (H2' : List HB), Yields P fl np C i oi (putA t oj.dst u) H2 v H2' → (∀ x, x < aos.length → (listed.setIfInBounds j true).getD x true = false → fl x = true → C H2) →
          aAny P aos waits fl np C K fuel ((listed.setIfInBounds i true).setIfInBounds j true) (putA (putA t oi.dst v) oj.dst u) H2' → aAny P aos waits fl np C K (fuel + 1) (listed.setIfInBounds j true) (putA t oj.dst u) H2 := by
        intro u H2 H2' hy2 hC2 hn
        refine ih _ _ _ v H2' (fun y hy z hz => ?_) (fun x ox hx hxi hun hw => ?_) (readyA_mono aos waits hr (Ne.symm hji)) hC2 hy2 ?_
        · by_cases hyj : j = y
          · subst hyj; exact getD_set_true (hjw z hz)
          · rw [getD_set_ne false hyj] at hy; exact getD_set_true (hdc y hy z hz)
        · refine hfree x ox hx hxi ?_ hw
          by_cases hjx : j = x
          · subst hjx; exact hjun
          · rw [getD_set_ne true hjx] at hun; exact hun
        · rw [Array.setIfInBounds_comm _ _ hji, ← putA_comm q2]
          exact hn
      have hgi : ∀ u, guardA (putA t oj.dst u) oi.guard = guardA t oi.guard := fun u => guard_put q3
      have hgj : guardA (putA t oi.dst v) oj.guard = guardA t oj.guard := guard_put q1
      have unl : ∀ x, (listed.setIfInBounds j true).getD x true = false → listed.getD x true = false := fun x hx => by
        by_cases hjx : j = x
        · subst hjx; exact hjun
        · rw [getD_set_ne true hjx] at hx; exact hx
      unfold aOp at hj0 ⊢
      simp only [hoj] at hj0 ⊢
      rw [hgj] at hj0
      split
      · rename_i hg
        simp only [hg, if_true] at hj0
        split
        · rename_i hfj
          simp only [hfj, if_true] at hj0
          obtain ⟨_, u, hu, hn⟩ := hj0
          refine ⟨hC j hjl hjun hfj, u, fun H2 hH2 => (ORes_put q1).1 (hu H2 hH2), ?_⟩
          refine rest u H H' ?_ (fun x hx hun hf => hC x hx (unl x hun) hf) hn
          rcases hy with ⟨g1, hy⟩ | ⟨g1, g2, g3⟩
          · left; refine ⟨by rw [hgi]; exact g1, ?_⟩
            split at hy
            · rename_i hfi; simp only [hfi, if_true]; exact ⟨fun H2 hH2 => (ORes_put q3).2 (hy.1 H2 hH2), hy.2⟩
            · rename_i hfi; simp only [hfi]; exact ⟨(ORes_put q3).2 hy.1, hy.2⟩
          · right; exact ⟨by rw [hgi]; exact g1, g2, g3⟩
        · rename_i hfj
          simp only [hfj] at hj0
          obtain ⟨u, H2, hu, hcu, hn⟩ := hj0
          have hfi : fl i = true := by rcases hfl2 with h | h; exact h; exact absurd h hfj
          have hC2 : ∀ x, x < aos.length → (listed.setIfInBounds j true).getD x true = false → fl x = true → C H2 := by
            intro x hx hun hf
            rcases hcu with h | h
            · exact h
            · have hxw : listed.getD x false = true := by
                have := hpost j h hjl x (hfl x hx hf)
                simp only [cl2, Bool.or_eq_true, List.contains_iff_mem, List.any_eq_true] at this
                rcases this with h | ⟨y, hy, h⟩
                · exact hjw x h
                · exact hdc y (hjw y hy) x h
              have := unl x hun
              rcases Nat.lt_or_ge x listed.size with h' | h'
              · simp [h'] at this hxw; rw [this] at hxw; cases hxw
              · simp [Array.getElem?_eq_none h'] at hxw
          have hH : H' = H := by
            rcases hy with ⟨_, hy⟩ | ⟨_, _, h⟩
            · simp only [hfi, if_true] at hy; exact hy.2
            · exact h
          rw [hH] at hu
          refine ⟨u, H2, (ORes_put q1).1 hu, hcu, ?_⟩
          refine rest u H2 H2 ?_ hC2 hn
          rcases hy with ⟨g1, hy⟩ | ⟨g1, g2, g3⟩
          · left; refine ⟨by rw [hgi]; exact g1, ?_⟩
            simp only [hfi, if_true] at hy ⊢
            exact ⟨fun H2 hH2 => (ORes_put q3).2 (hy.1 H2 hH2), trivial⟩
          · right; exact ⟨by rw [hgi]; exact g1, g2, rfl⟩
      · rename_i hg
        simp only [hg] at hj0
        refine rest .undef H H' ?_ (fun x hx hun hf => hC x hx (unl x hun) hf) hj0
        rcases hy with ⟨g1, hy⟩ | ⟨g1, g2, g3⟩
        · left; refine ⟨by rw [hgi]; exact g1, ?_⟩
          split at hy
          · rename_i hfi; simp only [hfi, if_true]; exact ⟨fun H2 hH2 => (ORes_put q3).2 (hy.1 H2 hH2), hy.2⟩
          · rename_i hfi; simp only [hfi]; exact ⟨(ORes_put q3).2 hy.1, hy.2⟩
        · right; exact ⟨by rw [hgi]; exact g1, g2, g3⟩
end
end Go.Proofs.YtblbepjnkehoaaaGreatDoor
/- Regions that draw their order, second part: the order of the text serves; down to the model. -/
namespace Go.Proofs.YtblbepjnkehoaaaGreatDoor
open Go

/-- The run in the order of the text, with what each operation must keep to. -/
def drun (P : Program) (fl : Nat → Bool) (np : Nat) (C : List HB → Prop) : Nat → List AO → List AV → List HB → (List AV → List HB → Prop) → Prop
  | _, [], t, H, K => K t H
  | k, o :: r, t, H, K =>
    (guardA t o.guard = true ∧ ((fl k = true ∧ C H ∧ ∃ v, (∀ H2, C H2 → ORes P o.op (aev t) H2 v H2) ∧ drun P fl np C (k + 1) r (putA t o.dst v) H K) ∨
      (fl k = false ∧ ∃ v H', ORes P o.op (aev t) H v H' ∧ (C H' ∨ np ≤ k) ∧ drun P fl np C (k + 1) r (putA t o.dst v) H' K))) ∨
    (guardA t o.guard = false ∧ drun P fl np C (k + 1) r (putA t o.dst .undef) H K)

/-- What the text must be like. -/
def lexOk (aos : List AO) (waits : List (List Nat)) (fl : Nat → Bool) (np : Nat) : Bool :=
  (List.range aos.length).all (fun j => (waits.getD j []).all (fun x => decide (x < j)) && (!decide (np ≤ j) || (List.range np).all fun x => cl2 waits j x) && (!fl j || decide (j < np)) &&
    (List.range j).all fun i => (waits.getD j []).contains i || (match aos[i]?, aos[j]? with | some x, some y => apartA x y | _, _ => false) && (fl i || fl j))

theorem lexOk_spec {aos : List AO} {waits : List (List Nat)} {fl : Nat → Bool} {np : Nat} (h : lexOk aos waits fl np = true) {j : Nat} (hj : j < aos.length) :
    (∀ x ∈ waits.getD j [], x < j) ∧ (np ≤ j → ∀ x, x < np → cl2 waits j x = true) ∧ (fl j = true → j < np) ∧ ∀ i, i < j → i ∉ waits.getD j [] → ∀ x y, aos[i]? = some x → aos[j]? = some y → apartA x y = true ∧ (fl i = true ∨ fl j = true) := by
  unfold lexOk at h
  rw [List.all_eq_true] at h
  have h := h j (List.mem_range.2 hj)
  simp only [Bool.and_eq_true, List.all_eq_true, decide_eq_true_eq, List.mem_range, Bool.or_eq_true, Bool.not_eq_true'] at h
  obtain ⟨⟨⟨h1, h2⟩, h3⟩, h4⟩ := h
  refine ⟨h1, fun hn x hx => ?_, fun hf => ?_, fun i hi hni x y hx hy => ?_⟩
  · rcases h2 with h2 | h2
    · simp at h2; omega
    · exact h2 x hx
  · rcases h3 with h3 | h3
    · rw [hf] at h3; cases h3
    · exact h3
  · rcases h4 i hi with h | h
    · exact absurd (by simpa using h) hni
    · rw [hx, hy] at h; exact h

section
variable {P : Program} {aos : List AO} {waits : List (List Nat)} {fl : Nat → Bool} {np : Nat} {C : List HB → Prop} {K : List AV → List HB → Prop}

theorem aAny_lex (hok : lexOk aos waits fl np = true) : ∀ (l : List AO) (k : Nat) (listed : Array Bool) (t : List AV) (H : List HB), (∀ j, l[j]? = aos[k + j]?) → k + l.length = aos.length → listed.size = aos.length → (∀ j, j < aos.length → listed[j]? = some (decide (j < k))) →
    (C H ∨ np ≤ k) → drun P fl np C k l t H K → aAny P aos waits fl np C K l.length listed t H
  | [], k, listed, t, H, _, hk, hz, hl, _, h => by
    refine ⟨?_, h⟩
    cases hr : readyA aos waits listed with
    | nil => rfl
    | cons x xs =>
      have : x ∈ readyA aos waits listed := by rw [hr]; simp
      rw [mem_readyA] at this
      have h2 := hl x this.1
      simp at hk
      simp [Array.getD_eq_getD_getElem?, h2] at this
      omega
  | o :: l, k, listed, t, H, hl0, hk, hz, hl, hC, h => by
    simp only [List.length_cons] at hk
    have hkn : k < aos.length := by omega
    have ho : aos[k]? = some o := by simpa using (hl0 0).symm
    have hl0' : ∀ j, l[j]? = aos[k + 1 + j]? := fun j => by
      have := hl0 (j + 1)
      simp only [List.getElem?_cons_succ] at this
      rw [this]; congr 1; omega
    obtain ⟨w1, w2, w3, w4⟩ := lexOk_spec hok hkn
    have hr : k ∈ readyA aos waits listed := by
      rw [mem_readyA]
      refine ⟨hkn, by simp [Array.getD_eq_getD_getElem?, hl k hkn], fun j hj => ?_⟩
      have := w1 j hj
      simp [Array.getD_eq_getD_getElem?, hl j (by omega), this]
    have hl' : ∀ j, j < aos.length → (listed.setIfInBounds k true)[j]? = some (decide (j < k + 1)) := fun j hj => by
      by_cases e : k = j
      · subst e; simp [hz, hkn]
      · rw [Array.getElem?_setIfInBounds_ne e, hl j hj]
        congr 1
        simp; omega
    have next : ∀ (v : AV) (H' : List HB), (C H' ∨ np ≤ k + 1) → Yields P fl np C k o t H v H' → drun P fl np C (k + 1) l (putA t o.dst v) H' K → aAny P aos waits fl np C K (l.length + 1) listed t H := by
      intro v H' hC' hy hd
      refine aAny_first ho (fun j hj hjl x hx => (lexOk_spec hok hjl).2.1 hj x hx) (fun j hjl hf => (lexOk_spec hok hjl).2.2.1 hf) l.length listed t H v H' (fun y hy z hz => ?_) (fun j oj hoj hne hun hnw => ?_) hr (fun j hjl hun hf => ?_) hy (aAny_lex hok l (k + 1) _ _ H' hl0' (by omega) (by simpa using hz) hl' hC' hd)
      · have hyl : y < aos.length := by
          rcases Nat.lt_or_ge y aos.length with h | h
          · exact h
          · simp [Array.getD_eq_getD_getElem?, Array.getElem?_eq_none (show listed.size ≤ y by omega)] at hy
        have hyk : y < k := by simpa [Array.getD_eq_getD_getElem?, hl y hyl] using hy
        have hzy := (lexOk_spec hok hyl).1 z hz
        simp [Array.getD_eq_getD_getElem?, hl z (by omega)]
        omega
      · have hjl : j < aos.length := (List.getElem?_eq_some_iff.1 hoj).1
        have hjk : k < j := by
          simp [Array.getD_eq_getD_getElem?, hl j hjl] at hun; omega
        exact (lexOk_spec hok hjl).2.2.2 k hjk hnw o oj ho hoj
      · rcases hC with h | h
        · exact h
        · have := (lexOk_spec hok hjl).2.2.1 hf
          simp [Array.getD_eq_getD_getElem?, hl j hjl] at hun; omega
    simp only [drun] at h
    rcases h with ⟨hg, ⟨hf, hCH, v, hq, hd⟩ | ⟨hf, v, H', hq, hc, hd⟩⟩ | ⟨hg, hd⟩
    · exact next v H (.inl hCH) (.inl ⟨hg, by simp only [hf, if_true]; exact ⟨hq, trivial⟩⟩) hd
    · exact next v H' (hc.imp id (by omega)) (.inl ⟨hg, by simp only [hf, Bool.false_eq_true, if_false]; exact ⟨hq, hc⟩⟩) hd
    · exact next .undef H (hC.imp id (by omega)) (.inr ⟨hg, rfl, rfl⟩) hd

/-! ### Down to the model -/
def waitsOf (ops : Array Oper) : List (List Nat) := ops.toList.map fun o => (o.after.toList.filter (Region.binds .any)).map (·.on)

theorem cmpAOs_get {ops : Array Oper} : ∀ {l : List Oper} {aos : List AO}, cmpAOs P ops l = some aos → l.length = aos.length ∧ ∀ (i : Nat) o, l[i]? = some o → ∃ x, aos[i]? = some x ∧ cmpAO P ops o = some x
  | [], aos, h => by simp only [cmpAOs, Option.some.injEq] at h; subst h; simp
  | o :: l, aos, h => by
    simp only [cmpAOs] at h
    split at h
    · rename_i x xs h1 h2
      simp only [Option.some.injEq] at h; subst h
      obtain ⟨e1, e2⟩ := cmpAOs_get h2
      refine ⟨by simp [e1], fun i o' hi => ?_⟩
      cases i with
      | zero => simp at hi; subst hi; exact ⟨x, rfl, h1⟩
      | succ i => simp at hi; simpa using e2 i o' hi
    · cases h

theorem ready_iff {ops : Array Oper} (hc : cmpAOs P ops ops.toList = some aos) (hw : waits = waitsOf ops) {i : Nat} {listed : Array Bool} : i ∈ Region.ready .any ops listed ↔ i ∈ readyA aos waits listed := by
  subst hw
  have hlen := (cmpAOs_get hc).1
  rw [mem_ready, mem_readyA]
  constructor
  · rintro ⟨h1, o, ho, h2⟩
    have hi := (Array.getElem?_eq_some_iff.1 ho).1
    refine ⟨by rw [← hlen]; simpa using hi, h1, fun j hj => ?_⟩
    have hwo : (waitsOf ops).getD i [] = (o.after.toList.filter (Region.binds .any)).map (·.on) := by
      simp [waitsOf, List.getD_eq_getElem?_getD, ho]
    rw [hwo, List.mem_map] at hj
    obtain ⟨e, he, rfl⟩ := hj
    rw [List.mem_filter] at he
    exact h2 e (by simpa using he.1) he.2
  · rintro ⟨h1, h2, h3⟩
    have hi : i < ops.size := by rw [← hlen] at h1; simpa using h1
    refine ⟨h2, ops[i], by simp [hi], fun e he hb => h3 _ ?_⟩
    have hwo : (waitsOf ops).getD i [] = (ops[i].after.toList.filter (Region.binds .any)).map (·.on) := by
      simp [waitsOf, List.getD_eq_getElem?_getD, hi]
    rw [hwo, List.mem_map]
    exact ⟨e, List.mem_filter.2 ⟨by simpa using he, hb⟩, rfl⟩
theorem ready_nil {ops : Array Oper} (hc : cmpAOs P ops ops.toList = some aos) (hw : waits = waitsOf ops) {listed : Array Bool} : Region.ready .any ops listed = [] ↔ readyA aos waits listed = [] := by
  constructor
  · intro h
    rw [List.eq_nil_iff_forall_not_mem] at h ⊢
    exact fun x hx => h x ((ready_iff hc hw).2 hx)
  · intro h
    rw [List.eq_nil_iff_forall_not_mem] at h ⊢
    exact fun x hx => h x ((ready_iff hc hw).1 hx)

theorem aAny_sound {ops : Array Oper} (hc : cmpAOs P ops ops.toList = some aos) (hw : waits = waitsOf ops) {Q : Exit → Act → World → Prop} : ∀ (fuel : Nat) (listed : Array Bool) (F : Addr → Prop) (g : Gh) (H : List HB) (w : World) (t : List AV) (a : Act), Sim P F g H w t a → aAny P aos waits fl np C K fuel listed t H →
    (∀ F' g' H' w' t' a', Sim P F' g' H' w' t' a' → Ext F g H w F' g' H' w' → K t' H' → Q .normal a' w') → wpAny P .any ops Q fuel listed a w
  | 0, listed, F, g, H, w, t, a, hs, h, hQ => ⟨(ready_nil hc hw).2 h.1, hQ F g H w t a hs (Ext.refl _ _ _ _) h.2⟩
  | fuel + 1, listed, F, g, H, w, t, a, hs, h, hQ => by
    refine ⟨fun hr => hQ F g H w t a hs (Ext.refl _ _ _ _) (h.1 ((ready_nil hc hw).1 hr)), fun i hi => ?_⟩
    have h2 := h.2 i ((ready_iff hc hw).1 hi)
    obtain ⟨_, o, ho, _⟩ := mem_ready.1 hi
    obtain ⟨x, hx, hcx⟩ := (cmpAOs_get hc).2 i o (by simpa using ho)
    unfold cmpAO at hcx
    split at hcx
    · rename_i op gd c1 c2
      simp only [Option.some.injEq] at hcx; subst hcx
      obtain ⟨s1, s2, s3, s4⟩ := hs
      have hg := guard_sound s2 c2
      unfold aOp at h2
      simp only [hx] at h2
      unfold wpOp
      simp only [ho, hg]
      have go : ∀ v H', ORes P op (aev t) H v H' → aAny P aos waits fl np C K fuel (listed.setIfInBounds i true) (putA t o.dst v) H' → o.wp P a w (wpAny P .any ops Q fuel (listed.setIfInBounds i true)) Q := by
        intro v H' e1 e2
        exact op_sound s4 s1 s2 c1 e1 fun w' F' g' u r1 r2 r3 =>
          aAny_sound hc hw fuel _ F' g' H' w' _ _ ⟨r2, (s2.mono r3.keeps).put r1 _, by rw [put_defers]; exact s3, s4.mono r3.keeps⟩ e2 fun F2 g2 H2 w2 t2 a2 q1 q2 q3 => hQ F2 g2 H2 w2 t2 a2 q1 (r3.trans q2) q3
      split at h2
      · rename_i hgt
        simp only [hgt, if_true]
        left
        split at h2
        · obtain ⟨hCH, v, hv, hn⟩ := h2; exact go v H (hv H hCH) hn
        · obtain ⟨v, H', hv, _, hn⟩ := h2; exact go v H' hv hn
      · rename_i hgt
        simp only [hgt, Bool.false_eq_true, if_false]
        exact aAny_sound hc hw fuel _ F g H w _ _ ⟨s1, s2.put R_undef _, by rw [put_defers]; exact s3, s4⟩ h2 hQ
    · cases hcx
end

/-- A world that differs in its tape's count alone. -/
theorem Sim.drew {P : Program} {F : Addr → Prop} {g : Gh} {H : List HB} {w w' : World} {t : List AV} {a : Act} (h : Sim P F g H w t a) (hw : w'.heap = w.heap) (hio : w'.os = w.os ∧ w'.output = w.output) : Sim P F g H w' t a ∧ Ext F g H w F g H w' := by
  have hK : Keeps F g w F g w' := ⟨fun _ h => h, fun a _ => cell_of_heap (by rw [hw]), Gh.le_refl g⟩
  obtain ⟨s1, s2, s3, s4⟩ := h
  refine ⟨⟨⟨fun a ha => by rw [hw]; exact s1.live a ha, s1.beyond, s1.inj, fun b cs hb => ?_, fun t n k ty ht => ?_, s1.spots, fun b e cs hb => ?_⟩, s2.mono hK, s3, s4.mono hK⟩, ⟨fun _ h => h, hK.keep, hK.gh, by rw [hw]; exact Nat.le_refl _, fun B _ _ => by rw [hw], fun a h => .inl h, fun b B h h' => .inl ⟨h, h'⟩, Nat.le_refl _, hio⟩⟩
  · obtain ⟨B, vs, e, h1, h2, h3, h4, h5⟩ := s1.var b cs hb
    exact ⟨B, vs, e, h1, h2, by rw [hw]; exact h3, RL.mono hK _ _ h4, h5⟩
  · obtain ⟨B, cap, vs, e, fr, h1, h2, h3, h4⟩ := s1.tok t n k _ ht
    exact ⟨B, cap, vs, e, fr, h1, h2, by rw [hw]; exact h3, h4⟩
  · obtain ⟨B, vs, h1, h2, h3, h4, h5⟩ := s1.tvar b e cs hb
    exact ⟨B, vs, h1, h2, by rw [hw]; exact h3, RL.mono hK _ _ h4, h5⟩
end Go.Proofs.YtblbepjnkehoaaaGreatDoor
/- Abstract code as a whole: the rules by which a function's contract is proved. -/
namespace Go.Proofs.YtblbepjnkehoaaaGreatDoor
open Go

inductive AC where
  | skip
  | region (ops : List AO)
  | draw (ops : List AO) (waits : List (List Nat))
  | seq (a b : AC)
  | cond (c : AR) (a b : AC)
  | block (id : Nat) (a : AC)
  | loop (a : AC)
  | exit (id : Nat)
  | ret
  /-- Code that isn't covered. -/
  | bad

def cmpCode (P : Program) : Code → Option AC
  | .skip => some .skip
  | .region _ ops dr => match cmpAOs P ops ops.toList with | some l => some (if dr = true then .draw l (waitsOf ops) else .region l) | none => some .bad
  | .seq a b => (cmpCode P a).bind fun x => (cmpCode P b).map fun y => .seq x y
  | .cond c a b => (cvX c).bind fun d => (cmpCode P a).bind fun x => (cmpCode P b).map fun y => .cond d x y
  | .block id a => (cmpCode P a).map (.block id)
  | .loop a => (cmpCode P a).map .loop
  | .exit id => some (.exit id)
  | .ret => some .ret
  | _ => some .bad

/-- How a piece of code is left. -/
inductive AX where
  | normal
  | exit (id : Nat)
  | ret
def AX.to : AX → Exit
  | .normal => .normal
  | .exit id => .exit id
  | .ret => .ret

/-- From every state that the abstract one stands for, the code ends in one that an abstract state of the post stands for. -/
def AWp (P : Program) (ac : AC) (t : List AV) (H : List HB) (Q : AX → List AV → List HB → Prop) : Prop :=
  ∀ c, cmpCode P c = some ac → ∀ F g w a, Sim P F g H w t a →
    c.wp P (fun e a' w' => ∃ x t' H' F' g', e = AX.to x ∧ Q x t' H' ∧ Sim P F' g' H' w' t' a' ∧ Ext F g H w F' g' H' w') a w

section
variable {P : Program} {c : Code}
/-- What abstract code stands for which. -/
inductive Cmp (P : Program) : Code → AC → Prop where
  | skip : Cmp P .skip .skip
  | region (id : Nat) (ops : Array Oper) (l : List AO) (h : cmpAOs P ops ops.toList = some l) : Cmp P (.region id ops false) (.region l)
  | draw (id : Nat) (ops : Array Oper) (l : List AO) (h : cmpAOs P ops ops.toList = some l) : Cmp P (.region id ops true) (.draw l (waitsOf ops))
  | seq (a b : Code) (x y : AC) (h1 : cmpCode P a = some x) (h2 : cmpCode P b = some y) : Cmp P (.seq a b) (.seq x y)
  | cond (e : Operand) (a b : Code) (d : AR) (x y : AC) (h0 : cvX e = some d) (h1 : cmpCode P a = some x) (h2 : cmpCode P b = some y) : Cmp P (.cond e a b) (.cond d x y)
  | block (id : Nat) (a : Code) (x : AC) (h : cmpCode P a = some x) : Cmp P (.block id a) (.block id x)
  | loop (a : Code) (x : AC) (h : cmpCode P a = some x) : Cmp P (.loop a) (.loop x)
  | exit (id : Nat) : Cmp P (.exit id) (.exit id)
  | ret : Cmp P .ret .ret
  | bad (c : Code) : Cmp P c .bad
theorem cmp_rel {ac : AC} (h : cmpCode P c = some ac) : Cmp P c ac := by
  cases c <;> simp only [cmpCode, Option.bind_eq_some_iff, Option.map_eq_some_iff, Option.some.injEq] at h
  · subst h; exact .skip
  · rename_i id ops dr
    split at h
    · rename_i l h1
      simp only [Option.some.injEq] at h
      cases dr with
      | true => simp only [if_true] at h; subst h; exact .draw id ops l h1
      | false => simp only [Bool.false_eq_true, if_false] at h; subst h; exact .region id ops l h1
    · simp only [Option.some.injEq] at h; subst h; exact .bad _
  · obtain ⟨x, h1, y, h2, rfl⟩ := h; exact .seq _ _ _ _ h1 h2
  · obtain ⟨d, h0, x, h1, y, h2, rfl⟩ := h; exact .cond _ _ _ _ _ _ h0 h1 h2
  · obtain ⟨x, h1, rfl⟩ := h; exact .block _ _ _ h1
  · obtain ⟨x, h1, rfl⟩ := h; exact .loop _ _ h1
  · subst h; exact .bad _
  · subst h; exact .exit _
  · subst h; exact .bad _
  · subst h; exact .bad _
  · subst h; exact .bad _
  · subst h; exact .ret
  · subst h; exact .bad _
theorem cmp_skip (h : cmpCode P c = some .skip) : c = .skip := by cases cmp_rel h; rfl
theorem cmp_exit {id : Nat} (h : cmpCode P c = some (.exit id)) : c = .exit id := by cases cmp_rel h; rfl
theorem cmp_ret (h : cmpCode P c = some .ret) : c = .ret := by cases cmp_rel h; rfl
theorem cmp_seq {x y : AC} (h : cmpCode P c = some (.seq x y)) : ∃ a b, c = .seq a b ∧ cmpCode P a = some x ∧ cmpCode P b = some y := by
  cases cmp_rel h; exact ⟨_, _, rfl, by assumption, by assumption⟩
theorem cmp_cond {d : AR} {x y : AC} (h : cmpCode P c = some (.cond d x y)) : ∃ e a b, c = .cond e a b ∧ cvX e = some d ∧ cmpCode P a = some x ∧ cmpCode P b = some y := by
  cases cmp_rel h; exact ⟨_, _, _, rfl, by assumption, by assumption, by assumption⟩
theorem cmp_block {id : Nat} {x : AC} (h : cmpCode P c = some (.block id x)) : ∃ a, c = .block id a ∧ cmpCode P a = some x := by
  cases cmp_rel h; exact ⟨_, rfl, by assumption⟩
theorem cmp_loop {x : AC} (h : cmpCode P c = some (.loop x)) : ∃ a, c = .loop a ∧ cmpCode P a = some x := by
  cases cmp_rel h; exact ⟨_, rfl, by assumption⟩
theorem cmp_region {l : List AO} (h : cmpCode P c = some (.region l)) : ∃ id ops, c = .region id ops false ∧ cmpAOs P ops ops.toList = some l := by
  cases cmp_rel h; exact ⟨_, _, rfl, by assumption⟩
theorem cmp_draw {l : List AO} {ws : List (List Nat)} (h : cmpCode P c = some (.draw l ws)) : ∃ id ops, c = .region id ops true ∧ cmpAOs P ops ops.toList = some l ∧ ws = waitsOf ops := by
  cases cmp_rel h; exact ⟨_, _, rfl, by assumption, rfl⟩
theorem rounds_mono {Q Q' : Exit → Act → World → Prop} (hq : ∀ e a w, Q e a w → Q' e a w) : ∀ (n : Nat) (a : Act) (w : World), Code.rounds P c Q n a w → Code.rounds P c Q' n a w
  | 0, _, _, h => h
  | n + 1, a, w, h => by
    rw [rounds_succ] at h ⊢
    refine wp_mono h fun e a' w' he => ?_
    cases e <;> simp only [Exit.then] at he ⊢ <;> first | exact rounds_mono hq n _ _ he | exact hq _ _ _ he
end

section
variable {P : Program} {t : List AV} {H : List HB} {Q : AX → List AV → List HB → Prop}

theorem AWp.mono {ac : AC} {Q' : AX → List AV → List HB → Prop} (h : AWp P ac t H Q) (hq : ∀ x t H, Q x t H → Q' x t H) : AWp P ac t H Q' :=
  fun c hc F g w a hs => wp_mono (h c hc F g w a hs) fun _ _ _ ⟨x, t', H', F', g', e1, e2, e3⟩ => ⟨x, t', H', F', g', e1, hq _ _ _ e2, e3⟩

theorem AWp.skip (h : Q .normal t H) : AWp P .skip t H Q := by
  intro c hc F g w a hs
  rw [cmp_skip hc]
  exact wp_skip ⟨.normal, t, H, F, g, rfl, h, hs, Ext.refl _ _ _ _⟩
theorem AWp.exit {id : Nat} (h : Q (.exit id) t H) : AWp P (.exit id) t H Q := by
  intro c hc F g w a hs
  rw [cmp_exit hc]
  exact wp_exit ⟨.exit _, t, H, F, g, rfl, h, hs, Ext.refl _ _ _ _⟩
theorem AWp.ret (h : Q .ret t H) : AWp P .ret t H Q := by
  intro c hc F g w a hs
  rw [cmp_ret hc]
  exact wp_ret ⟨.ret, t, H, F, g, rfl, h, hs, Ext.refl _ _ _ _⟩
/-- What comes behind: the next piece where the first ends as the text does. -/
def thenQ (N : List AV → List HB → Prop) (Q : AX → List AV → List HB → Prop) : AX → List AV → List HB → Prop
  | .normal, t, H => N t H
  | e, t, H => Q e t H
def blockQ (id : Nat) (Q : AX → List AV → List HB → Prop) : AX → List AV → List HB → Prop
  | .exit i, t, H => if i = id then Q .normal t H else Q (.exit i) t H
  | e, t, H => Q e t H
theorem AWp.seq {x y : AC} (h : AWp P x t H (thenQ (fun t' H' => AWp P y t' H' Q) Q)) : AWp P (.seq x y) t H Q := by
  intro c hc F g w a hs
  obtain ⟨ca, cb, rfl, c1, c2⟩ := cmp_seq hc
  refine wp_seq (wp_mono (h _ c1 F g w a hs) ?_)
  rintro e a' w' ⟨x, t', H', F', g', rfl, hq, hs', hx⟩
  cases x with
  | normal =>
    simp only [AX.to, Exit.then]
    refine wp_mono (hq _ c2 F' g' w' a' hs') ?_
    rintro e2 a2 w2 ⟨x2, t2, H2, F2, g2, rfl, q1, q2, q3⟩
    exact ⟨x2, t2, H2, F2, g2, rfl, q1, q2, hx.trans q3⟩
  | exit id => exact ⟨.exit id, t', H', F', g', rfl, hq, hs', hx⟩
  | ret => exact ⟨.ret, t', H', F', g', rfl, hq, hs', hx⟩
theorem AWp.cond {c : AR} {x y : AC} {b : Bool} (hb : aev t c = .bool b) (h1 : b = true → AWp P x t H Q) (h2 : b = false → AWp P y t H Q) : AWp P (.cond c x y) t H Q := by
  intro c' hc F g w a hs
  obtain ⟨e, ca, cb, rfl, c0, c1, c2⟩ := cmp_cond hc
  have hr := aev_R hs.2.1 c0
  rw [hb] at hr
  refine Go.wp_cond (R_bool hr) ?_
  cases b with
  | true => exact h1 rfl _ c1 F g w a hs
  | false => exact h2 rfl _ c2 F g w a hs
theorem AWp.block {id : Nat} {x : AC} (h : AWp P x t H (blockQ id Q)) : AWp P (.block id x) t H Q := by
  intro c hc F g w a hs
  obtain ⟨ca, rfl, hy⟩ := cmp_block hc
  refine wp_block (wp_mono (h _ hy F g w a hs) ?_)
  rintro e a' w' ⟨x, t', H', F', g', rfl, hq, hs', hx⟩
  cases x with
  | normal => exact ⟨.normal, t', H', F', g', rfl, hq, hs', hx⟩
  | exit i =>
    simp only [AX.to, Exit.inBlock]
    simp only [blockQ] at hq
    split at hq
    · rename_i hi; rw [if_pos hi]; exact ⟨.normal, t', H', F', g', rfl, hq, hs', hx⟩
    · rename_i hi; rw [if_neg hi]; exact ⟨.exit i, t', H', F', g', rfl, hq, hs', hx⟩
  | ret => exact ⟨.ret, t', H', F', g', rfl, hq, hs', hx⟩
theorem AWp.loop {x : AC} (I : Nat → List AV → List HB → Prop) (n : Nat) (h0 : I n t H)
    (hr : ∀ n t H, I n t H → AWp P x t H (thenQ (fun t' H' => ∃ m, m < n ∧ I m t' H') Q)) : AWp P (.loop x) t H Q := by
  intro c hc F g w a hs
  obtain ⟨ca, rfl, hy⟩ := cmp_loop hc
  refine wp_loop_rounds (n + 1) ?_
  have key : ∀ (n m : Nat) (t : List AV) (H : List HB) (F : Addr → Prop) (g : Gh) (w : World) (a : Act), m < n → I m t H → Sim P F g H w t a →
      Code.rounds P ca (fun e a' w' => ∃ x t' H' F' g', e = AX.to x ∧ Q x t' H' ∧ Sim P F' g' H' w' t' a' ∧ Ext F g H w F' g' H' w') n a w := by
    intro n
    induction n with
    | zero => intro m _ _ _ _ _ _ h; omega
    | succ n ih =>
      intro m t H F g w a hm hI hs
      rw [rounds_succ]
      refine wp_mono (hr m t H hI _ hy F g w a hs) ?_
      rintro e a' w' ⟨x, t', H', F', g', rfl, hq, hs', hx⟩
      cases x with
      | normal =>
        obtain ⟨m', hm', hI'⟩ := hq
        simp only [AX.to, Exit.then]
        have := ih m' t' H' F' g' w' a' (by omega) hI' hs'
        exact rounds_mono (fun e a2 w2 ⟨x2, t2, H2, F2, g2, e1, q1, q2, q3⟩ => ⟨x2, t2, H2, F2, g2, e1, q1, q2, hx.trans q3⟩) n _ _ this
      | exit i => exact ⟨.exit i, t', H', F', g', rfl, hq, hs', hx⟩
      | ret => exact ⟨.ret, t', H', F', g', rfl, hq, hs', hx⟩
  exact key (n + 1) n t H F g w a (by omega) h0 hs
theorem AWp.region {ops : List AO} (h : arun P ops t H fun t' H' => Q .normal t' H') : AWp P (.region ops) t H Q := by
  intro c hc F g w a hs
  obtain ⟨id, os, rfl, hy⟩ := cmp_region hc
  refine wp_region ?_
  have := arun_sound (P := P) (ops := os) (Q := fun e a' w' => ∃ x t' H' F' g', e = AX.to x ∧ Q x t' H' ∧ Sim P F' g' H' w' t' a' ∧ Ext F g H w F' g' H' w') os.toList ops 0 F g H w t a (by simp) hy hs h fun F' g' H' w' t' a' q1 q2 q3 => ⟨.normal, t', H', F', g', rfl, q3, q1, q2⟩
  simpa [List.range_eq_range'] using this
theorem AWp.draw {ops : List AO} {waits : List (List Nat)} (hm : P.follows .mixedOrders = true) (fl : Nat → Bool) (np : Nat) (C : List HB → Prop) (hok : lexOk ops waits fl np = true) (hC : C H) (h : drun P fl np C 0 ops t H fun t' H' => Q .normal t' H') : AWp P (.draw ops waits) t H Q := by
  intro c hc F g w a hs
  obtain ⟨id, os, rfl, hy, rfl⟩ := cmp_draw hc
  refine wp_region_any hm ?_
  obtain ⟨hs1, hx1⟩ := hs.drew (w' := { w with drawn := w.drawn + 1 }) rfl ⟨rfl, rfl⟩
  have hlen := (cmpAOs_get hy).1
  simp only [Array.length_toList] at hlen
  have h2 := aAny_lex (P := P) (K := fun t' H' => Q .normal t' H') hok ops 0 (Array.replicate os.size false) t H (by simp) (by simp) (by simp [hlen]) (fun j hj => by simp [hlen, hj]) (.inl hC) h
  rw [← hlen] at h2
  exact aAny_sound hy rfl _ _ F g H _ t a hs1 h2 fun F' g' H' w' t' a' q1 q2 q3 => ⟨.normal, t', H', F', g', rfl, q3, q1, hx1.trans q2⟩
end
end Go.Proofs.YtblbepjnkehoaaaGreatDoor
