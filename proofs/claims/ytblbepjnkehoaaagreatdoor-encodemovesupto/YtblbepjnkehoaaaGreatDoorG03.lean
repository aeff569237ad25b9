/- Joined: Call Run Exec Loop Fits Data Data2. -/
import Derived.Test.YtblbepjnkehoaaaGreatDoorG02
set_option linter.unusedSimpArgs false
set_option linter.unusedVariables false
/- Contracts: from a function's abstract code; weakening; contracts of functions of pure data over any heap. -/
namespace Go.Proofs.YtblbepjnkehoaaaGreatDoor
open Go

mutual
/-- All names of the abstract heap are below n. -/
def AV.inScope (n : Nat) : AV → Bool
  | .ptr b _ => decide (b < n)
  | .sl tok els => (match tok with | .own t => decide (t < n) | _ => true) && scopedE n els
  | .eptr cs => scopedL n cs
  | .fn _ a b => scopedL n a && scopedL n b
  | .iface _ v => v.inScope n
  | .agg cs => scopedL n cs
  | .tup cs => scopedL n cs
  | .bool _ => true
  | .int _ _ => true
  | .str _ => true
  | .nilp => true
  | .nilf => true
  | .nili => true
def scopedL (n : Nat) : List AV → Bool
  | [] => true
  | x :: xs => x.inScope n && scopedL n xs
def scopedE (n : Nat) : List (List AV) → Bool
  | [] => true
  | x :: xs => scopedL n x && scopedE n xs
end
mutual
/-- What is known of slices besides their elements is forgotten. -/
def AV.strip : AV → AV
  | .sl _ els => .sl .none (stripE els)
  | .eptr cs => .eptr (stripL cs)
  | .fn f a b => .fn f (stripL a) (stripL b)
  | .iface t v => .iface t v.strip
  | .agg cs => .agg (stripL cs)
  | .tup cs => .tup (stripL cs)
  | .bool b => .bool b
  | .int k n => .int k n
  | .str s => .str s
  | .nilp => .nilp
  | .ptr b o => .ptr b o
  | .nilf => .nilf
  | .nili => .nili
def stripL : List AV → List AV
  | [] => []
  | x :: xs => x.strip :: stripL xs
def stripE : List (List AV) → List (List AV)
  | [] => []
  | x :: xs => stripL x :: stripE xs
end

theorem strip_isCell (x : AV) : x.strip.isCell = x.isCell := by cases x <;> simp [AV.strip, AV.isCell]
theorem stripL_length : ∀ (xs : List AV), (stripL xs).length = xs.length
  | [] => rfl
  | x :: xs => by simp [stripL, stripL_length xs]
theorem stripE_length : ∀ (xs : List (List AV)), (stripE xs).length = xs.length
  | [] => rfl
  | x :: xs => by simp [stripE, stripE_length xs]

section
variable {F : Addr → Prop} {g : Gh} {w : World}
mutual
theorem R_strip : ∀ (x : AV) (v : Value), R F g w x v → R F g w x.strip v
  | .bool _, _, h => h
  | .int _ _, _, h => h
  | .str _, _, h => h
  | .nilp, _, h => h
  | .ptr _ _, _, h => h
  | .nilf, _, h => h
  | .nili, _, h => h
  | .eptr cs, v, h => by
    simp only [AV.strip, R] at h ⊢
    obtain ⟨B, off, h1, h2⟩ := h
    exact ⟨B, off, h1, RM_strip _ _ cs h2⟩
  | .sl tok els, v, h => by
    simp only [AV.strip, R, stripE_length] at h ⊢
    obtain ⟨h0, h⟩ := h
    refine ⟨h0, ?_⟩
    rcases h with ⟨h1, h2, _⟩ | ⟨B, off, sp, cap, k, h1, h2, hk, h3, h4⟩
    · exact .inl ⟨by rw [h1]; rfl, h2, by simp, by simp⟩
    · exact .inr ⟨B, off, sp, cap, k, h1, h2, ⟨hk.1, hk.2.imp (fun e => by rw [e]; rfl) id⟩, RE_strip _ _ _ els h3, trivial⟩
  | .fn f first cap, v, h => by
    simp only [AV.strip, R] at h ⊢
    obtain ⟨a1, a2, h1, h2, h3⟩ := h
    exact ⟨a1, a2, h1, RL_strip first _ h2, RL_strip cap _ h3⟩
  | .iface t x, v, h => by
    simp only [AV.strip, R] at h ⊢
    obtain ⟨u, h1, h2⟩ := h
    exact ⟨u, h1, R_strip x u h2⟩
  | .agg cs, v, h => by
    simp only [AV.strip, R] at h ⊢
    obtain ⟨a, h1, h2⟩ := h
    exact ⟨a, h1, RL_strip cs _ h2⟩
  | .tup cs, v, h => by
    simp only [AV.strip, R] at h ⊢
    obtain ⟨a, h1, h2⟩ := h
    exact ⟨a, h1, RL_strip cs _ h2⟩
theorem RL_strip : ∀ (x : List AV) (v : List Value), RL F g w x v → RL F g w (stripL x) v
  | [], _, h => h
  | x :: xs, v, h => by
    simp only [stripL, RL] at h ⊢
    obtain ⟨u, r, h1, h2, h3⟩ := h
    exact ⟨u, r, h1, R_strip x u h2, RL_strip xs r h3⟩
theorem RM_strip : ∀ (B off : Nat) (x : List AV), RM F g w B off x → RM F g w B off (stripL x)
  | _, _, [], h => h
  | B, off, x :: xs, h => by
    simp only [stripL, RM] at h ⊢
    obtain ⟨⟨h0, v, h1, h2, h3⟩, h4⟩ := h
    exact ⟨⟨by rw [strip_isCell]; exact h0, v, h1, h2, R_strip x v h3⟩, RM_strip _ _ xs h4⟩
theorem RE_strip : ∀ (B off k : Nat) (x : List (List AV)), RE F g w B off k x → RE F g w B off k (stripE x)
  | _, _, _, [], h => h
  | B, off, k, x :: xs, h => by
    simp only [stripE, RE] at h ⊢
    obtain ⟨h1, h2, h3⟩ := h
    exact ⟨by rw [stripL_length]; exact h1, RM_strip _ _ x h2, RE_strip _ _ _ xs h3⟩
end
end

section
variable {F : Addr → Prop} {g g' : Gh} {w : World} {n : Nat} (hg : ∀ b, b < n → g'.blk b = g.blk b ∧ g'.tk b = g.tk b)
include hg
mutual
theorem R_scoped : ∀ (x : AV) (v : Value), x.inScope n = true → R F g w x v → R F g' w x v
  | .bool _, _, _, h => (by have _ := hg; exact h)
  | .int _ _, _, _, h => h
  | .str _, _, _, h => h
  | .nilp, _, _, h => h
  | .nilf, _, _, h => h
  | .nili, _, _, h => h
  | .ptr b o, v, s, h => by
    simp only [AV.inScope, decide_eq_true_eq] at s
    simp only [R] at h ⊢
    obtain ⟨B, h1, h2, h3⟩ := h
    exact ⟨B, by rw [(hg b s).1]; exact h1, by rw [(hg b s).2]; exact h2, h3⟩
  | .eptr cs, v, s, h => by
    simp only [AV.inScope] at s
    simp only [R] at h ⊢
    obtain ⟨B, off, h1, h2⟩ := h
    exact ⟨B, off, h1, RM_scoped _ _ cs s h2⟩
  | .sl tok els, v, s, h => by
    simp only [AV.inScope, Bool.and_eq_true] at s
    simp only [R] at h ⊢
    obtain ⟨h0, h⟩ := h
    refine ⟨h0, ?_⟩
    rcases h with h | ⟨B, off, sp, cap, k, h1, h2, hk, h3, h4⟩
    · exact .inl h
    · refine .inr ⟨B, off, sp, cap, k, h1, h2, hk, RE_scoped _ _ _ els s.2 h3, ?_⟩
      cases tok with
      | own t =>
        have st : t < n := by simpa using s.1
        obtain ⟨m, c, q1, q2, q3⟩ := h4
        exact ⟨m, c, by rw [(hg t st).2]; exact q1, q2, fun e => by rw [(hg t st).1]; exact q3 e⟩
      | _ => exact h4
  | .fn f first cap, v, s, h => by
    simp only [AV.inScope, Bool.and_eq_true] at s
    simp only [R] at h ⊢
    obtain ⟨a1, a2, h1, h2, h3⟩ := h
    exact ⟨a1, a2, h1, RL_scoped first _ s.1 h2, RL_scoped cap _ s.2 h3⟩
  | .iface t x, v, s, h => by
    simp only [AV.inScope] at s
    simp only [R] at h ⊢
    obtain ⟨u, h1, h2⟩ := h
    exact ⟨u, h1, R_scoped x u s h2⟩
  | .agg cs, v, s, h => by
    simp only [AV.inScope] at s
    simp only [R] at h ⊢
    obtain ⟨a, h1, h2⟩ := h
    exact ⟨a, h1, RL_scoped cs _ s h2⟩
  | .tup cs, v, s, h => by
    simp only [AV.inScope] at s
    simp only [R] at h ⊢
    obtain ⟨a, h1, h2⟩ := h
    exact ⟨a, h1, RL_scoped cs _ s h2⟩
theorem RL_scoped : ∀ (x : List AV) (v : List Value), scopedL n x = true → RL F g w x v → RL F g' w x v
  | [], _, _, h => (by have _ := hg; exact h)
  | x :: xs, v, s, h => by
    simp only [scopedL, Bool.and_eq_true] at s
    simp only [RL] at h ⊢
    obtain ⟨u, r, h1, h2, h3⟩ := h
    exact ⟨u, r, h1, R_scoped x u s.1 h2, RL_scoped xs r s.2 h3⟩
theorem RM_scoped : ∀ (B off : Nat) (x : List AV), scopedL n x = true → RM F g w B off x → RM F g' w B off x
  | _, _, [], _, h => (by have _ := hg; exact h)
  | B, off, x :: xs, s, h => by
    simp only [scopedL, Bool.and_eq_true] at s
    simp only [RM] at h ⊢
    obtain ⟨⟨h0, v, h1, h2, h3⟩, h4⟩ := h
    exact ⟨⟨h0, v, h1, h2, R_scoped x v s.1 h3⟩, RM_scoped _ _ xs s.2 h4⟩
theorem RE_scoped : ∀ (B off k : Nat) (x : List (List AV)), scopedE n x = true → RE F g w B off k x → RE F g' w B off k x
  | _, _, _, [], _, h => (by have _ := hg; exact h)
  | B, off, k, x :: xs, s, h => by
    simp only [scopedE, Bool.and_eq_true] at s
    simp only [RE] at h ⊢
    obtain ⟨h1, h2, h3⟩ := h
    exact ⟨h1, RM_scoped _ _ x s.1 h2, RE_scoped _ _ _ xs s.2 h3⟩
end
end

/-- One abstract value says no more than another. -/
def AV.le (x y : AV) : Prop := ∀ F g w v, R F g w x v → R F g w y v
theorem AV.le_refl (x : AV) : x.le x := fun _ _ _ _ h => h
theorem AV.le_strip (x : AV) : x.le x.strip := fun _ _ _ v h => R_strip x v h
theorem le_of_strip {x y : AV} (h : x.strip = y) : x.le y := h ▸ AV.le_strip x

/-! ### The results -/
inductive ARes where
  | tmp (t : Nat)
  | cell (t : Nat) (ag : Bool) (n : Nat)
def cmpRes (P : Program) : List ResultVar → Option (List ARes)
  | [] => some []
  | .tmp t :: r => (cmpRes P r).map (.tmp t :: ·)
  | .cell a ty :: r => (isAg P ty).bind fun ag => (P.info? ty).bind fun i => (cmpRes P r).bind fun l => if 0 < i.size ∧ (ag = true ∨ i.size = 1) then some (.cell a ag i.size :: l) else none
def aRes1 (t : List AV) (H : List HB) : ARes → Option AV
  | .tmp i => some (t.getD i .undef)
  | .cell i ag n => match t.getD i .undef with
    | .ptr b off => match H[b]? with
      | some (.var cs) => takeCells ag n (cs.drop off)
      | _ => none
    | _ => none
def aResL (t : List AV) (H : List HB) : List ARes → Option (List AV)
  | [] => some []
  | r :: rs => (aRes1 t H r).bind fun v => (aResL t H rs).map (v :: ·)
def aRes (t : List AV) (H : List HB) (rs : List ARes) : Option AV :=
  (aResL t H rs).map fun vs => match vs with | [v] => v | vs => .tup vs

section
variable {P : Program} {F : Addr → Prop} {g : Gh} {H : List HB} {w : World} {t : List AV} {a : Act}
def resOf (tmps : Array Value) : ResultVar → Sem Value
  | .tmp t => pure (tmps.getD t undef)
  | .cell p ty => do loadVar ty (← asAddr (tmps.getD p undef))
theorem results_eq (fn : Func) (tmps : Array Value) : results fn tmps = (do let vs ← fn.results.mapM (resOf tmps); pure (if h : vs.size = 1 then vs[0] else .tuple vs)) := by
  unfold results
  congr 1
theorem run_asAddr (x : Addr) : (asAddr (.pointer (some x))).run P w = .ok x w := rfl
theorem resL_sound (hs : Sim P F g H w t a) : ∀ {l : List ResultVar} {rs : List ARes} {vs : List AV}, cmpRes P l = some rs → aResL t H rs = some vs →
    ∃ us : List Value, (l.mapM (resOf a.tmps)).run P w = .ok us w ∧ RL F g w vs us
  | [], rs, vs, hc, h => by
    simp only [cmpRes, Option.some.injEq] at hc; subst hc
    simp only [aResL, Option.some.injEq] at h; subst h
    exact ⟨[], by simp, by simp [RL]⟩
  | .tmp i :: l, rs, vs, hc, h => by
    simp only [cmpRes, Option.map_eq_some_iff] at hc
    obtain ⟨rs', hc', rfl⟩ := hc
    simp only [aResL, aRes1, Option.bind_some, Option.map_eq_some_iff] at h
    obtain ⟨vs', h', rfl⟩ := h
    obtain ⟨us, e1, e2⟩ := resL_sound hs hc' h'
    refine ⟨a.tmps.getD i undef :: us, ?_, ?_⟩
    · simp only [List.mapM_cons, resOf, Sem.run_bind, Sem.run_pure, Result.andThen_ok, e1]
    · simp only [RL]
      have := getD_R hs.2.1 i
      refine ⟨_, us, rfl, ?_, e2⟩
      simpa using this
  | .cell i ty :: l, rs, vs, hc, h => by
    simp only [cmpRes, Option.bind_eq_some_iff] at hc
    obtain ⟨ag, h1, inf, h2, rs', hc', hc⟩ := hc
    split at hc
    case isFalse => cases hc
    simp only [Option.some.injEq] at hc; subst hc
    simp only [aResL, Option.bind_eq_some_iff, Option.map_eq_some_iff] at h
    obtain ⟨v, hv, vs', h', rfl⟩ := h
    obtain ⟨us, e1, e2⟩ := resL_sound hs hc' h'
    simp only [aRes1] at hv
    have hg := getD_R hs.2.1 i
    split at hv
    · rename_i b off hb
      rw [hb] at hg
      obtain ⟨B, q1, q2, q3⟩ := R_ptr hg
      split at hv
      · rename_i cs hcs
        obtain ⟨B', ws, e, p1, p2, p3, p4, p5⟩ := hs.1.var b cs hcs
        rw [q1] at p1; cases p1
        have hrl := RL_drop p4 off
        obtain ⟨k1, k2, k3⟩ := takeCells_R hv hrl
        have hcell : ∀ (j : Nat) (u : Value), (ws.toList.drop off)[j]? = some u → w.cell? ⟨B, off + j, none⟩ = some u := fun j u hj => by
          simp only [World.cell?, p3, Option.isSome_none, Bool.false_eq_true, if_false]
          rw [List.getElem?_drop] at hj
          simpa using hj
        obtain ⟨l1, l2⟩ := run_loadVar h1 h2 hcell
        rw [RL_len hrl] at k1
        have hpt : a.tmps.getD i undef = .pointer (some ⟨B, off, none⟩) := by simpa using q3
        have load : ∃ u, (loadVar ty ⟨B, off, none⟩).run P w = .ok u w ∧ R F g w v u := by
          cases ag with
          | true => exact ⟨_, l1 rfl k1, k2 rfl⟩
          | false => obtain ⟨u, r, x1, x2⟩ := k3 rfl; exact ⟨u, l2 rfl u r x1, x2⟩
        obtain ⟨u, x1, x2⟩ := load
        refine ⟨u :: us, ?_, by simp only [RL]; exact ⟨u, us, rfl, x2, e2⟩⟩
        simp only [List.mapM_cons, resOf, Sem.run_bind, hpt, run_asAddr, Sem.run_pure, Result.andThen_ok, x1, e1]
      · cases hv
    · cases hv
theorem res_sound (hs : Sim P F g H w t a) {fn : Func} {rs : List ARes} {v : AV} (hc : cmpRes P fn.results.toList = some rs) (h : aRes t H rs = some v) : ∃ u, (results fn a.tmps).run P w = .ok u w ∧ R F g w v u := by
  simp only [aRes, Option.map_eq_some_iff] at h
  obtain ⟨vs, h1, h2⟩ := h
  obtain ⟨us, e1, e2⟩ := resL_sound hs hc h1
  have hrun : (fn.results.mapM (resOf a.tmps)).run P w = .ok us.toArray w := by
    rw [Array.mapM_eq_mapM_toList]
    simp only [Sem.run_map, e1, Result.andThen_ok]
  refine ⟨if h : us.toArray.size = 1 then us.toArray[0] else .tuple us.toArray, ?_, ?_⟩
  · rw [results_eq]
    simp only [Sem.run_bind]
    rw [hrun]
    rfl
  · cases us with
    | nil =>
      have : vs = [] := by cases vs with | nil => rfl | cons _ _ => simp [RL] at e2
      subst this; subst h2
      simp only [R]; exact ⟨#[], by simp, by simp [RL]⟩
    | cons u us =>
      cases vs with
      | nil => simp [RL] at e2
      | cons x xs =>
        simp only [RL] at e2
        obtain ⟨u', r', e, hx, hr⟩ := e2
        cases e
        cases us with
        | nil =>
          have : xs = [] := by cases xs with | nil => rfl | cons _ _ => simp [RL] at hr
          subst this; subst h2
          simpa using hx
        | cons u2 us =>
          have hxs : ∃ y ys, xs = y :: ys := by cases xs with | nil => simp [RL] at hr | cons y ys => exact ⟨y, ys, rfl⟩
          obtain ⟨y, ys, rfl⟩ := hxs
          subst h2
          simp only [R]
          refine ⟨(u :: u2 :: us).toArray, by simp, ?_⟩
          simp only [RL]
          simp only [RL] at hr
          exact ⟨u, u2 :: us, rfl, hx, hr⟩
end

/-! ### Contracts -/
structure FnOk (P : Program) (f : FuncId) (ac : AC) (ntmps : Nat) (rs : List ARes) : Prop where
  en : enterable P f = true
  fn : ∃ fn c, P.funcs[f]? = some fn ∧ fn.body = some c ∧ cmpCode P c = some ac ∧ fn.ntmps = ntmps ∧ cmpRes P fn.results.toList = some rs
/-- The kernel's check of a function. -/
def fnOk (P : Program) (f : FuncId) : Option (AC × Nat × List ARes) :=
  if enterable P f = true then (P.funcs[f]?).bind fun fn => fn.body.bind fun c => (cmpCode P c).bind fun ac => (cmpRes P fn.results.toList).map fun rs => (ac, fn.ntmps, rs) else none
theorem FnOk.of {P : Program} {f : FuncId} {ac : AC} {n : Nat} {rs : List ARes} (h : fnOk P f = some (ac, n, rs)) : FnOk P f ac n rs := by
  unfold fnOk at h
  split at h
  · rename_i he
    simp only [Option.bind_eq_some_iff, Option.map_eq_some_iff, Prod.mk.injEq] at h
    obtain ⟨fn, h1, c, h2, ac', h3, rs', h4, rfl, rfl, rfl⟩ := h
    exact ⟨he, fn, c, h1, h2, h3, rfl, h4⟩
  · cases h

/-- The temporaries at a function's head. -/
def start (args : List AV) (n : Nat) : List AV := args ++ List.replicate (n - args.length) .undef

def scopedH (n : Nat) : List HB → Bool
  | [] => true
  | .var cs :: r => scopedL n cs && scopedH n r
  | .tvar _ cs :: r => scopedL n cs && scopedH n r
  | .tok _ _ _ :: r => scopedH n r

/-- What a function's end must be like. -/
def fin (rs : List ARes) (res : AV) (H0 : List HB) (x : AX) (t : List AV) (H : List HB) : Prop :=
  (x = .normal ∨ x = .ret) ∧ (∃ v, aRes t H rs = some v ∧ v.strip = res) ∧ (∃ L, H = H0 ++ L) ∧ res.inScope H0.length = true ∧ scopedH H0.length H0 = true

theorem scopedH_get {n : Nat} : ∀ {H : List HB}, scopedH n H = true → ∀ (b : Nat) cs, H[b]? = some (.var cs) → scopedL n cs = true
  | [], _, b, cs, h => by simp at h
  | .var c :: r, s, b, cs, h => by
    simp only [scopedH, Bool.and_eq_true] at s
    cases b with
    | zero => simp at h; subst h; exact s.1
    | succ b => simp at h; exact scopedH_get s.2 b cs h
  | .tvar _ c :: r, s, b, cs, h => by
    simp only [scopedH, Bool.and_eq_true] at s
    cases b with
    | zero => simp at h
    | succ b => simp at h; exact scopedH_get s.2 b cs h
  | .tok _ _ _ :: r, s, b, cs, h => by
    simp only [scopedH] at s
    cases b with
    | zero => simp at h
    | succ b => simp at h; exact scopedH_get s b cs h
theorem scopedH_getT {n : Nat} : ∀ {H : List HB}, scopedH n H = true → ∀ (b : Nat) e cs, H[b]? = some (.tvar e cs) → scopedL n cs = true
  | [], _, b, e, cs, h => by simp at h
  | .var c :: r, s, b, e, cs, h => by
    simp only [scopedH, Bool.and_eq_true] at s
    cases b with
    | zero => simp at h
    | succ b => simp at h; exact scopedH_getT s.2 b e cs h
  | .tvar _ c :: r, s, b, e, cs, h => by
    simp only [scopedH, Bool.and_eq_true] at s
    cases b with
    | zero => simp at h; rw [← h.2]; exact s.1
    | succ b => simp at h; exact scopedH_getT s.2 b e cs h
  | .tok _ _ _ :: r, s, b, e, cs, h => by
    simp only [scopedH] at s
    cases b with
    | zero => simp at h
    | succ b => simp at h; exact scopedH_getT s b e cs h

/-- The names beyond n are forgotten. -/
theorem St.forget {F F' : Addr → Prop} {g g' : Gh} {H0 H L : List HB} {w w' : World} (hs : St F' g' (H0 ++ L) w') (hx : Ext F g H w F' g' (H0 ++ L) w') (hl : H.length ≤ H0.length) (hsc : scopedH H0.length H0 = true) (hg0 : ∀ b, H.length ≤ b → g.blk b = none ∧ g.tk b = none) :
    ∃ g2, (∀ b, b < H0.length → g2.blk b = g'.blk b ∧ g2.tk b = g'.tk b) ∧ St F' g2 H0 w' ∧ Ext F g H w F' g2 H0 w' := by
  let g2 : Gh := ⟨fun b => if b < H0.length then g'.blk b else none, fun b => if b < H0.length then g'.tk b else none⟩
  have e1 : ∀ b, b < H0.length → g2.blk b = g'.blk b ∧ g2.tk b = g'.tk b := fun b hb => ⟨if_pos hb, if_pos hb⟩
  have e2 : ∀ b, ¬ b < H0.length → g2.blk b = none ∧ g2.tk b = none := fun b hb => ⟨if_neg hb, if_neg hb⟩
  have e3 : ∀ b B, g2.blk b = some B → b < H0.length ∧ g'.blk b = some B := fun b B h => by
    by_cases hb : b < H0.length
    · exact ⟨hb, by rw [← (e1 b hb).1]; exact h⟩
    · rw [(e2 b hb).1] at h; cases h
  refine ⟨g2, e1, ⟨hs.live, fun b hb => e2 b (by omega), fun b b' B h h' => hs.inj b b' B (e3 b B h).2 (e3 b' B h').2, fun b cs hb => ?_, fun t n k ty ht => ?_, hs.spots, fun b e cs hb => ?_⟩, ⟨hx.sub, hx.keep, ⟨fun b B h1 h2 => ?_, fun t m c h => ?_⟩, hx.size, hx.frame, hx.new, fun b B hb h => ?_, hl, hx.io⟩⟩
  · have hbl := (List.getElem?_eq_some_iff.1 hb).1
    obtain ⟨B, vs, e, q1, q2, q3, q4, q5⟩ := hs.var b cs (by rw [List.getElem?_append_left hbl]; exact hb)
    exact ⟨B, vs, e, (e1 b hbl).1.trans q1, (e1 b hbl).2.trans q2, q3, RL_scoped e1 _ _ (scopedH_get hsc b cs hb) q4, q5⟩
  · have hbl := (List.getElem?_eq_some_iff.1 ht).1
    obtain ⟨B, cap, vs, e, fr, q1, q2, q3⟩ := hs.tok t n k _ (by rw [List.getElem?_append_left hbl]; exact ht)
    exact ⟨B, cap, vs, e, fr, (e1 t hbl).1.trans q1, (e1 t hbl).2.trans q2, q3⟩
  · have hbl := (List.getElem?_eq_some_iff.1 hb).1
    obtain ⟨B, vs, q1, q2, q3, q4, q5⟩ := hs.tvar b e cs (by rw [List.getElem?_append_left hbl]; exact hb)
    exact ⟨B, vs, (e1 b hbl).1.trans q1, (e1 b hbl).2.trans q2, q3, RL_scoped e1 _ _ (scopedH_getT hsc b e cs hb) q4, q5⟩
  · have hb : b < H.length := by
      rcases Nat.lt_or_ge b H.length with h | h
      · exact h
      · rw [(hg0 b h).1] at h1; cases h1
    obtain ⟨p, q⟩ := hx.gh.blk b B h1 h2
    have := e1 b (by omega)
    exact ⟨this.1.trans p, this.2.trans q⟩
  · have hb : t < H.length := by
      rcases Nat.lt_or_ge t H.length with h' | h'
      · exact h'
      · rw [(hg0 t h').2] at h; cases h
    obtain ⟨m', c', p, q, r⟩ := hx.gh.tk t m c h
    have := e1 t (by omega)
    exact ⟨m', c', this.2.trans p, q, fun e => ⟨(r e).1, this.1.trans (r e).2⟩⟩
  · obtain ⟨_, h'⟩ := e3 b B h
    exact hx.blks b B (by simp; omega) h'

theorem HCall.of {P : Program} {f : FuncId} {ac : AC} {n : Nat} {rs : List ARes} (hf : FnOk P f ac n rs) {args : List AV} {H H' : List HB} {res : AV} (hl : H.length ≤ H'.length) (h : AWp P ac (start args n) H (fin rs res H')) : HCall P f args H res H' := by
  refine ⟨hf.en, fun F g w vs hG hs hr => ?_⟩
  obtain ⟨fn, c, h1, h2, h3, h4, h5⟩ := hf.fn
  refine calls_of_wp h1 h2 ?_
  have hlen := RL_len hr
  have htm : Tm F g w (start args n) { tmps := vs.toArray ++ Array.replicate (fn.ntmps - vs.toArray.size) undef, defers := [] } := by
    show RL F g w _ _
    simp only [start, Array.toList_append, Array.toList_replicate, List.size_toArray, h4, hlen]
    exact RL_append hr (RL_rep R_undef _)
  refine wp_mono (h c h3 F g w _ ⟨hs, htm, rfl, hG⟩) ?_
  rintro e a' w' ⟨x, t', H2, F', g', rfl, ⟨hx, ⟨v, hv, hle⟩, ⟨L, rfl⟩, hsc, hscH⟩, hs', hext⟩
  obtain ⟨u, hu, hru⟩ := res_sound hs' h5 hv
  obtain ⟨g2, e1, e2, e3⟩ := St.forget hs'.1 hext hl hscH hs.beyond
  have hres := R_scoped e1 res u hsc (hle ▸ R_strip v u hru)
  rcases hx with rfl | rfl
  · exact ⟨hs'.2.2.1, u, hu, u, F', g2, rfl, hres, e2, e3⟩
  · exact ⟨hs'.2.2.1, u, hu, u, F', g2, rfl, hres, e2, e3⟩

/-- Arguments of which more is known. -/
theorem HCall.args {P : Program} {f : FuncId} {args args' : List AV} {H H' : List HB} {res : AV} (h : HCall P f args H res H') (he : stripL args' = args) : HCall P f args' H res H' :=
  ⟨h.1, fun F g w vs hG hs hr => h.2 F g w vs hG hs (he ▸ RL_strip _ _ hr)⟩

/-- A function of pure data, over any heap. -/
theorem HCall.lift {P : Program} {f : FuncId} {args : List AV} {res : AV} (h : HCall P f args [] res []) (ha : scopedL 0 args = true) (hr : res.inScope 0 = true) (H : List HB) : HCall P f args H res H := by
  refine ⟨h.1, fun F g w vs hG hs hrl => ?_⟩
  let g0 : Gh := ⟨fun _ => none, fun _ => none⟩
  have hs0 : St F g0 [] w := ⟨hs.live, fun _ _ => ⟨rfl, rfl⟩, fun _ _ _ h => (by cases h), fun b cs h => (by simp at h), fun t n k ty h => (by simp at h), hs.spots, fun b e cs h => (by simp at h)⟩
  refine (h.2 F g0 w vs hG hs0 (RL_scoped (n := 0) (fun b hb => absurd hb (Nat.not_lt_zero b)) _ _ ha hrl)).mono ?_
  rintro e w' ⟨v, F', g', rfl, hv, hs', hx⟩
  have hfr : ∀ B, B < w.heap.size → w'.heap[B]? = w.heap[B]? := fun B hB => hx.frame B hB fun b hb => absurd hb (Nat.not_lt_zero b)
  have hK : Keeps F g w F' g w' := ⟨hx.sub, hx.keep, Gh.le_refl g⟩
  have hnew : ∀ a, F' a → F a ∨ w.heap.size ≤ a.block := fun a ha => by
    rcases hx.new a ha with h | h | ⟨t, ht, _⟩
    · exact .inl h
    · exact .inr h
    · exact absurd ht (Nat.not_lt_zero t)
  refine ⟨v, F', g, rfl, R_scoped (n := 0) (fun b hb => absurd hb (Nat.not_lt_zero b)) _ _ hr hv, ⟨hs'.live, hs.beyond, hs.inj, fun b cs hb => ?_, fun t n k ty ht => ?_, hs'.spots, fun b e cs hb => ?_⟩, ⟨hx.sub, hx.keep, Gh.le_refl g, hx.size, fun B hB _ => hfr B hB, fun a ha => (hnew a ha).imp id .inl, fun b B hb h => .inl ⟨hb, h⟩, Nat.le_refl _, hx.io⟩⟩
  · obtain ⟨B, us, e, q1, q2, q3, q4, q5⟩ := hs.var b cs hb
    exact ⟨B, us, e, q1, q2, (hfr B (heap_lt q3)).trans q3, RL.mono hK _ _ q4, fun off h => by
      rcases hnew _ h with h | h
      · exact q5 off h
      · have := heap_lt q3; simp only at h; omega⟩
  · obtain ⟨B, cap, us, e, fr, q1, q2, q3, q4, q5, q6⟩ := hs.tok t n k _ ht
    exact ⟨B, cap, us, e, fr, q1, q2, (hfr B (heap_lt q3)).trans q3, q4, q5, fun off ho h => by
      rcases hnew _ h with h | h
      · exact q6 off ho h
      · have := heap_lt q3; simp only at h; omega⟩
  · obtain ⟨B, us, q1, q2, q3, q4, q5⟩ := hs.tvar b e cs hb
    exact ⟨B, us, q1, q2, (hfr B (heap_lt q3)).trans q3, RL.mono hK _ _ q4, fun off h => by
      rcases hnew _ h with h | h
      · exact q5 off h
      · have := heap_lt q3; simp only at h; omega⟩
end Go.Proofs.YtblbepjnkehoaaaGreatDoor
/- Abstract code, run by rewriting: conditions for a piece of code to end in a post, as a function of the code. -/
namespace Go.Proofs.YtblbepjnkehoaaaGreatDoor
open Go

/-- A choice; the branches are not looked at before the choice is made. -/
def ifG (b : Bool) (x y : Prop) : Prop := if b = true then x else y
theorem ifG_true (x y : Prop) : ifG true x y = x := rfl
theorem ifG_false (x y : Prop) : ifG false x y = y := rfl
theorem ifG_spec {b : Bool} {x y : Prop} (h : ifG b x y) : (b = true ∧ x) ∨ (b = false ∧ y) := by
  cases b
  · exact .inr ⟨rfl, h⟩
  · exact .inl ⟨rfl, h⟩
/-- A test. -/
def condK (v : AV) (x y : Prop) : Prop := match v with | .bool b => ifG b x y | _ => False
theorem condK_bool (b : Bool) (x y : Prop) : condK (.bool b) x y = ifG b x y := rfl

/-- A call's place in a run. -/
def callA (P : Program) (f : AV) (args : List AV) (H : List HB) (K : AV → List HB → Prop) : Prop :=
  match f with
  | .fn (.func n) a b => ∃ v H', HCall P n (a ++ args ++ b) H v H' ∧ K v H'
  | _ => False
def optK (x : Option (AV × List HB)) (K : AV → List HB → Prop) : Prop :=
  match x with
  | some (v, H) => K v H
  | none => False
theorem optK_some (v : AV) (H : List HB) (K : AV → List HB → Prop) : optK (some (v, H)) K = K v H := rfl

/-- One operation, as a function. -/
def opC (P : Program) (op : AOp) (t : List AV) (H : List HB) (K : AV → List HB → Prop) : Prop :=
  match op with
  | .call f args => callA P (aev t f) (args.map (aev t)) H K
  | op => optK (astep op (aev t) H) K
/-- A run in the order of the text, as a function. -/
def arunC (P : Program) : List AO → List AV → List HB → (List AV → List HB → Prop) → Prop
  | [], t, H, K => K t H
  | o :: r, t, H, K => ifG (guardA t o.guard) (opC P o.op t H fun v H' => arunC P r (putA t o.dst v) H' K) (arunC P r (putA t o.dst .undef) H K)

theorem optK_spec {o : Option (AV × List HB)} {K : AV → List HB → Prop} (h : optK o K) : ∃ v H', o = some (v, H') ∧ K v H' := by
  cases o with
  | none => exact h.elim
  | some p => exact ⟨p.1, p.2, rfl, h⟩
theorem callA_spec {P : Program} {f : AR} {args : List AR} {t : List AV} {H : List HB} {K : AV → List HB → Prop} (h : callA P (aev t f) (args.map (aev t)) H K) : ∃ v H', ORes P (.call f args) (aev t) H v H' ∧ K v H' := by
  unfold callA at h
  split at h
  · rename_i n a b hf
    obtain ⟨v, H', h1, h2⟩ := h
    exact ⟨v, H', ⟨n, a, b, hf, h1⟩, h2⟩
  · exact h.elim
theorem opC_spec {P : Program} {op : AOp} {t : List AV} {H : List HB} {K : AV → List HB → Prop} (h : opC P op t H K) : ∃ v H', ORes P op (aev t) H v H' ∧ K v H' := by
  cases op <;> simp only [opC] at h <;> first
    | exact callA_spec h
    | exact optK_spec h
theorem arunC_sound {P : Program} : ∀ {l : List AO} {t : List AV} {H : List HB} {K : List AV → List HB → Prop}, arunC P l t H K → arun P l t H K
  | [], _, _, _, h => h
  | o :: r, t, H, K, h => by
    simp only [arunC] at h
    simp only [arun]
    rcases ifG_spec h with ⟨hg, h⟩ | ⟨hg, h⟩
    · obtain ⟨v, H', h1, h2⟩ := opC_spec h
      exact .inl ⟨hg, v, H', h1, arunC_sound h2⟩
    · exact .inr ⟨hg, arunC_sound h⟩

/-! ### Regions that draw their order -/
def isStore : AOp → Bool
  | .store _ _ _ => true
  | _ => false
/-- Operations that leave the abstract heap alone. -/
def quietOp : AOp → Bool
  | .store _ _ _ | .alloc _ | .box _ | .boxT _ _ | .append _ _ _ _ | .appendS _ _ _ => false
  | _ => true
def npOf (l : List AO) : Nat := (l.takeWhile fun o => !isStore o.op).length
/-- The variables that nothing before the last stores turns. -/
def keepV (V : Nat → Bool) (H0 H : List HB) : Prop := ∀ b cs, V b = true → H0[b]? = some (.var cs) → H[b]? = some (.var cs)
def flOf (l : List AO) (nq : List Nat) (k : Nat) : Bool := match l[k]? with | some o => quietOp o.op && !nq.contains k | none => false

def optV (x : Option AV) (K : AV → Prop) : Prop := match x with | some v => K v | none => False
theorem optV_some (v : AV) (K : AV → Prop) : optV (some v) K = K v := rfl
/-- What a load gives that sees the variables as they were at the region's head. -/
def loadV (V : Nat → Bool) (H0 : List HB) (ag : Bool) (n : Nat) (x : AV) : Option AV :=
  match x with
  | .ptr b off => if V b = true then match H0[b]? with
      | some (.var cs) => takeCells ag n (cs.drop off)
      | _ => none
    else none
  | .eptr cs => takeCells ag n cs
  | _ => none
def pcallA (P : Program) (V : Nat → Bool) (H0 : List HB) (f : AV) (args : List AV) (K : AV → Prop) : Prop :=
  match f with
  | .fn (.func n) a b => ∃ v, (∀ H, keepV V H0 H → HCall P n (a ++ args ++ b) H v H) ∧ K v
  | _ => False
def dopC (P : Program) (V : Nat → Bool) (nq : Bool) (H0 : List HB) (op : AOp) (t : List AV) (H : List HB) (K : AV → List HB → Prop) : Prop :=
  match op with
  | .call f args => ifG nq (callA P (aev t f) (args.map (aev t)) H fun v H' => keepV V H0 H' ∧ K v H') (pcallA P V H0 (aev t f) (args.map (aev t)) fun v => K v H)
  | .load ag n x => ifG nq (optK (astep (.load ag n x) (aev t) H) K) (optV (loadV V H0 ag n (aev t x)) fun v => K v H)
  | op => optK (astep op (aev t) H) K
def drunC (P : Program) (V : Nat → Bool) (nq : List Nat) (H0 : List HB) : Nat → List AO → List AV → List HB → (List AV → List HB → Prop) → Prop
  | _, [], t, H, K => K t H
  | k, o :: r, t, H, K => ifG (guardA t o.guard) (dopC P V (nq.contains k) H0 o.op t H fun v H' => drunC P V nq H0 (k + 1) r (putA t o.dst v) H' K) (drunC P V nq H0 (k + 1) r (putA t o.dst .undef) H K)

theorem quiet_astep {op : AOp} {ρ : AR → AV} {H H' : List HB} {v : AV} (hq : quietOp op = true) (hl : ∀ ag n x, op ≠ .load ag n x) (h : astep op ρ H = some (v, H')) : H' = H ∧ ∀ H2, astep op ρ H2 = some (v, H2) := by
  cases op <;> simp only [quietOp, Bool.false_eq_true] at hq <;> simp only [astep] at h ⊢
  case load => exact absurd rfl (hl _ _ _)
  all_goals (repeat' (split at h)) <;> first
    | (cases h; done)
    | (simp only [Option.some.injEq, Prod.mk.injEq] at h; obtain ⟨rfl, rfl⟩ := h; exact ⟨rfl, fun _ => by simp_all⟩)
    | (simp only [Option.map_eq_some_iff, Prod.mk.injEq] at h; obtain ⟨z, hz, rfl, rfl⟩ := h; exact ⟨rfl, fun _ => by simp_all⟩)

theorem keep_append {H L : List HB} {b : Nat} {cs : List AV} (h : H[b]? = some (.var cs)) : (H ++ L)[b]? = some (.var cs) := by
  rw [List.getElem?_append_left (List.getElem?_eq_some_iff.1 h).1]; exact h
theorem keep_aappend {k : Nat} {e : TypeId} {tok : Tok} {els ys : List (List AV)} {H H' : List HB} {v : AV} (h : aappend k e tok els ys H = some (v, H')) {b : Nat} {cs : List AV} (hb : H[b]? = some (.var cs)) : H'[b]? = some (.var cs) := by
  unfold aappend at h
  split at h
  · cases tok with
    | own t =>
      simp only at h
      split at h
      · rename_i n k' e' ht
        split at h
        · simp only [Option.some.injEq, Prod.mk.injEq] at h
          obtain ⟨_, rfl⟩ := h
          have : t ≠ b := fun e => by subst e; rw [hb] at ht; cases ht
          rw [List.getElem?_set_ne this]; exact hb
        · cases h
      · cases h
    | none => cases h
    | nn => cases h
    | tight =>
      cases ys <;> simp only [appendNew, Option.some.injEq, Prod.mk.injEq] at h <;> obtain ⟨_, rfl⟩ := h
      · exact hb
      · exact keep_append hb
    | nilT =>
      cases ys <;> simp only [appendNew, Option.some.injEq, Prod.mk.injEq] at h <;> obtain ⟨_, rfl⟩ := h
      · exact hb
      · exact keep_append hb
  · cases h
theorem keep_astep {op : AOp} {ρ : AR → AV} {H H' : List HB} {v : AV} (hq : quietOp op = false) (hs : isStore op = false) (h : astep op ρ H = some (v, H')) {b : Nat} {cs : List AV} (hb : H[b]? = some (.var cs)) : H'[b]? = some (.var cs) := by
  cases op <;> simp only [quietOp, isStore] at hq hs <;> try (first | (cases hq; done) | (cases hs; done))
  all_goals simp only [astep] at h
  case alloc => simp only [Option.some.injEq, Prod.mk.injEq] at h; obtain ⟨_, rfl⟩ := h; exact keep_append hb
  case box => simp only [Option.some.injEq, Prod.mk.injEq] at h; obtain ⟨_, rfl⟩ := h; exact keep_append hb
  case boxT => simp only [Option.some.injEq, Prod.mk.injEq] at h; obtain ⟨_, rfl⟩ := h; exact keep_append hb
  case append => split at h; exact keep_aappend h hb; cases h
  case appendS => split at h; exact keep_aappend h hb; cases h

theorem npOf_le {L : List AO} {k : Nat} {o : AO} (h : L[k]? = some o) (hs : isStore o.op = true) : npOf L ≤ k := by
  unfold npOf
  induction L generalizing k with
  | nil => simp
  | cons x xs ih =>
    cases k with
    | zero => simp at h; subst h; simp [hs]
    | succ k =>
      simp at h
      rw [List.takeWhile_cons]
      split
      · have := ih h; simp only [List.length_cons]; omega
      · exact Nat.zero_le _

theorem drunC_soundN {P : Program} {V : Nat → Bool} {nq : List Nat} {H0 : List HB} {L : List AO} {ws : List (List Nat)} {np : Nat} {K : List AV → List HB → Prop} (hok : lexOk L ws (flOf L nq) np = true)
    (hst : ∀ (k : Nat) (o : AO) (l : List AO) (t : List AV) (H' : List HB), L[k]? = some o → isStore o.op = true → (∀ j, l[j]? = L[k + 1 + j]?) → drunC P V nq H0 (k + 1) l t H' K → keepV V H0 H' ∨ np ≤ k) : ∀ (l : List AO) (k : Nat) (t : List AV) (H : List HB), (∀ j, l[j]? = L[k + j]?) →
    (keepV V H0 H ∨ np ≤ k) → drunC P V nq H0 k l t H K → drun P (flOf L nq) np (keepV V H0) k l t H K
  | [], _, _, _, _, _, h => h
  | o :: l, k, t, H, hl, hC, h => by
    have ho : L[k]? = some o := by simpa using (hl 0).symm
    have hkl : k < L.length := (List.getElem?_eq_some_iff.1 ho).1
    have hl' : ∀ j, l[j]? = L[k + 1 + j]? := fun j => by
      have := hl (j + 1)
      simp only [List.getElem?_cons_succ] at this
      rw [this]; congr 1; omega
    have hfl : flOf L nq k = (quietOp o.op && !nq.contains k) := by simp [flOf, ho]
    simp only [drunC] at h
    simp only [drun]
    rcases ifG_spec h with ⟨hg, h⟩ | ⟨hg, h⟩
    · left
      refine ⟨hg, ?_⟩
      by_cases hf : flOf L nq k = true
      · left
        have hCH : keepV V H0 H := by
          rcases hC with h | h
          · exact h
          · have := (lexOk_spec hok hkl).2.2.1 hf; omega
        have hf' := hf
        rw [hfl, Bool.and_eq_true, Bool.not_eq_true'] at hf'
        refine ⟨hf, hCH, ?_⟩
        have fin : ∀ v, (∀ H2, keepV V H0 H2 → ORes P o.op (aev t) H2 v H2) → drunC P V nq H0 (k + 1) l (putA t o.dst v) H K → ∃ v, (∀ H2, keepV V H0 H2 → ORes P o.op (aev t) H2 v H2) ∧ drun P (flOf L nq) (np) (keepV V H0) (k + 1) l (putA t o.dst v) H K :=
          fun v h1 h2 => ⟨v, h1, drunC_soundN hok hst l (k + 1) _ H hl' (.inl hCH) h2⟩
        generalize hop : o.op = op at h fin hf'
        cases op with
        | call f args =>
          simp only [dopC, hf'.2, ifG_false, pcallA] at h
          split at h
          · rename_i n a b hfv
            obtain ⟨v, h1, h2⟩ := h
            exact fin v (fun H2 hH2 => ⟨n, a, b, hfv, h1 H2 hH2⟩) h2
          · exact h.elim
        | load ag n x =>
          simp only [dopC, hf'.2, ifG_false] at h
          have hv : ∃ v, loadV V H0 ag n (aev t x) = some v ∧ drunC P V nq H0 (k + 1) l (putA t o.dst v) H K := by
            cases hx : loadV V H0 ag n (aev t x) with
            | none => rw [hx] at h; exact h.elim
            | some v => rw [hx] at h; exact ⟨v, rfl, h⟩
          obtain ⟨v, hv, hd⟩ := hv
          refine fin v (fun H2 hH2 => ?_) hd
          unfold loadV at hv
          split at hv
          · rename_i b off hx
            split at hv
            · rename_i hV
              split at hv
              · rename_i cs hcs
                simp only [ORes, astep, hx, hH2 b cs hV hcs, hv, Option.map_some]
              · cases hv
            · cases hv
          · rename_i cs hx
            simp only [ORes, astep, hx, hv, Option.map_some]
          · cases hv
        | _ =>
          simp only [dopC] at h
          obtain ⟨v, H', h1, h2⟩ := optK_spec h
          obtain ⟨rfl, h3⟩ := quiet_astep hf'.1 (by simp) h1
          exact fin v (fun H2 _ => h3 H2) h2
      · right
        have hf0 : flOf L nq k = false := by simpa using hf
        refine ⟨hf0, ?_⟩
        have fin : ∀ v H', ORes P o.op (aev t) H v H' → (keepV V H0 H' ∨ np ≤ k) → drunC P V nq H0 (k + 1) l (putA t o.dst v) H' K → ∃ v H', ORes P o.op (aev t) H v H' ∧ (keepV V H0 H' ∨ np ≤ k) ∧ drun P (flOf L nq) (np) (keepV V H0) (k + 1) l (putA t o.dst v) H' K :=
          fun v H' h1 h2 h3 => ⟨v, H', h1, h2, drunC_soundN hok hst l (k + 1) _ H' hl' (h2.imp id (by omega)) h3⟩
        have hstore : isStore o.op = true → ∀ t H', drunC P V nq H0 (k + 1) l t H' K → keepV V H0 H' ∨ np ≤ k := fun h t H' hd => hst k o l t H' ho h hl' hd
        rw [hfl, Bool.and_eq_false_iff] at hf0
        generalize hop : o.op = op at h fin hf0 hstore
        cases op with
        | call f args =>
          have hnq : nq.contains k = true := by
            rcases hf0 with h | h
            · cases h
            · simpa using h
          simp only [dopC, hnq, ifG_true] at h
          obtain ⟨v, H', h1, h2, h3⟩ := callA_spec h
          exact fin v H' h1 (.inl h2) h3
        | load ag n x =>
          have hnq : nq.contains k = true := by
            rcases hf0 with h | h
            · cases h
            · simpa using h
          simp only [dopC, hnq, ifG_true] at h
          obtain ⟨v, H', h1, h2⟩ := optK_spec h
          have hH : H' = H := by
            simp only [astep] at h1
            (repeat' (split at h1)) <;> first | (cases h1; done) | (simp only [Option.map_eq_some_iff, Prod.mk.injEq] at h1; obtain ⟨_, _, _, rfl⟩ := h1; rfl)
          exact fin v H' h1 (hH ▸ hC) h2
        | store n p x =>
          simp only [dopC] at h
          obtain ⟨v, H', h1, h2⟩ := optK_spec h
          exact fin v H' h1 (hstore rfl _ _ h2) h2
        | _ =>
          simp only [dopC] at h
          obtain ⟨v, H', h1, h2⟩ := optK_spec h
          refine fin v H' h1 (hC.imp (fun hC' => ?_) id) h2
          first
            | exact fun b cs hV hb => keep_astep rfl rfl h1 (hC' b cs hV hb)
            | (have hq := (quiet_astep rfl (by simp) h1).1; rw [hq]; exact hC')
    · exact .inr ⟨hg, drunC_soundN hok hst l (k + 1) _ H hl' (hC.imp id (by omega)) h⟩

theorem drunC_sound {P : Program} {V : Nat → Bool} {nq : List Nat} {H0 : List HB} {L : List AO} {ws : List (List Nat)} (hok : lexOk L ws (flOf L nq) (npOf L) = true) (l : List AO) (k : Nat) (t : List AV) (H : List HB) (K : List AV → List HB → Prop) (hl : ∀ j, l[j]? = L[k + j]?)
    (hC : keepV V H0 H ∨ npOf L ≤ k) (h : drunC P V nq H0 k l t H K) : drun P (flOf L nq) (npOf L) (keepV V H0) k l t H K :=
  drunC_soundN hok (fun _ _ _ _ _ ho h _ _ => .inr (npOf_le ho h)) l k t H hl hC h
/-- Behind the first store nothing turns the heap. -/
def tailOk (l : List AO) (nq : List Nat) : Bool := (List.range l.length).all fun j => decide (j ≤ npOf l) || (match l[j]? with | some o => quietOp o.op && !nq.contains j | none => true)
theorem tailOk_spec {L : List AO} {nq : List Nat} (h : tailOk L nq = true) {j : Nat} {o : AO} (ho : L[j]? = some o) (hj : npOf L < j) : quietOp o.op = true ∧ nq.contains j = false := by
  unfold tailOk at h
  rw [List.all_eq_true] at h
  have := h j (List.mem_range.2 (List.getElem?_eq_some_iff.1 ho).1)
  rw [ho] at this
  simp only [Bool.or_eq_true, decide_eq_true_eq, Bool.and_eq_true, Bool.not_eq_true'] at this
  rcases this with h | h
  · omega
  · exact h
theorem drunC_tail {P : Program} {V : Nat → Bool} {nq : List Nat} {H0 : List HB} {K : List AV → List HB → Prop} : ∀ (l : List AO) (k : Nat) (t : List AV) (H : List HB), (∀ j o, l[j]? = some o → quietOp o.op = true ∧ nq.contains (k + j) = false) → drunC P V nq H0 k l t H K → ∃ t', K t' H
  | [], _, t, _, _, h => ⟨t, h⟩
  | o :: l, k, t, H, hq, h => by
    have hq' : ∀ j o, l[j]? = some o → quietOp o.op = true ∧ nq.contains (k + 1 + j) = false := fun j o ho => by
      have := hq (j + 1) o (by simpa using ho)
      rw [show k + 1 + j = k + (j + 1) by omega]; exact this
    have h0 := hq 0 o (by simp)
    simp only [Nat.add_zero] at h0
    simp only [drunC] at h
    rcases ifG_spec h with ⟨_, h⟩ | ⟨_, h⟩
    · generalize o.op = op at h h0
      cases op with
      | call f args =>
        simp only [dopC, h0.2, ifG_false, pcallA] at h
        split at h
        · obtain ⟨v, _, h2⟩ := h
          exact drunC_tail l (k + 1) _ H hq' h2
        · exact h.elim
      | load ag n x =>
        simp only [dopC, h0.2, ifG_false] at h
        cases hx : loadV V H0 ag n (aev t x) with
        | none => rw [hx] at h; exact h.elim
        | some v => rw [hx] at h; exact drunC_tail l (k + 1) _ H hq' h
      | _ =>
        simp only [dopC] at h
        obtain ⟨v, H', h1, h2⟩ := optK_spec h
        obtain ⟨rfl, _⟩ := quiet_astep h0.1 (by simp) h1
        exact drunC_tail l (k + 1) _ _ hq' h2
    · exact drunC_tail l (k + 1) _ H hq' h
theorem npOf_tail {L : List AO} {k : Nat} {o : AO} (h : L[k]? = some o) (hs : isStore o.op = true) : npOf L ≤ k := npOf_le h hs
/-- As below, for regions whose stores turn no kept variable. -/
theorem AWp.drawF {P : Program} {ops : List AO} {ws : List (List Nat)} {t : List AV} {H : List HB} {Q : AX → List AV → List HB → Prop} (hm : P.follows .mixedOrders = true) (V : Nat → Bool) (nq : List Nat) (hok : lexOk ops ws (flOf ops nq) ops.length = true) (ht : tailOk ops nq = true)
    (h : drunC P V nq H 0 ops t H fun t' H' => keepV V H H' ∧ Q .normal t' H') : AWp P (.draw ops ws) t H Q := by
  refine AWp.mono (AWp.draw (Q := fun x t' H' => keepV V H H' ∧ Q x t' H') hm (flOf ops nq) ops.length (keepV V H) hok (fun _ _ _ h => h) ?_) fun x t' H' hx => hx.2
  refine drunC_soundN hok (fun k o l t' H' ho hs hl hd => .inl ?_) ops 0 t H (by simp) (.inl fun _ _ _ h => h) h
  obtain ⟨t2, h2⟩ := drunC_tail l (k + 1) t' H' (fun j o' ho' => tailOk_spec ht (by rw [← hl j]; exact ho') (by have := npOf_tail ho hs; omega)) hd
  exact h2.1

theorem AWp.drawC {P : Program} {ops : List AO} {ws : List (List Nat)} {t : List AV} {H : List HB} {Q : AX → List AV → List HB → Prop} (hm : P.follows .mixedOrders = true) (V : Nat → Bool) (nq : List Nat) (hok : lexOk ops ws (flOf ops nq) (npOf ops) = true)
    (h : drunC P V nq H 0 ops t H fun t' H' => Q .normal t' H') : AWp P (.draw ops ws) t H Q :=
  AWp.draw hm (flOf ops nq) (npOf ops) (keepV V H) hok (fun _ _ _ h => h) (drunC_sound hok ops 0 t H _ (by simp) (.inl fun _ _ _ h => h) h)

/-- A piece of code as a function; loops stay. -/
def wpc (P : Program) : AC → (AX → List AV → List HB → Prop) → List AV → List HB → Prop
  | .skip, Q, t, H => Q .normal t H
  | .region ops, Q, t, H => arunC P ops t H fun t' H' => Q .normal t' H'
  | .draw ops ws, Q, t, H => (∃ V nq, lexOk ops ws (flOf ops nq) (npOf ops) = true ∧ drunC P V nq H 0 ops t H fun t' H' => Q .normal t' H') ∨
    ∃ V nq, lexOk ops ws (flOf ops nq) ops.length = true ∧ tailOk ops nq = true ∧ drunC P V nq H 0 ops t H fun t' H' => keepV V H H' ∧ Q .normal t' H'
  | .seq a b, Q, t, H => wpc P a (thenQ (fun t' H' => wpc P b Q t' H') Q) t H
  | .cond c a b, Q, t, H => condK (aev t c) (wpc P a Q t H) (wpc P b Q t H)
  | .block id a, Q, t, H => wpc P a (blockQ id Q) t H
  | .loop a, Q, t, H => AWp P (.loop a) t H Q
  | .exit id, Q, t, H => Q (.exit id) t H
  | .ret, Q, t, H => Q .ret t H
  | .bad, _, _, _ => False
theorem AWp.of {P : Program} (hm : P.follows .mixedOrders = true) : ∀ {ac : AC} {Q : AX → List AV → List HB → Prop} {t : List AV} {H : List HB}, wpc P ac Q t H → AWp P ac t H Q
  | .skip, _, _, _, h => AWp.skip h
  | .region _, _, _, _, h => AWp.region (arunC_sound h)
  | .draw _ _, _, _, _, h => by
    rcases h with ⟨V, nq, h1, h2⟩ | ⟨V, nq, h1, h2, h3⟩
    · exact AWp.drawC hm V nq h1 h2
    · exact AWp.drawF hm V nq h1 h2 h3
  | .seq _ _, Q, _, _, h => AWp.seq (AWp.mono (AWp.of hm h) fun x t H hx => by
      cases x with
      | normal => exact AWp.of hm hx
      | exit _ => exact hx
      | ret => exact hx)
  | .cond c x y, Q, t, H, h => by
    have key : ∃ b, aev t c = .bool b ∧ ifG b (wpc P x Q t H) (wpc P y Q t H) := by
      simp only [wpc] at h
      cases hx : aev t c <;> rw [hx] at h <;> first | exact ⟨_, rfl, h⟩ | exact h.elim
    obtain ⟨b, h0, h1⟩ := key
    refine AWp.cond h0 (fun e => ?_) (fun e => ?_)
    · subst e; exact AWp.of hm h1
    · subst e; exact AWp.of hm h1
  | .block _ _, _, _, _, h => AWp.block (AWp.of hm h)
  | .loop _, _, _, _, h => h
  | .exit _, _, _, _, h => AWp.exit h
  | .ret, _, _, _, h => AWp.ret h
  | .bad, _, _, _, h => h.elim
end Go.Proofs.YtblbepjnkehoaaaGreatDoor
/- Abstract code, run by rewriting with a stack in the place of a continuation, so that a run that stands still stays as it is. -/
namespace Go.Proofs.YtblbepjnkehoaaaGreatDoor
open Go

abbrev Post := AX → List AV → List HB → Prop
inductive Fr where
  | code (c : AC)
  | blk (id : Nat)
def kq (P : Program) : List Fr → Post → Post
  | [], Q, x, t, H => Q x t H
  | .code c :: k, Q, x, t, H => match x with | .normal => wpc P c (kq P k Q) t H | .exit i => kq P k Q (.exit i) t H | .ret => kq P k Q .ret t H
  | .blk id :: k, Q, x, t, H => match x with | .normal => kq P k Q .normal t H | .exit i => if i = id then kq P k Q .normal t H else kq P k Q (.exit i) t H | .ret => kq P k Q .ret t H

section
variable (P : Program)
/-- Code, with what comes behind. -/
def WP (c : AC) (k : List Fr) (Q : Post) (t : List AV) (H : List HB) : Prop := wpc P c (kq P k Q) t H
def KN (k : List Fr) (Q : Post) (t : List AV) (H : List HB) : Prop := kq P k Q .normal t H
def KE (i : Nat) (k : List Fr) (Q : Post) (t : List AV) (H : List HB) : Prop := kq P k Q (.exit i) t H
def KR (k : List Fr) (Q : Post) (t : List AV) (H : List HB) : Prop := kq P k Q .ret t H
def AR_ (l : List AO) (k : List Fr) (Q : Post) (t : List AV) (H : List HB) : Prop := arunC P l t H fun t' H' => KN P k Q t' H'
def OPT (x : Option (AV × List HB)) (dst : Option Nat) (l : List AO) (k : List Fr) (Q : Post) (t : List AV) : Prop := optK x fun v H' => AR_ P l k Q (putA t dst v) H'
def CALL (f : AV) (args : List AV) (dst : Option Nat) (l : List AO) (k : List Fr) (Q : Post) (t : List AV) (H : List HB) : Prop := callA P f args H fun v H' => AR_ P l k Q (putA t dst v) H'
def GRD (b : Bool) (o : AO) (l : List AO) (k : List Fr) (Q : Post) (t : List AV) (H : List HB) : Prop :=
  ifG b (opC P o.op t H fun v H' => AR_ P l k Q (putA t o.dst v) H') (AR_ P l k Q (putA t o.dst .undef) H)
def COND (v : AV) (a b : AC) (k : List Fr) (Q : Post) (t : List AV) (H : List HB) : Prop := condK v (WP P a k Q t H) (WP P b k Q t H)

variable {k : List Fr} {Q : Post} {t : List AV} {H : List HB}
theorem kq_code (c : AC) : kq P (.code c :: k) Q = thenQ (fun t' H' => wpc P c (kq P k Q) t' H') (kq P k Q) := by
  funext x t H; cases x <;> rfl
theorem kq_blk (id : Nat) : kq P (.blk id :: k) Q = blockQ id (kq P k Q) := by
  funext x t H; cases x <;> rfl
@[simp] theorem WP_seq (a b : AC) : WP P (.seq a b) k Q t H = WP P a (.code b :: k) Q t H := by simp only [WP, wpc, kq_code]
@[simp] theorem WP_block (id : Nat) (a : AC) : WP P (.block id a) k Q t H = WP P a (.blk id :: k) Q t H := by simp only [WP, wpc, kq_blk]
@[simp] theorem WP_skip : WP P .skip k Q t H = KN P k Q t H := rfl
@[simp] theorem WP_exit (i : Nat) : WP P (.exit i) k Q t H = KE P i k Q t H := rfl
@[simp] theorem WP_ret : WP P .ret k Q t H = KR P k Q t H := rfl
@[simp] theorem WP_region (l : List AO) : WP P (.region l) k Q t H = AR_ P l k Q t H := rfl
@[simp] theorem WP_cond (c : AR) (a b : AC) : WP P (.cond c a b) k Q t H = COND P (aev t c) a b k Q t H := rfl
@[simp] theorem COND_true (a b : AC) : COND P (.bool true) a b k Q t H = WP P a k Q t H := rfl
@[simp] theorem COND_false (a b : AC) : COND P (.bool false) a b k Q t H = WP P b k Q t H := rfl
@[simp] theorem KN_nil : KN P [] Q t H = Q .normal t H := rfl
@[simp] theorem KN_code (c : AC) : KN P (.code c :: k) Q t H = WP P c k Q t H := rfl
@[simp] theorem KN_blk (id : Nat) : KN P (.blk id :: k) Q t H = KN P k Q t H := rfl
@[simp] theorem KE_nil (i : Nat) : KE P i [] Q t H = Q (.exit i) t H := rfl
@[simp] theorem KE_code (i : Nat) (c : AC) : KE P i (.code c :: k) Q t H = KE P i k Q t H := rfl
@[simp] theorem KE_blk (i id : Nat) : KE P i (.blk id :: k) Q t H = if i = id then KN P k Q t H else KE P i k Q t H := rfl
@[simp] theorem KR_nil : KR P [] Q t H = Q .ret t H := rfl
@[simp] theorem KR_code (c : AC) : KR P (.code c :: k) Q t H = KR P k Q t H := rfl
@[simp] theorem KR_blk (id : Nat) : KR P (.blk id :: k) Q t H = KR P k Q t H := rfl
@[simp] theorem AR_nil : AR_ P [] k Q t H = KN P k Q t H := rfl
@[simp] theorem AR_cons (o : AO) (l : List AO) : AR_ P (o :: l) k Q t H = GRD P (guardA t o.guard) o l k Q t H := rfl
@[simp] theorem GRD_false (o : AO) (l : List AO) : GRD P false o l k Q t H = AR_ P l k Q (putA t o.dst .undef) H := rfl
@[simp] theorem GRD_call (dst : Option Nat) (f : AR) (args : List AR) (g : Option (Nat × Bool)) (l : List AO) : GRD P true ⟨dst, .call f args, g⟩ l k Q t H = CALL P (aev t f) (args.map (aev t)) dst l k Q t H := rfl
theorem GRD_op (o : AO) (l : List AO) (h : ∀ f args, o.op ≠ .call f args) : GRD P true o l k Q t H = OPT P (astep o.op (aev t) H) o.dst l k Q t := by
  obtain ⟨dst, op, g⟩ := o
  cases op <;> first | rfl | exact absurd rfl (h _ _)
@[simp] theorem OPT_some (v : AV) (H' : List HB) (dst : Option Nat) (l : List AO) : OPT P (some (v, H')) dst l k Q t = AR_ P l k Q (putA t dst v) H' := rfl

/-- A call, taken by its contract. -/
theorem CALL_of {P : Program} {n : FuncId} {args : List AV} {r : AV} {H' : List HB} {dst : Option Nat} {l : List AO} (h : HCall P n args H r H') (hn : AR_ P l k Q (putA t dst r) H') : CALL P (.fn (.func n) [] []) args dst l k Q t H :=
  ⟨r, H', by simpa using h, hn⟩
theorem CALL_cap {P : Program} {n : FuncId} {args first cap : List AV} {r : AV} {H' : List HB} {dst : Option Nat} {l : List AO} (h : HCall P n (first ++ args ++ cap) H r H') (hn : AR_ P l k Q (putA t dst r) H') : CALL P (.fn (.func n) first cap) args dst l k Q t H :=
  ⟨r, H', h, hn⟩

/-- Code is run with its post behind a name. -/
theorem AWp.run {P : Program} (hm : P.follows .mixedOrders = true) {c : AC} {Q : Post} {t : List AV} {H : List HB} (h : ∀ Q' : Post, (∀ x t H, Q x t H → Q' x t H) → WP P c [] Q' t H) : AWp P c t H Q := by
  have h1 := h Q (fun _ _ _ h => h)
  have h2 : kq P [] Q = Q := by funext x t H; rfl
  unfold WP at h1
  rw [h2] at h1
  exact AWp.of hm h1
/-- A loop inside a run. -/
theorem WP_loop {P : Program} {a : AC} (h : AWp P (.loop a) t H (kq P k Q)) : WP P (.loop a) k Q t H := h
end

/-! Tests that rest on a truth value that isn't known. -/
theorem COND_split {P : Program} {b : Bool} {x y : AC} {k : List Fr} {Q : Post} {t : List AV} {H : List HB} (h1 : b = true → WP P x k Q t H) (h2 : b = false → WP P y k Q t H) : COND P (.bool b) x y k Q t H := by
  cases b
  · exact h2 rfl
  · exact h1 rfl
theorem GRD_split {P : Program} {b : Bool} {o : AO} {l : List AO} {k : List Fr} {Q : Post} {t : List AV} {H : List HB} (h1 : b = true → GRD P true o l k Q t H) (h2 : b = false → GRD P false o l k Q t H) : GRD P b o l k Q t H := by
  cases b
  · exact h2 rfl
  · exact h1 rfl

@[simp] theorem g_mov (P : Program) (d : Option Nat) (x : AR) (g : Option (Nat × Bool)) (l : List AO) {k : List Fr} {Q : Post} {t : List AV} {H : List HB} : GRD P true ⟨d, .mov x, g⟩ l k Q t H = AR_ P l k Q (putA t d (aev t x)) H := rfl
@[simp] theorem g_pick (P : Program) (d : Option Nat) (c a b : AR) (g : Option (Nat × Bool)) (l : List AO) {k : List Fr} {Q : Post} {t : List AV} {H : List HB} : GRD P true ⟨d, .pick c a b, g⟩ l k Q t H = OPT P (astep (.pick c a b) (aev t) H) d l k Q t := rfl
@[simp] theorem g_alloc (P : Program) (d : Option Nat) (z : List AV) (g : Option (Nat × Bool)) (l : List AO) {k : List Fr} {Q : Post} {t : List AV} {H : List HB} : GRD P true ⟨d, .alloc z, g⟩ l k Q t H = OPT P (astep (.alloc z) (aev t) H) d l k Q t := rfl
@[simp] theorem g_box (P : Program) (d : Option Nat) (x : AR) (g : Option (Nat × Bool)) (l : List AO) {k : List Fr} {Q : Post} {t : List AV} {H : List HB} : GRD P true ⟨d, .box x, g⟩ l k Q t H = OPT P (astep (.box x) (aev t) H) d l k Q t := rfl
@[simp] theorem g_build (P : Program) (d : Option Nat) (z : List AV) (ps : List (Nat × Nat × AR)) (g : Option (Nat × Bool)) (l : List AO) {k : List Fr} {Q : Post} {t : List AV} {H : List HB} : GRD P true ⟨d, .build z ps, g⟩ l k Q t H = OPT P (astep (.build z ps) (aev t) H) d l k Q t := rfl
@[simp] theorem g_buildSl (P : Program) (d : Option Nat) (n : Nat) (z : List AV) (m : Nat) (ps : List (Nat × AR)) (g : Option (Nat × Bool)) (l : List AO) {k : List Fr} {Q : Post} {t : List AV} {H : List HB} : GRD P true ⟨d, .buildSl n z m ps, g⟩ l k Q t H = OPT P (astep (.buildSl n z m ps) (aev t) H) d l k Q t := rfl
@[simp] theorem g_emptySl (P : Program) (d : Option Nat)  (g : Option (Nat × Bool)) (l : List AO) {k : List Fr} {Q : Post} {t : List AV} {H : List HB} : GRD P true ⟨d, .emptySl , g⟩ l k Q t H = OPT P (astep (.emptySl ) (aev t) H) d l k Q t := rfl
@[simp] theorem g_makeSl (P : Program) (d : Option Nat) (n : Nat) (z : List AV) (m : Nat) (g : Option (Nat × Bool)) (l : List AO) {k : List Fr} {Q : Post} {t : List AV} {H : List HB} : GRD P true ⟨d, .makeSl n z m, g⟩ l k Q t H = OPT P (astep (.makeSl n z m) (aev t) H) d l k Q t := rfl
@[simp] theorem g_convSB (P : Program) (d : Option Nat) (x : AR) (g : Option (Nat × Bool)) (l : List AO) {k : List Fr} {Q : Post} {t : List AV} {H : List HB} : GRD P true ⟨d, .convSB x, g⟩ l k Q t H = OPT P (astep (.convSB x) (aev t) H) d l k Q t := rfl
@[simp] theorem g_load (P : Program) (d : Option Nat) (b : Bool) (n : Nat) (x : AR) (g : Option (Nat × Bool)) (l : List AO) {k : List Fr} {Q : Post} {t : List AV} {H : List HB} : GRD P true ⟨d, .load b n x, g⟩ l k Q t H = OPT P (astep (.load b n x) (aev t) H) d l k Q t := rfl
@[simp] theorem g_store (P : Program) (d : Option Nat) (n : Nat) (x y : AR) (g : Option (Nat × Bool)) (l : List AO) {k : List Fr} {Q : Post} {t : List AV} {H : List HB} : GRD P true ⟨d, .store n x y, g⟩ l k Q t H = OPT P (astep (.store n x y) (aev t) H) d l k Q t := rfl
@[simp] theorem g_nilck (P : Program) (d : Option Nat) (x : AR) (g : Option (Nat × Bool)) (l : List AO) {k : List Fr} {Q : Post} {t : List AV} {H : List HB} : GRD P true ⟨d, .nilck x, g⟩ l k Q t H = OPT P (astep (.nilck x) (aev t) H) d l k Q t := rfl
@[simp] theorem g_bin (P : Program) (d : Option Nat) (o : BinOp) (x y : AR) (g : Option (Nat × Bool)) (l : List AO) {k : List Fr} {Q : Post} {t : List AV} {H : List HB} : GRD P true ⟨d, .bin o x y, g⟩ l k Q t H = OPT P (astep (.bin o x y) (aev t) H) d l k Q t := rfl
@[simp] theorem g_binB (P : Program) (d : Option Nat) (b : Bool) (x y : AR) (g : Option (Nat × Bool)) (l : List AO) {k : List Fr} {Q : Post} {t : List AV} {H : List HB} : GRD P true ⟨d, .binB b x y, g⟩ l k Q t H = OPT P (astep (.binB b x y) (aev t) H) d l k Q t := rfl
@[simp] theorem g_binNil (P : Program) (d : Option Nat) (c : NK) (b : Bool) (x : AR) (g : Option (Nat × Bool)) (l : List AO) {k : List Fr} {Q : Post} {t : List AV} {H : List HB} : GRD P true ⟨d, .binNil c b x, g⟩ l k Q t H = OPT P (astep (.binNil c b x) (aev t) H) d l k Q t := rfl
@[simp] theorem g_un (P : Program) (d : Option Nat) (o : UnOp) (x : AR) (g : Option (Nat × Bool)) (l : List AO) {k : List Fr} {Q : Post} {t : List AV} {H : List HB} : GRD P true ⟨d, .un o x, g⟩ l k Q t H = OPT P (astep (.un o x) (aev t) H) d l k Q t := rfl
@[simp] theorem g_convInt (P : Program) (d : Option Nat) (i : IntKind) (x : AR) (g : Option (Nat × Bool)) (l : List AO) {k : List Fr} {Q : Post} {t : List AV} {H : List HB} : GRD P true ⟨d, .convInt i x, g⟩ l k Q t H = OPT P (astep (.convInt i x) (aev t) H) d l k Q t := rfl
@[simp] theorem g_mkfn (P : Program) (d : Option Nat) (f : Fn) (a b : List AR) (g : Option (Nat × Bool)) (l : List AO) {k : List Fr} {Q : Post} {t : List AV} {H : List HB} : GRD P true ⟨d, .mkfn f a b, g⟩ l k Q t H = OPT P (astep (.mkfn f a b) (aev t) H) d l k Q t := rfl
@[simp] theorem g_slice (P : Program) (d : Option Nat) (n : Nat) (x : AR) (lo hi mx : Option AR) (g : Option (Nat × Bool)) (l : List AO) {k : List Fr} {Q : Post} {t : List AV} {H : List HB} : GRD P true ⟨d, .slice n x lo hi mx, g⟩ l k Q t H = OPT P (astep (.slice n x lo hi mx) (aev t) H) d l k Q t := rfl
@[simp] theorem g_sslice (P : Program) (d : Option Nat) (x : AR) (lo hi : Option AR) (g : Option (Nat × Bool)) (l : List AO) {k : List Fr} {Q : Post} {t : List AV} {H : List HB} : GRD P true ⟨d, .sslice x lo hi, g⟩ l k Q t H = OPT P (astep (.sslice x lo hi) (aev t) H) d l k Q t := rfl
@[simp] theorem g_faddr (P : Program) (d : Option Nat) (n : Nat) (x : AR) (g : Option (Nat × Bool)) (l : List AO) {k : List Fr} {Q : Post} {t : List AV} {H : List HB} : GRD P true ⟨d, .faddr n x, g⟩ l k Q t H = OPT P (astep (.faddr n x) (aev t) H) d l k Q t := rfl
@[simp] theorem g_iaddr (P : Program) (d : Option Nat) (n : Nat) (x y : AR) (g : Option (Nat × Bool)) (l : List AO) {k : List Fr} {Q : Post} {t : List AV} {H : List HB} : GRD P true ⟨d, .iaddr n x y, g⟩ l k Q t H = OPT P (astep (.iaddr n x y) (aev t) H) d l k Q t := rfl
@[simp] theorem g_sidx (P : Program) (d : Option Nat) (x y : AR) (g : Option (Nat × Bool)) (l : List AO) {k : List Fr} {Q : Post} {t : List AV} {H : List HB} : GRD P true ⟨d, .sidx x y, g⟩ l k Q t H = OPT P (astep (.sidx x y) (aev t) H) d l k Q t := rfl
@[simp] theorem g_extract (P : Program) (d : Option Nat) (x : AR) (n : Nat) (g : Option (Nat × Bool)) (l : List AO) {k : List Fr} {Q : Post} {t : List AV} {H : List HB} : GRD P true ⟨d, .extract x n, g⟩ l k Q t H = OPT P (astep (.extract x n) (aev t) H) d l k Q t := rfl
@[simp] theorem g_len (P : Program) (d : Option Nat) (x : AR) (g : Option (Nat × Bool)) (l : List AO) {k : List Fr} {Q : Post} {t : List AV} {H : List HB} : GRD P true ⟨d, .len x, g⟩ l k Q t H = OPT P (astep (.len x) (aev t) H) d l k Q t := rfl
@[simp] theorem g_slen (P : Program) (d : Option Nat) (x : AR) (g : Option (Nat × Bool)) (l : List AO) {k : List Fr} {Q : Post} {t : List AV} {H : List HB} : GRD P true ⟨d, .slen x, g⟩ l k Q t H = OPT P (astep (.slen x) (aev t) H) d l k Q t := rfl
@[simp] theorem g_convS (P : Program) (d : Option Nat) (x : AR) (g : Option (Nat × Bool)) (l : List AO) {k : List Fr} {Q : Post} {t : List AV} {H : List HB} : GRD P true ⟨d, .convS x, g⟩ l k Q t H = OPT P (astep (.convS x) (aev t) H) d l k Q t := rfl
@[simp] theorem g_min (P : Program) (d : Option Nat) (xs : List AR) (g : Option (Nat × Bool)) (l : List AO) {k : List Fr} {Q : Post} {t : List AV} {H : List HB} : GRD P true ⟨d, .min xs, g⟩ l k Q t H = OPT P (astep (.min xs) (aev t) H) d l k Q t := rfl
@[simp] theorem g_max (P : Program) (d : Option Nat) (xs : List AR) (g : Option (Nat × Bool)) (l : List AO) {k : List Fr} {Q : Post} {t : List AV} {H : List HB} : GRD P true ⟨d, .max xs, g⟩ l k Q t H = OPT P (astep (.max xs) (aev t) H) d l k Q t := rfl
@[simp] theorem g_append (P : Program) (d : Option Nat) (n m : Nat) (x y : AR) (g : Option (Nat × Bool)) (l : List AO) {k : List Fr} {Q : Post} {t : List AV} {H : List HB} : GRD P true ⟨d, .append n m x y, g⟩ l k Q t H = OPT P (astep (.append n m x y) (aev t) H) d l k Q t := rfl
@[simp] theorem g_appendS (P : Program) (d : Option Nat) (m : Nat) (x y : AR) (g : Option (Nat × Bool)) (l : List AO) {k : List Fr} {Q : Post} {t : List AV} {H : List HB} : GRD P true ⟨d, .appendS m x y, g⟩ l k Q t H = OPT P (astep (.appendS m x y) (aev t) H) d l k Q t := rfl
@[simp] theorem g_mkif (P : Program) (d : Option Nat) (ty : Nat) (x : AR) (g : Option (Nat × Bool)) (l : List AO) {k : List Fr} {Q : Post} {t : List AV} {H : List HB} : GRD P true ⟨d, .mkif ty x, g⟩ l k Q t H = OPT P (astep (.mkif ty x) (aev t) H) d l k Q t := rfl

/-! ### Regions that draw their order -/
section
variable (P : Program) (V : Nat → Bool) (nq : List Nat) (H0 : List HB)
def DR (n : Nat) (l : List AO) (k : List Fr) (Q : Post) (t : List AV) (H : List HB) : Prop := drunC P V nq H0 n l t H fun t' H' => KN P k Q t' H'
def DOPT (n : Nat) (x : Option (AV × List HB)) (dst : Option Nat) (l : List AO) (k : List Fr) (Q : Post) (t : List AV) : Prop := optK x fun v H' => DR P V nq H0 (n + 1) l k Q (putA t dst v) H'
def DLOAD (n : Nat) (x : Option AV) (dst : Option Nat) (l : List AO) (k : List Fr) (Q : Post) (t : List AV) (H : List HB) : Prop := optV x fun v => DR P V nq H0 (n + 1) l k Q (putA t dst v) H
def DCALL (n : Nat) (f : AV) (args : List AV) (dst : Option Nat) (l : List AO) (k : List Fr) (Q : Post) (t : List AV) (H : List HB) : Prop := pcallA P V H0 f args fun v => DR P V nq H0 (n + 1) l k Q (putA t dst v) H
def DCALLI (n : Nat) (f : AV) (args : List AV) (dst : Option Nat) (l : List AO) (k : List Fr) (Q : Post) (t : List AV) (H : List HB) : Prop := callA P f args H fun v H' => keepV V H0 H' ∧ DR P V nq H0 (n + 1) l k Q (putA t dst v) H'
def DLD (c : Bool) (n : Nat) (ag : Bool) (m : Nat) (x : AR) (dst : Option Nat) (l : List AO) (k : List Fr) (Q : Post) (t : List AV) (H : List HB) : Prop :=
  ifG c (DOPT P V nq H0 n (astep (.load ag m x) (aev t) H) dst l k Q t) (DLOAD P V nq H0 n (loadV V H0 ag m (aev t x)) dst l k Q t H)
def DCL (c : Bool) (n : Nat) (f : AV) (args : List AV) (dst : Option Nat) (l : List AO) (k : List Fr) (Q : Post) (t : List AV) (H : List HB) : Prop :=
  ifG c (DCALLI P V nq H0 n f args dst l k Q t H) (DCALL P V nq H0 n f args dst l k Q t H)
def DGRD (n : Nat) (b : Bool) (o : AO) (l : List AO) (k : List Fr) (Q : Post) (t : List AV) (H : List HB) : Prop :=
  ifG b (dopC P V (nq.contains n) H0 o.op t H fun v H' => DR P V nq H0 (n + 1) l k Q (putA t o.dst v) H') (DR P V nq H0 (n + 1) l k Q (putA t o.dst .undef) H)
variable {n : Nat} {k : List Fr} {Q : Post} {t : List AV} {H : List HB}
@[simp] theorem DR_nil : DR P V nq H0 n [] k Q t H = KN P k Q t H := rfl
@[simp] theorem DR_cons (o : AO) (l : List AO) : DR P V nq H0 n (o :: l) k Q t H = DGRD P V nq H0 n (guardA t o.guard) o l k Q t H := rfl
@[simp] theorem DGRD_false (o : AO) (l : List AO) : DGRD P V nq H0 n false o l k Q t H = DR P V nq H0 (n + 1) l k Q (putA t o.dst .undef) H := rfl
@[simp] theorem DOPT_some (v : AV) (H' : List HB) (dst : Option Nat) (l : List AO) : DOPT P V nq H0 n (some (v, H')) dst l k Q t = DR P V nq H0 (n + 1) l k Q (putA t dst v) H' := rfl
@[simp] theorem DLOAD_some (v : AV) (dst : Option Nat) (l : List AO) : DLOAD P V nq H0 n (some v) dst l k Q t H = DR P V nq H0 (n + 1) l k Q (putA t dst v) H := rfl
@[simp] theorem DLD_true (ag : Bool) (m : Nat) (x : AR) (dst : Option Nat) (l : List AO) : DLD P V nq H0 true n ag m x dst l k Q t H = DOPT P V nq H0 n (astep (.load ag m x) (aev t) H) dst l k Q t := rfl
@[simp] theorem DLD_false (ag : Bool) (m : Nat) (x : AR) (dst : Option Nat) (l : List AO) : DLD P V nq H0 false n ag m x dst l k Q t H = DLOAD P V nq H0 n (loadV V H0 ag m (aev t x)) dst l k Q t H := rfl
@[simp] theorem DCL_true (f : AV) (args : List AV) (dst : Option Nat) (l : List AO) : DCL P V nq H0 true n f args dst l k Q t H = DCALLI P V nq H0 n f args dst l k Q t H := rfl
@[simp] theorem DCL_false (f : AV) (args : List AV) (dst : Option Nat) (l : List AO) : DCL P V nq H0 false n f args dst l k Q t H = DCALL P V nq H0 n f args dst l k Q t H := rfl
@[simp] theorem d_load (d : Option Nat) (b : Bool) (m : Nat) (x : AR) (g : Option (Nat × Bool)) (l : List AO) : DGRD P V nq H0 n true ⟨d, .load b m x, g⟩ l k Q t H = DLD P V nq H0 (nq.contains n) n b m x d l k Q t H := rfl
@[simp] theorem d_call (d : Option Nat) (f : AR) (args : List AR) (g : Option (Nat × Bool)) (l : List AO) : DGRD P V nq H0 n true ⟨d, .call f args, g⟩ l k Q t H = DCL P V nq H0 (nq.contains n) n (aev t f) (args.map (aev t)) d l k Q t H := rfl
@[simp] theorem d_mov (d : Option Nat) (x : AR) (g : Option (Nat × Bool)) (l : List AO) : DGRD P V nq H0 n true ⟨d, .mov x, g⟩ l k Q t H = DR P V nq H0 (n + 1) l k Q (putA t d (aev t x)) H := rfl
@[simp] theorem d_pick (d : Option Nat) (c a b : AR) (g : Option (Nat × Bool)) (l : List AO) : DGRD P V nq H0 n true ⟨d, .pick c a b, g⟩ l k Q t H = DOPT P V nq H0 n (astep (.pick c a b) (aev t) H) d l k Q t := rfl
@[simp] theorem d_alloc (d : Option Nat) (z : List AV) (g : Option (Nat × Bool)) (l : List AO) : DGRD P V nq H0 n true ⟨d, .alloc z, g⟩ l k Q t H = DOPT P V nq H0 n (astep (.alloc z) (aev t) H) d l k Q t := rfl
@[simp] theorem d_box (d : Option Nat) (x : AR) (g : Option (Nat × Bool)) (l : List AO) : DGRD P V nq H0 n true ⟨d, .box x, g⟩ l k Q t H = DOPT P V nq H0 n (astep (.box x) (aev t) H) d l k Q t := rfl
@[simp] theorem d_build (d : Option Nat) (z : List AV) (ps : List (Nat × Nat × AR)) (g : Option (Nat × Bool)) (l : List AO) : DGRD P V nq H0 n true ⟨d, .build z ps, g⟩ l k Q t H = DOPT P V nq H0 n (astep (.build z ps) (aev t) H) d l k Q t := rfl
@[simp] theorem d_buildSl (d : Option Nat) (n1 : Nat) (z : List AV) (m : Nat) (ps : List (Nat × AR)) (g : Option (Nat × Bool)) (l : List AO) : DGRD P V nq H0 n true ⟨d, .buildSl n1 z m ps, g⟩ l k Q t H = DOPT P V nq H0 n (astep (.buildSl n1 z m ps) (aev t) H) d l k Q t := rfl
@[simp] theorem d_emptySl (d : Option Nat)  (g : Option (Nat × Bool)) (l : List AO) : DGRD P V nq H0 n true ⟨d, .emptySl , g⟩ l k Q t H = DOPT P V nq H0 n (astep (.emptySl ) (aev t) H) d l k Q t := rfl
@[simp] theorem d_makeSl (d : Option Nat) (n1 : Nat) (z : List AV) (m : Nat) (g : Option (Nat × Bool)) (l : List AO) : DGRD P V nq H0 n true ⟨d, .makeSl n1 z m, g⟩ l k Q t H = DOPT P V nq H0 n (astep (.makeSl n1 z m) (aev t) H) d l k Q t := rfl
@[simp] theorem d_convSB (d : Option Nat) (x : AR) (g : Option (Nat × Bool)) (l : List AO) : DGRD P V nq H0 n true ⟨d, .convSB x, g⟩ l k Q t H = DOPT P V nq H0 n (astep (.convSB x) (aev t) H) d l k Q t := rfl
@[simp] theorem d_store (d : Option Nat) (n1 : Nat) (x y : AR) (g : Option (Nat × Bool)) (l : List AO) : DGRD P V nq H0 n true ⟨d, .store n1 x y, g⟩ l k Q t H = DOPT P V nq H0 n (astep (.store n1 x y) (aev t) H) d l k Q t := rfl
@[simp] theorem d_nilck (d : Option Nat) (x : AR) (g : Option (Nat × Bool)) (l : List AO) : DGRD P V nq H0 n true ⟨d, .nilck x, g⟩ l k Q t H = DOPT P V nq H0 n (astep (.nilck x) (aev t) H) d l k Q t := rfl
@[simp] theorem d_bin (d : Option Nat) (o : BinOp) (x y : AR) (g : Option (Nat × Bool)) (l : List AO) : DGRD P V nq H0 n true ⟨d, .bin o x y, g⟩ l k Q t H = DOPT P V nq H0 n (astep (.bin o x y) (aev t) H) d l k Q t := rfl
@[simp] theorem d_binB (d : Option Nat) (b : Bool) (x y : AR) (g : Option (Nat × Bool)) (l : List AO) : DGRD P V nq H0 n true ⟨d, .binB b x y, g⟩ l k Q t H = DOPT P V nq H0 n (astep (.binB b x y) (aev t) H) d l k Q t := rfl
@[simp] theorem d_binNil (d : Option Nat) (c : NK) (b : Bool) (x : AR) (g : Option (Nat × Bool)) (l : List AO) : DGRD P V nq H0 n true ⟨d, .binNil c b x, g⟩ l k Q t H = DOPT P V nq H0 n (astep (.binNil c b x) (aev t) H) d l k Q t := rfl
@[simp] theorem d_un (d : Option Nat) (o : UnOp) (x : AR) (g : Option (Nat × Bool)) (l : List AO) : DGRD P V nq H0 n true ⟨d, .un o x, g⟩ l k Q t H = DOPT P V nq H0 n (astep (.un o x) (aev t) H) d l k Q t := rfl
@[simp] theorem d_convInt (d : Option Nat) (i : IntKind) (x : AR) (g : Option (Nat × Bool)) (l : List AO) : DGRD P V nq H0 n true ⟨d, .convInt i x, g⟩ l k Q t H = DOPT P V nq H0 n (astep (.convInt i x) (aev t) H) d l k Q t := rfl
@[simp] theorem d_mkfn (d : Option Nat) (f : Fn) (a b : List AR) (g : Option (Nat × Bool)) (l : List AO) : DGRD P V nq H0 n true ⟨d, .mkfn f a b, g⟩ l k Q t H = DOPT P V nq H0 n (astep (.mkfn f a b) (aev t) H) d l k Q t := rfl
@[simp] theorem d_slice (d : Option Nat) (n1 : Nat) (x : AR) (lo hi mx : Option AR) (g : Option (Nat × Bool)) (l : List AO) : DGRD P V nq H0 n true ⟨d, .slice n1 x lo hi mx, g⟩ l k Q t H = DOPT P V nq H0 n (astep (.slice n1 x lo hi mx) (aev t) H) d l k Q t := rfl
@[simp] theorem d_sslice (d : Option Nat) (x : AR) (lo hi : Option AR) (g : Option (Nat × Bool)) (l : List AO) : DGRD P V nq H0 n true ⟨d, .sslice x lo hi, g⟩ l k Q t H = DOPT P V nq H0 n (astep (.sslice x lo hi) (aev t) H) d l k Q t := rfl
@[simp] theorem d_faddr (d : Option Nat) (n1 : Nat) (x : AR) (g : Option (Nat × Bool)) (l : List AO) : DGRD P V nq H0 n true ⟨d, .faddr n1 x, g⟩ l k Q t H = DOPT P V nq H0 n (astep (.faddr n1 x) (aev t) H) d l k Q t := rfl
@[simp] theorem d_iaddr (d : Option Nat) (n1 : Nat) (x y : AR) (g : Option (Nat × Bool)) (l : List AO) : DGRD P V nq H0 n true ⟨d, .iaddr n1 x y, g⟩ l k Q t H = DOPT P V nq H0 n (astep (.iaddr n1 x y) (aev t) H) d l k Q t := rfl
@[simp] theorem d_sidx (d : Option Nat) (x y : AR) (g : Option (Nat × Bool)) (l : List AO) : DGRD P V nq H0 n true ⟨d, .sidx x y, g⟩ l k Q t H = DOPT P V nq H0 n (astep (.sidx x y) (aev t) H) d l k Q t := rfl
@[simp] theorem d_extract (d : Option Nat) (x : AR) (n1 : Nat) (g : Option (Nat × Bool)) (l : List AO) : DGRD P V nq H0 n true ⟨d, .extract x n1, g⟩ l k Q t H = DOPT P V nq H0 n (astep (.extract x n1) (aev t) H) d l k Q t := rfl
@[simp] theorem d_len (d : Option Nat) (x : AR) (g : Option (Nat × Bool)) (l : List AO) : DGRD P V nq H0 n true ⟨d, .len x, g⟩ l k Q t H = DOPT P V nq H0 n (astep (.len x) (aev t) H) d l k Q t := rfl
@[simp] theorem d_slen (d : Option Nat) (x : AR) (g : Option (Nat × Bool)) (l : List AO) : DGRD P V nq H0 n true ⟨d, .slen x, g⟩ l k Q t H = DOPT P V nq H0 n (astep (.slen x) (aev t) H) d l k Q t := rfl
@[simp] theorem d_convS (d : Option Nat) (x : AR) (g : Option (Nat × Bool)) (l : List AO) : DGRD P V nq H0 n true ⟨d, .convS x, g⟩ l k Q t H = DOPT P V nq H0 n (astep (.convS x) (aev t) H) d l k Q t := rfl
@[simp] theorem d_min (d : Option Nat) (xs : List AR) (g : Option (Nat × Bool)) (l : List AO) : DGRD P V nq H0 n true ⟨d, .min xs, g⟩ l k Q t H = DOPT P V nq H0 n (astep (.min xs) (aev t) H) d l k Q t := rfl
@[simp] theorem d_max (d : Option Nat) (xs : List AR) (g : Option (Nat × Bool)) (l : List AO) : DGRD P V nq H0 n true ⟨d, .max xs, g⟩ l k Q t H = DOPT P V nq H0 n (astep (.max xs) (aev t) H) d l k Q t := rfl
@[simp] theorem d_append (d : Option Nat) (n1 m : Nat) (x y : AR) (g : Option (Nat × Bool)) (l : List AO) : DGRD P V nq H0 n true ⟨d, .append n1 m x y, g⟩ l k Q t H = DOPT P V nq H0 n (astep (.append n1 m x y) (aev t) H) d l k Q t := rfl
@[simp] theorem d_appendS (d : Option Nat) (m : Nat) (x y : AR) (g : Option (Nat × Bool)) (l : List AO) : DGRD P V nq H0 n true ⟨d, .appendS m x y, g⟩ l k Q t H = DOPT P V nq H0 n (astep (.appendS m x y) (aev t) H) d l k Q t := rfl
@[simp] theorem d_mkif (d : Option Nat) (ty : Nat) (x : AR) (g : Option (Nat × Bool)) (l : List AO) : DGRD P V nq H0 n true ⟨d, .mkif ty x, g⟩ l k Q t H = DOPT P V nq H0 n (astep (.mkif ty x) (aev t) H) d l k Q t := rfl
end
theorem DGRD_split {P : Program} {V : Nat → Bool} {nq : List Nat} {H0 : List HB} {n : Nat} {b : Bool} {o : AO} {l : List AO} {k : List Fr} {Q : Post} {t : List AV} {H : List HB} (h1 : b = true → DGRD P V nq H0 n true o l k Q t H) (h2 : b = false → DGRD P V nq H0 n false o l k Q t H) : DGRD P V nq H0 n b o l k Q t H := by
  cases b
  · exact h2 rfl
  · exact h1 rfl
theorem WP_draw {P : Program} {ops : List AO} {ws : List (List Nat)} {k : List Fr} {Q : Post} {t : List AV} {H : List HB} (hok : lexOk ops ws (flOf ops []) (npOf ops) = true) (h : DR P (fun _ => true) [] H 0 ops k Q t H) : WP P (.draw ops ws) k Q t H := by
  exact .inl ⟨_, _, hok, h⟩
theorem WP_drawV {P : Program} (V : Nat → Bool) (nq : List Nat) {ops : List AO} {ws : List (List Nat)} {k : List Fr} {Q : Post} {t : List AV} {H : List HB} (hok : lexOk ops ws (flOf ops nq) (npOf ops) = true) (h : DR P V nq H 0 ops k Q t H) : WP P (.draw ops ws) k Q t H :=
  .inl ⟨_, _, hok, h⟩
/-- As above, for regions whose stores turn no kept variable: what is known at the end. -/
theorem WP_drawF {P : Program} (V : Nat → Bool) (nq : List Nat) {ops : List AO} {ws : List (List Nat)} {k : List Fr} {Q : Post} {t : List AV} {H : List HB} (hok : lexOk ops ws (flOf ops nq) ops.length = true) (ht : tailOk ops nq = true)
    (h : DR P V nq H 0 ops [] (fun _ t' H' => keepV V H H' ∧ KN P k Q t' H') t H) : WP P (.draw ops ws) k Q t H :=
  .inr ⟨_, _, hok, ht, h⟩
theorem DCALL_of {P : Program} {V : Nat → Bool} {nq : List Nat} {H0 : List HB} {m : Nat} {n : FuncId} {args : List AV} {r : AV} {dst : Option Nat} {l : List AO} {k : List Fr} {Q : Post} {t : List AV} {H : List HB} (h : ∀ H, HCall P n args H r H) (hn : DR P V nq H0 (m + 1) l k Q (putA t dst r) H) : DCALL P V nq H0 m (.fn (.func n) [] []) args dst l k Q t H :=
  ⟨r, fun H _ => by simpa using h H, hn⟩
theorem DCALL_cap {P : Program} {V : Nat → Bool} {nq : List Nat} {H0 : List HB} {m : Nat} {n : FuncId} {args first cap : List AV} {r : AV} {dst : Option Nat} {l : List AO} {k : List Fr} {Q : Post} {t : List AV} {H : List HB} (h : ∀ H, HCall P n (first ++ args ++ cap) H r H) (hn : DR P V nq H0 (m + 1) l k Q (putA t dst r) H) : DCALL P V nq H0 m (.fn (.func n) first cap) args dst l k Q t H :=
  ⟨r, fun H _ => h H, hn⟩
/-- A call that looks at variables that the region keeps. -/
theorem DCALL_keep {P : Program} {V : Nat → Bool} {nq : List Nat} {H0 : List HB} {m : Nat} {n : FuncId} {args first cap : List AV} {r : AV} {dst : Option Nat} {l : List AO} {k : List Fr} {Q : Post} {t : List AV} {H : List HB} (h : ∀ H, keepV V H0 H → HCall P n (first ++ args ++ cap) H r H) (hn : DR P V nq H0 (m + 1) l k Q (putA t dst r) H) : DCALL P V nq H0 m (.fn (.func n) first cap) args dst l k Q t H :=
  ⟨r, h, hn⟩
/-- A call that turns the heap, where the region has its order. -/
theorem DCALLI_of {P : Program} {V : Nat → Bool} {nq : List Nat} {H0 : List HB} {m : Nat} {n : FuncId} {args first cap : List AV} {r : AV} {dst : Option Nat} {l : List AO} {k : List Fr} {Q : Post} {t : List AV} {H H' : List HB} (h : HCall P n (first ++ args ++ cap) H r H') (hk : keepV V H0 H') (hn : DR P V nq H0 (m + 1) l k Q (putA t dst r) H') : DCALLI P V nq H0 m (.fn (.func n) first cap) args dst l k Q t H :=
  ⟨r, H', h, hk, hn⟩
/-- Calls of functions of pure data. -/
theorem CALL_pure {P : Program} {n : FuncId} {args args0 : List AV} {r : AV} {dst : Option Nat} {l : List AO} {k : List Fr} {Q : Post} {t : List AV} {H : List HB} (h : HCall P n args0 [] r []) (ha : scopedL 0 args0 = true) (hr : r.inScope 0 = true) (he : stripL args = args0) (hn : AR_ P l k Q (putA t dst r) H) : CALL P (.fn (.func n) [] []) args dst l k Q t H :=
  CALL_of ((h.lift ha hr H).args he) hn
theorem DCALL_pure {P : Program} {V : Nat → Bool} {nq : List Nat} {H0 : List HB} {m : Nat} {n : FuncId} {args args0 : List AV} {r : AV} {dst : Option Nat} {l : List AO} {k : List Fr} {Q : Post} {t : List AV} {H : List HB} (h : HCall P n args0 [] r []) (ha : scopedL 0 args0 = true) (hr : r.inScope 0 = true) (he : stripL args = args0) (hn : DR P V nq H0 (m + 1) l k Q (putA t dst r) H) : DCALL P V nq H0 m (.fn (.func n) [] []) args dst l k Q t H :=
  DCALL_of (fun H => (h.lift ha hr H).args he) hn
end Go.Proofs.YtblbepjnkehoaaaGreatDoor
/- Loops: invariants that speak of the slots that the body writes, of some variables, and of what has been added to the heap. -/
namespace Go.Proofs.YtblbepjnkehoaaaGreatDoor
open Go

def aoDsts : List AO → List Nat
  | [] => []
  | o :: r => (match o.dst with | some d => [d] | none => []) ++ aoDsts r
/-- The slots that a piece of code writes. -/
def AC.dsts : AC → List Nat
  | .skip => []
  | .region ops => aoDsts ops
  | .draw ops _ => aoDsts ops
  | .seq a b => a.dsts ++ b.dsts
  | .cond _ a b => a.dsts ++ b.dsts
  | .block _ a => a.dsts
  | .loop a => a.dsts
  | .exit _ => []
  | .ret => []
  | .bad => []
def updT : List AV → List Nat → (Nat → AV) → List AV
  | t, [], _ => t
  | t, i :: r, f => updT (t.set i (f i)) r f
def updH : List HB → List Nat → (Nat → List AV) → List HB
  | H, [], _ => H
  | H, b :: r, h => updH (H.set b (.var (h b))) r h
def slots (t : List AV) (i : Nat) : AV := t.getD i .undef
def varsOf (H : List HB) (b : Nat) : List AV := match H[b]? with | some (.var cs) => cs | _ => []

theorem updT_self : ∀ (ws : List Nat) (t : List AV), updT t ws (slots t) = t
  | [], _ => rfl
  | i :: r, t => by
    have : t.set i (slots t i) = t := by
      unfold slots
      rcases Nat.lt_or_ge i t.length with h | h
      · rw [List.getD_eq_getElem?_getD, List.getElem?_eq_getElem h]; simp
      · exact List.set_eq_of_length_le h
    rw [updT, this]; exact updT_self r t
theorem updH_self : ∀ (bs : List Nat) (H : List HB), (∀ b ∈ bs, ∃ cs, H[b]? = some (.var cs)) → updH H bs (varsOf H) = H
  | [], _, _ => rfl
  | b :: r, H, h => by
    obtain ⟨cs, hcs⟩ := h b (by simp)
    have : H.set b (.var (varsOf H b)) = H := by
      have hl := (List.getElem?_eq_some_iff.1 hcs).1
      have he := (List.getElem?_eq_some_iff.1 hcs).2
      have hv : varsOf H b = cs := by simp [varsOf, hcs]
      rw [hv, ← he]
      simp
    rw [updH, this]; exact updH_self r H fun x hx => h x (by simp [hx])

/-- What a round leaves. -/
def RoundQ (t0 : List AV) (ds : List Nat) (H0 : List HB) (bs : List Nat) (I : Nat → (Nat → AV) → (Nat → List AV) → List HB → Prop) (n : Nat) (Q : AX → List AV → List HB → Prop) : AX → List AV → List HB → Prop :=
  thenQ (fun t' H' => updT t0 ds (slots t') = t' ∧ ∃ m h' G', m < n ∧ H' = updH H0 bs h' ++ G' ∧ I m (slots t') h' G') Q
/-- The loop rule: n more rounds at most; what the slots, the variables bs and the heap's new part are like. -/
theorem AWp.loopI {P : Program} {x : AC} {t0 : List AV} {H0 : List HB} {Q : AX → List AV → List HB → Prop} (bs : List Nat) (I : Nat → (Nat → AV) → (Nat → List AV) → List HB → Prop) (n0 : Nat)
    (hb : ∀ b ∈ bs, ∃ cs, H0[b]? = some (.var cs)) (h0 : I n0 (slots t0) (varsOf H0) [])
    (hr : ∀ n f h G, I n f h G → AWp P x (updT t0 x.dsts f) (updH H0 bs h ++ G) (RoundQ t0 x.dsts H0 bs I n Q)) : AWp P (.loop x) t0 H0 Q := by
  refine AWp.loop (fun n t H => ∃ f h G, t = updT t0 x.dsts f ∧ H = updH H0 bs h ++ G ∧ I n f h G) n0 ⟨slots t0, varsOf H0, [], (updT_self _ _).symm, by rw [updH_self bs H0 hb]; simp, h0⟩ ?_
  rintro n t H ⟨f, h, G, rfl, rfl, hI⟩
  refine AWp.mono (hr n f h G hI) ?_
  intro e t' H' hq
  cases e with
  | normal =>
    obtain ⟨e1, m, h', G', hm, e2, hI'⟩ := hq
    exact ⟨m, hm, slots t', h', G', e1.symm, e2, hI'⟩
  | exit _ => exact hq
  | ret => exact hq

/-- The end of a round. -/
theorem loop_next {ds bs : List Nat} {t0 t' : List AV} {H0 H' : List HB} {Q : AX → List AV → List HB → Prop} {I : Nat → (Nat → AV) → (Nat → List AV) → List HB → Prop} {n : Nat} (m : Nat) (h' : Nat → List AV) {G' : List HB}
    (hH : H' = updH H0 bs h' ++ G') (hm : m < n) (ht : updT t0 ds (slots t') = t') (hI : I m (slots t') h' G') :
    RoundQ t0 ds H0 bs I n Q .normal t' H' :=
  ⟨ht, m, h', G', hm, hH, hI⟩
theorem loop_exit {ds bs : List Nat} {t0 t' : List AV} {H0 H' : List HB} {Q : AX → List AV → List HB → Prop} {I : Nat → (Nat → AV) → (Nat → List AV) → List HB → Prop} {n i : Nat} (h : Q (.exit i) t' H') : RoundQ t0 ds H0 bs I n Q (.exit i) t' H' := h
theorem loop_ret {ds bs : List Nat} {t0 t' : List AV} {H0 H' : List HB} {Q : AX → List AV → List HB → Prop} {I : Nat → (Nat → AV) → (Nat → List AV) → List HB → Prop} {n : Nat} (h : Q .ret t' H') : RoundQ t0 ds H0 bs I n Q .ret t' H' := h

/-! ### A slice that is built up -/
def owns (base : Nat) (G : List HB) (tok : Tok) (els : List (List AV)) (k : Nat) : Prop :=
  (tok = .nilT ∧ els = []) ∨ ∃ j e, tok = .own (base + j) ∧ G[j]? = some (.tok els.length k e)
theorem owns_nil (base : Nat) (G : List HB) (k : Nat) : owns base G .nilT [] k := .inl ⟨rfl, rfl⟩
theorem owns_more {base : Nat} {G L : List HB} {tok : Tok} {els : List (List AV)} {k : Nat} (h : owns base G tok els k) : owns base (G ++ L) tok els k := by
  rcases h with h | ⟨j, e, h1, h2⟩
  · exact .inl h
  · exact .inr ⟨j, e, h1, by rw [List.getElem?_append_left (List.getElem?_eq_some_iff.1 h2).1]; exact h2⟩
theorem append_own {e : TypeId} {A G : List HB} {tok : Tok} {els : List (List AV)} {k : Nat} {row : List AV} (h : owns A.length G tok els k) (hl : els.length + 1 ≤ maxL) (hk : headK k els = true) (hr : row.length = k) :
    ∃ tok' G', aappend k e tok els [row] (A ++ G) = some (.sl tok' (els ++ [row]), A ++ G') ∧ owns A.length G' tok' (els ++ [row]) k ∧ G.length ≤ G'.length := by
  have hk2 : headK k [row] = true := by simp [headK, hr]
  rcases h with ⟨rfl, rfl⟩ | ⟨j, e', rfl, hj⟩
  · refine ⟨.own (A ++ G).length, G ++ [.tok 1 k e], ?_, ?_, by simp⟩
    · simp [aappend, hk, hk2, appendNew, maxL]
    · exact .inr ⟨G.length, e, by simp, by simp⟩
  · have hjl := (List.getElem?_eq_some_iff.1 hj).1
    refine ⟨.own (A.length + j), G.set j (.tok (els.length + 1) k (if e' = e then e else 0)), ?_, .inr ⟨j, (if e' = e then e else 0), rfl, ?_⟩, by simp⟩
    · have hg : (A ++ G)[A.length + j]? = some (.tok els.length k e') := by
        rw [List.getElem?_append_right (by omega)]; simpa using hj
      have hset : (A ++ G).set (A.length + j) (.tok (els.length + 1) k (if e' = e then e else 0)) = A ++ G.set j (.tok (els.length + 1) k (if e' = e then e else 0)) := by
        rw [List.set_append_right _ _ (by omega)]; simp
      simp only [aappend, List.length_singleton, hl, hk, hk2, and_self, if_true, hg, hset]
    · simp [List.getElem?_set_self hjl]
/-- An append to a slice that is built up, in a run. -/
theorem OPT_append {e : TypeId} {P : Program} {A G : List HB} {tok : Tok} {els : List (List AV)} {k : Nat} {row : List AV} {dst : Option Nat} {l : List AO} {kf : List Fr} {Q : Post} {t : List AV} (h : owns A.length G tok els k) (hl : els.length + 1 ≤ maxL) (hk : headK k els = true) (hr : row.length = k)
    (hn : ∀ tok' G', owns A.length G' tok' (els ++ [row]) k → G.length ≤ G'.length → AR_ P l kf Q (putA t dst (.sl tok' (els ++ [row]))) (A ++ G')) : OPT P (aappend k e tok els [row] (A ++ G)) dst l kf Q t := by
  obtain ⟨tok', G', e1, e2, e3⟩ := append_own (e := e) h hl hk hr
  rw [e1]
  exact hn tok' G' e2 e3
theorem DOPT_append {e : TypeId} {P : Program} {V : Nat → Bool} {nq : List Nat} {H0 : List HB} {n : Nat} {A G : List HB} {tok : Tok} {els : List (List AV)} {k : Nat} {row : List AV} {dst : Option Nat} {l : List AO} {kf : List Fr} {Q : Post} {t : List AV} (h : owns A.length G tok els k) (hl : els.length + 1 ≤ maxL) (hk : headK k els = true) (hr : row.length = k)
    (hn : ∀ tok' G', owns A.length G' tok' (els ++ [row]) k → G.length ≤ G'.length → DR P V nq H0 (n + 1) l kf Q (putA t dst (.sl tok' (els ++ [row]))) (A ++ G')) : DOPT P V nq H0 n (aappend k e tok els [row] (A ++ G)) dst l kf Q t := by
  obtain ⟨tok', G', e1, e2, e3⟩ := append_own (e := e) h hl hk hr
  rw [e1]
  exact hn tok' G' e2 e3
theorem headK_map {α : Type} {k : Nat} (f : α → List AV) (l : List α) (h : ∀ x, (f x).length = k) : headK k (l.map f) = true := by
  cases l <;> simp [headK, h]
theorem headK_take {k n : Nat} {l : List (List AV)} (h : headK k l = true) : headK k (l.take n) = true := by
  cases l <;> cases n <;> simp_all [headK]
end Go.Proofs.YtblbepjnkehoaaaGreatDoor
/- What every represented value keeps to: integers in range, lengths bounded. -/
namespace Go.Proofs.YtblbepjnkehoaaaGreatDoor
open Go

mutual
def AV.fits : AV → Prop
  | .int k n => k.has n
  | .str s => s.length ≤ maxL
  | .sl _ els => els.length ≤ maxL ∧ fitsE els
  | .eptr cs => fitsL cs
  | .agg cs => fitsL cs
  | .tup cs => fitsL cs
  | .fn _ a b => fitsL a ∧ fitsL b
  | .iface _ v => v.fits
  | .bool _ => True
  | .nilp => True
  | .ptr _ _ => True
  | .nilf => True
  | .nili => True
def fitsL : List AV → Prop
  | [] => True
  | x :: xs => x.fits ∧ fitsL xs
def fitsE : List (List AV) → Prop
  | [] => True
  | x :: xs => fitsL x ∧ fitsE xs
end

section
variable {F : Addr → Prop} {g : Gh} {w : World}
mutual
theorem R_fits : ∀ (x : AV) (v : Value), R F g w x v → x.fits
  | .bool _, _, _ => trivial
  | .int _ _, _, h => (R_int h).2
  | .str _, _, h => (R_str h).2
  | .nilp, _, _ => trivial
  | .ptr _ _, _, _ => trivial
  | .nilf, _, _ => trivial
  | .nili, _, _ => trivial
  | .eptr cs, v, h => by
    simp only [R] at h
    obtain ⟨B, off, h1, h2⟩ := h
    exact RM_fits _ _ cs h2
  | .sl tok els, v, h => by
    simp only [R] at h
    obtain ⟨h0, h⟩ := h
    refine ⟨h0, ?_⟩
    rcases h with ⟨h1, _⟩ | ⟨B, off, sp, cap, k, h1, h2, hk, h3, h4⟩
    · rw [h1]; trivial
    · exact RE_fits _ _ _ els h3
  | .fn f first cap, v, h => by
    simp only [R] at h
    obtain ⟨a1, a2, h1, h2, h3⟩ := h
    exact ⟨RL_fits first _ h2, RL_fits cap _ h3⟩
  | .iface t x, v, h => by
    simp only [R] at h
    obtain ⟨u, h1, h2⟩ := h
    exact R_fits x u h2
  | .agg cs, v, h => by
    simp only [R] at h
    obtain ⟨a, h1, h2⟩ := h
    exact RL_fits cs _ h2
  | .tup cs, v, h => by
    simp only [R] at h
    obtain ⟨a, h1, h2⟩ := h
    exact RL_fits cs _ h2
theorem RL_fits : ∀ (x : List AV) (v : List Value), RL F g w x v → fitsL x
  | [], _, _ => trivial
  | x :: xs, v, h => by
    simp only [RL] at h
    obtain ⟨u, r, h1, h2, h3⟩ := h
    exact ⟨R_fits x u h2, RL_fits xs r h3⟩
theorem RM_fits : ∀ (B off : Nat) (x : List AV), RM F g w B off x → fitsL x
  | _, _, [], _ => trivial
  | B, off, x :: xs, h => by
    simp only [RM] at h
    obtain ⟨⟨h0, v, h1, h2, h3⟩, h4⟩ := h
    exact ⟨R_fits x v h3, RM_fits _ _ xs h4⟩
theorem RE_fits : ∀ (B off k : Nat) (x : List (List AV)), RE F g w B off k x → fitsE x
  | _, _, _, [], _ => trivial
  | B, off, k, x :: xs, h => by
    simp only [RE] at h
    obtain ⟨h1, h2, h3⟩ := h
    exact ⟨RM_fits _ _ x h2, RE_fits _ _ _ xs h3⟩
end
end
/-- What is represented keeps to the bounds: a contract may take it as given. -/
theorem HCall.fits {P : Program} {f : FuncId} {args : List AV} {H H' : List HB} {res : AV} (he : enterable P f = true) (h : fitsL args → HCall P f args H res H') : HCall P f args H res H' :=
  ⟨he, fun F g w vs hG hs hr => (h (RL_fits _ _ hr)).2 F g w vs hG hs hr⟩
/-- A function's contract, from a run of its code; bounds are given. -/
theorem HCall.go {P : Program} (hm : P.follows .mixedOrders = true) {f : FuncId} {ac : AC} {n : Nat} {rs : List ARes} (hf : FnOk P f ac n rs) {args : List AV} {H H' : List HB} {res : AV} (hl : H.length ≤ H'.length)
    (h : fitsL args → ∀ Q : Post, (∀ x t H, fin rs res H' x t H → Q x t H) → WP P ac [] Q (start args n) H) : HCall P f args H res H' :=
  HCall.fits hf.en fun hfit => HCall.of hf hl (AWp.run hm (h hfit))
theorem fitsE_mem {α : Type} {f : α → List AV} {l : List α} (h : fitsE (l.map f)) : ∀ x ∈ l, fitsL (f x) := by
  induction l with
  | nil => simp
  | cons y l ih =>
    simp only [List.map_cons, fitsE] at h
    intro x hx
    rcases List.mem_cons.1 hx with rfl | hx
    · exact h.1
    · exact ih h.2 x hx
end Go.Proofs.YtblbepjnkehoaaaGreatDoor
/- The program's data types as plain data, and the abstract values that stand for them. -/
namespace Go.Proofs.YtblbepjnkehoaaaGreatDoor
open Go

inductive Kd where
  | mk (l : List Kd)
inductive Cn where
  | mk (op n : Int) (s : List UInt8) (k : Kd) (names : List (List UInt8)) (l : List Cn)
inductive Sm where
  | mk (op n : Int) (s : List UInt8) (con : Cn) (k : Kd) (ks more : List Kd) (names : List (List UInt8)) (l : List Sm)

def Kd.l : Kd → List Kd | .mk l => l
def Cn.op : Cn → Int | .mk op _ _ _ _ _ => op
def Cn.n : Cn → Int | .mk _ n _ _ _ _ => n
def Cn.s : Cn → List UInt8 | .mk _ _ s _ _ _ => s
def Cn.k : Cn → Kd | .mk _ _ _ k _ _ => k
def Cn.names : Cn → List (List UInt8) | .mk _ _ _ _ names _ => names
def Cn.l : Cn → List Cn | .mk _ _ _ _ _ l => l

def strRows (l : List (List UInt8)) : List (List AV) := l.map fun s => [.str s]
mutual
def kdCells : Kd → List AV
  | .mk l => [.sl .none (kdRows l)]
def kdRows : List Kd → List (List AV)
  | [] => []
  | k :: ks => kdCells k :: kdRows ks
end
mutual
def cnCells : Cn → List AV
  | .mk op n s k names l => .int .i64 op :: .int .i64 n :: .str s :: kdCells k ++ [.sl .none (strRows names), .sl .none (cnRows l)]
def cnRows : List Cn → List (List AV)
  | [] => []
  | c :: cs => cnCells c :: cnRows cs
end
theorem kdRows_map (l : List Kd) : kdRows l = l.map kdCells := by
  induction l with
  | nil => rfl
  | cons k l ih => simp [kdRows, ih]
theorem cnRows_map (l : List Cn) : cnRows l = l.map cnCells := by
  induction l with
  | nil => rfl
  | cons k l ih => simp [cnRows, ih]
theorem kdCells_eq (k : Kd) : kdCells k = [.sl .none (k.l.map kdCells)] := by cases k; simp [kdCells, kdRows_map, Kd.l]
theorem cnCells_eq (c : Cn) : cnCells c = [.int .i64 c.op, .int .i64 c.n, .str c.s, .sl .none (c.k.l.map kdCells), .sl .none (strRows c.names), .sl .none (c.l.map cnCells)] := by
  cases c; simp [cnCells, cnRows_map, kdCells_eq, Cn.op, Cn.n, Cn.s, Cn.k, Cn.names, Cn.l]

theorem kdCells_mk (l : List Kd) : kdCells (.mk l) = [.sl .none (l.map kdCells)] := kdCells_eq _
@[simp] theorem kdCells_length (k : Kd) : (kdCells k).length = 1 := by simp [kdCells_eq]
@[simp] theorem kdCells_take (k : Kd) : (kdCells k).take 1 = kdCells k := by simp [kdCells_eq]
@[simp] theorem kdCells_all (k : Kd) : (kdCells k).all AV.isCell = true := by simp [kdCells_eq, AV.isCell]
@[simp] theorem cnCells_length (c : Cn) : (cnCells c).length = 6 := by simp [cnCells_eq]
@[simp] theorem cnCells_take (c : Cn) : (cnCells c).take 6 = cnCells c := by simp [cnCells_eq]
@[simp] theorem cnCells_all (c : Cn) : (cnCells c).all AV.isCell = true := by simp [cnCells_eq, AV.isCell]
@[simp] theorem cnCells_drop (c : Cn) : (cnCells c).drop 6 = [] := by simp [cnCells_eq]

/-! Values of data name nothing in the abstract heap, and nothing is known of their slices besides the elements. -/
theorem stripE_map {α : Type} (f : α → List AV) (l : List α) (h : ∀ x ∈ l, stripL (f x) = f x) : stripE (l.map f) = l.map f := by
  induction l with
  | nil => rfl
  | cons x l ih => simp [stripE, h x (by simp), ih fun y hy => h y (by simp [hy])]
theorem scopedE_map {α : Type} {n : Nat} (f : α → List AV) (l : List α) (h : ∀ x ∈ l, scopedL n (f x) = true) : scopedE n (l.map f) = true := by
  induction l with
  | nil => rfl
  | cons x l ih => simp [scopedE, h x (by simp), ih fun y hy => h y (by simp [hy])]
@[simp] theorem strRows_strip (l : List (List UInt8)) : stripE (strRows l) = strRows l := stripE_map _ _ fun _ _ => rfl
@[simp] theorem strRows_scoped (n : Nat) (l : List (List UInt8)) : scopedE n (strRows l) = true := scopedE_map _ _ fun _ _ => rfl
@[simp] theorem strMap_strip (l : List (List UInt8)) : stripE (l.map fun s => [AV.str s]) = l.map fun s => [AV.str s] := strRows_strip l
@[simp] theorem strMap_scoped (n : Nat) (l : List (List UInt8)) : scopedE n (l.map fun s => [AV.str s]) = true := strRows_scoped n l
mutual
@[simp] theorem kdCells_strip : ∀ k : Kd, stripL (kdCells k) = kdCells k
  | .mk l => by simp [kdCells, stripL, AV.strip, kdRows_strip l]
theorem kdRows_strip : ∀ l : List Kd, stripE (kdRows l) = kdRows l
  | [] => rfl
  | k :: ks => by simp [kdRows, stripE, kdCells_strip k, kdRows_strip ks]
end
mutual
@[simp] theorem kdCells_scoped (n : Nat) : ∀ k : Kd, scopedL n (kdCells k) = true
  | .mk l => by simp [kdCells, scopedL, AV.inScope, kdRows_scoped n l]
theorem kdRows_scoped (n : Nat) : ∀ l : List Kd, scopedE n (kdRows l) = true
  | [] => rfl
  | k :: ks => by simp [kdRows, scopedE, kdCells_scoped n k, kdRows_scoped n ks]
end
@[simp] theorem kdMap_strip (l : List Kd) : stripE (l.map kdCells) = l.map kdCells := by rw [← kdRows_map]; exact kdRows_strip l
@[simp] theorem kdMap_scoped (n : Nat) (l : List Kd) : scopedE n (l.map kdCells) = true := by rw [← kdRows_map]; exact kdRows_scoped n l
mutual
@[simp] theorem cnCells_strip : ∀ c : Cn, stripL (cnCells c) = cnCells c
  | .mk op n s (.mk kl) names l => by simp [cnCells, kdCells, stripL, AV.strip, cnRows_strip l, kdRows_strip kl]
theorem cnRows_strip : ∀ l : List Cn, stripE (cnRows l) = cnRows l
  | [] => rfl
  | k :: ks => by simp [cnRows, stripE, cnCells_strip k, cnRows_strip ks]
end
mutual
@[simp] theorem cnCells_scoped (n : Nat) : ∀ c : Cn, scopedL n (cnCells c) = true
  | .mk op m s (.mk kl) names l => by simp [cnCells, kdCells, scopedL, AV.inScope, cnRows_scoped n l, kdRows_scoped n kl]
theorem cnRows_scoped (n : Nat) : ∀ l : List Cn, scopedE n (cnRows l) = true
  | [] => rfl
  | k :: ks => by simp [cnRows, scopedE, cnCells_scoped n k, cnRows_scoped n ks]
end
@[simp] theorem cnMap_strip (l : List Cn) : stripE (l.map cnCells) = l.map cnCells := by rw [← cnRows_map]; exact cnRows_strip l
@[simp] theorem cnMap_scoped (n : Nat) (l : List Cn) : scopedE n (l.map cnCells) = true := by rw [← cnRows_map]; exact cnRows_scoped n l

theorem Cn.lt_l {c x : Cn} (h : x ∈ c.l) : SizeOf.sizeOf x < SizeOf.sizeOf c := by
  cases c; simp only [Cn.l] at h
  have := List.sizeOf_lt_of_mem h
  simp; omega
theorem Kd.lt_l {c x : Kd} (h : x ∈ c.l) : SizeOf.sizeOf x < SizeOf.sizeOf c := by
  cases c; simp only [Kd.l] at h
  have := List.sizeOf_lt_of_mem h
  simp; omega
theorem wrap_i64 {n : Int} (h1 : -9223372036854775808 ≤ n) (h2 : n ≤ 9223372036854775807) : IntKind.i64.wrap n = n := by
  unfold IntKind.wrap IntKind.signed IntKind.bits; simp; omega

def kdAV (k : Kd) : AV := .agg (kdCells k)
def cnAV (c : Cn) : AV := .agg (cnCells c)
@[simp] theorem kdAV_scoped (n : Nat) (k : Kd) : (kdAV k).inScope n = true := by simp [kdAV, AV.inScope]
@[simp] theorem cnAV_scoped (n : Nat) (k : Cn) : (cnAV k).inScope n = true := by simp [cnAV, AV.inScope]
@[simp] theorem kdAV_strip (k : Kd) : (kdAV k).strip = kdAV k := by simp [kdAV, AV.strip]
@[simp] theorem cnAV_strip (k : Cn) : (cnAV k).strip = cnAV k := by simp [cnAV, AV.strip]
theorem kd_fits {k : Kd} (h : fitsL (kdCells k)) : k.l.length ≤ maxL ∧ ∀ x ∈ k.l, fitsL (kdCells x) := by
  rw [kdCells_eq k] at h
  simp only [fitsL, AV.fits, List.length_map] at h
  exact ⟨h.1.1, fitsE_mem h.1.2⟩
theorem cn_fits {c : Cn} (h : fitsL (cnCells c)) : IntKind.i64.has c.op ∧ IntKind.i64.has c.n ∧ c.s.length ≤ maxL ∧ c.k.l.length ≤ maxL ∧ (∀ x ∈ c.k.l, fitsL (kdCells x)) ∧ c.names.length ≤ maxL ∧ (∀ x ∈ c.names, x.length ≤ maxL) ∧ c.l.length ≤ maxL ∧ ∀ x ∈ c.l, fitsL (cnCells x) := by
  rw [cnCells_eq c] at h
  simp only [fitsL, AV.fits, List.length_map, strRows] at h
  obtain ⟨h1, h2, h3, h4, h5, h6, _⟩ := h
  exact ⟨h1, h2, h3, h4.1, fitsE_mem h4.2, h5.1, fun x hx => by simpa [fitsL, AV.fits] using fitsE_mem h5.2 x hx, h6.1, fitsE_mem h6.2⟩
end Go.Proofs.YtblbepjnkehoaaaGreatDoor
/- Semantic signatures as plain data, and the abstract values that stand for them. -/
namespace Go.Proofs.YtblbepjnkehoaaaGreatDoor
open Go
def Sm.op : Sm → Int | .mk op _ _ _ _ _ _ _ _ => op
def Sm.n : Sm → Int | .mk _ n _ _ _ _ _ _ _ => n
def Sm.s : Sm → List UInt8 | .mk _ _ s _ _ _ _ _ _ => s
def Sm.con : Sm → Cn | .mk _ _ _ c _ _ _ _ _ => c
def Sm.k : Sm → Kd | .mk _ _ _ _ k _ _ _ _ => k
def Sm.ks : Sm → List Kd | .mk _ _ _ _ _ ks _ _ _ => ks
def Sm.more : Sm → List Kd | .mk _ _ _ _ _ _ m _ _ => m
def Sm.names : Sm → List (List UInt8) | .mk _ _ _ _ _ _ _ ns _ => ns
def Sm.l : Sm → List Sm | .mk _ _ _ _ _ _ _ _ l => l
mutual
def smCells : Sm → List AV
  | .mk op n s c k ks more names l => .int .i64 op :: .int .i64 n :: .str s :: (cnCells c ++ kdCells k ++ [.sl .none (kdRows ks), .sl .none (kdRows more), .sl .none (strRows names), .sl .none (smRows l)])
def smRows : List Sm → List (List AV)
  | [] => []
  | c :: cs => smCells c :: smRows cs
end
theorem smRows_map (l : List Sm) : smRows l = l.map smCells := by
  induction l with
  | nil => rfl
  | cons k l ih => simp [smRows, ih]
theorem smCells_eq (s : Sm) : smCells s = [.int .i64 s.op, .int .i64 s.n, .str s.s, .int .i64 s.con.op, .int .i64 s.con.n, .str s.con.s, .sl .none (s.con.k.l.map kdCells), .sl .none (strRows s.con.names), .sl .none (s.con.l.map cnCells),
    .sl .none (s.k.l.map kdCells), .sl .none (s.ks.map kdCells), .sl .none (s.more.map kdCells), .sl .none (strRows s.names), .sl .none (s.l.map smCells)] := by
  cases s; simp [smCells, smRows_map, kdCells_eq, cnCells_eq, kdRows_map, Sm.op, Sm.n, Sm.s, Sm.con, Sm.k, Sm.ks, Sm.more, Sm.names, Sm.l]
theorem smCells_con (s : Sm) : smCells s = .int .i64 s.op :: .int .i64 s.n :: .str s.s :: (cnCells s.con ++ [.sl .none (s.k.l.map kdCells), .sl .none (s.ks.map kdCells), .sl .none (s.more.map kdCells), .sl .none (strRows s.names), .sl .none (s.l.map smCells)]) := by
  rw [smCells_eq, cnCells_eq]; rfl
@[simp] theorem smCells_length (c : Sm) : (smCells c).length = 14 := by simp [smCells_eq]
@[simp] theorem smCells_take (c : Sm) : (smCells c).take 14 = smCells c := by simp [smCells_eq]
@[simp] theorem smCells_all (c : Sm) : (smCells c).all AV.isCell = true := by simp [smCells_eq, AV.isCell]
@[simp] theorem smCells_drop (c : Sm) : (smCells c).drop 14 = [] := by simp [smCells_eq]
mutual
@[simp] theorem smCells_strip : ∀ c : Sm, stripL (smCells c) = smCells c
  | .mk op n s (.mk o2 n2 s2 (.mk kl2) ns2 l2) (.mk kl) ks more names l => by
    simp [smCells, cnCells, kdCells, stripL, AV.strip, smRows_strip l, kdRows_strip kl, kdRows_strip kl2, kdRows_strip ks, kdRows_strip more, cnRows_strip l2]
theorem smRows_strip : ∀ l : List Sm, stripE (smRows l) = smRows l
  | [] => rfl
  | k :: ks => by simp [smRows, stripE, smCells_strip k, smRows_strip ks]
end
mutual
@[simp] theorem smCells_scoped (n : Nat) : ∀ c : Sm, scopedL n (smCells c) = true
  | .mk op m s (.mk o2 n2 s2 (.mk kl2) ns2 l2) (.mk kl) ks more names l => by
    simp [smCells, cnCells, kdCells, scopedL, AV.inScope, smRows_scoped n l, kdRows_scoped n kl, kdRows_scoped n kl2, kdRows_scoped n ks, kdRows_scoped n more, cnRows_scoped n l2]
theorem smRows_scoped (n : Nat) : ∀ l : List Sm, scopedE n (smRows l) = true
  | [] => rfl
  | k :: ks => by simp [smRows, scopedE, smCells_scoped n k, smRows_scoped n ks]
end
@[simp] theorem smMap_strip (l : List Sm) : stripE (l.map smCells) = l.map smCells := by rw [← smRows_map]; exact smRows_strip l
@[simp] theorem smMap_scoped (n : Nat) (l : List Sm) : scopedE n (l.map smCells) = true := by rw [← smRows_map]; exact smRows_scoped n l
theorem Sm.lt_l {c x : Sm} (h : x ∈ c.l) : SizeOf.sizeOf x < SizeOf.sizeOf c := by
  cases c; simp only [Sm.l] at h
  have := List.sizeOf_lt_of_mem h
  simp; omega
def smAV (c : Sm) : AV := .agg (smCells c)
@[simp] theorem smAV_scoped (n : Nat) (k : Sm) : (smAV k).inScope n = true := by simp [smAV, AV.inScope]
@[simp] theorem smAV_strip (k : Sm) : (smAV k).strip = smAV k := by simp [smAV, AV.strip]
theorem sm_fits {c : Sm} (h : fitsL (smCells c)) : c.s.length ≤ maxL ∧ c.ks.length ≤ maxL ∧ c.more.length ≤ maxL ∧ c.names.length ≤ maxL ∧ c.l.length ≤ maxL ∧ (∀ x ∈ c.l, fitsL (smCells x)) := by
  rw [smCells_eq c] at h
  simp only [fitsL, AV.fits, List.length_map, strRows] at h
  obtain ⟨h1, h2, h3, _, _, _, _, _, _, h4, h5, h6, h7, h8, _⟩ := h
  exact ⟨h3, h5.1, h6.1, h7.1, h8.1, fitsE_mem h8.2⟩
end Go.Proofs.YtblbepjnkehoaaaGreatDoor
