/- Joined: Rnd K42 K43 K41. -/
import Derived.Test.YtblbepjnkehoaaaGreatDoorG03
import Derived.OrdersIn
import Derived.RangeFuncNested
import Derived.RangeFuncCalls
import Derived.RangeFuncLeaves
import Derived.Test.YtblbepjnkehoaaaGreatDoorG13
import Derived.Test.YtblbepjnkehoaaaGreatDoorG19
import Derived.Test.YtblbepjnkehoaaaGreatDoorG14
import Derived.Test.YtblbepjnkehoaaaGreatDoorG18
set_option linter.unusedSimpArgs false
set_option linter.unusedVariables false
set_option maxHeartbeats 4000000
/- Abstract code in a round of a range over a function: single regions. -/
namespace Go.Proofs.YtblbepjnkehoaaaGreatDoor
open Go

section
variable {P : Program} {ro : Option Nat} {n : Nat}
/-- The fence that lets in all, in a round or outside of rounds. -/
abbrev fz (ro : Option Nat) : Fence := { Fence.wide with round := ro }
theorem rowsIn_of {row : String} {args : Array Value} {w : World} {R : Value → World → Prop} (h : Rows P row args w R) : RowsIn (fz ro) n P row args w R :=
  fun c cs _ => let ⟨v, w', r, s⟩ := h c cs; ⟨v, w', r, stepsIn_wide.2 s⟩
theorem wpIn_of_wp {o : Oper} {a : Act} {w : World} {K : Act → World → Prop} {Q : Exit → Act → World → Prop} (hd : ∀ c, o.op ≠ .defer c) (h : o.wp P a w K Q) : o.wpIn (fz ro) n P a w K Q := by
  refine ⟨fun _ _ => trivial, ?_⟩
  rw [Oper.semAt_eq _ _ _ hd]
  unfold Oper.wp at h
  generalize (execOp a.eval o).run P w = r at h ⊢
  cases r with
  | ok x w' =>
    cases x
    case value v => exact h
    case skip => exact h
    case defer d => exact h
    case enter f args => exact ⟨(fun e => by cases e), (callsIn_wide.2 h : CallsIn Fence.wide (n - 1) P f args w' _)⟩
    case row r args => exact ⟨(fun e => by cases e), rowsIn_of h⟩
    all_goals exact h.elim
  | halt x w' =>
    cases x <;> exact h
theorem cmpOp_noDefer {o : Op} {ao : AOp} (h : cmpOp P o = some ao) : ∀ c, o ≠ .defer c := by
  rintro c rfl
  simp [cmpOp] at h

theorem aAny_soundIn {aos : List AO} {waits : List (List Nat)} {fl : Nat → Bool} {np : Nat} {C : List HB → Prop} {K : List AV → List HB → Prop} {ops : Array Oper} (hc : cmpAOs P ops ops.toList = some aos) (hw : waits = waitsOf ops) {Q : Exit → Act → World → Prop} : ∀ (fuel : Nat) (listed : Array Bool) (F : Addr → Prop) (g : Gh) (H : List HB) (w : World) (t : List AV) (a : Act), Sim P F g H w t a → aAny P aos waits fl np C K fuel listed t H →
    (∀ F' g' H' w' t' a', Sim P F' g' H' w' t' a' → Ext F g H w F' g' H' w' → K t' H' → Q .normal a' w') → wpAnyIn (fz ro) n P .any ops Q fuel listed a w
  | 0, listed, F, g, H, w, t, a, hs, h, hQ => ⟨(ready_nil hc hw).2 h.1, hQ F g H w t a hs (Ext.refl _ _ _ _) h.2⟩
  | fuel + 1, listed, F, g, H, w, t, a, hs, h, hQ => by
    refine ⟨fun hr => hQ F g H w t a hs (Ext.refl _ _ _ _) (h.1 ((ready_nil hc hw).1 hr)), fun i hi => ?_⟩
    have h2 := h.2 i ((ready_iff hc hw).1 hi)
    obtain ⟨_, o, ho, _⟩ := mem_ready.1 hi
    obtain ⟨x, hx, hcx⟩ := (cmpAOs_get hc).2 i o (by simpa using ho)
    unfold cmpAO at hcx
    split at hcx
    · rename_i op gd c1 c2
      simp only [Option.some.injEq] at hcx; subst hcx
      obtain ⟨s1, s2, s3, s4⟩ := hs
      have hg := guard_sound s2 c2
      unfold aOp at h2
      simp only [hx] at h2
      unfold wpOpIn
      simp only [ho, hg]
      have go : ∀ v H', ORes P op (aev t) H v H' → aAny P aos waits fl np C K fuel (listed.setIfInBounds i true) (putA t o.dst v) H' → o.wpIn (fz ro) n P a w (wpAnyIn (fz ro) n P .any ops Q fuel (listed.setIfInBounds i true)) Q := by
        intro v H' e1 e2
        exact wpIn_of_wp (cmpOp_noDefer c1) (op_sound s4 s1 s2 c1 e1 fun w' F' g' u r1 r2 r3 =>
          aAny_soundIn hc hw fuel _ F' g' H' w' _ _ ⟨r2, (s2.mono r3.keeps).put r1 _, by rw [put_defers]; exact s3, s4.mono r3.keeps⟩ e2 fun F2 g2 H2 w2 t2 a2 q1 q2 q3 => hQ F2 g2 H2 w2 t2 a2 q1 (r3.trans q2) q3)
      split at h2
      · rename_i hgt
        simp only [hgt, if_true]
        split at h2
        · obtain ⟨hCH, v, hv, hn⟩ := h2; exact go v H (hv H hCH) hn
        · obtain ⟨v, H', hv, _, hn⟩ := h2; exact go v H' hv hn
      · rename_i hgt
        simp only [hgt, Bool.false_eq_true, if_false]
        exact ⟨fun _ _ => trivial, aAny_soundIn hc hw fuel _ F g H w _ _ ⟨s1, s2.put R_undef _, by rw [put_defers]; exact s3, s4⟩ h2 hQ⟩
    · cases hcx

/-- As AWp, in a round of a loop. -/
def AWpR (P : Program) (ro : Option Nat) (n : Nat) (ac : AC) (t : List AV) (H : List HB) (Q : AX → List AV → List HB → Prop) : Prop :=
  ∀ c, cmpCode P c = some ac → ∀ F g w a, Sim P F g H w t a →
    c.wpIn (fz ro) n P (fun e a' w' => ∃ x t' H' F' g', e = AX.to x ∧ Q x t' H' ∧ Sim P F' g' H' w' t' a' ∧ Ext F g H w F' g' H' w') a w
variable {t : List AV} {H : List HB} {Q : AX → List AV → List HB → Prop}
theorem AWpR.mono {ac : AC} {Q' : AX → List AV → List HB → Prop} (h : AWpR P ro n ac t H Q) (hq : ∀ x t H, Q x t H → Q' x t H) : AWpR P ro n ac t H Q' :=
  fun c hc F g w a hs => wpIn_mono (h c hc F g w a hs) fun _ _ _ ⟨x, t', H', F', g', e1, e2, e3⟩ => ⟨x, t', H', F', g', e1, hq _ _ _ e2, e3⟩
theorem AWpR.draw {ops : List AO} {waits : List (List Nat)} (hm : P.follows .mixedOrders = true) (fl : Nat → Bool) (np : Nat) (C : List HB → Prop) (hok : lexOk ops waits fl np = true) (hC : C H) (h : drun P fl np C 0 ops t H fun t' H' => Q .normal t' H') : AWpR P ro n (.draw ops waits) t H Q := by
  intro c hc F g w a hs
  obtain ⟨id, os, rfl, hy, rfl⟩ := cmp_draw hc
  refine wpIn_region_any hm ?_
  obtain ⟨hs1, hx1⟩ := hs.drew (w' := { w with drawn := w.drawn + 1 }) rfl ⟨rfl, rfl⟩
  have hlen := (cmpAOs_get hy).1
  simp only [Array.length_toList] at hlen
  have h2 := aAny_lex (P := P) (K := fun t' H' => Q .normal t' H') hok ops 0 (Array.replicate os.size false) t H (by simp) (by simp) (by simp [hlen]) (fun j hj => by simp [hlen, hj]) (.inl hC) h
  rw [← hlen] at h2
  exact aAny_soundIn hy rfl _ _ F g H _ t a hs1 h2 fun F' g' H' w' t' a' q1 q2 q3 => ⟨.normal, t', H', F', g', rfl, q3, q1, hx1.trans q2⟩
theorem AWpR.drawF {ops : List AO} {ws : List (List Nat)} (hm : P.follows .mixedOrders = true) (V : Nat → Bool) (nq : List Nat) (hok : lexOk ops ws (flOf ops nq) ops.length = true) (ht : tailOk ops nq = true)
    (h : drunC P V nq H 0 ops t H fun t' H' => keepV V H H' ∧ Q .normal t' H') : AWpR P ro n (.draw ops ws) t H Q := by
  refine AWpR.mono (AWpR.draw (Q := fun x t' H' => keepV V H H' ∧ Q x t' H') hm (flOf ops nq) ops.length (keepV V H) hok (fun _ _ _ h => h) ?_) fun x t' H' hx => hx.2
  refine drunC_soundN hok (fun k o l t' H' ho hs hl hd => .inl ?_) ops 0 t H (by simp) (.inl fun _ _ _ h => h) h
  obtain ⟨t2, h2⟩ := drunC_tail l (k + 1) t' H' (fun j o' ho' => tailOk_spec ht (by rw [← hl j]; exact ho') (by have := npOf_tail ho hs; omega)) hd
  exact h2.1
theorem AWpR.drawC {ops : List AO} {ws : List (List Nat)} (hm : P.follows .mixedOrders = true) (V : Nat → Bool) (nq : List Nat) (hok : lexOk ops ws (flOf ops nq) (npOf ops) = true)
    (h : drunC P V nq H 0 ops t H fun t' H' => Q .normal t' H') : AWpR P ro n (.draw ops ws) t H Q :=
  AWpR.draw hm (flOf ops nq) (npOf ops) (keepV V H) hok (fun _ _ _ h => h) (drunC_sound hok ops 0 t H _ (by simp) (.inl fun _ _ _ h => h) h)

theorem arun_soundIn {ops : Array Oper} {Q : Exit → Act → World → Prop} {K : List AV → List HB → Prop} : ∀ (os : List Oper) (aos : List AO) (k : Nat) (F : Addr → Prop) (g : Gh) (H : List HB) (w : World) (t : List AV) (a : Act), (∀ j, os[j]? = ops[k + j]?) → cmpAOs P ops os = some aos →
    Sim P F g H w t a → arun P aos t H K → (∀ F' g' H' w' t' a', Sim P F' g' H' w' t' a' → Ext F g H w F' g' H' w' → K t' H' → Q .normal a' w') → wpOpsIn (fz ro) n P ops Q (List.range' k os.length) a w
  | [], aos, k, F, g, H, w, t, a, _, hc, hs, h, hQ => by
    simp only [cmpAOs, Option.some.injEq] at hc; subst hc
    exact hQ F g H w t a hs (Ext.refl _ _ _ _) h
  | o :: os, aos, k, F, g, H, w, t, a, hl, hc, hs, h, hQ => by
    simp only [cmpAOs] at hc
    split at hc
    · rename_i x xs h1 h2
      simp only [Option.some.injEq] at hc; subst hc
      have ho : ops[k]? = some o := by simpa using (hl 0).symm
      have hl' : ∀ j, os[j]? = ops[k + 1 + j]? := fun j => by
        have := hl (j + 1)
        simp only [List.getElem?_cons_succ] at this
        rw [this]; congr 1; omega
      unfold cmpAO at h1
      split at h1
      · rename_i op gd c1 c2
        simp only [Option.some.injEq] at h1; subst h1
        obtain ⟨s1, s2, s3, s4⟩ := hs
        have hg := guard_sound s2 c2
        simp only [List.length_cons, List.range'_succ, wpOpsIn, ho, hg]
        simp only [arun] at h
        rcases h with ⟨g1, v, H', e1, e2⟩ | ⟨g1, e2⟩
        · simp only [g1, if_true]
          refine wpIn_of_wp (cmpOp_noDefer c1) (op_sound s4 s1 s2 c1 e1 fun w' F' g' u r1 r2 r3 => ?_)
          exact arun_soundIn os xs (k + 1) F' g' H' w' _ _ hl' h2 ⟨r2, (s2.mono r3.keeps).put r1 _, by rw [put_defers]; exact s3, s4.mono r3.keeps⟩ e2 fun F2 g2 H2 w2 t2 a2 q1 q2 q3 => hQ F2 g2 H2 w2 t2 a2 q1 (r3.trans q2) q3
        · simp only [g1, Bool.false_eq_true, if_false]
          exact ⟨fun _ _ => trivial, arun_soundIn os xs (k + 1) F g H w _ _ hl' h2 ⟨s1, s2.put R_undef _, by rw [put_defers]; exact s3, s4⟩ e2 hQ⟩
      · cases h1
    · cases hc
theorem AWpR.region {ops : List AO} (h : arun P ops t H fun t' H' => Q .normal t' H') : AWpR P ro n (.region ops) t H Q := by
  intro c hc F g w a hs
  obtain ⟨id, os, rfl, hy⟩ := cmp_region hc
  refine wpIn_region ?_
  have := arun_soundIn (P := P) (ro := ro) (n := n) (ops := os) (Q := fun e a' w' => ∃ x t' H' F' g', e = AX.to x ∧ Q x t' H' ∧ Sim P F' g' H' w' t' a' ∧ Ext F g H w F' g' H' w') os.toList ops 0 F g H w t a (by simp) hy hs h fun F' g' H' w' t' a' q1 q2 q3 => ⟨.normal, t', H', F', g', rfl, q3, q1, q2⟩
  simpa [List.range_eq_range'] using this
/-- As Sim, with deferred calls. -/
def SimD (P : Program) (ds : List Deferred) (F : Addr → Prop) (g : Gh) (H : List HB) (w : World) (t : List AV) (a : Act) : Prop := St F g H w ∧ Tm F g w t a ∧ a.defers = ds ∧ GlobOk P F w
theorem arun_soundD {ds : List Deferred} {ops : Array Oper} {Q : Exit → Act → World → Prop} {K : List AV → List HB → Prop} : ∀ (os : List Oper) (aos : List AO) (k : Nat) (F : Addr → Prop) (g : Gh) (H : List HB) (w : World) (t : List AV) (a : Act), (∀ j, os[j]? = ops[k + j]?) → cmpAOs P ops os = some aos →
    SimD P ds F g H w t a → arun P aos t H K → (∀ F' g' H' w' t' a', SimD P ds F' g' H' w' t' a' → Ext F g H w F' g' H' w' → K t' H' → Q .normal a' w') → wpOpsIn (fz ro) n P ops Q (List.range' k os.length) a w
  | [], aos, k, F, g, H, w, t, a, _, hc, hs, h, hQ => by
    simp only [cmpAOs, Option.some.injEq] at hc; subst hc
    exact hQ F g H w t a hs (Ext.refl _ _ _ _) h
  | o :: os, aos, k, F, g, H, w, t, a, hl, hc, hs, h, hQ => by
    simp only [cmpAOs] at hc
    split at hc
    · rename_i x xs h1 h2
      simp only [Option.some.injEq] at hc; subst hc
      have ho : ops[k]? = some o := by simpa using (hl 0).symm
      have hl' : ∀ j, os[j]? = ops[k + 1 + j]? := fun j => by
        have := hl (j + 1)
        simp only [List.getElem?_cons_succ] at this
        rw [this]; congr 1; omega
      unfold cmpAO at h1
      split at h1
      · rename_i op gd c1 c2
        simp only [Option.some.injEq] at h1; subst h1
        obtain ⟨s1, s2, s3, s4⟩ := hs
        have hg := guard_sound s2 c2
        simp only [List.length_cons, List.range'_succ, wpOpsIn, ho, hg]
        simp only [arun] at h
        rcases h with ⟨g1, v, H', e1, e2⟩ | ⟨g1, e2⟩
        · simp only [g1, if_true]
          refine wpIn_of_wp (cmpOp_noDefer c1) (op_sound s4 s1 s2 c1 e1 fun w' F' g' u r1 r2 r3 => ?_)
          exact arun_soundD os xs (k + 1) F' g' H' w' _ _ hl' h2 ⟨r2, (s2.mono r3.keeps).put r1 _, by rw [put_defers]; exact s3, s4.mono r3.keeps⟩ e2 fun F2 g2 H2 w2 t2 a2 q1 q2 q3 => hQ F2 g2 H2 w2 t2 a2 q1 (r3.trans q2) q3
        · simp only [g1, Bool.false_eq_true, if_false]
          exact ⟨fun _ _ => trivial, arun_soundD os xs (k + 1) F g H w _ _ hl' h2 ⟨s1, s2.put R_undef _, by rw [put_defers]; exact s3, s4⟩ e2 hQ⟩
      · cases h1
    · cases hc
theorem regionD {ds : List Deferred} {ops : List AO} {c : Code} (hc : cmpCode P c = some (.region ops)) {F : Addr → Prop} {g : Gh} {w : World} {a : Act} (hs : SimD P ds F g H w t a) (h : arun P ops t H fun t' H' => Q .normal t' H') :
    c.wpIn (fz ro) n P (fun e a' w' => ∃ x t' H' F' g', e = AX.to x ∧ Q x t' H' ∧ SimD P ds F' g' H' w' t' a' ∧ Ext F g H w F' g' H' w') a w := by
  obtain ⟨id, os, rfl, hy⟩ := cmp_region hc
  refine wpIn_region ?_
  have := arun_soundD (P := P) (ro := ro) (n := n) (ds := ds) (ops := os) (Q := fun e a' w' => ∃ x t' H' F' g', e = AX.to x ∧ Q x t' H' ∧ SimD P ds F' g' H' w' t' a' ∧ Ext F g H w F' g' H' w') os.toList ops 0 F g H w t a (by simp) hy hs h fun F' g' H' w' t' a' q1 q2 q3 => ⟨.normal, t', H', F', g', rfl, q3, q1, q2⟩
  simpa [List.range_eq_range'] using this
end

/-! ### The frame that the laws of rounds ask for -/
section
variable {F F' : Addr → Prop} {g g' : Gh} {H H' : List HB} {w w' : World}
theorem cell_eq {a : Addr} (h : w'.heap[a.block]? = w.heap[a.block]?) : w'.cell? a = w.cell? a := by
  simp only [World.cell?, h]
theorem St.owned_cells (hs : St F g H w) {b B : Nat} (hb : b < H.length) (h : g.blk b = some B) : ∃ vs e fr, w.heap[B]? = some (.cells vs e fr) := by
  cases hH : H[b]? with
  | none => rw [List.getElem?_eq_none_iff] at hH; omega
  | some x =>
    cases x with
    | var cs =>
      obtain ⟨B', vs, e, q1, q2, q3, q4, q5⟩ := hs.var b cs hH
      rw [h] at q1; cases q1
      exact ⟨vs, e, _, q3⟩
    | tvar e cs =>
      obtain ⟨B', vs, q1, q2, q3, q4, q5⟩ := hs.tvar b e cs hH
      rw [h] at q1; cases q1
      exact ⟨vs, e, _, q3⟩
    | tok n k ty =>
      obtain ⟨B', cap, vs, e, fr, q1, q2, q3, q4⟩ := hs.tok b n k _ hH
      rw [h] at q1; cases q1
      exact ⟨vs, e, _, q3⟩
/-- What is no cells lies as it lay. -/
theorem Ext.others (hs : St F g H w) (hx : Ext F g H w F' g' H' w') : KeepsOthers w w' := by
  refine ⟨hx.size, fun k o hk ho => ?_⟩
  have hlt : k < w.heap.size := (Array.getElem?_eq_some_iff.1 hk).1
  rw [hx.frame k hlt fun b hb e => ?_, hk]
  obtain ⟨vs, ty, fr, hc⟩ := hs.owned_cells hb e
  rw [hk] at hc; cases hc; cases ho
/-- Protected addresses that hold a cell. -/
def Fc (F : Addr → Prop) (w : World) : Addr → Prop := fun a => F a ∧ (w.cell? a).isSome = true
mutual
theorem R_fc : ∀ (x : AV) (v : Value), R F g w x v → R (Fc F w) g w x v
  | .bool _, _, h => h
  | .int _ _, _, h => h
  | .str _, _, h => h
  | .nilp, _, h => h
  | .ptr _ _, _, h => h
  | .nilf, _, h => h
  | .nili, _, h => h
  | .eptr cs, v, h => by
    simp only [R] at h ⊢
    obtain ⟨B, off, h1, h2⟩ := h
    exact ⟨B, off, h1, RM_fc _ _ cs h2⟩
  | .sl tok els, v, h => by
    simp only [R] at h ⊢
    obtain ⟨h0, h⟩ := h
    refine ⟨h0, ?_⟩
    rcases h with h | ⟨B, off, sp, cap, k, h1, h2, hk, h3, h4⟩
    · exact .inl h
    · exact .inr ⟨B, off, sp, cap, k, h1, h2, hk, RE_fc _ _ _ els h3, h4⟩
  | .fn f first cap, v, h => by
    simp only [R] at h ⊢
    obtain ⟨a1, a2, h1, h2, h3⟩ := h
    exact ⟨a1, a2, h1, RL_fc first _ h2, RL_fc cap _ h3⟩
  | .iface t x, v, h => by
    simp only [R] at h ⊢
    obtain ⟨u, h1, h2⟩ := h
    exact ⟨u, h1, R_fc x u h2⟩
  | .agg cs, v, h => by
    simp only [R] at h ⊢
    obtain ⟨a, h1, h2⟩ := h
    exact ⟨a, h1, RL_fc cs _ h2⟩
  | .tup cs, v, h => by
    simp only [R] at h ⊢
    obtain ⟨a, h1, h2⟩ := h
    exact ⟨a, h1, RL_fc cs _ h2⟩
theorem RL_fc : ∀ (x : List AV) (v : List Value), RL F g w x v → RL (Fc F w) g w x v
  | [], _, h => h
  | x :: xs, v, h => by
    simp only [RL] at h ⊢
    obtain ⟨u, r, h1, h2, h3⟩ := h
    exact ⟨u, r, h1, R_fc x u h2, RL_fc xs r h3⟩
theorem RM_fc : ∀ (B off : Nat) (x : List AV), RM F g w B off x → RM (Fc F w) g w B off x
  | _, _, [], h => h
  | B, off, x :: xs, h => by
    simp only [RM] at h ⊢
    obtain ⟨⟨h0, v, h1, h2, h3⟩, h4⟩ := h
    exact ⟨⟨h0, v, ⟨h1, by rw [h2]; rfl⟩, h2, R_fc x v h3⟩, RM_fc _ _ xs h4⟩
theorem RE_fc : ∀ (B off k : Nat) (x : List (List AV)), RE F g w B off k x → RE (Fc F w) g w B off k x
  | _, _, _, [], h => h
  | B, off, k, x :: xs, h => by
    simp only [RE] at h ⊢
    obtain ⟨h1, h2, h3⟩ := h
    exact ⟨h1, RM_fc _ _ x h2, RE_fc _ _ _ xs h3⟩
end
theorem St.cells (hs : St F g H w) : St (Fc F w) g H w where
  live a h := hs.live a h.1
  beyond := hs.beyond
  inj := hs.inj
  var b cs hb := by
    obtain ⟨B, vs, e, h1, h2, h3, h4, h5⟩ := hs.var b cs hb
    exact ⟨B, vs, e, h1, h2, h3, RL_fc _ _ h4, fun off h => h5 off h.1⟩
  tok t n k ty ht := by
    obtain ⟨B, cap, vs, e, fr, h1, h2, h3, h4, h5, h6⟩ := hs.tok t n k _ ht
    exact ⟨B, cap, vs, e, fr, h1, h2, h3, h4, h5, fun off ho h => h6 off ho h.1⟩
  spots b off s h := hs.spots b off s h.1
  tvar b e cs hb := by
    obtain ⟨B, vs, h1, h2, h3, h4, h5⟩ := hs.tvar b e cs hb
    exact ⟨B, vs, h1, h2, h3, RL_fc _ _ h4, fun off h => h5 off h.1⟩
theorem GlobOk.cells {P : Program} (h : GlobOk P F w) : GlobOk P (Fc F w) w where
  rng := by
    obtain ⟨h1, te, pe, h2⟩ := h.rng
    exact ⟨⟨h1, by rw [h2]; rfl⟩, te, pe, h2⟩
  asc c hc := by
    obtain ⟨h1, h2⟩ := h.asc c hc
    exact ⟨⟨h1, by rw [h2]; rfl⟩, h2⟩
  mxl := by
    obtain ⟨h1, m, h2⟩ := h.mxl
    exact ⟨⟨h1, by rw [h2]; rfl⟩, m, h2⟩
/-- Ext, with the addresses that hold a cell alone. -/
theorem Ext.cells (hx : Ext F g H w F' g' H' w') (hF : ∀ a, F a → (w.cell? a).isSome = true) : Ext F g H w (Fc F' w') g' H' w' where
  sub a h := ⟨hx.sub a h, by rw [hx.keep a h]; exact hF a h⟩
  keep := hx.keep
  gh := hx.gh
  size := hx.size
  frame := hx.frame
  new a h := hx.new a h.1
  blks := hx.blks
  len := hx.len
  io := hx.io
section
variable {row : Option Nat}
theorem Keeps.grown (hF : ∀ a, F a → (w.cell? a).isSome = true) (hg : w.grownBy w' row) (hr : ∀ r, row = some r → ∃ o : Obj, w.heap[r]? = some o ∧ o.isCells = false) : Keeps F g w F g w' :=
  ⟨fun _ h => h, fun a ha => by
    obtain ⟨v, hv⟩ := Option.isSome_iff_exists.1 (hF a ha)
    rw [hv]; exact cell_kept hv hg hr, Gh.le_refl g⟩
theorem St.grown (hs : St F g H w) (hF : ∀ a, F a → (w.cell? a).isSome = true) (hg : w.grownBy w' row) (hr : ∀ r, row = some r → ∃ o : Obj, w.heap[r]? = some o ∧ o.isCells = false) : St F g H w' where
  live a h := Nat.lt_of_lt_of_le (hs.live a h) hg.size
  beyond := hs.beyond
  inj := hs.inj
  var b cs hb := by
    obtain ⟨B, vs, e, h1, h2, h3, h4, h5⟩ := hs.var b cs hb
    exact ⟨B, vs, e, h1, h2, (grownBy_keeps_cells hg hr h3 rfl).trans h3, RL.mono (Keeps.grown hF hg hr) _ _ h4, h5⟩
  tvar b e cs hb := by
    obtain ⟨B, vs, h1, h2, h3, h4, h5⟩ := hs.tvar b e cs hb
    exact ⟨B, vs, h1, h2, (grownBy_keeps_cells hg hr h3 rfl).trans h3, RL.mono (Keeps.grown hF hg hr) _ _ h4, h5⟩
  tok t n k ty ht := by
    obtain ⟨B, cap, vs, e, fr, h1, h2, h3, h4, h5, h6⟩ := hs.tok t n k _ ht
    exact ⟨B, cap, vs, e, fr, h1, h2, (grownBy_keeps_cells hg hr h3 rfl).trans h3, h4, h5, h6⟩
  spots := hs.spots
theorem Ext.grown {F0 : Addr → Prop} {g0 : Gh} {H0 : List HB} {w0 : World} (hx : Ext F0 g0 H0 w0 F g H w) (hF : ∀ a, F a → (w.cell? a).isSome = true) (hg : w.grownBy w' row) (hr : ∀ r, row = some r → w0.heap.size ≤ r ∧ ∃ o : Obj, w.heap[r]? = some o ∧ o.isCells = false) : Ext F0 g0 H0 w0 F g H w' where
  sub := hx.sub
  keep a ha := ((Keeps.grown (g := g) hF hg fun r e => (hr r e).2).keep a (hx.sub a ha)).trans (hx.keep a ha)
  gh := hx.gh
  size := Nat.le_trans hx.size hg.size
  frame B hB hn := (hg.block B (Nat.lt_of_lt_of_le hB hx.size) (fun e => by have := (hr B e.symm).1; omega)).trans (hx.frame B hB hn)
  new := hx.new
  blks := hx.blks
  len := hx.len
  io := ⟨hg.os.trans hx.io.1, hg.output.trans hx.io.2⟩
theorem grown_isSome (hF : ∀ a, F a → (w.cell? a).isSome = true) (hg : w.grownBy w' row) (hr : ∀ r, row = some r → ∃ o : Obj, w.heap[r]? = some o ∧ o.isCells = false) : ∀ a, F a → (w'.cell? a).isSome = true :=
  fun a ha => by rw [(Keeps.grown (g := ⟨fun _ => none, fun _ => none⟩) hF hg hr).keep a ha]; exact hF a ha
end
/-- No names: nothing is owned. -/
theorem St.none (hl : ∀ a, F a → a.block < w.heap.size) (hsp : ∀ b off s, ¬ F ⟨b, off, some s⟩) : St F ⟨fun _ => .none, fun _ => .none⟩ [] w :=
  ⟨hl, fun _ _ => ⟨rfl, rfl⟩, fun _ _ _ h => (by cases h), fun b cs h => (by simp at h), fun t n k ty h => (by simp at h), hsp, fun b e cs h => (by simp at h)⟩
end
theorem wpOpsIn_append {Fe : Fence} {n : Nat} {P : Program} {ops : Array Oper} {Q : Exit → Act → World → Prop} : ∀ (l1 l2 : List Nat) (a : Act) (w : World), wpOpsIn Fe n P ops (Exit.then (wpOpsIn Fe n P ops Q l2) Q) l1 a w → wpOpsIn Fe n P ops Q (l1 ++ l2) a w
  | [], l2, a, w, h => h
  | i :: l1, l2, a, w, h => by
    simp only [wpOpsIn, List.cons_append] at h ⊢
    split
    · rename_i ho; rw [ho] at h; exact wpOpsIn_append l1 l2 a w h
    · rename_i o ho
      rw [ho] at h
      simp only at h
      split
      · rename_i hw
        rw [if_pos hw] at h
        refine ⟨h.1, ?_⟩
        have h2 := h.2
        generalize (o.semAt Fe.round a.eval).run P w = r at h2
        have lets : LetsOut (Exit.then (wpOpsIn Fe n P ops Q l2) Q) → LetsOut Q := fun ⟨a0, w0, h⟩ => ⟨a0, w0, h⟩
        cases r with
        | ok x w' =>
          cases x
          case value v => exact wpOpsIn_append l1 l2 _ _ h2
          case skip => exact wpOpsIn_append l1 l2 _ _ h2
          case defer d => exact wpOpsIn_append l1 l2 _ _ h2
          case enter f args =>
            refine ⟨h2.1, CallsIn.mono h2.2 fun e w'' he => ?_⟩
            cases e
            · exact wpOpsIn_append l1 l2 _ _ he
            · exact he
            · exact lets he
          case row r args => exact ⟨h2.1, RowsIn.mono h2.2 fun v w'' he => wpOpsIn_append l1 l2 _ _ he⟩
          case round l f t asg b =>
            refine ⟨h2.1, RoundIn.mono h2.2 fun e w'' he => ?_⟩
            cases e
            · exact wpOpsIn_append l1 l2 _ _ he
            · exact he
            · exact lets he
          all_goals exact h2.elim
        | halt x w' => cases x <;> exact h2
      · rename_i hw
        rw [if_neg hw] at h
        exact ⟨h.1, wpOpsIn_append l1 l2 _ _ h.2⟩
/-- What is known of slices besides their elements is forgotten, in the heap. -/
def stripB : HB → HB
  | .var cs => .var (stripL cs)
  | .tvar e cs => .tvar e (stripL cs)
  | .tok n k e => .tok n k e
section
variable {F F' : Addr → Prop} {g g' : Gh} {H H' : List HB} {w w' : World}
theorem St.strip (hs : St F g H w) : St F g (H.map stripB) w where
  live := hs.live
  beyond b hb := hs.beyond b (by simpa using hb)
  inj := hs.inj
  var b cs hb := by
    rw [List.getElem?_map, Option.map_eq_some_iff] at hb
    obtain ⟨x, h1, h2⟩ := hb
    cases x <;> simp only [stripB, HB.var.injEq, reduceCtorEq] at h2
    subst h2
    obtain ⟨B, vs, e, q1, q2, q3, q4, q5⟩ := hs.var b _ h1
    exact ⟨B, vs, e, q1, q2, q3, RL_strip _ _ q4, q5⟩
  tvar b e cs hb := by
    rw [List.getElem?_map, Option.map_eq_some_iff] at hb
    obtain ⟨x, h1, h2⟩ := hb
    cases x <;> simp only [stripB, HB.tvar.injEq, reduceCtorEq] at h2
    obtain ⟨rfl, rfl⟩ := h2
    obtain ⟨B, vs, q1, q2, q3, q4, q5⟩ := hs.tvar b _ _ h1
    exact ⟨B, vs, q1, q2, q3, RL_strip _ _ q4, q5⟩
  tok t n k ty ht := by
    rw [List.getElem?_map, Option.map_eq_some_iff] at ht
    obtain ⟨x, h1, h2⟩ := ht
    cases x <;> simp only [stripB, HB.tok.injEq, reduceCtorEq] at h2
    obtain ⟨rfl, rfl, rfl⟩ := h2
    exact hs.tok t _ _ _ h1
  spots := hs.spots
theorem Ext.strip (hx : Ext F g H w F' g' H' w') : Ext F g H w F' g' (H'.map stripB) w' where
  sub := hx.sub
  keep := hx.keep
  gh := hx.gh
  size := hx.size
  frame := hx.frame
  new := hx.new
  blks b B hb h := hx.blks b B (by simpa using hb) h
  len := by simpa using hx.len
  io := hx.io
end
theorem arun_mono {P : Program} {K K' : List AV → List HB → Prop} : ∀ {l : List AO} {t : List AV} {H : List HB}, arun P l t H K → (∀ t H, K t H → K' t H) → arun P l t H K'
  | [], _, _, h, hk => hk _ _ h
  | o :: r, t, H, h, hk => by
    simp only [arun] at h ⊢
    rcases h with ⟨h1, v, H', h2, h3⟩ | ⟨h1, h2⟩
    · exact .inl ⟨h1, v, H', h2, arun_mono h3 hk⟩
    · exact .inr ⟨h1, arun_mono h2 hk⟩
end Go.Proofs.YtblbepjnkehoaaaGreatDoor
/- encode.under: a range over slices.Backward: the pieces. -/
namespace Go.Proofs.YtblbepjnkehoaaaGreatDoor
open Go
attribute [local simp] astep aev putA guardA start AV.cells AV.undef takeCells splice intBin strBin abin AV.isCell loadV fillR fillA
attribute [local simp] fin aRes aResL aRes1 AV.strip stripL stripE AV.inScope scopedL scopedE scopedH
set_option maxRecDepth 10000
set_option linter.unusedSimpArgs false
def uZ : List AV := [.int .i64 0, .int .i64 0, .str [], .sl .none [], .sl .none [], .sl .none []]
def uA : AC := .region [⟨(some 3), (.box (.tmp 0)), none⟩, ⟨(some 5), (.box (.tmp 2)), none⟩, ⟨(some 6), (.alloc [(.int .i64 0), (.int .i64 0), (.str []), (.sl .nilT []), (.sl .nilT []), (.sl .nilT [])]), none⟩]
def uB : AC := .region [⟨(some 9), (.mov (.tmp 1)), none⟩, ⟨(some 10), (.call (.cst (.fn (.func i_slices_Backward_Kind) [] [])) [(.tmp 9)]), none⟩]
def uAs : AC := .region [⟨(some 8), (.alloc [(.sl .nilT [])]), none⟩, ⟨none, (.store 1 (.tmp 8) (.tmp 12)), none⟩]
def uBd : AC := .draw [⟨(some 13), (.load false 1 (.tmp 3)), none⟩, ⟨(some 14), (.load true 1 (.tmp 8)), none⟩, ⟨(some 15), (.call (.cst (.fn (.func i_encode_copyKind) [] [])) [(.tmp 14)]), none⟩, ⟨(some 16), (.load true 6 (.tmp 5)), none⟩, ⟨(some 17), (.buildSl 6 [(.int .i64 0), (.int .i64 0), (.str []), (.sl .nilT []), (.sl .nilT []), (.sl .nilT [])] 1 [(0, (.tmp 16))]), none⟩, ⟨(some 18), (.build [(.int .i64 0), (.int .i64 0), (.str []), (.sl .nilT []), (.sl .nilT []), (.sl .nilT [])] [(0, (1, (.tmp 13))), (3, (1, (.tmp 15))), (5, (1, (.tmp 17)))]), none⟩, ⟨none, (.store 6 (.tmp 5) (.tmp 18)), none⟩] [[], [], [1], [], [3], [0, 2, 4], [5, 2, 0, 1, 2, 3, 4, 5]]
def uDl : List AO := [⟨(some 19), (.load true 6 (.tmp 5)), none⟩, ⟨none, (.store 6 (.tmp 6) (.tmp 19)), none⟩]
def uT (op : Int) (ks : List Kd) (c0 : Cn) (s9 fnv s8 s11 s12 : AV) : List AV :=
  [.int .i64 op, .sl .none (ks.map kdCells), cnAV c0, .ptr 0 0, .undef, .ptr 1 0, .ptr 2 0, .undef, s8, s9, fnv, s11, s12, .undef, .undef, .undef, .undef, .undef, .undef, .undef]
def uH (op : Int) (c : Cn) : List HB := [.var [.int .i64 op], .var (cnCells c), .var uZ]
theorem uH_scoped (op : Int) (c : Cn) : scopedH 3 (uH op c) = true := by simp [uH, uZ]
theorem slices_Backward_call (op : Int) (c : Cn) (ks : List Kd) : HCall Go.Proofs.Tryz.prog i_slices_Backward_Kind [.sl .none (ks.map kdCells)] (uH op c) (.fn (.func i_slices_Backward_Kind_1) [] [.ptr 3 0]) (uH op c ++ [.var [.sl .none (ks.map kdCells)]]) := by
  refine HCall.go mixed ok_slices_Backward_Kind (by simp) fun hfit Q hQ => ?_
  clear hfit
  simp -implicitDefEqProofs [c_slices_Backward_Kind, uH, uZ]
  refine hQ _ _ _ ?_
  simp -implicitDefEqProofs [uH, uZ]
def uH0 (op : Int) (c : Cn) : List HB := [.var [.int .i64 op], .var (cnCells c), .var [.int .i64 0, .int .i64 0, .str [], .sl .nilT [], .sl .nilT [], .sl .nilT []]]
theorem uH0_strip (op : Int) (c : Cn) : (uH0 op c).map stripB = uH op c := by
  have : stripL (cnCells c) = cnCells c := by simp
  simp [uH0, uH, uZ, stripB, this]
theorem u_first (op : Int) (ks : List Kd) (c : Cn) : AWp Go.Proofs.Tryz.prog uA (start [.int .i64 op, .sl .none (ks.map kdCells), cnAV c] 20) [] (fun x t H => x = .normal ∧ t = uT op ks c .undef .undef .undef .undef .undef ∧ H = uH0 op c) := by
  refine AWp.run mixed fun Q hQ => ?_
  simp -implicitDefEqProofs [uA, cnAV]
  refine hQ _ _ _ ?_
  simp [uT, uH0, cnAV]
theorem u_second (op : Int) (ks : List Kd) (c : Cn) : AWp Go.Proofs.Tryz.prog uB (uT op ks c .undef .undef .undef .undef .undef) (uH op c) (fun x t H => x = .normal ∧ t = uT op ks c (.sl .none (ks.map kdCells)) (.fn (.func i_slices_Backward_Kind_1) [] [.ptr 3 0]) .undef .undef .undef ∧ H = uH op c ++ [.var [.sl .none (ks.map kdCells)]]) := by
  refine AWp.run mixed fun Q hQ => ?_
  simp -implicitDefEqProofs [uB, uT]
  refine CALL_of (slices_Backward_call op c ks) ?_
  simp -implicitDefEqProofs
  refine hQ _ _ _ ?_
  simp [uT]
theorem u_assign {ro : Option Nat} {n : Nat} (op : Int) (ks : List Kd) (c0 c : Cn) (s9 fnv : AV) (i : Int) (k : Kd) : AWpR Go.Proofs.Tryz.prog ro n uAs (uT op ks c0 s9 fnv .undef (.int .i64 i) (kdAV k)) (uH op c) (fun x t H => x = .normal ∧ t = uT op ks c0 s9 fnv (.ptr 3 0) (.int .i64 i) (kdAV k) ∧ H = uH op c ++ [.var (kdCells k)]) := by
  refine AWpR.region (arunC_sound ?_)
  show AR_ _ _ [] (fun x t H => x = .normal ∧ t = uT op ks c0 s9 fnv (.ptr 3 0) (.int .i64 i) (kdAV k) ∧ H = uH op c ++ [.var (kdCells k)]) _ _
  simp -implicitDefEqProofs [uT, uH, kdAV, kdCells_eq k]
theorem u_body {ro : Option Nat} {n : Nat} (op : Int) (ks : List Kd) (c0 c : Cn) (s9 fnv s11 s12 : AV) (k : Kd) : AWpR Go.Proofs.Tryz.prog ro n uBd (uT op ks c0 s9 fnv (.eptr (kdCells k)) s11 s12) (uH op c) (fun x _ H => x = .normal ∧ ∃ cs, H = [.var [.int .i64 op], .var cs, .var uZ] ∧ stripL cs = cnCells (cnBound op k c)) := by
  refine AWpR.drawC mixed (fun _ => true) [] (by rfl) ?_
  show DR _ _ _ _ _ _ [] (fun x _ H => x = .normal ∧ ∃ cs, H = [.var [.int .i64 op], .var cs, .var uZ] ∧ stripL cs = cnCells (cnBound op k c)) _ _
  simp -implicitDefEqProofs [uT, uH, kdCells_eq k, cnCells_eq c]
  refine DCALL_pure (encode_copyKind_call k) (by simp) (by simp) (by simp [kdAV, kdCells_eq k]) ?_
  simp -implicitDefEqProofs [kdAV, kdCells_eq k, fillR, cnBound, cnCells_mk, cnCells_eq c, strRows_nil]
theorem u_last (op : Int) (ks : List Kd) (c0 c : Cn) (s9 fnv s8 s11 s12 : AV) : arun Go.Proofs.Tryz.prog uDl (uT op ks c0 s9 fnv s8 s11 s12) (uH op c) (fun t H => t.getD 6 .undef = .ptr 2 0 ∧ H = [.var [.int .i64 op], .var (cnCells c), .var (cnCells c)]) := by
  refine arunC_sound ?_
  show AR_ _ _ [] (fun _ t H => t.getD 6 .undef = .ptr 2 0 ∧ H = [.var [.int .i64 op], .var (cnCells c), .var (cnCells c)]) _ _
  simp -implicitDefEqProofs [uDl, uT, uH, uZ, cnCells_eq c]
theorem u_code : ∃ (fn : Func) (a b d asg bdy : Code), Go.Proofs.Tryz.prog.funcs[76]? = some fn ∧ fn.body = some (.seq a (.seq (.seq b (.block 0 (.rangeFunc (.tmp 10) #[11, 12] asg (.block 1 bdy)))) (.seq d .ret))) ∧
    cmpCode Go.Proofs.Tryz.prog a = some uA ∧ cmpCode Go.Proofs.Tryz.prog b = some uB ∧ cmpCode Go.Proofs.Tryz.prog asg = some uAs ∧ cmpCode Go.Proofs.Tryz.prog bdy = some uBd ∧ cmpCode Go.Proofs.Tryz.prog d = some (.region uDl) ∧ fn.ntmps = 20 ∧ cmpRes Go.Proofs.Tryz.prog fn.results.toList = some [.cell 6 true 6] :=
  ⟨Go.Proofs.Tryz.f76, _, _, _, _, _, Go.Proofs.Tryz.func76, rfl, by kernel_rfl, by kernel_rfl, by kernel_rfl, by kernel_rfl, by kernel_rfl, by kernel_rfl, by kernel_rfl⟩
end Go.Proofs.YtblbepjnkehoaaaGreatDoor
/- encode.under: its contract. -/
namespace Go.Proofs.YtblbepjnkehoaaaGreatDoor
open Go Go.RowKit
attribute [local simp] astep aev putA guardA start AV.cells AV.undef takeCells splice intBin strBin abin AV.isCell loadV fillR fillA
attribute [local simp] fin aRes aResL aRes1 AV.strip stripL stripE AV.inScope scopedL scopedE scopedH
set_option maxRecDepth 10000
set_option linter.unusedSimpArgs false
theorem uH_len (op : Int) (c : Cn) : (uH op c).length = 3 := rfl
theorem uT_len (op : Int) (ks : List Kd) (c0 : Cn) (s9 fnv s8 s11 s12 : AV) : (uT op ks c0 s9 fnv s8 s11 s12).length = 20 := rfl
/-- What has been put around. -/
def cI (op : Int) (c : Cn) (l : List Kd) : Cn := l.foldl (fun c k => cnBound op k c) c
theorem cI_snoc (op : Int) (c : Cn) (l : List Kd) (k : Kd) : cI op c (l ++ [k]) = cnBound op k (cI op c l) := by simp [cI]
theorem cI_rev (op : Int) (c : Cn) (l : List Kd) : cI op c l.reverse = around op l c := by simp [cI, around, List.foldl_reverse]
/-- The names of the heap are variables. -/
theorem uH_tk {F : Addr → Prop} {g : Gh} {w : World} {op : Int} {c : Cn} (hs : St F g (uH op c) w) : ∀ b, g.tk b = none := by
  intro b
  rcases Nat.lt_or_ge b 3 with h | h
  · have : ∃ cs, (uH op c)[b]? = some (.var cs) := by
      match b, h with
      | 0, _ => exact ⟨_, rfl⟩
      | 1, _ => exact ⟨_, rfl⟩
      | 2, _ => exact ⟨_, rfl⟩
    obtain ⟨cs, hcs⟩ := this
    obtain ⟨_, _, _, _, h2, _⟩ := hs.var b cs hcs
    exact h2
  · exact (hs.beyond b (by simpa [uH_len] using h)).2
theorem uH_blk {F : Addr → Prop} {g : Gh} {w : World} {op : Int} {c : Cn} (hs : St F g (uH op c) w) {b : Nat} (h : b < 3) : ∃ B, g.blk b = some B ∧ ∀ off, ¬ F ⟨B, off, none⟩ := by
  have : ∃ cs, (uH op c)[b]? = some (.var cs) := by
    match b, h with
    | 0, _ => exact ⟨_, rfl⟩
    | 1, _ => exact ⟨_, rfl⟩
    | 2, _ => exact ⟨_, rfl⟩
  obtain ⟨cs, hcs⟩ := this
  obtain ⟨B, _, _, h1, _, _, _, h5⟩ := hs.var b cs hcs
  exact ⟨B, h1, h5⟩
theorem one_of {F : Addr → Prop} {g : Gh} {w : World} {x : AV} {vs : List Value} (h : RL F g w [x] vs) : ∃ v, vs = [v] ∧ R F g w x v := by
  simp only [RL] at h
  obtain ⟨v, r, rfl, h1, rfl⟩ := h
  exact ⟨v, rfl, h1⟩
theorem kd_one (k : Kd) : ∃ x, kdCells k = [x] ∧ x.isCell = true := ⟨_, kdCells_eq k, rfl⟩
/-- The iterator, over a slice that is represented. -/
theorem back_stops (ks : List Kd) (hln : ks.length ≤ 1073741824) (FS : Addr → Prop) (g : Gh) (w : World) (B : Nat) (hFS : ∀ a, FS a → a.block < w.heap.size) (sv : Value) (hB : FS ⟨B, 0, none⟩) (hc : w.cell? ⟨B, 0, none⟩ = some sv) (hr : R FS g w (.sl .none (ks.map kdCells)) sv) :
    SeqStopsK Fence.wide 2 Go.Proofs.Tryz.prog 148 #[.pointer (some ⟨B, 0, none⟩)] (fun x : { x : Int × Value × Kd // R FS g w (kdAV x.2.2) x.2.1 ∧ IntKind.i64.has x.1 } => #[.int .i64 x.1.1, x.1.2.1]) (fun W W' => ∀ a, FS a → W'.cell? a = W.cell? a)
      (fun xs => xs.map (fun x => x.1.2.2) = ks.reverse) (fun _ => True) ks.length w := by
  intro l J Jx W hW _ _ hY h0
  have hcell : ∀ a, FS a → W.cell? a = w.cell? a := fun a ha => cell_of_heap (hW.block _ (hFS a ha))
  have hc' := (hcell _ hB).trans hc
  obtain ⟨_, h⟩ := R_sl hr
  rcases h with ⟨h1, rfl, _⟩ | ⟨b, off, sp, cap, k, rfl, h2, ⟨hk, h1 | rfl⟩, h3, _⟩
  · have hks : ks = [] := by simpa using h1
    subst hks
    exact (back1_nil_in Fence.wide 2 trivial rfl l B J W _ _ hc' h0).mono fun e W' ⟨he, hj⟩ => ⟨he, .inl ⟨[], rfl, hj⟩⟩
  · have hks : ks = [] := by simpa using h1
    subst hks
    exact (back1_nil_in Fence.wide 2 trivial rfl l B J W _ _ hc' h0).mono fun e W' ⟨he, hj⟩ => ⟨he, .inl ⟨[], rfl, hj⟩⟩
  · have row : ∀ j (hj : j < ks.length), ∃ v, FS ⟨b, off + j, none⟩ ∧ w.cell? ⟨b, off + j, none⟩ = some v ∧ R FS g w (kdAV ks[j]) (.agg #[v]) := by
      intro j hj
      obtain ⟨e1, e2⟩ := RE_get h3 j (kdCells ks[j]) (by simp [hj])
      obtain ⟨x, ex, _⟩ := kd_one ks[j]
      rw [ex] at e1 e2
      have hk1 : k = 1 := by simpa using e1.symm
      subst hk1
      simp only [RM, Nat.mul_one] at e2
      obtain ⟨⟨_, v, f1, f2, f3⟩, _⟩ := e2
      refine ⟨v, f1, f2, ?_⟩
      simp only [kdAV, ex, R]
      exact ⟨#[v], rfl, by simp only [RL]; exact ⟨v, [], rfl, f3, rfl⟩⟩
    have dft : R FS g w (kdAV (.mk [])) (.agg #[.slice none 0 0]) := by
      simp only [kdAV, kdCells_eq, R]
      exact ⟨_, rfl, by simp only [RL]; exact ⟨_, [], rfl, by simp [R, Kd.l], rfl⟩⟩
    let zs : Nat → Value := fun j => (w.cell? ⟨b, off + j, none⟩).getD undef
    have hz : ∀ j (hj : j < ks.length), R FS g w (kdAV ks[j]) (.agg #[zs j]) := by
      intro j hj
      obtain ⟨v, _, f2, f3⟩ := row j hj
      show R FS g w _ (.agg #[(w.cell? ⟨b, off + j, none⟩).getD undef])
      rw [f2]; exact f3
    let el : Nat → { x : Int × Value × Kd // R FS g w (kdAV x.2.2) x.2.1 ∧ IntKind.i64.has x.1 } := fun j =>
      if hj : j < ks.length then ⟨((j : Int), .agg #[zs j], ks[j]), hz j hj, len_has (by simp only [maxL]; omega)⟩ else ⟨(0, .agg #[.slice none 0 0], .mk []), dft, by simpa using len_has (n := 0) (by simp [maxL])⟩
    have hel : ∀ j (hj : j < ks.length), el j = ⟨((j : Int), .agg #[zs j], ks[j]), hz j hj, len_has (by simp only [maxL]; omega)⟩ := fun j hj => dif_pos hj
    simp only [List.length_map] at hc' h2
    refine (back1_in (fun x : { x : Int × Value × Kd // R FS g w (kdAV x.2.2) x.2.1 ∧ IntKind.i64.has x.1 } => #[.int .i64 x.1.1, x.1.2.1]) el zs (fun W W' => ∀ a, FS a → W'.cell? a = W.cell? a) Fence.wide 2 trivial rfl (by omega) l B b off ks.length cap hln
      (fun j hj => by rw [hel j hj]) (fun W W' h => h _ hB) (fun W W' j hj h => h _ (row j hj).choose_spec.1) J Jx hY W hc' (fun j hj => ?_) h0).mono ?_
    · obtain ⟨v, f1, f2, _⟩ := row j hj
      rw [hcell _ f1, f2]
      show some v = some ((w.cell? ⟨b, off + j, none⟩).getD undef)
      rw [f2]; rfl
    · rintro e W' ⟨he, ⟨ys, rfl, hj⟩ | ⟨pre, hj⟩⟩
      · refine ⟨he, .inl ⟨_, ?_, hj⟩⟩
        apply List.ext_getElem
        · simp [downs]
        · intro i h1 h2
          have hi : i < ks.length := by simpa [downs] using h1
          simp only [downs, List.map_map, List.getElem_map, List.getElem_range, Function.comp, List.getElem_reverse]
          rw [hel _ (by omega)]
      · exact ⟨he, .inr ⟨pre, trivial, hj⟩⟩
theorem fold_two (x : Array Value) (v u : Value) : ((#[11, 12] : Array Tmp).zip #[v, u]).foldl (fun t (p, v) => t.setIfInBounds p v) x = (x.setIfInBounds 11 v).setIfInBounds 12 u := by
  simp
set_option maxHeartbeats 1000000 in
theorem encode_under_call : UnderOk := by
  intro op ks c
  have hen : enterable Go.Proofs.Tryz.prog i_encode_under = true := by kernel_rfl
  refine HCall.fits hen fun hfit => ?_
  have hln : ks.length ≤ 1073741824 := by simpa [fitsL, AV.fits, maxL] using hfit.2.1.1
  clear hfit
  refine ⟨hen, fun F g w vs hG hs hr => ?_⟩
  obtain ⟨fn, a, b, d, asg, bdy, hfn, hbody, cA, cB, cAs, cBd, cD, hnt, hres⟩ := u_code
  have hs0 := hs.cells
  have hr0 := RL_fc _ _ hr
  have hG0 := hG.cells
  have hF0 : ∀ x, Fc F w x → (w.cell? x).isSome = true := fun x h => h.2
  suffices key : CallsIn Fence.wide 3 Go.Proofs.Tryz.prog 76 vs.toArray w fun e w' => ∃ v F' g', e = .returned v ∧ R F' g' w' (cnAV (around op ks c)) v ∧ St F' g' [] w' ∧ Ext (Fc F w) g [] w F' g' [] w' by
    refine (callsIn_wide.1 key).mono ?_
    rintro e w' ⟨v, F', g', rfl, hv, hs', hx⟩
    have hfr : ∀ B, B < w.heap.size → w'.heap[B]? = w.heap[B]? := fun B hB => hx.frame B hB fun b hb => absurd hb (Nat.not_lt_zero b)
    refine ⟨v, fun a => F' a ∨ F a, g', rfl, R.mono ⟨fun _ h => .inl h, fun _ _ => rfl, Gh.le_refl _⟩ _ _ hv,
      ⟨fun a ha => ?_, hs'.beyond, hs'.inj, fun b cs h => (by simp at h), fun t n k ty h => (by simp at h), fun b off s ha => ?_, fun b e cs h => (by simp at h)⟩,
      ⟨fun _ h => .inr h, fun a ha => cell_of_heap (hfr _ (hs.live a ha)), hx.gh, hx.size, fun B hB _ => hfr B hB, fun a ha => ?_, fun b B hb _ => absurd hb (Nat.not_lt_zero b), Nat.le_refl _, hx.io⟩⟩
    · rcases ha with ha | ha
      · exact hs'.live a ha
      · exact Nat.lt_of_lt_of_le (hs.live a ha) hx.size
    · rcases ha with ha | ha
      · exact hs'.spots b off s ha
      · exact hs.spots b off s ha
    · rcases ha with ha | ha
      · rcases hx.new a ha with h | h | ⟨t, ht, _⟩
        · exact .inl h.1
        · exact .inr (.inl h)
        · exact absurd ht (Nat.not_lt_zero t)
      · exact .inl ha
  have hlen := RL_len hr
  have sim0 : Sim Go.Proofs.Tryz.prog (Fc F w) g [] w (start [.int .i64 op, .sl .none (ks.map kdCells), cnAV c] 20) { tmps := vs.toArray ++ Array.replicate (20 - vs.toArray.size) undef, defers := [] } := by
    refine ⟨hs0, ?_, rfl, hG0⟩
    show RL (Fc F w) g w _ _
    simp only [start, Array.toList_append, Array.toList_replicate, List.size_toArray, hlen]
    exact RL_append hr0 (RL_rep R_undef _)
  refine callsIn_of_wp_marks hfn hbody trivial ?_ rfl
  rw [hnt]
  refine wpIn_seq (wpIn_mono (wpIn_wide.2 (u_first op ks c a cA _ g w _ sim0)) ?_)
  rintro e a1 w1 ⟨x, t1, H1, F1, g1, rfl, ⟨rfl, rfl, rfl⟩, sim1', ext1'⟩
  simp only [AX.to, Exit.then]
  have sim1 : Sim Go.Proofs.Tryz.prog F1 g1 (uH op c) w1 (uT op ks c .undef .undef .undef .undef .undef) a1 := ⟨uH0_strip op c ▸ sim1'.1.strip, sim1'.2⟩
  have ext1 : Ext (Fc F w) g [] w F1 g1 (uH op c) w1 := uH0_strip op c ▸ ext1'.strip
  refine wpIn_seq (wpIn_seq (wpIn_mono (wpIn_wide.2 (u_second op ks c b cB _ _ _ _ sim1)) ?_))
  rintro e a2 w2 ⟨x, t2, H2, F2, g2, rfl, ⟨rfl, rfl, rfl⟩, sim2, ext2⟩
  simp only [AX.to, Exit.then]
  have ext02 := ext1.trans ext2
  have hd2 := sim2.2.2.1
  -- the variable that Backward has made is never written again
  obtain ⟨B3, vs3, e3, p1, p2, p3, p4, p5⟩ := sim2.1.var 3 [.sl .none (ks.map kdCells)] rfl
  obtain ⟨sv, hsv, hsr⟩ := one_of p4
  have hsc : w2.cell? ⟨B3, 0, none⟩ = some sv := by
    simp only [World.cell?, p3, Option.isSome_none, Bool.false_eq_true, if_false]
    rw [← Array.getElem?_toList, hsv]; rfl
  obtain ⟨g3, q1, q2, q3⟩ := St.forget (H0 := uH op c) (L := [.var [.sl .none (ks.map kdCells)]]) sim2.1 ext02 (Nat.zero_le _) (uH_scoped op c) (fun b _ => hs.beyond b (Nat.zero_le _))
  let FS : Addr → Prop := fun x => Fc F2 w2 x ∨ x = ⟨B3, 0, none⟩
  have K2 : Keeps (Fc F2 w2) g2 w2 FS g2 w2 := ⟨fun _ h => .inl h, fun _ _ => rfl, Gh.le_refl _⟩
  have hB3 : B3 < w2.heap.size := heap_lt p3
  have hFSl : ∀ x, FS x → x.block < w2.heap.size := fun x hx => by
    rcases hx with hx | rfl
    · exact sim2.1.live x hx.1
    · exact hB3
  have hFSc : ∀ x, FS x → (w2.cell? x).isSome = true := fun x hx => by
    rcases hx with hx | rfl
    · exact hx.2
    · rw [hsc]; rfl
  have hFSs : ∀ b off s, ¬ FS ⟨b, off, some s⟩ := fun b off s hx => by
    rcases hx with hx | hx
    · exact sim2.1.spots b off s hx.1
    · cases hx
  have hne3 : ∀ b B, b < 3 → g2.blk b = some B → B ≠ B3 := fun b B hb h e => by
    have := sim2.1.inj b 3 B h (by rw [p1, e]); omega
  have K3 : Keeps F2 g3 w2 F2 g3 w2 := ⟨fun _ h => h, fun _ _ => rfl, Gh.le_refl _⟩
  have sS : St FS g3 (uH op c) w2 := by
    have s0 := q2.cells
    refine ⟨hFSl, q2.beyond, q2.inj, fun b cs hb => ?_, fun t n k ty ht => ?_, hFSs, fun b e cs hb => ?_⟩
    · obtain ⟨B, us, e', h1, h2, h3, h4, h5⟩ := s0.var b cs hb
      have hb3 : b < 3 := (List.getElem?_eq_some_iff.1 hb).1
      refine ⟨B, us, e', h1, h2, h3, RL.mono ⟨fun _ h => .inl h, fun _ _ => rfl, Gh.le_refl _⟩ _ _ h4, fun off h => ?_⟩
      rcases h with h | h
      · exact h5 off h
      · exact hne3 b B hb3 (by rw [← (q1 b hb3).1]; exact h1) (by cases h; rfl)
    · exfalso
      match t, ht with
      | 0, ht => cases ht
      | 1, ht => cases ht
      | 2, ht => cases ht
      | t + 3, ht => simp [uH] at ht
    · exfalso
      match b, hb with
      | 0, ht => cases ht
      | 1, ht => cases ht
      | 2, ht => cases ht
      | t + 3, ht => simp [uH] at ht
  have eS : Ext (Fc F w) g [] w FS g3 (uH op c) w2 := by
    refine ⟨fun x hx => .inl ⟨q3.sub x hx, ?_⟩, q3.keep, q3.gh, q3.size, q3.frame, fun x hx => ?_, q3.blks, q3.len, q3.io⟩
    · rw [q3.keep x hx]; exact hx.2
    · rcases hx with hx | rfl
      · exact q3.new x hx.1
      · refine .inr (.inl ?_)
        rcases ext02.blks 3 B3 (by simp [uH]) p1 with ⟨h, _⟩ | h
        · exact absurd h (Nat.not_lt_zero _)
        · exact h
  have tS : Tm FS g3 w2 (uT op ks c (.sl .none (ks.map kdCells)) (.fn (.func i_slices_Backward_Kind_1) [] [.eptr [.sl .none (ks.map kdCells)]]) .undef .undef .undef) a2 ∧ a2.tmps[10]? = some (.func (.func 148) #[] #[.pointer (some ⟨B3, 0, none⟩)]) := by
    have h0 : RL F2 g2 w2 _ a2.tmps.toList := sim2.2.1
    obtain ⟨fv, f1, f2⟩ := RL_get h0 10 (.fn (.func i_slices_Backward_Kind_1) [] [.ptr 3 0]) rfl
    obtain ⟨l1, l2, rfl, k1, k2⟩ := R_fn f2
    simp only [RL] at k1
    obtain ⟨pv, k3, k4⟩ := one_of k2
    obtain ⟨B', k5, _, rfl⟩ := R_ptr k4
    rw [p1] at k5; cases k5
    have e1 : l1 = #[] := by apply Array.ext'; simpa using k1
    have e2 : l2 = #[.pointer (some ⟨B3, 0, none⟩)] := by apply Array.ext'; simpa using k3
    subst e1 e2
    refine ⟨?_, by rw [← Array.getElem?_toList]; exact f1⟩
    have h1 : RL FS g2 w2 _ a2.tmps.toList := RL.mono K2 _ _ (RL_fc _ _ h0)
    have hfv : R FS g2 w2 (.fn (.func i_slices_Backward_Kind_1) [] [.eptr [.sl .none (ks.map kdCells)]]) (.func (.func 148) #[] #[.pointer (some ⟨B3, 0, none⟩)]) := by
      simp only [R]
      refine ⟨_, _, rfl, by simp [RL], ?_⟩
      simp only [RL]
      refine ⟨_, [], rfl, ?_, rfl⟩
      simp only [R]
      refine ⟨B3, 0, rfl, ?_⟩
      simp only [RM]
      exact ⟨⟨rfl, sv, .inr rfl, hsc, R.mono K2 _ _ (R_fc _ _ hsr)⟩, trivial⟩
    have h2 := RL_set h1 hfv 10
    have e3 : a2.tmps.toList.set 10 (.func (.func 148) #[] #[.pointer (some ⟨B3, 0, none⟩)]) = a2.tmps.toList := by
      apply List.ext_getElem?
      intro i
      by_cases hi : i = 10
      · subst hi
        have hl : 10 < a2.tmps.toList.length := (List.getElem?_eq_some_iff.1 f1).1
        rw [List.getElem?_set_self hl, f1]; rfl
      · rw [List.getElem?_set_ne (Ne.symm hi)]
    rw [e3] at h2
    exact RL_scoped (n := 3) q1 _ _ (by simp [uT, cnAV]) h2
  obtain ⟨tS, hfv⟩ := tS
  have gS : GlobOk Go.Proofs.Tryz.prog FS w2 := hG0.mono eS.keeps
  have stops := back_stops ks hln FS g3 w2 B3 hFSl sv (.inr rfl) hsc (by
    have := R.mono K2 _ _ (R_fc _ _ hsr)
    exact R_scoped (n := 3) q1 _ _ (by simp [AV.inScope]) this)
  have t10 : uT op ks c (.sl .none (ks.map kdCells)) (.fn (.func i_slices_Backward_Kind_1) [] [.eptr [.sl .none (ks.map kdCells)]]) .undef .undef .undef = uT op ks c (.sl .none (ks.map kdCells)) (.fn (.func i_slices_Backward_Kind_1) [] [.eptr [.sl .none (ks.map kdCells)]]) .undef .undef .undef := rfl
  have mk : ∀ {Fx : Addr → Prop} {gx : Gh} {W : World} {H : List HB}, Ext FS g3 (uH op c) w2 Fx gx H W → Tm Fx gx W (uT op ks c (.sl .none (ks.map kdCells)) (.fn (.func i_slices_Backward_Kind_1) [] [.eptr [.sl .none (ks.map kdCells)]]) .undef .undef .undef) a2 ∧ GlobOk Go.Proofs.Tryz.prog Fx W := fun h => ⟨tS.mono h.keeps, gS.mono h.keeps⟩
  have sB : ∀ b, 3 ≤ b → g3.blk b = none ∧ g3.tk b = none := fun b hb => sS.beyond b hb
  refine wpIn_block ?_
  refine wpIn_rangeFunc_ownH rfl (by omega) (gf := 148) (lb := #[.pointer (some ⟨B3, 0, none⟩)]) (by show a2.tmps.getD 10 undef = _; simp [Array.getD_eq_getD_getElem?, hfv]) trivial (fun args w => callFunc_run (by kernel_rfl) args) stops
    (fun h k a ha => (k a ha).trans (h a ha)) (fun W l o o' hl h ho _ a ha => ?_) (Below.refl _ _) (fun _ => rfl)
    (fun pre W => ∃ F' g', St F' g' (uH op (cI op c (pre.map fun x => x.1.2.2))) W ∧ Ext FS g3 (uH op c) w2 F' g' (uH op (cI op c (pre.map fun x => x.1.2.2))) W ∧ ∀ a, F' a → (W.cell? a).isSome = true)
    (fun _ _ _ => False) ?_ (fun _ _ _ _ _ h _ _ => h) ⟨FS, g3, sS, Ext.refl _ _ _ _, hFSc⟩
    (fun x a' W => a'.defers = [] ∧ ∃ Fx gx, (∀ b, gx.tk b = none) ∧ (∀ b, b < 3 → gx.blk b = g3.blk b) ∧ (∀ b, 3 ≤ b → gx.blk b = none) ∧ (∀ a, Fx a → (FS a ∨ w2.heap.size ≤ a.block) ∧ a.block < W.heap.size ∧ (W.cell? a).isSome = true ∧ a.spot = none) ∧
      Tm Fx gx W (uT op ks c (.sl .none (ks.map kdCells)) (.fn (.func i_slices_Backward_Kind_1) [] [.eptr [.sl .none (ks.map kdCells)]]) (.eptr (kdCells x.1.2.2)) (.int .i64 x.1.1) (kdAV x.1.2.2)) a') ?_ ?_ ?_ ?_ ?_
  · -- the cells that the iterator reads
    refine cell_of_heap ?_
    have := hFSl a ha
    exact World.putObj_heap_other (by omega)
  · rintro pre W W' row ⟨F', g', h1, h2, h3⟩ hg hr
    exact ⟨F', g', h1.grown h3 hg fun r e => (hr r e).2, h2.grown h3 hg hr, grown_isSome h3 hg fun r e => (hr r e).2⟩
  · rintro x a' _ W W' row ⟨hd, Fx, gx, b1, b2, b3, b4, b5⟩ hg hr
    have hc : ∀ a, Fx a → (W.cell? a).isSome = true := fun a ha => (b4 a ha).2.2.1
    exact ⟨hd, Fx, gx, b1, b2, b3, fun a ha => ⟨(b4 a ha).1, Nat.lt_of_lt_of_le (b4 a ha).2.1 hg.size, grown_isSome hc hg (fun r e => (hr r e).2) a ha, (b4 a ha).2.2.2⟩, b5.mono (Keeps.grown hc hg fun r e => (hr r e).2)⟩
  · -- the assignment
    rintro l pre x W K ⟨F', g', h1, h2, h3⟩ hK
    obtain ⟨tm, gl⟩ := mk h2
    have hkd : R F' g' W (kdAV x.1.2.2) x.1.2.1 := by
      have e1 := R_scoped (n := 0) (g' := ⟨fun _ => none, fun _ => none⟩) (fun b hb => absurd hb (Nat.not_lt_zero b)) _ _ (by simp [kdAV, AV.inScope]) x.2.1
      have e2 : R F' ⟨fun _ => none, fun _ => none⟩ W (kdAV x.1.2.2) x.1.2.1 := R.mono ⟨h2.sub, h2.keep, Gh.le_refl _⟩ _ _ e1
      exact R_scoped (n := 0) (fun b hb => absurd hb (Nat.not_lt_zero b)) _ _ (by simp [kdAV, AV.inScope]) e2
    have hin : R F' g' W (.int .i64 x.1.1) (.int .i64 x.1.1) := by simp only [R]; exact ⟨trivial, x.2.2⟩
    have simA : Sim Go.Proofs.Tryz.prog F' g' (uH op (cI op c (pre.map fun x => x.1.2.2))) W (uT op ks c (.sl .none (ks.map kdCells)) (.fn (.func i_slices_Backward_Kind_1) [] [.eptr [.sl .none (ks.map kdCells)]]) .undef (.int .i64 x.1.1) (kdAV x.1.2.2))
        { tmps := ((#[11, 12] : Array Tmp).zip #[.int .i64 x.1.1, x.1.2.1]).foldl (fun t (p, v) => t.setIfInBounds p v) a2.tmps, defers := [] } := by
      refine ⟨h1, ?_, rfl, gl⟩
      show RL F' g' W _ _
      rw [fold_two]
      simp only [Array.toList_setIfInBounds]
      exact RL_set (RL_set tm hin 11) hkd 12
    refine wpIn_mono (u_assign (ro := some l) (n := 1) op ks c (cI op c (pre.map fun x => x.1.2.2)) (.sl .none (ks.map kdCells)) (.fn (.func i_slices_Backward_Kind_1) [] [.eptr [.sl .none (ks.map kdCells)]]) x.1.1 x.1.2.2 asg cAs F' g' W _ simA) ?_
    rintro e a' W' ⟨x', t', H', F3, g4, rfl, ⟨rfl, rfl, rfl⟩, sim', ext'⟩
    simp only [AX.to, Exit.then]
    have ext3 := h2.trans ext'
    obtain ⟨Bk, vk, ek, r1, r2, r3, r4, r5⟩ := sim'.1.var 3 (kdCells x.1.2.2) rfl
    obtain ⟨kx, ekx, hkc⟩ := kd_one x.1.2.2
    rw [ekx] at r4
    obtain ⟨kv, hkv, hkr⟩ := one_of r4
    have hBkc : W'.cell? ⟨Bk, 0, none⟩ = some kv := by
      simp only [World.cell?, r3, Option.isSome_none, Bool.false_eq_true, if_false]
      rw [← Array.getElem?_toList, hkv]; rfl
    have hBk : w2.heap.size ≤ Bk := by
      rcases ext3.blks 3 Bk (by simp [uH]) r1 with ⟨h, _⟩ | h
      · exact absurd h (by simp [uH])
      · exact h
    obtain ⟨g5, m1, m2, m3⟩ := St.forget (H := uH op c) (H0 := uH op (cI op c (pre.map fun x => x.1.2.2))) (L := [.var (kdCells x.1.2.2)]) sim'.1 ext3 (Nat.le_of_eq rfl) (uH_scoped _ _) sB
    have m2c := m2.cells
    refine hK a' W' ((Ext.others h1 ext').from _) (fun a ha => ext'.keep a (h2.sub a ha)) ⟨Fc F3 W', g5, m2c, m3.cells hFSc, fun _ h => h.2⟩ ⟨sim'.2.2.1, fun y => Fc F3 W' y ∨ y = ⟨Bk, 0, none⟩, g5, uH_tk m2, fun b hb => ?_, fun b hb => (m2.beyond b hb).1, fun y hy => ?_, ?_⟩
    · obtain ⟨B, hB, _⟩ := uH_blk sS hb
      rw [hB]; exact (m3.gh.blk b B hB (uH_tk sS b)).1
    · rcases hy with hy | rfl
      · refine ⟨?_, sim'.1.live y hy.1, hy.2, ?_⟩
        · rcases ext3.new y hy.1 with h | h | ⟨t, _, h, _⟩
          · exact .inl h
          · exact .inr h
          · exact absurd (uH_tk sS t) h
        · cases y with
          | mk bl off spot =>
            cases spot with
            | none => rfl
            | some s => exact absurd hy.1 (sim'.1.spots _ _ _)
      · exact ⟨.inr hBk, heap_lt r3, by rw [hBkc]; rfl, rfl⟩
    · have u0 : RL F3 g4 W' _ a'.tmps.toList := sim'.2.1
      have Kk : Keeps (Fc F3 W') g4 W' (fun y => Fc F3 W' y ∨ y = ⟨Bk, 0, none⟩) g4 W' := ⟨fun _ h => .inl h, fun _ _ => rfl, Gh.le_refl _⟩
      obtain ⟨pv, f1, f2⟩ := RL_get u0 8 (.ptr 3 0) rfl
      obtain ⟨B', k5, _, rfl⟩ := R_ptr f2
      rw [r1] at k5; cases k5
      have hpv : R (fun y => Fc F3 W' y ∨ y = ⟨Bk, 0, none⟩) g4 W' (.eptr (kdCells x.1.2.2)) (.pointer (some ⟨Bk, 0, none⟩)) := by
        simp only [R, ekx]
        refine ⟨Bk, 0, rfl, ?_⟩
        simp only [RM]
        exact ⟨⟨hkc, kv, .inr trivial, hBkc, R.mono Kk _ _ (R_fc _ _ hkr)⟩, trivial⟩
      have u2 := RL_set (RL.mono Kk _ _ (RL_fc _ _ u0)) hpv 8
      have e3 : a'.tmps.toList.set 8 (.pointer (some ⟨Bk, 0, none⟩)) = a'.tmps.toList := by
        apply List.ext_getElem?
        intro i
        by_cases hi : i = 8
        · subst hi
          have hl : 8 < a'.tmps.toList.length := (List.getElem?_eq_some_iff.1 f1).1
          rw [List.getElem?_set_self hl, f1]
        · rw [List.getElem?_set_ne (Ne.symm hi)]
      rw [e3] at u2
      exact RL_scoped (n := 3) m1 _ _ (by simp [uT, cnAV, kdAV]) u2
  · -- the body
    rintro l pre x a' W hl _ ⟨F', g', h1, h2, h3⟩ ⟨hd, Fx, gx, b1, b2, b3, b4, b5⟩ _
    have gl := (mk h2).2
    have hblk : ∀ b B, g'.blk b = some B → b < 3 ∧ g3.blk b = some B := fun b B h => by
      have hb : b < 3 := h1.lt h
      obtain ⟨B0, hB0, _⟩ := uH_blk sS hb
      have := (h2.gh.blk b B0 hB0 (uH_tk sS b)).1
      rw [h] at this; cases this
      exact ⟨hb, hB0⟩
    have hnF : ∀ b B off, g'.blk b = some B → ¬ F' ⟨B, off, none⟩ → ¬ (F' ⟨B, off, none⟩ ∨ Fx ⟨B, off, none⟩) := fun b B off hb hn h => by
      rcases h with h | h
      · exact hn h
      · rcases (b4 _ h).1 with q | q
        · exact hn (h2.sub _ q)
        · have := sS.blk_lt (hblk b B hb).2; simp only at q; omega
    have KF : Keeps F' g' W (fun y => F' y ∨ Fx y) g' W := ⟨fun _ h => .inl h, fun _ _ => rfl, Gh.le_refl _⟩
    have s3 : St (fun y => F' y ∨ Fx y) g' (uH op (cI op c (pre.map fun x => x.1.2.2))) W := by
      refine ⟨fun y hy => ?_, h1.beyond, h1.inj, fun b cs hb => ?_, fun t n k ty ht => ?_, fun b off s hy => ?_, fun b e cs hb => ?_⟩
      · rcases hy with hy | hy
        · exact h1.live y hy
        · exact (b4 y hy).2.1
      · obtain ⟨B, us, e', k1, k2, k3, k4, k5⟩ := h1.var b cs hb
        exact ⟨B, us, e', k1, k2, k3, RL.mono KF _ _ k4, fun off => hnF b B off k1 (k5 off)⟩
      · exfalso
        match t, ht with
        | 0, ht => cases ht
        | 1, ht => cases ht
        | 2, ht => cases ht
        | t + 3, ht => simp [uH] at ht
      · rcases hy with hy | hy
        · exact h1.spots b off s hy
        · cases (b4 _ hy).2.2.2
      · exfalso
        match b, hb with
        | 0, ht => cases ht
        | 1, ht => cases ht
        | 2, ht => cases ht
        | t + 3, ht => simp [uH] at ht
    have x3 : Ext FS g3 (uH op c) w2 (fun y => F' y ∨ Fx y) g' (uH op (cI op c (pre.map fun x => x.1.2.2))) W := by
      refine ⟨fun y hy => .inl (h2.sub y hy), h2.keep, h2.gh, h2.size, h2.frame, fun y hy => ?_, h2.blks, h2.len, h2.io⟩
      rcases hy with hy | hy
      · exact h2.new y hy
      · exact (b4 y hy).1.imp id .inl
    have tm : Tm (fun y => F' y ∨ Fx y) g' W (uT op ks c (.sl .none (ks.map kdCells)) (.fn (.func i_slices_Backward_Kind_1) [] [.eptr [.sl .none (ks.map kdCells)]]) (.eptr (kdCells x.1.2.2)) (.int .i64 x.1.1) (kdAV x.1.2.2)) a' := by
      refine b5.mono ⟨fun _ h => .inr h, fun _ _ => rfl, fun b B hb _ => ?_, fun t m k ht => by rw [b1] at ht; cases ht⟩
      have hb3 : b < 3 := by
        rcases Nat.lt_or_ge b 3 with h | h
        · exact h
        · rw [b3 b h] at hb; cases hb
      rw [b2 b hb3] at hb
      exact h2.gh.blk b B hb (uH_tk sS b)
    refine wpIn_block (wpIn_mono (u_body (ro := some l) (n := 1) op ks c (cI op c (pre.map fun x => x.1.2.2)) _ _ _ _ x.1.2.2 bdy cBd _ g' W a' ⟨s3, tm, hd, gl.mono KF⟩) ?_)
    rintro e a'' W'' ⟨x', t', H', F4, g4, rfl, ⟨rfl, cs', rfl, hst⟩, sim', ext'⟩
    simp only [AX.to, Exit.inBlock]
    have ext4 := x3.trans ext'
    have hH : ([.var [.int .i64 op], .var cs', .var uZ] : List HB).map stripB = uH op (cI op c ((pre ++ [x]).map fun x => x.1.2.2)) := by
      simp only [List.map_append, List.map_cons, List.map_nil, cI_snoc, uH, stripB, hst, stripL, AV.strip]
      simp [uZ]
    have st4 := sim'.1.strip.cells
    have ex4 := ext4.strip
    rw [hH] at st4 ex4
    exact ⟨(Ext.others s3 ext').from _, fun a ha => ext'.keep a (.inl (h2.sub a ha)), Fc F4 W'', g4, st4, ex4.cells hFSc, fun _ h => h.2⟩
  · -- behind the loop
    rintro D xs W hD hS ⟨F', g', h1, h2, h3⟩ hKD
    obtain ⟨tm, gl⟩ := mk h2
    rw [show cI op c (xs.map fun x => x.1.2.2) = around op ks c by rw [hS, cI_rev]] at h1 h2
    simp only [Exit.inBlock, Exit.then]
    refine wpIn_seq (wpIn_mono (regionD (ro := none) (n := 3) (ds := [{ target := .collected D, args := #[] }]) (Q := fun x t H => x = .normal ∧ (t.getD 6 .undef = .ptr 2 0 ∧ H = [.var [.int .i64 op], .var (cnCells (around op ks c)), .var (cnCells (around op ks c))])) cD ⟨h1, tm, by simp [hd2], gl⟩ ?_) ?_)
    · -- the last stores
      have := u_last op ks c (around op ks c) (.sl .none (ks.map kdCells)) (.fn (.func i_slices_Backward_Kind_1) [] [.eptr [.sl .none (ks.map kdCells)]]) .undef .undef .undef
      exact arun_mono this fun t H h => ⟨rfl, h⟩
    · rintro e a3 w3 ⟨x', t', H', F3, g4, rfl, ⟨rfl, ht6, rfl⟩, sim', ext'⟩
      simp only [AX.to, Exit.then]
      obtain ⟨s3, tm3, hd3, _⟩ := sim'
      have hKD3 : w3.heap[D]? = some (.deferred (some [])) := (Ext.others h1 ext').same D _ hKD rfl
      refine wpIn_ret ?_
      show LeavesInM Fence.wide 3 Go.Proofs.Tryz.prog fn a3.tmps _ a3.defers .returning w3
      rw [hd3]
      refine ⟨by simp, .inl ⟨D, _, rfl, run_takeDeferred hKD3, ?_⟩⟩
      have ex3 := ((eS.trans h2).trans ext').cells hF0
      have s3c := s3.cells
      have hc3 : ∀ a, Fc F3 w3 a → (w3.cell? a).isSome = true := fun _ h => h.2
      have hg : w3.grownBy (w3.putObj D (.deferred none)) (some D) := grownBy_putObj' w3 D _
      have hr : ∀ r, some D = some r → w.heap.size ≤ r ∧ ∃ o : Obj, w3.heap[r]? = some o ∧ o.isCells = false := fun r e => by
        cases e; exact ⟨Nat.le_trans eS.size hD, _, hKD3, rfl⟩
      have s4 := s3c.grown hc3 hg fun r e => (hr r e).2
      have ex4 := ex3.grown hc3 hg hr
      have tm4 : Tm (Fc F3 w3) g4 (w3.putObj D (.deferred none)) t' a3 := Tm.mono (Keeps.grown hc3 hg fun r e => (hr r e).2) (show Tm (Fc F3 w3) g4 w3 t' a3 from RL_fc _ _ tm3)
      have gl4 : GlobOk Go.Proofs.Tryz.prog (Fc F3 w3) (w3.putObj D (.deferred none)) := hG0.mono ex4.keeps
      obtain ⟨u, hu, hru⟩ := res_sound (P := Go.Proofs.Tryz.prog) (a := { tmps := a3.tmps, defers := [] }) (t := t') (v := cnAV (around op ks c)) ⟨s4, tm4, rfl, gl4⟩ hres (by
        simp only [aRes, aResL, aRes1, ht6]
        simp [takeCells, cnAV, cnCells_eq (around op ks c)])
      obtain ⟨g5, m1, m2, m3⟩ := St.forget (H := []) (H0 := []) (L := [.var [.int .i64 op], .var (cnCells (around op ks c)), .var (cnCells (around op ks c))]) s4 ex4 (Nat.le_refl _) rfl (fun b _ => hs.beyond b (Nat.zero_le _))
      exact ⟨u, hu, u, _, g5, rfl, R_scoped (n := 0) (fun b hb => absurd hb (Nat.not_lt_zero b)) _ _ (by simp) hru, m2, m3⟩
  · rintro D c' pre W _ _ h
    exact h.elim
end Go.Proofs.YtblbepjnkehoaaaGreatDoor
/- EncodeSems, given awake. -/
namespace Go.Proofs.YtblbepjnkehoaaaGreatDoor
open Go
theorem formedOk : FormedOk := fun s hc => pilasterref24_Formed_call s hc
theorem EncodeSems_given (ha : AwakeOk) (ks : List Kd) (s : Sm) (hc : conB s) : HCall Go.Proofs.Tryz.prog i_pilasterlaw25_EncodeSems [abAV ks s] [] (.bool true) [] :=
  EncodeSems_of encode_under_call ha formedOk ks s hc
end Go.Proofs.YtblbepjnkehoaaaGreatDoor
