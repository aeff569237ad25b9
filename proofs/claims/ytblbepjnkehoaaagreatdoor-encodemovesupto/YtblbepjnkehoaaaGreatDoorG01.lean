/- Joined: Core Ops Snd Snd2 Snd3 Snd4 Snd5 Snd6 Snd7. -/
import Derived.Calls
import Derived.Orders
import Derived.Laws.Sem
import Derived.Laws.Cells
set_option linter.unusedSimpArgs false
set_option linter.unusedVariables false
/- Abstract values over the model: what a concrete value in a concrete world represents. No program in sight. -/
namespace Go.Proofs.YtblbepjnkehoaaaGreatDoor
open Go

/-- What is known of a slice by value besides its elements: nothing; it is nil; it is not nil; it is nil or its capacity is its length; it owns the tail of the array named so. -/
inductive Tok where
  | none
  | nilT
  | nn
  | tight
  | own (t : Nat)
  deriving DecidableEq

/-- Abstract values. A slice holds its elements by value, each as the row of its cells. -/
inductive AV where
  | bool (b : Bool)
  | int (k : IntKind) (n : Int)
  | str (s : List UInt8)
  | nilp
  | ptr (b off : Nat)
  | eptr (cells : List AV)
  | sl (tok : Tok) (els : List (List AV))
  | fn (f : Fn) (first cap : List AV)
  | nilf
  | iface (t : Nat) (v : AV)
  | nili
  | agg (cs : List AV)
  | tup (cs : List AV)

/-- A value of one cell. -/
def AV.isCell : AV → Bool
  | .agg _ | .tup _ => false
  | _ => true

/-- Blocks of the abstract heap: a variable's cells (of a type that is known: tvar), or an array that only grows (how many elements of how many cells it has; their type, where it isn't 0). -/
inductive HB where
  | var (cs : List AV)
  | tvar (e : TypeId) (cs : List AV)
  | tok (n k : Nat) (e : TypeId)

/-- The most that a slice or a string holds. -/
def maxL : Nat := 2 ^ 30

/-- Ghost map: the block of each name; of growing arrays the number of elements and the capacity. -/
structure Gh where
  blk : Nat → Option Nat
  tk : Nat → Option (Nat × Nat)

def RT (g : Gh) (n : Nat) (a : Addr) (cap : Nat) : Tok → Prop
  | .none => True
  | .nilT => False
  | .nn => True
  | .tight => cap = n
  | .own t => ∃ m c, g.tk t = some (m, c) ∧ n ≤ m ∧ (n = m → g.blk t = some a.block ∧ a.off = 0 ∧ cap = c ∧ a.spot = Option.none)

mutual
def R (F : Addr → Prop) (g : Gh) (w : World) : AV → Value → Prop
  | .bool b, v => v = .bool b
  | .int k n, v => v = .int k n ∧ k.has n
  | .str s, v => v = .string ⟨s.toArray⟩ ∧ s.length ≤ maxL
  | .nilp, v => v = .pointer none
  | .ptr b off, v => ∃ B, g.blk b = some B ∧ g.tk b = none ∧ v = .pointer (some ⟨B, off, none⟩)
  | .eptr cs, v => ∃ B off, v = .pointer (some ⟨B, off, none⟩) ∧ RM F g w B off cs
  | .sl tok els, v => els.length ≤ maxL ∧ ((els = [] ∧ v = .slice none 0 0 ∧ (∀ t, tok ≠ .own t) ∧ tok ≠ .nn) ∨
      ∃ B off sp cap k, v = .slice (some ⟨B, off, sp⟩) els.length cap ∧ els.length ≤ cap ∧ (0 < k ∧ (els = [] ∨ sp = Option.none)) ∧ RE F g w B off k els ∧ RT g els.length ⟨B, off, sp⟩ cap tok)
  | .fn f first cap, v => ∃ a1 a2, v = .func f a1 a2 ∧ RL F g w first a1.toList ∧ RL F g w cap a2.toList
  | .nilf, v => v = .nilFunc
  | .iface t x, v => ∃ u, v = .iface t u ∧ R F g w x u
  | .nili, v => v = .nilIface
  | .agg cs, v => ∃ a, v = .agg a ∧ RL F g w cs a.toList
  | .tup cs, v => ∃ a, v = .tuple a ∧ RL F g w cs a.toList
def RL (F : Addr → Prop) (g : Gh) (w : World) : List AV → List Value → Prop
  | [], vs => vs = []
  | x :: xs, vs => ∃ v r, vs = v :: r ∧ R F g w x v ∧ RL F g w xs r
def RM (F : Addr → Prop) (g : Gh) (w : World) : Nat → Nat → List AV → Prop
  | _, _, [] => True
  | B, off, x :: xs => (x.isCell = true ∧ ∃ v, F ⟨B, off, none⟩ ∧ w.cell? ⟨B, off, none⟩ = some v ∧ R F g w x v) ∧ RM F g w B (off + 1) xs
def RE (F : Addr → Prop) (g : Gh) (w : World) : Nat → Nat → Nat → List (List AV) → Prop
  | _, _, _, [] => True
  | B, off, k, x :: xs => x.length = k ∧ RM F g w B off x ∧ RE F g w B (off + k) k xs
end

/-- The ghost map goes on: names keep what they stand for; arrays only grow. -/
structure Gh.le (g g' : Gh) : Prop where
  blk : ∀ b B, g.blk b = some B → g.tk b = none → g'.blk b = some B ∧ g'.tk b = none
  tk : ∀ t m c, g.tk t = some (m, c) → ∃ m' c', g'.tk t = some (m', c') ∧ m ≤ m' ∧ (m = m' → c' = c ∧ g'.blk t = g.blk t)

theorem Gh.le_refl (g : Gh) : g.le g := ⟨fun _ _ h h' => ⟨h, h'⟩, fun _ m c h => ⟨m, c, h, Nat.le_refl _, fun _ => ⟨rfl, rfl⟩⟩⟩
theorem Gh.le_trans {a b c : Gh} (h : a.le b) (h' : b.le c) : a.le c where
  blk x B hx ht := let ⟨p, q⟩ := h.blk x B hx ht; h'.blk x B p q
  tk t m n ht := by
    obtain ⟨m1, c1, h1, l1, e1⟩ := h.tk t m n ht
    obtain ⟨m2, c2, h2, l2, e2⟩ := h'.tk t m1 c1 h1
    refine ⟨m2, c2, h2, Nat.le_trans l1 l2, fun e => ?_⟩
    have hm : m = m1 := by omega
    have hm' : m1 = m2 := by omega
    exact ⟨(e2 hm').1.trans (e1 hm).1, (e2 hm').2.trans (e1 hm).2⟩

theorem RT.mono {g g' : Gh} (hg : g.le g') {n : Nat} {a : Addr} {cap : Nat} {t : Tok} (h : RT g n a cap t) : RT g' n a cap t := by
  cases t with
  | none => trivial
  | nilT => exact h
  | nn => trivial
  | tight => exact h
  | own t =>
    obtain ⟨m, c, h1, h2, h3⟩ := h
    obtain ⟨m', c', e1, e2, e3⟩ := hg.tk t m c h1
    refine ⟨m', c', e1, Nat.le_trans h2 e2, fun e => ?_⟩
    have hm : m = m' := by omega
    obtain ⟨ec, eb⟩ := e3 hm
    obtain ⟨p, q, r, s⟩ := h3 (by omega)
    exact ⟨eb.trans p, q, r.trans ec.symm, s⟩

/-- From one state of affairs to a later one: protected cells stay as they are, the ghost map goes on. -/
structure Keeps (F : Addr → Prop) (g : Gh) (w : World) (F' : Addr → Prop) (g' : Gh) (w' : World) : Prop where
  sub : ∀ a, F a → F' a
  keep : ∀ a, F a → w'.cell? a = w.cell? a
  gh : g.le g'

section
variable {F F' : Addr → Prop} {g g' : Gh} {w w' : World}
mutual
theorem R.mono (K : Keeps F g w F' g' w') : ∀ (x : AV) (v : Value), R F g w x v → R F' g' w' x v
  | .bool _, _, h => h
  | .int _ _, _, h => h
  | .str _, _, h => h
  | .nilp, _, h => h
  | .ptr b off, v, h => by
    obtain ⟨B, h1, h2, h3⟩ := (by simpa only [R] using h : ∃ B, g.blk b = some B ∧ g.tk b = none ∧ v = .pointer (some ⟨B, off, none⟩))
    obtain ⟨p, q⟩ := K.gh.blk b B h1 h2
    simp only [R]; exact ⟨B, p, q, h3⟩
  | .eptr cs, v, h => by
    simp only [R] at h ⊢
    obtain ⟨B, off, h1, h2⟩ := h
    exact ⟨B, off, h1, RM.mono K _ _ cs h2⟩
  | .sl tok els, v, h => by
    simp only [R] at h ⊢
    obtain ⟨h0, h⟩ := h
    refine ⟨h0, ?_⟩
    rcases h with h | ⟨B, off, sp, cap, k, h1, h2, hk, h3, h4⟩
    · exact .inl h
    · exact .inr ⟨B, off, sp, cap, k, h1, h2, hk, RE.mono K _ _ _ els h3, h4.mono K.gh⟩
  | .fn f first cap, v, h => by
    simp only [R] at h ⊢
    obtain ⟨a1, a2, h1, h2, h3⟩ := h
    exact ⟨a1, a2, h1, RL.mono K first _ h2, RL.mono K cap _ h3⟩
  | .nilf, _, h => h
  | .iface t x, v, h => by
    simp only [R] at h ⊢
    obtain ⟨u, h1, h2⟩ := h
    exact ⟨u, h1, R.mono K x u h2⟩
  | .nili, _, h => h
  | .agg cs, v, h => by
    simp only [R] at h ⊢
    obtain ⟨a, h1, h2⟩ := h
    exact ⟨a, h1, RL.mono K cs _ h2⟩
  | .tup cs, v, h => by
    simp only [R] at h ⊢
    obtain ⟨a, h1, h2⟩ := h
    exact ⟨a, h1, RL.mono K cs _ h2⟩
theorem RL.mono (K : Keeps F g w F' g' w') : ∀ (x : List AV) (v : List Value), RL F g w x v → RL F' g' w' x v
  | [], _, h => h
  | x :: xs, v, h => by
    simp only [RL] at h ⊢
    obtain ⟨u, r, h1, h2, h3⟩ := h
    exact ⟨u, r, h1, R.mono K x u h2, RL.mono K xs r h3⟩
theorem RM.mono (K : Keeps F g w F' g' w') : ∀ (B off : Nat) (x : List AV), RM F g w B off x → RM F' g' w' B off x
  | _, _, [], h => h
  | B, off, x :: xs, h => by
    simp only [RM] at h ⊢
    obtain ⟨⟨h0, v, h1, h2, h3⟩, h4⟩ := h
    exact ⟨⟨h0, v, K.sub _ h1, (K.keep _ h1).trans h2, R.mono K x v h3⟩, RM.mono K _ _ xs h4⟩
theorem RE.mono (K : Keeps F g w F' g' w') : ∀ (B off k : Nat) (x : List (List AV)), RE F g w B off k x → RE F' g' w' B off k x
  | _, _, _, [], h => h
  | B, off, k, x :: xs, h => by
    simp only [RE] at h ⊢
    obtain ⟨h1, h2, h3⟩ := h
    exact ⟨h1, RM.mono K _ _ x h2, RE.mono K _ _ _ xs h3⟩
end
end

/-- The abstract heap stands for a part of the world. F: the addresses that are never written again. -/
structure St (F : Addr → Prop) (g : Gh) (H : List HB) (w : World) : Prop where
  live : ∀ a, F a → a.block < w.heap.size
  beyond : ∀ b, H.length ≤ b → g.blk b = none ∧ g.tk b = none
  inj : ∀ b b' B, g.blk b = some B → g.blk b' = some B → b = b'
  var : ∀ b cs, H[b]? = some (.var cs) → ∃ B vs e, g.blk b = some B ∧ g.tk b = none ∧ w.heap[B]? = some (.cells vs e (0, 0)) ∧ RL F g w cs vs.toList ∧ ∀ off, ¬ F ⟨B, off, none⟩
  tok : ∀ t n k ty, H[t]? = some (.tok n k ty) → ∃ B cap vs e fr, g.blk t = some B ∧ g.tk t = some (n, cap) ∧ w.heap[B]? = some (.cells vs e fr) ∧ (fr.2 ≤ n * k ∧ vs.size = cap * k ∧ (ty ≠ 0 → e = ty)) ∧ n ≤ cap ∧ ∀ off, n * k ≤ off → ¬ F ⟨B, off, none⟩
  spots : ∀ b off s, ¬ F ⟨b, off, some s⟩
  tvar : ∀ b e cs, H[b]? = some (.tvar e cs) → ∃ B vs, g.blk b = some B ∧ g.tk b = none ∧ w.heap[B]? = some (.cells vs e (0, 0)) ∧ RL F g w cs vs.toList ∧ ∀ off, ¬ F ⟨B, off, none⟩

/-- What a step keeps. -/
structure Ext (F : Addr → Prop) (g : Gh) (H : List HB) (w : World) (F' : Addr → Prop) (g' : Gh) (H' : List HB) (w' : World) : Prop where
  sub : ∀ a, F a → F' a
  keep : ∀ a, F a → w'.cell? a = w.cell? a
  gh : g.le g'
  size : w.heap.size ≤ w'.heap.size
  frame : ∀ B, B < w.heap.size → (∀ b, b < H.length → g.blk b ≠ some B) → w'.heap[B]? = w.heap[B]?
  new : ∀ a, F' a → F a ∨ w.heap.size ≤ a.block ∨ ∃ t, t < H.length ∧ g.tk t ≠ Option.none ∧ g.blk t = some a.block
  blks : ∀ b B, b < H'.length → g'.blk b = some B → (b < H.length ∧ g.blk b = some B) ∨ w.heap.size ≤ B
  len : H.length ≤ H'.length
  io : w'.os = w.os ∧ w'.output = w.output

theorem Ext.refl (F : Addr → Prop) (g : Gh) (H : List HB) (w : World) : Ext F g H w F g H w where
  sub _ h := h
  keep _ _ := rfl
  gh := Gh.le_refl g
  size := Nat.le_refl _
  frame _ _ _ := rfl
  new _ h := .inl h
  blks _ _ h h' := .inl ⟨h, h'⟩
  len := Nat.le_refl _
  io := ⟨rfl, rfl⟩

theorem Ext.trans {F F1 F2 : Addr → Prop} {g g1 g2 : Gh} {H H1 H2 : List HB} {w w1 w2 : World} (h : Ext F g H w F1 g1 H1 w1) (h' : Ext F1 g1 H1 w1 F2 g2 H2 w2) : Ext F g H w F2 g2 H2 w2 where
  sub a ha := h'.sub a (h.sub a ha)
  keep a ha := (h'.keep a (h.sub a ha)).trans (h.keep a ha)
  gh := Gh.le_trans h.gh h'.gh
  size := Nat.le_trans h.size h'.size
  frame B hB hn := by
    refine (h'.frame B (Nat.lt_of_lt_of_le hB h.size) fun b hb e => ?_).trans (h.frame B hB hn)
    rcases h.blks b B hb e with ⟨p, q⟩ | p
    · exact hn b p q
    · omega
  new a ha := by
    rcases h'.new a ha with p | p | ⟨t, p, q, r⟩
    · exact h.new a p
    · exact .inr (.inl (Nat.le_trans h.size p))
    · rcases h.blks t _ p r with ⟨p', q'⟩ | p'
      · refine .inr (.inr ⟨t, p', fun e => ?_, q'⟩)
        obtain ⟨_, e'⟩ := h.gh.blk t _ q' e
        exact q e'
      · exact .inr (.inl p')
  blks b B hb e := by
    rcases h'.blks b B hb e with ⟨p, q⟩ | p
    · rcases h.blks b B p q with p' | p'
      · exact .inl p'
      · exact .inr p'
    · exact .inr (Nat.le_trans h.size p)
  len := Nat.le_trans h.len h'.len
  io := ⟨h'.io.1.trans h.io.1, h'.io.2.trans h.io.2⟩
theorem Ext.keeps {F F' : Addr → Prop} {g g' : Gh} {H H' : List HB} {w w' : World} (h : Ext F g H w F' g' H' w') : Keeps F g w F' g' w' := ⟨h.sub, h.keep, h.gh⟩
end Go.Proofs.YtblbepjnkehoaaaGreatDoor
/- Abstract operations: what they are, how a program's operations are turned into them, what they compute. -/
namespace Go.Proofs.YtblbepjnkehoaaaGreatDoor
open Go

/-- Classes of values that may be held against nil. -/
inductive NK where
  | sl | pt | fn | ifc
/-- An operand: a temporary, or a constant. -/
inductive AR where
  | tmp (t : Nat)
  | cst (v : AV)

inductive AOp where
  | mov (x : AR)
  | pick (c a b : AR)
  | alloc (zero : List AV)
  | box (x : AR)
  | boxT (e : TypeId) (x : AR)
  | build (zero : List AV) (parts : List (Nat × Nat × AR))
  | buildSl (k : Nat) (zero : List AV) (len : Nat) (parts : List (Nat × AR))
  | emptySl
  | makeSl (k : Nat) (zero : List AV) (n : Nat)
  | convSB (x : AR)
  | load (ag : Bool) (n : Nat) (x : AR)
  | store (n : Nat) (a x : AR)
  | nilck (x : AR)
  | bin (op : BinOp) (x y : AR)
  | binB (neg : Bool) (x y : AR)
  | binNil (c : NK) (neg : Bool) (x : AR)
  | un (op : UnOp) (x : AR)
  | convInt (k : IntKind) (x : AR)
  | mkfn (f : Fn) (first cap : List AR)
  | slice (k : Nat) (x : AR) (lo hi mx : Option AR)
  | sslice (x : AR) (lo hi : Option AR)
  | faddr (off : Nat) (x : AR)
  | iaddr (k : Nat) (x i : AR)
  | sidx (x i : AR)
  | extract (x : AR) (i : Nat)
  | len (x : AR)
  | slen (x : AR)
  | convS (x : AR)
  | min (xs : List AR)
  | max (xs : List AR)
  | append (k : Nat) (e : TypeId) (x y : AR)
  | appendS (e : TypeId) (x y : AR)
  | mkif (t : Nat) (x : AR)
  | call (f : AR) (args : List AR)

/-- An operation with its place, and the guard: which temporary must hold which bool. -/
structure AO where
  dst : Option Nat
  op : AOp
  guard : Option (Nat × Bool)

def toAV : Value → Option AV
  | .bool b => some (.bool b)
  | .int k n => if k.min ≤ n ∧ n ≤ k.max then some (.int k n) else none
  | .string s => if s.data.toList.length ≤ 1000000 then some (.str s.data.toList) else none
  | .pointer none => some .nilp
  | .slice none 0 0 => some (.sl .nilT [])
  | .nilFunc => some .nilf
  | .nilIface => some .nili
  | _ => none
def toAVs : List Value → Option (List AV)
  | [] => some []
  | v :: r => match toAV v, toAVs r with
    | some x, some xs => some (x :: xs)
    | _, _ => none
def toAVc : Value → Option AV
  | .agg cs => (toAVs cs.toList).map .agg
  | v => toAV v

def cvX : Operand → Option AR
  | .tmp t => some (.tmp t)
  | .const v => (toAVc v).map .cst
  | .global _ => none
  | .func f => some (.cst (.fn (.func f) [] []))
def cvXs : List Operand → Option (List AR)
  | [] => some []
  | v :: r => match cvX v, cvXs r with
    | some x, some xs => some (x :: xs)
    | _, _ => none
def cvO : Option Operand → Option (Option AR)
  | none => some none
  | some x => (cvX x).map some

def isAg (P : Program) (t : TypeId) : Option Bool :=
  match P.underlying t with
  | some (.struct _) | some (.array _ _) => some true
  | some _ => some false
  | none => none
def zeroCellsOf (P : Program) (t : TypeId) : Option (List AV) :=
  match P.info? t with
  | some i => match i.zero with
    | some v => toAVs v.cells.toList
    | none => none
  | none => none
def nilClass (P : Program) (t : TypeId) (y : Operand) : Option NK :=
  match P.underlying t, y with
  | some (.slice _), .const (.slice none 0 0) => some .sl
  | some (.pointer _), .const (.pointer none) => some .pt
  | some (.func _ _ _), .const .nilFunc => some .fn
  | some (.interface _), .const .nilIface => some .ifc
  | _, _ => none
def isBoolT (P : Program) (t : TypeId) : Bool := match P.underlying t with | some .bool => true | _ => false

def fieldParts (P : Program) (fs : Array Field) : List (Nat × Operand) → Option (List (Nat × Nat × AR))
  | [] => some []
  | (i, x) :: r => match fs[i]?, cvX x, fieldParts P fs r with
    | some f, some y, some ys => match P.info? f.type with
      | some inf => some ((f.offset, inf.size, y) :: ys)
      | none => none
    | _, _, _ => none
def elemParts : List (Nat × Operand) → Option (List (Nat × AR))
  | [] => some []
  | (i, x) :: r => match cvX x, elemParts r with
    | some y, some ys => some ((i, y) :: ys)
    | _, _ => none
def infosOk (P : Program) (fs : Array Field) : Bool := fs.all fun f => (P.info? f.type).isSome

def cmpCall (P : Program) (c : Call) : Option AOp :=
  match c.callee with
  | .value f => match cvX f, cvXs c.args.toList with
    | some f, some xs => some (.call f xs)
    | _, _ => none
  | .invoke _ _ => none
  | .builtin b =>
    match b, c.args.toList, c.argTypes.toList with
    | .len, [x], t :: _ => match P.underlying t with
      | some .string => (cvX x).map .slen
      | some (.slice _) => (cvX x).map .len
      | _ => none
    | .min, xs, _ => (cvXs xs).map .min
    | .max, xs, _ => (cvXs xs).map .max
    | .append, [x, y], [t, u] => match P.underlying t, P.underlying u, cvX x, cvX y with
      | some (.slice e), some (.slice _), some x, some y => match P.info? e, zeroCellsOf P e with
        | some i, some z => if 0 < i.size ∧ z.length = i.size ∧ i.bytes ≤ 1000 then some (.append i.size e x y) else none
        | _, _ => none
      | some (.slice e), some .string, some x, some y => match P.info? e, zeroCellsOf P e with
        | some i, some z => if i.size = 1 ∧ z.length = 1 ∧ i.bytes ≤ 1000 then some (.appendS e x y) else none
        | _, _ => none
      | _, _, _, _ => none
    | _, _, _ => none

def cmpMake (P : Program) (t : TypeId) (l c : Operand) : Option AOp :=
  match l, c with
  | .const (.int .i64 n), .const (.int .i64 m) => match P.underlying t with
    | some (.slice e) => match P.info? e, zeroCellsOf P e with
      | some i, some z => if 0 < i.size ∧ z.length = i.size ∧ 0 < n ∧ n ≤ 1000 ∧ m = n ∧ i.bytes ≤ 1000 then some (.makeSl i.size z n.toNat) else none
      | _, _ => none
    | _ => none
  | _, _ => none

/-- A pointer and a slice, as a strings.Builder has: such a variable's type is kept. -/
def pairT (P : Program) (t : TypeId) : Bool := match zeroCellsOf P t with | some [.nilp, .sl .nilT []] => true | _ => false
def cmpOp (P : Program) (o : Op) : Option AOp :=
  match o with
  | .move x | .assign x => (cvX x).map .mov
  | .pick c a b => match cvX c, cvX a, cvX b with
    | some c, some a, some b => some (.pick c a b)
    | _, _, _ => none
  | .alloc t => (zeroCellsOf P t).map .alloc
  | .box t x => if pairT P t = true then (cvX x).map (.boxT t) else (cvX x).map .box
  | .build t parts => match P.underlying t, zeroCellsOf P t with
    | some (.struct fs), some z => if infosOk P fs then (fieldParts P fs parts.toList).map (.build z) else none
    | _, _ => none
  | .buildSlice t len parts => match P.underlying t with
    | some (.slice e) => match P.info? e, zeroCellsOf P e, elemParts parts.toList with
      | some i, some z, some ps => if 0 < i.size ∧ z.length = i.size ∧ len * i.size ≤ 10000 ∧ 0 < len then some (.buildSl i.size z len ps) else if len = 0 ∧ parts.toList = [] then some .emptySl else none
      | _, _, _ => none
    | _ => none
  | .load t x => match isAg P t, P.info? t, cvX x with
    | some ag, some i, some x => if 0 < i.size ∧ (ag = true ∨ i.size = 1) then some (.load ag i.size x) else none
    | _, _, _ => none
  | .store t a x => match P.info? t, cvX a, cvX x with
    | some i, some a, some x => if 0 < i.size then some (.store i.size a x) else none
    | _, _, _ => none
  | .nilCheck x => (cvX x).map .nilck
  | .binOp op t x y _ =>
    if op = .eql ∨ op = .neq then
      match nilClass P t y with
      | some c => (cvX x).map (.binNil c (op = .neq))
      | none =>
        if isBoolT P t = true then match cvX x, cvX y with
          | some x, some y => some (.binB (op = .neq) x y)
          | _, _ => none
        else match cvX x, cvX y with
          | some x, some y => some (.bin op x y)
          | _, _ => none
    else match cvX x, cvX y with
      | some x, some y => some (.bin op x y)
      | _, _ => none
  | .unOp op _ x => (cvX x).map (.un op)
  | .convert s d x => match P.underlying s, P.underlying d, cvX x with
    | some (.int _), some (.int k), some x => some (.convInt k x)
    | some .string, some .string, some x => some (.convS x)
    | some .string, some (.slice e), some x => match P.underlying e with
      | some (.int .u8) => some (.convSB x)
      | _ => none
    | _, _, _ => none
  | .makeSlice t l c => cmpMake P t l c
  | .makeFunc f first cap => match cvXs first.toList, cvXs cap.toList with
    | some a, some b => some (.mkfn f a b)
    | _, _ => none
  | .slice t x lo hi mx => match P.underlying t, cvX x, cvO lo, cvO hi, cvO mx with
    | some (.slice e), some x, some lo, some hi, some mx => match P.info? e with
      | some i => some (.slice i.size x lo hi mx)
      | none => none
    | some .string, some x, some lo, some hi, some none => some (.sslice x lo hi)
    | _, _, _, _, _ => none
  | .fieldAddr s x f => match P.underlying s, cvX x with
    | some (.struct fs), some x => match fs[f]? with
      | some fd => match P.info? fd.type with
        | some i => if 0 < i.size then some (.faddr fd.offset x) else none
        | none => none
      | none => none
    | _, _ => none
  | .indexAddr t x i => match P.underlying t, cvX x, cvX i with
    | some (.slice e), some x, some i => match P.info? e with
      | some inf => if 0 < inf.size then some (.iaddr inf.size x i) else none
      | none => none
    | _, _, _ => none
  | .index t x i => match P.underlying t, cvX x, cvX i with
    | some .string, some x, some i => some (.sidx x i)
    | _, _, _ => none
  | .extract x i => (cvX x).map fun x => .extract x i
  | .makeInterface t x => match P.underlying t with
    | some (.interface _) | none => none
    | some _ => (cvX x).map (.mkif t)
  | .call c => cmpCall P c
  | _ => none

/-! ### What they compute -/
def AV.undef : AV := .tup []
def aev (t : List AV) : AR → AV
  | .tmp i => t.getD i .undef
  | .cst v => v
def AV.cells : AV → List AV
  | .agg cs => cs
  | v => [v]
/-- A part of a row put in. -/
def splice (cs : List AV) (off : Nat) (xs : List AV) : List AV := cs.take off ++ xs ++ cs.drop (off + xs.length)
def fillA (cs : List AV) : List (Nat × Nat × AV) → Option (List AV)
  | [] => some cs
  | (off, size, v) :: r => if v.cells.length = size ∧ off + size ≤ cs.length then fillA (splice cs off v.cells) r else none
/-- Rows of a slice literal, filled. -/
def fillR (k : Nat) (rows : List (List AV)) : List (Nat × AV) → Option (List (List AV))
  | [] => some rows
  | (i, v) :: r => if v.cells.length = k ∧ i < rows.length ∧ v.cells.all AV.isCell = true then fillR k (rows.set i v.cells) r else none
def takeCells (ag : Bool) (n : Nat) (cs : List AV) : Option AV :=
  if n ≤ cs.length then (if ag then some (.agg (cs.take n)) else match cs with | v :: _ => some v | [] => none) else none
def intBin (op : BinOp) (k : IntKind) (a b : Int) : Option AV :=
  match op with
  | .add => some (.int k (k.wrap (a + b)))
  | .sub => some (.int k (k.wrap (a - b)))
  | .mul => some (.int k (k.wrap (a * b)))
  | .eql => some (.bool (a == b))
  | .neq => some (.bool (a != b))
  | .lss => some (.bool (decide (a < b)))
  | .leq => some (.bool (decide (a ≤ b)))
  | .gtr => some (.bool (decide (a > b)))
  | .geq => some (.bool (decide (a ≥ b)))
  | .quo => if b = 0 then none else some (.int k (k.wrap (a.tdiv b)))
  | .rem => if b = 0 then none else some (.int k (a.tmod b))
  | .and => some (.int k (k.wrap (BitVec.ofInt k.bits a &&& BitVec.ofInt k.bits b).toNat))
  | .or => some (.int k (k.wrap (BitVec.ofInt k.bits a ||| BitVec.ofInt k.bits b).toNat))
  | .xor => some (.int k (k.wrap (BitVec.ofInt k.bits a ^^^ BitVec.ofInt k.bits b).toNat))
  | _ => none
def strBin (op : BinOp) (a b : List UInt8) : Option AV :=
  match op with
  | .add => if a.length + b.length ≤ maxL then some (.str (a ++ b)) else none
  | .eql => some (.bool (a == b))
  | .neq => some (.bool (!(a == b)))
  | .lss => some (.bool (Op.bytesLess a b))
  | .leq => some (.bool (Op.bytesLess a b || a == b))
  | .gtr => some (.bool (!(Op.bytesLess a b || a == b)))
  | .geq => some (.bool (!Op.bytesLess a b))
  | _ => none
def abin (op : BinOp) : AV → AV → Option AV
  | .int k a, .int k' b => match op with
    | .shl => if 0 ≤ b then some (.int k (k.wrap (a * 2 ^ (min b.toNat k.bits)))) else none
    | .shr => if 0 ≤ b then some (.int k (a.fdiv (2 ^ (min b.toNat k.bits)))) else none
    | _ => if k = k' then intBin op k a b else none
  | .str a, .str b => strBin op a b
  | _, _ => none
def isNil : NK → AV → Option Bool
  | .pt, .nilp => some true
  | .pt, .ptr _ _ => some false
  | .pt, .eptr _ => some false
  | .fn, .nilf => some true
  | .fn, .fn _ _ _ => some false
  | .ifc, .nili => some true
  | .ifc, .iface _ _ => some false
  | .sl, .sl tok els => match els with
    | _ :: _ => some false
    | [] => match tok with
      | .nilT => some true
      | .nn => some false
      | _ => none
  | _, _ => none
def optInt (d : Int) : Option AV → Option Int
  | none => some d
  | some (.int _ n) => some n
  | _ => none
def sliceTok (tok : Tok) (n : Nat) (l h : Nat) : Option Nat → Tok
  | some m => if m = h then .tight else .none
  | none => if l = 0 ∧ h = n then tok else if h = n ∧ tok = .tight then .tight else .none
def asl (tok : Tok) (els : List (List AV)) (lo hi mx : Option AV) : Option AV :=
  match optInt 0 lo, optInt els.length hi, mx with
  | some l, some h, none => if 0 ≤ l ∧ l ≤ h ∧ h ≤ els.length then some (.sl (sliceTok tok els.length l.toNat h.toNat none) ((els.take h.toNat).drop l.toNat)) else none
  | some l, some h, some (.int _ m) => if hi.isSome ∧ 0 ≤ l ∧ l ≤ h ∧ h ≤ m ∧ m ≤ els.length then some (.sl (sliceTok tok els.length l.toNat h.toNat (some m.toNat)) ((els.take h.toNat).drop l.toNat)) else none
  | _, _, _ => none
def minF (k : IntKind) (a : Int) : List AV → Option AV
  | [] => some (.int k a)
  | .int k' b :: r => if k = k' then minF k (if b < a then b else a) r else none
  | _ => none
def minA : List AV → Option AV
  | .int k a :: r => minF k a r
  | _ => none
def maxF (k : IntKind) (a : Int) : List AV → Option AV
  | [] => some (.int k a)
  | .int k' b :: r => if k = k' then maxF k (if b > a then b else a) r else none
  | _ => none
def maxA : List AV → Option AV
  | .int k a :: r => maxF k a r
  | _ => none
def headK (k : Nat) (els : List (List AV)) : Bool := match els with | [] => true | r :: _ => r.length == k
def appendNew (k : Nat) (e : TypeId) (tok : Tok) (els : List (List AV)) (H : List HB) : List (List AV) → Option (AV × List HB)
  | [] => some (.sl tok els, H)
  | y :: ys => some (.sl (.own H.length) (els ++ y :: ys), H ++ [.tok (els.length + (ys.length + 1)) k e])
def aappend (k : Nat) (e : TypeId) (tok : Tok) (els ys : List (List AV)) (H : List HB) : Option (AV × List HB) :=
  if els.length + ys.length ≤ maxL ∧ headK k els = true ∧ headK k ys = true then
    match tok with
    | .own t => match H[t]? with
      | some (.tok n k' e') => if n = els.length ∧ k' = k then some (.sl (.own t) (els ++ ys), H.set t (.tok (n + ys.length) k (if e' = e then e else 0))) else none
      | _ => none
    | .tight | .nilT => appendNew k e tok els H ys
    | _ => none
  else none

/-- What an operation other than a call computes. -/
def astep (op : AOp) (ρ : AR → AV) (H : List HB) : Option (AV × List HB) :=
  match op with
  | .mov x => some (ρ x, H)
  | .pick c a b => match ρ c with
    | .bool c => some (if c then ρ a else ρ b, H)
    | _ => none
  | .alloc z => some (.ptr H.length 0, H ++ [.var z])
  | .box x => some (.ptr H.length 0, H ++ [.var (ρ x).cells])
  | .boxT e x => some (.ptr H.length 0, H ++ [.tvar e (ρ x).cells])
  | .build z ps => match fillA z (ps.map fun p => (p.1, p.2.1, ρ p.2.2)) with
    | some cs => some (.agg cs, H)
    | none => none
  | .buildSl k z len ps => match fillR k (List.replicate len z) (ps.map fun p => (p.1, ρ p.2)) with
    | some rows => some (.sl .tight rows, H)
    | none => none
  | .emptySl => some (.sl .tight [], H)
  | .makeSl _ z n => some (.sl .tight (List.replicate n z), H)
  | .convSB x => match ρ x with
    | .str s => some (.sl .none (s.map fun c => [.int .u8 c.toNat]), H)
    | _ => none
  | .load ag n x => match ρ x with
    | .ptr b off => match H[b]? with
      | some (.var cs) => (takeCells ag n (cs.drop off)).map (·, H)
      | some (.tvar _ cs) => (takeCells ag n (cs.drop off)).map (·, H)
      | _ => none
    | .eptr cs => (takeCells ag n cs).map (·, H)
    | _ => none
  | .store n a x => match ρ a with
    | .ptr b off => match H[b]? with
      | some (.var cs) => if (ρ x).cells.length = n ∧ off + n ≤ cs.length ∧ (ρ x).cells.all AV.isCell = true then some (.undef, H.set b (.var (splice cs off (ρ x).cells))) else none
      | some (.tvar e cs) => if (ρ x).cells.length = n ∧ off + n ≤ cs.length ∧ (ρ x).cells.all AV.isCell = true then some (.undef, H.set b (.tvar e (splice cs off (ρ x).cells))) else none
      | _ => none
    | _ => none
  | .nilck x => match ρ x with
    | .ptr b off => some (.ptr b off, H)
    | .eptr cs => some (.eptr cs, H)
    | .fn (.func f) a b => some (.fn (.func f) a b, H)
    | _ => none
  | .bin op x y => (abin op (ρ x) (ρ y)).map (·, H)
  | .binB neg x y => match ρ x, ρ y with
    | .bool a, .bool b => some (.bool ((a == b) != neg), H)
    | _, _ => none
  | .binNil c neg x => (isNil c (ρ x)).map fun b => (.bool (b != neg), H)
  | .un op x => match op, ρ x with
    | .not, .bool b => some (.bool (!b), H)
    | .neg, .int k n => some (.int k (k.wrap (0 - n)), H)
    | _, _ => none
  | .convInt k x => match ρ x with
    | .int _ n => some (.int k (k.wrap n), H)
    | _ => none
  | .mkfn f a b => some (.fn f (a.map ρ) (b.map ρ), H)
  | .slice k x lo hi mx => match ρ x with
    | .sl tok els => if headK k els then (asl tok els (lo.map ρ) (hi.map ρ) (mx.map ρ)).map (·, H) else none
    | _ => none
  | .sslice x lo hi => match ρ x with
    | .str s => match optInt 0 (lo.map ρ), optInt s.length (hi.map ρ) with
      | some l, some h => if 0 ≤ l ∧ l ≤ h ∧ h ≤ s.length then some (.str ((s.take h.toNat).drop l.toNat), H) else none
      | _, _ => none
    | _ => none
  | .faddr off x => match ρ x with
    | .ptr b o => some (.ptr b (o + off), H)
    | .eptr cs => some (.eptr (cs.drop off), H)
    | _ => none
  | .iaddr k x i => match ρ x, ρ i with
    | .sl _ els, .int _ n => if 0 ≤ n then match els[n.toNat]? with
        | some row => if row.length = k then some (.eptr row, H) else none
        | none => none
      else none
    | _, _ => none
  | .sidx x i => match ρ x, ρ i with
    | .str s, .int _ n => if 0 ≤ n then match s[n.toNat]? with
        | some c => some (.int .u8 c.toNat, H)
        | none => none
      else none
    | _, _ => none
  | .extract x i => match ρ x with
    | .tup vs => (vs[i]?).map (·, H)
    | _ => none
  | .len x => match ρ x with
    | .sl _ els => some (.int .i64 els.length, H)
    | _ => none
  | .slen x => match ρ x with
    | .str s => some (.int .i64 s.length, H)
    | _ => none
  | .convS x => match ρ x with
    | .str s => some (.str s, H)
    | _ => none
  | .min xs => (minA (xs.map ρ)).map (·, H)
  | .max xs => (maxA (xs.map ρ)).map (·, H)
  | .append k e x y => match ρ x, ρ y with
    | .sl tok els, .sl _ ys => aappend k e tok els ys H
    | _, _ => none
  | .appendS e x y => match ρ x, ρ y with
    | .sl tok els, .str s => aappend 1 e tok els (s.map fun c => [.int .u8 c.toNat]) H
    | _, _ => none
  | .mkif t x => some (.iface t (ρ x), H)
  | .call _ _ => none
end Go.Proofs.YtblbepjnkehoaaaGreatDoor
/- The abstract operations are sound, first part: operands, reading, making blocks, writing. -/
namespace Go.Proofs.YtblbepjnkehoaaaGreatDoor
open Go

section
variable {F : Addr → Prop} {g : Gh} {w : World}

theorem RL_len : ∀ {xs : List AV} {vs : List Value}, RL F g w xs vs → xs.length = vs.length
  | [], vs, h => by simp only [RL] at h; simp [h]
  | x :: xs, vs, h => by
    simp only [RL] at h
    obtain ⟨v, r, rfl, _, h⟩ := h
    simp [RL_len h]
theorem RL_get : ∀ {xs : List AV} {vs : List Value}, RL F g w xs vs → ∀ (i : Nat) (x : AV), xs[i]? = some x → ∃ v, vs[i]? = some v ∧ R F g w x v
  | [], _, _, i, x, hx => by simp at hx
  | y :: ys, vs, h, i, x, hx => by
    simp only [RL] at h
    obtain ⟨v, r, rfl, h1, h2⟩ := h
    cases i with
    | zero => simp at hx; subst hx; exact ⟨v, rfl, h1⟩
    | succ i => simp at hx; simpa using RL_get h2 i x hx
theorem RL_append : ∀ {xs ys : List AV} {vs us : List Value}, RL F g w xs vs → RL F g w ys us → RL F g w (xs ++ ys) (vs ++ us)
  | [], _, vs, us, h, h' => by simp only [RL] at h; subst h; simpa using h'
  | x :: xs, ys, vs, us, h, h' => by
    simp only [RL] at h
    obtain ⟨v, r, rfl, h1, h2⟩ := h
    simp only [List.cons_append, RL]
    exact ⟨v, r ++ us, rfl, h1, RL_append h2 h'⟩
theorem RL_take : ∀ {xs : List AV} {vs : List Value}, RL F g w xs vs → ∀ n, RL F g w (xs.take n) (vs.take n)
  | [], vs, h, n => by simp only [RL] at h; subst h; simp [RL]
  | x :: xs, vs, h, n => by
    simp only [RL] at h
    obtain ⟨v, r, rfl, h1, h2⟩ := h
    cases n with
    | zero => simp [RL]
    | succ n => simp only [List.take_succ_cons, RL]; exact ⟨v, _, rfl, h1, RL_take h2 n⟩
theorem RL_drop : ∀ {xs : List AV} {vs : List Value}, RL F g w xs vs → ∀ n, RL F g w (xs.drop n) (vs.drop n)
  | [], vs, h, n => by simp only [RL] at h; subst h; simp [RL]
  | x :: xs, vs, h, n => by
    cases n with
    | zero => simpa using h
    | succ n =>
      simp only [RL] at h
      obtain ⟨v, r, rfl, h1, h2⟩ := h
      simpa using RL_drop h2 n
theorem RL_one {x : AV} {v : Value} (h : R F g w x v) : RL F g w [x] [v] := by simp only [RL]; exact ⟨v, [], rfl, h, rfl⟩
theorem RL_set : ∀ {xs : List AV} {vs : List Value}, RL F g w xs vs → ∀ {x : AV} {v : Value}, R F g w x v → ∀ i, RL F g w (xs.set i x) (vs.set i v)
  | [], vs, h, _, _, _, i => by simp only [RL] at h; subst h; simp [RL]
  | y :: ys, vs, h, x, v, hx, i => by
    simp only [RL] at h
    obtain ⟨u, r, rfl, h1, h2⟩ := h
    cases i with
    | zero => simp only [List.set_cons_zero, RL]; exact ⟨v, r, rfl, hx, h2⟩
    | succ i => simp only [List.set_cons_succ, RL]; exact ⟨u, _, rfl, h1, RL_set h2 hx i⟩
theorem RL_rep {x : AV} {v : Value} (h : R F g w x v) : ∀ n, RL F g w (List.replicate n x) (List.replicate n v)
  | 0 => by simp [RL]
  | n + 1 => by simp only [List.replicate_succ, RL]; exact ⟨v, _, rfl, h, RL_rep h n⟩

theorem R_undef : R F g w .undef undef := by simp only [AV.undef, R, undef]; exact ⟨#[], rfl, by simp [RL]⟩

theorem toAV_R {v : Value} {x : AV} (h : toAV v = some x) : R F g w x v := by
  unfold toAV at h
  split at h
  · simp only [Option.some.injEq] at h; subst h; simp [R]
  · split at h
    · simp only [Option.some.injEq] at h; subst h; rename_i k n hk; simp only [R]; exact ⟨trivial, hk⟩
    · cases h
  · split at h
    · simp only [Option.some.injEq] at h; subst h; rename_i s hl; simp only [R]; exact ⟨by simp, Nat.le_trans hl (by decide)⟩
    · cases h
  · simp only [Option.some.injEq] at h; subst h; simp [R]
  · simp only [Option.some.injEq] at h; subst h; simp only [R]; exact ⟨by simp, .inl ⟨trivial, trivial, by simp, by simp⟩⟩
  · simp only [Option.some.injEq] at h; subst h; simp [R]
  · simp only [Option.some.injEq] at h; subst h; simp [R]
  · cases h
theorem toAVs_R : ∀ {vs : List Value} {xs : List AV}, toAVs vs = some xs → RL F g w xs vs
  | [], xs, h => by simp only [toAVs, Option.some.injEq] at h; subst h; simp [RL]
  | v :: r, xs, h => by
    simp only [toAVs] at h
    split at h
    · rename_i x ys h1 h2
      simp only [Option.some.injEq] at h; subst h
      simp only [RL]; exact ⟨v, r, rfl, toAV_R h1, toAVs_R h2⟩
    · cases h
theorem toAVc_R {v : Value} {x : AV} (h : toAVc v = some x) : R F g w x v := by
  unfold toAVc at h
  split at h
  · rename_i cs
    simp only [Option.map_eq_some_iff] at h
    obtain ⟨xs, h, rfl⟩ := h
    simp only [R]; exact ⟨cs, rfl, toAVs_R h⟩
  · exact toAV_R h

/-- The temporaries. -/
def Tm (F : Addr → Prop) (g : Gh) (w : World) (t : List AV) (a : Act) : Prop := RL F g w t a.tmps.toList

theorem getD_R {t : List AV} {vs : List Value} (h : RL F g w t vs) (i : Nat) : R F g w (t.getD i .undef) (vs.getD i undef) := by
  rcases Nat.lt_or_ge i t.length with hi | hi
  · obtain ⟨v, h1, h2⟩ := RL_get h i t[i] (by simp [hi])
    rw [List.getD_eq_getElem?_getD, List.getElem?_eq_getElem hi, List.getD_eq_getElem?_getD, h1]
    exact h2
  · have := RL_len h
    rw [List.getD_eq_getElem?_getD, List.getElem?_eq_none hi, List.getD_eq_getElem?_getD, List.getElem?_eq_none (by omega)]
    exact R_undef
theorem aev_R {t : List AV} {a : Act} (h : Tm F g w t a) {o : Operand} {x : AR} (hc : cvX o = some x) : R F g w (aev t x) (a.eval o) := by
  cases o with
  | tmp i =>
    simp only [cvX, Option.some.injEq] at hc; subst hc
    have := getD_R h i
    simpa [aev, Act.eval] using this
  | const v =>
    simp only [cvX, Option.map_eq_some_iff] at hc
    obtain ⟨y, hy, rfl⟩ := hc
    exact toAVc_R hy
  | global _ => simp [cvX] at hc
  | func f =>
    simp only [cvX, Option.some.injEq] at hc; subst hc
    simp only [aev, Act.eval, R]; exact ⟨#[], #[], rfl, by simp [RL], by simp [RL]⟩
theorem aev_RL {t : List AV} {a : Act} (h : Tm F g w t a) : ∀ {os : List Operand} {xs : List AR}, cvXs os = some xs → RL F g w (xs.map (aev t)) (os.map a.eval)
  | [], xs, hc => by simp only [cvXs, Option.some.injEq] at hc; subst hc; simp [RL]
  | o :: r, xs, hc => by
    simp only [cvXs] at hc
    split at hc
    · rename_i x ys h1 h2
      simp only [Option.some.injEq] at hc; subst hc
      simp only [List.map_cons, RL]; exact ⟨_, _, rfl, aev_R h h1, aev_RL h h2⟩
    · cases hc
theorem cells_R {x : AV} {v : Value} (h : R F g w x v) : RL F g w x.cells v.cells.toList := by
  cases x <;> simp only [AV.cells] <;> first
    | (simp only [R] at h; obtain ⟨a, rfl, h⟩ := h; simpa [Value.cells] using h; done)
    | skip
  all_goals
    have h' := h
    simp only [R] at h'
    first
      | (obtain ⟨_, ⟨_, rfl, _⟩ | ⟨_, _, _, _, _, rfl, _⟩⟩ := h' <;> exact RL_one h)
      | (subst h'; exact RL_one h)
      | (obtain ⟨rfl, _⟩ := h'; exact RL_one h)
      | (obtain ⟨B, h1, h2, rfl⟩ := h'; exact RL_one h)
      | (obtain ⟨B, off, rfl, h2⟩ := h'; exact RL_one h)
      | (obtain ⟨a1, a2, rfl, _⟩ := h'; exact RL_one h)
      | (obtain ⟨u, rfl, _⟩ := h'; exact RL_one h)
end

/-! ### The world with one block more; with one cell turned -/
theorem push_lt (w : World) (o : Obj) (a : Addr) (h : a.block < w.heap.size) : World.cell? { w with heap := w.heap.push o } a = w.cell? a := by
  simp [World.cell?, Array.getElem?_push, Nat.ne_of_lt h]
theorem push_heap_lt (w : World) (o : Obj) (b : Nat) (h : b < w.heap.size) : (w.heap.push o)[b]? = w.heap[b]? := by
  simp [Array.getElem?_push, Nat.ne_of_lt h]
theorem push_heap_new (w : World) (o : Obj) : (w.heap.push o)[w.heap.size]? = some o := by simp

/-- A block of the world that a name of the abstract heap stands for. -/
theorem St.lt {F : Addr → Prop} {g : Gh} {H : List HB} {w : World} (hs : St F g H w) {b B : Nat} (h : g.blk b = some B) : b < H.length := by
  rcases Nat.lt_or_ge b H.length with hb | hb
  · exact hb
  · rw [(hs.beyond b hb).1] at h; cases h
theorem heap_lt {w : World} {B : Nat} {o : Obj} (h : w.heap[B]? = some o) : B < w.heap.size := by
  rcases Nat.lt_or_ge B w.heap.size with hb | hb
  · exact hb
  · rw [Array.getElem?_eq_none hb] at h; cases h
theorem St.blk_lt {F : Addr → Prop} {g : Gh} {H : List HB} {w : World} (hs : St F g H w) {b B : Nat} (h : g.blk b = some B) : B < w.heap.size := by
  have hb := hs.lt h
  cases hx : H[b]? with
  | none => simp at hx; omega
  | some x =>
    cases x with
    | var cs =>
      obtain ⟨B', vs, e, h1, _, h3, _⟩ := hs.var b cs hx
      rw [h] at h1; cases h1; exact heap_lt h3
    | tvar e cs =>
      obtain ⟨B', vs, h1, _, h3, _⟩ := hs.tvar b e cs hx
      rw [h] at h1; cases h1; exact heap_lt h3
    | tok n k ty =>
      obtain ⟨B', cap, vs, e, fr, h1, _, h3, _⟩ := hs.tok b n k _ hx
      rw [h] at h1; cases h1; exact heap_lt h3

/-- A variable of its own: a new block. -/
theorem push_x {F : Addr → Prop} {g : Gh} {H : List HB} {w : World} (hs : St F g H w) {cs : List AV} {vs : Array Value} (hr : RL F g w cs vs.toList) (e : TypeId) (x : HB) (hx : x = .var cs ∨ x = .tvar e cs) :
    ∃ g', St F g' (H ++ [x]) { w with heap := w.heap.push (.cells vs e) } ∧ Ext F g H w F g' (H ++ [x]) { w with heap := w.heap.push (.cells vs e) } ∧
      R F g' { w with heap := w.heap.push (.cells vs e) } (.ptr H.length 0) (.pointer (some ⟨w.heap.size, 0, none⟩)) := by
  let g' : Gh := ⟨fun b => if b = H.length then some w.heap.size else g.blk b, g.tk⟩
  have hK : Keeps F g w F g' { w with heap := w.heap.push (.cells vs e) } := by
    refine ⟨fun _ h => h, fun a ha => push_lt w _ a (hs.live a ha), ⟨fun b B h1 h2 => ?_, fun t m c h => ⟨m, c, h, Nat.le_refl _, fun _ => ⟨rfl, ?_⟩⟩⟩⟩
    · have := hs.lt h1
      exact ⟨by show (if b = H.length then _ else _) = _; rw [if_neg (by omega)]; exact h1, h2⟩
    · have : t ≠ H.length := fun e => by have := (hs.beyond t (by omega)).2; rw [this] at h; cases h
      show (if t = H.length then _ else _) = _
      rw [if_neg this]
  refine ⟨g', ⟨fun a ha => ?_, fun b hb => ?_, fun b b' B h1 h2 => ?_, fun b cs' hb => ?_, fun t n k ty ht => ?_, hs.spots, fun b e' cs' hb => ?_⟩, ⟨fun _ h => h, hK.keep, hK.gh, ?_, fun B hB _ => push_heap_lt w _ B hB, fun a h => .inl h, fun b B hb h => ?_, by simp, ⟨rfl, rfl⟩⟩, ?_⟩
  · have := hs.live a ha; simp; omega
  · simp only [List.length_append, List.length_singleton] at hb
    have := hs.beyond b (by omega)
    exact ⟨by show (if b = H.length then _ else _) = _; rw [if_neg (by omega)]; exact this.1, this.2⟩
  · have h1' : (if b = H.length then some w.heap.size else g.blk b) = some B := h1
    have h2' : (if b' = H.length then some w.heap.size else g.blk b') = some B := h2
    split at h1' <;> split at h2'
    · omega
    · simp only [Option.some.injEq] at h1'; have := hs.blk_lt h2'; omega
    · simp only [Option.some.injEq] at h2'; have := hs.blk_lt h1'; omega
    · exact hs.inj b b' B h1' h2'
  · rcases Nat.lt_or_ge b H.length with hl | hl
    · rw [List.getElem?_append_left hl] at hb
      obtain ⟨B, us, e', h1, h2, h3, h4, h5⟩ := hs.var b cs' hb
      refine ⟨B, us, e', ?_, h2, (push_heap_lt w _ B (heap_lt h3)).trans h3, RL.mono hK _ _ h4, h5⟩
      show (if b = H.length then _ else _) = _; rw [if_neg (by omega)]; exact h1
    · have hbl : b = H.length := by
        rcases Nat.lt_or_ge b (H.length + 1) with h | h
        · omega
        · rw [List.getElem?_eq_none (by simpa using h)] at hb; cases hb
      subst hbl
      simp only [List.getElem?_append_right (Nat.le_refl _), Nat.sub_self, List.getElem?_cons_zero, Option.some.injEq] at hb
      obtain rfl : cs = cs' := by
        rcases hx with rfl | rfl
        · cases hb; rfl
        · cases hb
      refine ⟨w.heap.size, vs, e, ?_, (hs.beyond _ (Nat.le_refl _)).2, push_heap_new w _, RL.mono hK _ _ hr, fun off h => ?_⟩
      · show (if H.length = H.length then _ else _) = _; rw [if_pos rfl]
      · have := hs.live _ h; simp at this
  · rcases Nat.lt_or_ge t H.length with hl | hl
    · rw [List.getElem?_append_left hl] at ht
      obtain ⟨B, cap, us, e', fr, h1, h2, h3, h4, h5, h6⟩ := hs.tok t n k _ ht
      refine ⟨B, cap, us, e', fr, ?_, h2, (push_heap_lt w _ B (heap_lt h3)).trans h3, h4, h5, h6⟩
      show (if t = H.length then _ else _) = _; rw [if_neg (by omega)]; exact h1
    · have hbl : t = H.length := by
        rcases Nat.lt_or_ge t (H.length + 1) with h | h
        · omega
        · rw [List.getElem?_eq_none (by simpa using h)] at ht; cases ht
      subst hbl
      simp at ht
      rcases hx with rfl | rfl <;> cases ht
  · rcases Nat.lt_or_ge b H.length with hl | hl
    · rw [List.getElem?_append_left hl] at hb
      obtain ⟨B, us, h1, h2, h3, h4, h5⟩ := hs.tvar b e' cs' hb
      refine ⟨B, us, ?_, h2, (push_heap_lt w _ B (heap_lt h3)).trans h3, RL.mono hK _ _ h4, h5⟩
      show (if b = H.length then _ else _) = _; rw [if_neg (by omega)]; exact h1
    · have hbl : b = H.length := by
        rcases Nat.lt_or_ge b (H.length + 1) with h | h
        · omega
        · rw [List.getElem?_eq_none (by simpa using h)] at hb; cases hb
      subst hbl
      simp only [List.getElem?_append_right (Nat.le_refl _), Nat.sub_self, List.getElem?_cons_zero, Option.some.injEq] at hb
      obtain ⟨rfl, rfl⟩ : e = e' ∧ cs = cs' := by
        rcases hx with rfl | rfl
        · cases hb
        · cases hb; exact ⟨rfl, rfl⟩
      refine ⟨w.heap.size, vs, ?_, (hs.beyond _ (Nat.le_refl _)).2, push_heap_new w _, RL.mono hK _ _ hr, fun off h => ?_⟩
      · show (if H.length = H.length then _ else _) = _; rw [if_pos rfl]
      · have := hs.live _ h; simp at this
  · simp
  · have h' : (if b = H.length then some w.heap.size else g.blk b) = some B := h
    split at h'
    · simp only [Option.some.injEq] at h'; right; omega
    · left; exact ⟨hs.lt h', h'⟩
  · simp only [R]
    refine ⟨w.heap.size, ?_, (hs.beyond _ (Nat.le_refl _)).2, rfl⟩
    show (if H.length = H.length then _ else _) = _; rw [if_pos rfl]
theorem push_var {F : Addr → Prop} {g : Gh} {H : List HB} {w : World} (hs : St F g H w) {cs : List AV} {vs : Array Value} (hr : RL F g w cs vs.toList) (e : TypeId) :
    ∃ g', St F g' (H ++ [.var cs]) { w with heap := w.heap.push (.cells vs e) } ∧ Ext F g H w F g' (H ++ [.var cs]) { w with heap := w.heap.push (.cells vs e) } ∧
      R F g' { w with heap := w.heap.push (.cells vs e) } (.ptr H.length 0) (.pointer (some ⟨w.heap.size, 0, none⟩)) := push_x hs hr e _ (.inl rfl)
end Go.Proofs.YtblbepjnkehoaaaGreatDoor
/- The abstract operations are sound, second part: writing. -/
namespace Go.Proofs.YtblbepjnkehoaaaGreatDoor
open Go

def vsplice (vs : List Value) (off : Nat) (us : List Value) : List Value := vs.take off ++ us ++ vs.drop (off + us.length)

theorem oneCell_of_R {F : Addr → Prop} {g : Gh} {w : World} {x : AV} {v : Value} (h : R F g w x v) (hc : x.isCell = true) : v.oneCell' = true := by
  cases x <;> simp only [AV.isCell, Bool.false_eq_true] at hc <;> simp only [R] at h
  all_goals first
    | (obtain ⟨_, ⟨_, rfl, _⟩ | ⟨_, _, _, _, _, rfl, _⟩⟩ := h <;> rfl)
    | (subst h; rfl)
    | (obtain ⟨rfl, _⟩ := h; rfl)
    | (obtain ⟨B, h1, h2, rfl⟩ := h; rfl)
    | (obtain ⟨B, off, rfl, h2⟩ := h; rfl)
    | (obtain ⟨a1, a2, rfl, _⟩ := h; rfl)
    | (obtain ⟨u, rfl, _⟩ := h; rfl)
theorem oneCells_of_RL {F : Addr → Prop} {g : Gh} {w : World} : ∀ {xs : List AV} {vs : List Value}, RL F g w xs vs → xs.all AV.isCell = true → vs.all Value.oneCell' = true
  | [], vs, h, _ => by simp only [RL] at h; subst h; rfl
  | x :: xs, vs, h, hc => by
    simp only [RL] at h
    obtain ⟨v, r, rfl, h1, h2⟩ := h
    simp only [List.all_cons, Bool.and_eq_true] at hc ⊢
    exact ⟨oneCell_of_R h1 hc.1, oneCells_of_RL h2 hc.2⟩

theorem add_plain (B off i : Nat) : (⟨B, off, none⟩ : Addr).add i = ⟨B, off + i, none⟩ := by
  unfold Addr.add; split
  · rename_i h; subst h; rfl
  · rfl

/-- Writing cells into a block: the block has them, all else is as it was. -/
theorem run_storeCells_block (P : Program) (B : Nat) (e : TypeId) (fr : Nat × Nat) : ∀ (us : List Value) (vs : List Value) (off i : Nat) (w : World), w.heap[B]? = some (.cells vs.toArray e fr) → us.all Value.oneCell' = true →
    off + i + us.length ≤ vs.length → fr.2 ≤ off + i → ∃ w', (storeCells ⟨B, off, none⟩ us i).run P w = .ok () w' ∧ w'.heap.size = w.heap.size ∧ w'.heap[B]? = some (.cells (vsplice vs (off + i) us).toArray e fr) ∧ (∀ b, b ≠ B → w'.heap[b]? = w.heap[b]?) ∧ w'.os = w.os ∧ w'.output = w.output
  | [], vs, off, i, w, hb, _, _, _ => by
    refine ⟨w, rfl, rfl, ?_, fun _ _ => rfl, rfl, rfl⟩
    rw [hb]; simp [vsplice]
  | u :: us, vs, off, i, w, hb, hc, hl, hfr => by
    simp only [List.all_cons, Bool.and_eq_true, List.length_cons] at hc hl
    have hlt := heap_lt hb
    have hcell : w.cell? ⟨B, off + i, none⟩ = some vs[off + i] := by
      simp only [World.cell?, hb, Option.isSome_none, Bool.false_eq_true, if_false]
      simp
    have hfz : w.frozen? ⟨B, off + i, none⟩ = false := by
      simp only [World.frozen?, hb, Bool.and_eq_false_iff, decide_eq_false_iff_not, Nat.not_lt]
      right; exact hfr
    let w1 : World := w.setCell ⟨B, off + i, none⟩ u
    have h1 : w1.heap[B]? = some (.cells (vs.set (off + i) u).toArray e fr) := by
      show (w.heap.modify B _)[B]? = _
      have hg : w.heap[B] = .cells vs.toArray e fr := by simpa [Array.getElem?_eq_getElem hlt] using hb
      rw [Array.getElem?_eq_getElem (by rw [Array.size_modify]; exact hlt), Array.getElem_modify_self, hg]
      simp
    have h2 : ∀ b, b ≠ B → w1.heap[b]? = w.heap[b]? := by
      intro b hne
      show (w.heap.modify B _)[b]? = _
      rw [Array.getElem?_modify]
      simp [Ne.symm hne]
    have h3 : w1.heap.size = w.heap.size := by show (w.heap.modify B _).size = _; simp
    obtain ⟨w', e1, e2, e3, e4, e5⟩ := run_storeCells_block P B e fr us (vs.set (off + i) u) off (i + 1) w1 h1 hc.2 (by simp; omega) (by omega)
    refine ⟨w', ?_, e2.trans h3, ?_, fun b hne => (e4 b hne).trans (h2 b hne), e5⟩
    · simp only [storeCells, Sem.run_bind, add_plain]
      rw [run_store P w _ u .plain hc.1, hcell]
      simp only [hfz, Bool.false_eq_true, if_false, Result.andThen_ok]
      exact e1
    · rw [e3]
      congr 2
      simp only [vsplice]
      congr 1
      rw [show off + (i + 1) = off + i + 1 by omega, List.take_succ_eq_append_getElem (by simp; omega)]
      simp only [List.length_cons, List.append_assoc, List.getElem_set_self]
      rw [List.take_set_of_le (Nat.le_refl _), List.drop_set_of_lt (by omega)]
      simp only [List.singleton_append]
      congr 3
      congr 1
      omega

theorem RL_splice {F : Addr → Prop} {g : Gh} {w : World} {cs xs : List AV} {vs us : List Value} (h : RL F g w cs vs) (h' : RL F g w xs us) (off : Nat) : RL F g w (splice cs off xs) (vsplice vs off us) := by
  unfold splice vsplice
  rw [RL_len h']
  exact RL_append (RL_append (RL_take h _) h') (RL_drop h _)

theorem cell_of_heap {w w' : World} {a : Addr} (h : w'.heap[a.block]? = w.heap[a.block]?) : w'.cell? a = w.cell? a := by
  simp only [World.cell?, h]

/-- A variable's cells turned. -/
theorem put_x {F : Addr → Prop} {g : Gh} {H : List HB} {w w' : World} (hs : St F g H w) {b B : Nat} {cs cs' : List AV} {vs' : Array Value} {e : TypeId} {x0 y0 : HB} (hxy : (x0 = .var cs ∧ y0 = .var cs') ∨ (x0 = .tvar e cs ∧ y0 = .tvar e cs')) (hb : H[b]? = some x0) (hB : g.blk b = some B)
    (hr : RL F g w cs' vs'.toList) (hz : w'.heap.size = w.heap.size) (hn : w'.heap[B]? = some (.cells vs' e (0, 0))) (ho : ∀ x, x ≠ B → w'.heap[x]? = w.heap[x]?) (hio : w'.os = w.os ∧ w'.output = w.output) :
    St F g (H.set b y0) w' ∧ Ext F g H w F g (H.set b y0) w' := by
  obtain ⟨q2, q5⟩ : g.tk b = none ∧ ∀ off, ¬ F ⟨B, off, none⟩ := by
    rcases hxy with ⟨rfl, _⟩ | ⟨rfl, _⟩
    · obtain ⟨B0, vs0, e0, q1, q2, q3, q4, q5⟩ := hs.var b cs hb
      rw [hB] at q1; cases q1; exact ⟨q2, q5⟩
    · obtain ⟨B0, vs0, q1, q2, q3, q4, q5⟩ := hs.tvar b e cs hb
      rw [hB] at q1; cases q1; exact ⟨q2, q5⟩
  have hbl := hs.lt hB
  have hFB : ∀ a, F a → a.block ≠ B := by
    intro a ha e
    cases hx : a with
    | mk bl off spot =>
      subst hx
      simp only at e; subst e
      exact absurd (hs.live _ ha) (by
        intro _
        cases spot with
        | none => exact q5 off ha
        | some s => exact hs.spots _ _ _ ha)
  have hK : Keeps F g w F g w' := ⟨fun _ h => h, fun a ha => cell_of_heap (ho _ (hFB a ha)), Gh.le_refl g⟩
  refine ⟨⟨fun a ha => by rw [hz]; exact hs.live a ha, fun x hx => hs.beyond x (by simpa using hx), hs.inj, fun x cx hx => ?_, fun t n k ty ht => ?_, hs.spots, fun x ex cx hx => ?_⟩, ⟨fun _ h => h, hK.keep, hK.gh, by omega, fun x hx hnx => ho x (fun e => hnx b hbl (by rw [hB, e])), fun a h => .inl h, fun x X hx h => .inl ⟨by simpa using hx, h⟩, by simp, hio⟩⟩
  · by_cases hxb : x = b
    · subst hxb
      rw [List.getElem?_set_self hbl] at hx
      simp only [Option.some.injEq] at hx
      obtain rfl : cs' = cx := by
        rcases hxy with ⟨_, rfl⟩ | ⟨_, rfl⟩
        · cases hx; rfl
        · cases hx
      exact ⟨B, vs', e, hB, q2, hn, RL.mono hK _ _ hr, q5⟩
    · rw [List.getElem?_set_ne (Ne.symm hxb)] at hx
      obtain ⟨X, us, ex, h1, h2, h3, h4, h5⟩ := hs.var x cx hx
      have : X ≠ B := fun e => hxb (hs.inj x b X h1 (by rw [hB, e]))
      exact ⟨X, us, ex, h1, h2, (ho X this).trans h3, RL.mono hK _ _ h4, h5⟩
  · by_cases htb : t = b
    · subst htb
      rw [List.getElem?_set_self hbl] at ht
      simp only [Option.some.injEq] at ht
      rcases hxy with ⟨_, rfl⟩ | ⟨_, rfl⟩ <;> cases ht
    · rw [List.getElem?_set_ne (Ne.symm htb)] at ht
      obtain ⟨X, cap, us, ex, fr, h1, h2, h3, h4, h5, h6⟩ := hs.tok t n k _ ht
      have : X ≠ B := fun e => htb (hs.inj t b X h1 (by rw [hB, e]))
      exact ⟨X, cap, us, ex, fr, h1, h2, (ho X this).trans h3, h4, h5, h6⟩
  · by_cases hxb : x = b
    · subst hxb
      rw [List.getElem?_set_self hbl] at hx
      simp only [Option.some.injEq] at hx
      obtain ⟨rfl, rfl⟩ : e = ex ∧ cs' = cx := by
        rcases hxy with ⟨_, rfl⟩ | ⟨_, rfl⟩
        · cases hx
        · cases hx; exact ⟨rfl, rfl⟩
      exact ⟨B, vs', hB, q2, hn, RL.mono hK _ _ hr, q5⟩
    · rw [List.getElem?_set_ne (Ne.symm hxb)] at hx
      obtain ⟨X, us, h1, h2, h3, h4, h5⟩ := hs.tvar x ex cx hx
      have : X ≠ B := fun e => hxb (hs.inj x b X h1 (by rw [hB, e]))
      exact ⟨X, us, h1, h2, (ho X this).trans h3, RL.mono hK _ _ h4, h5⟩
theorem put_var {F : Addr → Prop} {g : Gh} {H : List HB} {w w' : World} (hs : St F g H w) {b B : Nat} {cs cs' : List AV} {vs' : Array Value} {e : TypeId} (hb : H[b]? = some (.var cs)) (hB : g.blk b = some B)
    (hr : RL F g w cs' vs'.toList) (hz : w'.heap.size = w.heap.size) (hn : w'.heap[B]? = some (.cells vs' e (0, 0))) (ho : ∀ x, x ≠ B → w'.heap[x]? = w.heap[x]?) (hio : w'.os = w.os ∧ w'.output = w.output) :
    St F g (H.set b (.var cs')) w' ∧ Ext F g H w F g (H.set b (.var cs')) w' := put_x hs (.inl ⟨rfl, rfl⟩) hb hB hr hz hn ho hio
end Go.Proofs.YtblbepjnkehoaaaGreatDoor
/- The abstract operations are sound, third part: operations that change no memory. -/
namespace Go.Proofs.YtblbepjnkehoaaaGreatDoor
open Go

section
variable {F : Addr → Prop} {g : Gh} {w : World} {P : Program}

theorem RM_list : ∀ {xs : List AV} {B off : Nat}, RM F g w B off xs → ∃ vs : List Value, vs.length = xs.length ∧ RL F g w xs vs ∧ ∀ (j : Nat) (v : Value), vs[j]? = some v → w.cell? ⟨B, off + j, none⟩ = some v ∧ F ⟨B, off + j, none⟩
  | [], B, off, _ => ⟨[], rfl, by simp [RL], by simp⟩
  | x :: xs, B, off, h => by
    simp only [RM] at h
    obtain ⟨⟨_, v, h1, h2, h3⟩, h4⟩ := h
    obtain ⟨vs, e1, e2, e3⟩ := RM_list h4
    refine ⟨v :: vs, by simp [e1], by simp only [RL]; exact ⟨v, vs, rfl, h3, e2⟩, fun j u hj => ?_⟩
    cases j with
    | zero => simp at hj; subst hj; exact ⟨h2, h1⟩
    | succ j =>
      simp at hj
      have := e3 j u hj
      rwa [show off + 1 + j = off + (j + 1) by omega] at this
theorem RM_drop : ∀ {xs : List AV} {B off : Nat}, RM F g w B off xs → ∀ n, RM F g w B (off + n) (xs.drop n)
  | [], _, _, _, n => by simp [RM]
  | x :: xs, B, off, h, n => by
    cases n with
    | zero => simpa using h
    | succ n =>
      simp only [RM] at h
      have := RM_drop h.2 n
      simp only [List.drop_succ_cons]
      rwa [show off + 1 + n = off + (n + 1) by omega] at this
theorem RE_get : ∀ {els : List (List AV)} {B off k : Nat}, RE F g w B off k els → ∀ (i : Nat) (row : List AV), els[i]? = some row → row.length = k ∧ RM F g w B (off + i * k) row
  | [], _, _, _, _, i, row, h => by simp at h
  | x :: xs, B, off, k, h, i, row, hi => by
    simp only [RE] at h
    obtain ⟨h1, h2, h3⟩ := h
    cases i with
    | zero => simp at hi; subst hi; simpa using ⟨h1, h2⟩
    | succ i =>
      simp at hi
      have := RE_get h3 i row hi
      rwa [show off + k + i * k = off + (i + 1) * k by rw [Nat.add_mul]; omega] at this
theorem RE_drop : ∀ {els : List (List AV)} {B off k : Nat}, RE F g w B off k els → ∀ n, RE F g w B (off + n * k) k (els.drop n)
  | [], _, _, _, _, n => by simp [RE]
  | x :: xs, B, off, k, h, n => by
    cases n with
    | zero => simpa using h
    | succ n =>
      simp only [RE] at h
      have := RE_drop h.2.2 n
      simp only [List.drop_succ_cons]
      rwa [show off + k + n * k = off + (n + 1) * k by rw [Nat.add_mul]; omega] at this
theorem RE_take : ∀ {els : List (List AV)} {B off k : Nat}, RE F g w B off k els → ∀ n, RE F g w B off k (els.take n)
  | [], _, _, _, _, n => by simp [RE]
  | x :: xs, B, off, k, h, n => by
    cases n with
    | zero => simp [RE]
    | succ n =>
      simp only [RE] at h
      simp only [List.take_succ_cons, RE]
      exact ⟨h.1, h.2.1, RE_take h.2.2 n⟩

theorem run_underlying {t : TypeId} {d : TypeDesc} (h : P.underlying t = some d) : (underlying t).run P w = .ok d w := by
  simp only [underlying, Sem.run_bind, run_program, Result.andThen_ok, h]; rfl
theorem run_typeInfo {t : TypeId} {i : TypeInfo} (h : P.info? t = some i) : (typeInfo t).run P w = .ok i w := by
  simp only [typeInfo, Sem.run_bind, run_program, Result.andThen_ok, h]; rfl
theorem run_sizeOf {t : TypeId} {i : TypeInfo} (h : P.info? t = some i) : (sizeOf t).run P w = .ok i.size w := by
  simp only [sizeOf, Sem.run_bind, run_typeInfo h, Result.andThen_ok]; rfl
theorem run_isAgg {t : TypeId} {b : Bool} (h : isAg P t = some b) : (isAgg t).run P w = .ok b w := by
  unfold isAg at h
  cases hu : P.underlying t with
  | none => rw [hu] at h; cases h
  | some d =>
    rw [hu] at h
    simp only [isAgg, Sem.run_bind, run_underlying hu, Result.andThen_ok]
    cases d <;> simp only [Option.some.injEq] at h <;> subst h <;> rfl

/-- What an operation is to come to. -/
def OpOk (P : Program) (o : Oper) (a : Act) (F : Addr → Prop) (g : Gh) (H : List HB) (w : World) (v : AV) (H' : List HB) : Prop :=
  ∃ r w' F' g', (execOp a.eval o).run P w = .ok r w' ∧ ((∃ u, r = .value u ∧ R F' g' w' v u) ∨ (r = .skip ∧ v = .undef)) ∧ St F' g' H' w' ∧ Ext F g H w F' g' H' w'

theorem OpOk.pure {o : Oper} {a : Act} {H : List HB} {v : AV} {u : Value} (hs : St F g H w) (h : (execOp a.eval o).run P w = .ok (.value u) w) (hr : R F g w v u) : OpOk P o a F g H w v H :=
  ⟨_, w, F, g, h, .inl ⟨u, rfl, hr⟩, hs, Ext.refl _ _ _ _⟩

theorem run_v (s : Sem Value) (u : Value) (w' : World) (h : s.run P w = .ok u w') : (do pure (.value (← s)) : Sem Next).run P w = .ok (.value u) w' := by
  simp only [Sem.run_bind, h, Result.andThen_ok]; rfl
theorem run_u (s : Sem Unit) (w' : World) (h : s.run P w = .ok () w') : (do s; pure .skip : Sem Next).run P w = .ok .skip w' := by
  simp only [Sem.run_bind, h, Result.andThen_ok]; rfl

theorem R_int {k : IntKind} {n : Int} {v : Value} (h : R F g w (.int k n) v) : v = .int k n ∧ k.has n := by simpa only [R] using h
theorem R_bool {b : Bool} {v : Value} (h : R F g w (.bool b) v) : v = .bool b := by simpa only [R] using h
theorem R_str {s : List UInt8} {v : Value} (h : R F g w (.str s) v) : v = .string ⟨s.toArray⟩ ∧ s.length ≤ maxL := by simpa only [R] using h
theorem R_ptr {b off : Nat} {v : Value} (h : R F g w (.ptr b off) v) : ∃ B, g.blk b = some B ∧ g.tk b = none ∧ v = .pointer (some ⟨B, off, none⟩) := by simpa only [R] using h
theorem R_eptr {cs : List AV} {v : Value} (h : R F g w (.eptr cs) v) : ∃ B off, v = .pointer (some ⟨B, off, none⟩) ∧ RM F g w B off cs := by simpa only [R] using h
theorem R_tup {cs : List AV} {v : Value} (h : R F g w (.tup cs) v) : ∃ a, v = .tuple a ∧ RL F g w cs a.toList := by simpa only [R] using h
theorem R_sl {tok : Tok} {els : List (List AV)} {v : Value} (h : R F g w (.sl tok els) v) : els.length ≤ maxL ∧ ((els = [] ∧ v = .slice none 0 0 ∧ (∀ t, tok ≠ .own t) ∧ tok ≠ .nn) ∨
      ∃ B off sp cap k, v = .slice (some ⟨B, off, sp⟩) els.length cap ∧ els.length ≤ cap ∧ (0 < k ∧ (els = [] ∨ sp = none)) ∧ RE F g w B off k els ∧ RT g els.length ⟨B, off, sp⟩ cap tok) := by simpa only [R] using h
theorem R_fn {f : Fn} {a b : List AV} {v : Value} (h : R F g w (.fn f a b) v) : ∃ a1 a2, v = .func f a1 a2 ∧ RL F g w a a1.toList ∧ RL F g w b a2.toList := by simpa only [R] using h

theorem wrap_has (k : IntKind) (n : Int) : k.has (k.wrap n) := by
  unfold IntKind.has IntKind.min IntKind.max IntKind.wrap
  cases k <;> simp [IntKind.signed, IntKind.bits] <;> (try split) <;> omega

theorem RL_one_inv {x : AV} {a : Array Value} {v : Value} (h : RL F g w [x] a.toList) (i : a[0]? = some v) : R F g w x v := by
  simp only [RL] at h
  obtain ⟨u, r, e, h1, rfl⟩ := h
  have : a[0]? = some u := by rw [← Array.getElem?_toList, e]; rfl
  rw [this] at i; cases i; exact h1

theorem takeCells_R {ag : Bool} {n : Nat} {cs : List AV} {v : AV} (h : takeCells ag n cs = some v) {vs : List Value} (hr : RL F g w cs vs) : n ≤ cs.length ∧
    (ag = true → R F g w v (.agg (vs.take n).toArray)) ∧ (ag = false → ∃ u r, vs = u :: r ∧ R F g w v u) := by
  unfold takeCells at h
  split at h
  · rename_i hn
    refine ⟨hn, fun e => ?_, fun e => ?_⟩
    · subst e
      simp only [if_true, Option.some.injEq] at h; subst h
      simp only [R]; exact ⟨_, rfl, by simpa using RL_take hr n⟩
    · subst e
      simp only [Bool.false_eq_true, if_false] at h
      split at h
      · rename_i x r
        simp only [Option.some.injEq] at h; subst h
        simp only [RL] at hr
        obtain ⟨u, r', rfl, h1, _⟩ := hr
        exact ⟨u, r', rfl, h1⟩
      · cases h
  · cases h

theorem run_loadVar {t : TypeId} {ag : Bool} {i : TypeInfo} (h1 : isAg P t = some ag) (h2 : P.info? t = some i) {B off : Nat} {vs : List Value}
    (hv : ∀ (j : Nat) (v : Value), vs[j]? = some v → w.cell? ⟨B, off + j, none⟩ = some v) :
    (ag = true → i.size ≤ vs.length → (loadVar t ⟨B, off, none⟩).run P w = .ok (.agg (vs.take i.size).toArray) w) ∧
    (ag = false → ∀ u r, vs = u :: r → (loadVar t ⟨B, off, none⟩).run P w = .ok u w) := by
  constructor
  · intro e hl
    subst e
    simp only [loadVar, Sem.run_bind, run_isAgg h1, Result.andThen_ok, if_true, run_sizeOf h2]
    have := run_loadCells_list (P := P) w ⟨B, off, none⟩ (vs.take i.size) (fun j v hj => by
      rw [add_plain]
      refine hv j v ?_
      rw [List.getElem?_take] at hj
      split at hj
      · exact hj
      · cases hj)
    rw [List.length_take, Nat.min_eq_left hl] at this
    simp only [this, Result.andThen_ok]; rfl
  · intro e u r hvs
    subst e; subst hvs
    have h0 := hv 0 u rfl
    simp only [Nat.add_zero] at h0
    simp only [loadVar, Sem.run_bind, run_isAgg h1, Result.andThen_ok, Bool.false_eq_true, if_false, run_load, h0]
theorem run_builtin {o : Oper} {a : Act} {c : Call} {b : Builtin} {args : Array Value} (ho : o.op = .call c) (hb : c.callee = .builtin b) (ha : c.args.map a.eval = args) {r : Next} {w w' : World}
    (h : (builtin b c.argTypes o.type (c.args.map fun | .const _ => true | _ => false) args).run P w = .ok r w') : (execOp a.eval o).run P w = .ok r w' := by
  simp only [execOp, ho, resolve, hb, ha, invoke, Sem.run_bind, Sem.run_pure, Result.andThen_ok]
  exact h
theorem len_has {n : Nat} (h : n ≤ maxL) : IntKind.i64.has (n : Int) := by
  unfold maxL at h
  unfold IntKind.has IntKind.min IntKind.max IntKind.signed IntKind.bits; simp; omega
theorem arr_one {c : Array Operand} {x : Operand} (h : c.toList = [x]) : c = #[x] := by apply Array.ext'; simpa using h
theorem arr_head {α : Type} {c : Array α} {x : α} {r : List α} (h : c.toList = x :: r) : c[0]? = some x := by rw [← Array.getElem?_toList, h]; rfl
theorem R_sl_val {tok : Tok} {els : List (List AV)} {v : Value} (h : R F g w (.sl tok els) v) : ∃ b c, v = .slice b els.length c := by
  rcases (R_sl h).2 with ⟨rfl, r2, _⟩ | ⟨B, off, sp, cap, k', r2, _⟩
  · exact ⟨_, _, r2⟩
  · exact ⟨_, _, r2⟩


theorem run_equalIn_bool {ty : TypeId} (h : P.underlying ty = some .bool) (b b' : Bool) (d : Nat) : (Op.equalIn (d + 1) ty (.bool b) (.bool b')).run P w = .ok (b == b') w := by
  rw [Op.equalIn]
  simp only [Sem.run_bind, run_underlying h, Result.andThen_ok, Sem.run_pure]
theorem run_equal_bool {ty : TypeId} (h : P.underlying ty = some .bool) (b b' : Bool) : (Op.equal ty (.bool b) (.bool b')).run P w = .ok (b == b') w :=
  run_equalIn_bool h b b' 9999
/-- A value held against nil. -/
theorem run_equalIn_nil {ty : TypeId} {c : NK} {n : Operand} (hk : nilClass P ty n = some c) {x : AV} {v : Value} {b : Bool} (hr : R F g w x v) (hn : isNil c x = some b) (d : Nat) (a : Act) :
    (Op.equalIn (d + 1) ty v (a.eval n)).run P w = .ok b w := by
  unfold nilClass at hk
  split at hk
  · rename_i e hu
    simp only [Option.some.injEq] at hk; subst hk
    cases x <;> simp only [isNil] at hn <;> try (cases hn; done)
    rename_i tok els
    rw [Op.equalIn]
    simp only [Sem.run_bind, run_underlying hu, Result.andThen_ok, Act.eval]
    obtain ⟨_, ⟨rfl, rfl, h1, h2⟩ | ⟨B, off, sp, cap, k, rfl, _, _, _, h3⟩⟩ := R_sl hr
    · simp only at hn
      cases tok <;> simp only [Option.some.injEq] at hn <;> first | (subst hn; rfl) | (exact absurd rfl h2) | (cases hn; done)
    · cases els with
      | nil =>
        simp only at hn
        cases tok <;> simp only [Option.some.injEq] at hn <;> first | (subst hn; rfl) | (exact h3.elim) | (cases hn; done)
      | cons r rs => simp only [Option.some.injEq] at hn; subst hn; rfl
  · rename_i e hu
    simp only [Option.some.injEq] at hk; subst hk
    rw [Op.equalIn]
    simp only [Sem.run_bind, run_underlying hu, Result.andThen_ok, Act.eval]
    cases x <;> simp only [isNil] at hn <;> try (cases hn; done)
    · simp only [R] at hr; subst hr; simp only [Option.some.injEq] at hn; subst hn; rfl
    · obtain ⟨B, _, _, rfl⟩ := R_ptr hr; simp only [Option.some.injEq] at hn; subst hn; rfl
    · obtain ⟨B, off, rfl, _⟩ := R_eptr hr; simp only [Option.some.injEq] at hn; subst hn; rfl
  · rename_i p q r hu
    simp only [Option.some.injEq] at hk; subst hk
    rw [Op.equalIn]
    simp only [Sem.run_bind, run_underlying hu, Result.andThen_ok, Act.eval]
    cases x <;> simp only [isNil] at hn <;> try (cases hn; done)
    · obtain ⟨a1, a2, rfl, _⟩ := R_fn hr; simp only [Option.some.injEq] at hn; subst hn; rfl
    · simp only [R] at hr; subst hr; simp only [Option.some.injEq] at hn; subst hn; rfl
  · rename_i ms hu
    simp only [Option.some.injEq] at hk; subst hk
    rw [Op.equalIn]
    simp only [Sem.run_bind, run_underlying hu, Result.andThen_ok, Act.eval]
    cases x <;> simp only [isNil] at hn <;> try (cases hn; done)
    · simp only [R] at hr; obtain ⟨u, rfl, _⟩ := hr; simp only [Option.some.injEq] at hn; subst hn; rfl
    · simp only [R] at hr; subst hr; simp only [Option.some.injEq] at hn; subst hn; rfl
  · cases hk

def NilV (n : Value) : Prop := n = .pointer none ∨ n = .slice none 0 0 ∨ n = .nilFunc ∨ n = .nilIface
theorem nilClass_const {ty : TypeId} {y : Operand} {c : NK} (h : nilClass P ty y = some c) : ∃ n, y = .const n ∧ NilV n := by
  unfold nilClass at h
  split at h
  · exact ⟨_, rfl, .inr (.inl rfl)⟩
  · exact ⟨_, rfl, .inl rfl⟩
  · exact ⟨_, rfl, .inr (.inr (.inl rfl))⟩
  · exact ⟨_, rfl, .inr (.inr (.inr rfl))⟩
  · cases h
theorem binOp_eql_nil {ty : TypeId} {n u : Value} (h : NilV n) : binOp .eql ty u n = (do pure (.bool (← Op.equal ty u n))) := by
  rcases h with rfl | rfl | rfl | rfl <;> cases u <;> rfl
theorem binOp_neq_nil {ty : TypeId} {n u : Value} (h : NilV n) : binOp .neq ty u n = (do pure (.bool (!(← Op.equal ty u n)))) := by
  rcases h with rfl | rfl | rfl | rfl <;> cases u <;> rfl
theorem run_eqGuard_nil {op : BinOp} {ty : TypeId} {x : Operand} {n u : Value} {a : Act} (hop : op = .eql ∨ op = .neq) (h : NilV n) : (eqGuard op ty x (.const n) u (a.eval (.const n))).run P w = .ok () w := by
  simp only [Act.eval]
  rcases hop with rfl | rfl <;> rcases h with rfl | rfl | rfl | rfl <;> cases u <;> simp [eqGuard]
end
end Go.Proofs.YtblbepjnkehoaaaGreatDoor
/- The abstract operations are sound, fourth part: one theorem an operation. -/
namespace Go.Proofs.YtblbepjnkehoaaaGreatDoor
open Go

section
variable {F : Addr → Prop} {g : Gh} {w : World} {P : Program} {H H' : List HB} {t : List AV} {a : Act} {o : Oper} {v : AV} (hs : St F g H w) (ht : Tm F g w t a)
include hs ht

theorem ok_mov {x : Operand} {y : AR} (ho : o.op = .move x ∨ o.op = .assign x) (hx : cvX x = some y) (he : astep (.mov y) (aev t) H = some (v, H')) : OpOk P o a F g H w v H' := by
  simp only [astep, Option.some.injEq, Prod.mk.injEq] at he
  obtain ⟨rfl, rfl⟩ := he
  refine OpOk.pure hs (u := a.eval x) ?_ (aev_R ht hx)
  rcases ho with ho | ho <;> simp only [execOp, ho] <;> rfl

theorem ok_pick {c x x' : Operand} {d y y' : AR} (ho : o.op = .pick c x x') (hc : cvX c = some d) (hx : cvX x = some y) (hx' : cvX x' = some y') (he : astep (.pick d y y') (aev t) H = some (v, H')) : OpOk P o a F g H w v H' := by
  simp only [astep] at he
  split at he
  · rename_i b hb
    simp only [Option.some.injEq, Prod.mk.injEq] at he
    obtain ⟨rfl, rfl⟩ := he
    have h := aev_R ht hc
    rw [hb] at h
    have h' := R_bool h
    refine OpOk.pure hs (u := if b then a.eval x else a.eval x') ?_ ?_
    · simp only [execOp, ho, h', asBool, Sem.run_bind, Sem.run_pure, Result.andThen_ok]
    · cases b
      · exact aev_R ht hx'
      · exact aev_R ht hx
  · cases he

theorem ok_load {ty : TypeId} {x : Operand} {y : AR} {ag : Bool} {i : TypeInfo} (ho : o.op = .load ty x) (h1 : isAg P ty = some ag) (h2 : P.info? ty = some i) (hx : cvX x = some y) (_h0 : 0 < i.size ∧ (ag = true ∨ i.size = 1))
    (he : astep (.load ag i.size y) (aev t) H = some (v, H')) : OpOk P o a F g H w v H' := by
  have hr := aev_R ht hx
  have key : ∀ (B off : Nat) (cs : List AV) (vs : List Value), a.eval x = .pointer (some ⟨B, off, none⟩) → RL F g w cs vs → (∀ (j : Nat) (v : Value), vs[j]? = some v → w.cell? ⟨B, off + j, none⟩ = some v) → (takeCells ag i.size cs).map (·, H) = some (v, H') → OpOk P o a F g H w v H' := by
    intro B off cs vs hv hrl hcell h
    simp only [Option.map_eq_some_iff, Prod.mk.injEq] at h
    obtain ⟨z, hz, rfl, rfl⟩ := h
    obtain ⟨q1, q2, q3⟩ := takeCells_R hz hrl
    obtain ⟨l1, l2⟩ := run_loadVar h1 h2 hcell
    rw [RL_len hrl] at q1
    cases ag with
    | true =>
      refine OpOk.pure hs (u := .agg (vs.take i.size).toArray) ?_ (q2 rfl)
      simp only [execOp, ho, Instr.loadAt, hv, Instr.sureAddr, Sem.run_bind, Sem.run_pure, Result.andThen_ok, l1 rfl q1]
    | false =>
      obtain ⟨u, r, e1, e2⟩ := q3 rfl
      refine OpOk.pure hs (u := u) ?_ e2
      simp only [execOp, ho, Instr.loadAt, hv, Instr.sureAddr, Sem.run_bind, Sem.run_pure, Result.andThen_ok, l2 rfl u r e1]
  simp only [astep] at he
  split at he
  · rename_i b off hb
    rw [hb] at hr
    obtain ⟨B, q1, q2, q3⟩ := R_ptr hr
    split at he
    · rename_i cs hcs
      obtain ⟨B', vs, e, p1, p2, p3, p4, p5⟩ := hs.var b cs hcs
      rw [q1] at p1; cases p1
      refine key B off (cs.drop off) (vs.toList.drop off) q3 (RL_drop p4 off) (fun j u hj => ?_) he
      simp only [World.cell?, p3, Option.isSome_none, Bool.false_eq_true, if_false]
      rw [List.getElem?_drop] at hj
      simpa using hj
    · rename_i e cs hcs
      obtain ⟨B', vs, p1, p2, p3, p4, p5⟩ := hs.tvar b e cs hcs
      rw [q1] at p1; cases p1
      refine key B off (cs.drop off) (vs.toList.drop off) q3 (RL_drop p4 off) (fun j u hj => ?_) he
      simp only [World.cell?, p3, Option.isSome_none, Bool.false_eq_true, if_false]
      rw [List.getElem?_drop] at hj
      simpa using hj
    · cases he
  · rename_i cs hb
    rw [hb] at hr
    obtain ⟨B, off, q1, q2⟩ := R_eptr hr
    obtain ⟨vs, _, p2, p3⟩ := RM_list q2
    exact key B off cs vs q1 p2 (fun j u hj => (p3 j u hj).1) he
  · cases he

theorem ok_faddr {s : TypeId} {x : Operand} {f : Nat} {y : AR} {fs : Array Field} {fd : Field} {i : TypeInfo} (ho : o.op = .fieldAddr s x f) (h1 : P.underlying s = some (.struct fs)) (h2 : fs[f]? = some fd) (h3 : P.info? fd.type = some i) (h4 : 0 < i.size)
    (hx : cvX x = some y) (he : astep (.faddr fd.offset y) (aev t) H = some (v, H')) : OpOk P o a F g H w v H' := by
  have hr := aev_R ht hx
  have run : ∀ B off, a.eval x = .pointer (some ⟨B, off, none⟩) → (execOp a.eval o).run P w = .ok (.value (.pointer (some ⟨B, off + fd.offset, none⟩))) w := by
    intro B off hv
    simp only [execOp, ho, Instr.fieldAt, hv, Instr.sureAddr, fieldPlace, Sem.run_bind, Sem.run_pure, Result.andThen_ok, run_underlying h1, h2, run_sizeOf h3, if_neg (Nat.ne_of_gt h4), add_plain]
  simp only [astep] at he
  split at he
  · rename_i b off hb
    rw [hb] at hr
    obtain ⟨B, q1, q2, q3⟩ := R_ptr hr
    simp only [Option.some.injEq, Prod.mk.injEq] at he
    obtain ⟨rfl, rfl⟩ := he
    refine OpOk.pure hs (run B off q3) ?_
    simp only [R]; exact ⟨B, q1, q2, rfl⟩
  · rename_i cs hb
    rw [hb] at hr
    obtain ⟨B, off, q1, q2⟩ := R_eptr hr
    simp only [Option.some.injEq, Prod.mk.injEq] at he
    obtain ⟨rfl, rfl⟩ := he
    refine OpOk.pure hs (run B off q1) ?_
    simp only [R]; exact ⟨B, _, rfl, RM_drop q2 _⟩
  · cases he

theorem ok_iaddr {ty : TypeId} {x ix : Operand} {y z : AR} {e : TypeId} {i : TypeInfo} (ho : o.op = .indexAddr ty x ix) (h1 : P.underlying ty = some (.slice e)) (h2 : P.info? e = some i) (_h3 : 0 < i.size)
    (hx : cvX x = some y) (hi : cvX ix = some z) (he : astep (.iaddr i.size y z) (aev t) H = some (v, H')) : OpOk P o a F g H w v H' := by
  have hr := aev_R ht hx
  have hn := aev_R ht hi
  simp only [astep] at he
  split at he
  · rename_i tok els k n q1 q2
    rw [q1] at hr; rw [q2] at hn
    obtain ⟨hn1, _⟩ := R_int hn
    split at he
    · rename_i hpos
      split at he
      · rename_i row hrow
        split at he
        · rename_i hlen
          simp only [Option.some.injEq, Prod.mk.injEq] at he
          obtain ⟨rfl, rfl⟩ := he
          obtain ⟨_, ⟨rfl, _⟩ | ⟨B, off, sp, cap, k', r1, r2, ⟨r3, rfl | rfl⟩, r4, r5⟩⟩ := R_sl hr
          · simp at hrow
          · simp at hrow
          · obtain ⟨s1, s2⟩ := RE_get r4 _ _ hrow
            have hlt : n.toNat < els.length := (List.getElem?_eq_some_iff.1 hrow).1
            refine OpOk.pure hs (u := .pointer (some ⟨B, off + n.toNat * i.size, none⟩)) ?_ ?_
            · simp only [execOp, ho, Instr.indexAt, hn1, r1, asIntOf, Sem.run_bind, Sem.run_pure, Result.andThen_ok, run_underlying h1]
              have : 0 ≤ n ∧ n < (els.length : Int) := ⟨hpos, by omega⟩
              simp only [this, and_self, if_true, Sem.run_bind, run_sizeOf h2, Result.andThen_ok, Sem.run_pure, add_plain]
            · simp only [R]; exact ⟨B, _, rfl, by rw [← hlen, s1]; exact s2⟩
        · cases he
      · cases he
    · cases he
  · cases he

theorem ok_sidx {ty : TypeId} {x ix : Operand} {y z : AR} (ho : o.op = .index ty x ix) (h1 : P.underlying ty = some .string)
    (hx : cvX x = some y) (hi : cvX ix = some z) (he : astep (.sidx y z) (aev t) H = some (v, H')) : OpOk P o a F g H w v H' := by
  have hr := aev_R ht hx
  have hn := aev_R ht hi
  simp only [astep] at he
  split at he
  · rename_i s k n q1 q2
    rw [q1] at hr; rw [q2] at hn
    obtain ⟨hn1, _⟩ := R_int hn
    obtain ⟨hs1, _⟩ := R_str hr
    split at he
    · rename_i hpos
      split at he
      · rename_i c hc
        simp only [Option.some.injEq, Prod.mk.injEq] at he
        obtain ⟨rfl, rfl⟩ := he
        refine OpOk.pure hs (u := .int .u8 c.toNat) ?_ ?_
        · simp only [execOp, ho, Instr.index, hn1, hs1, asIntOf, Sem.run_bind, Sem.run_pure, Result.andThen_ok, run_underlying h1]
          have hlt := (List.getElem?_eq_some_iff.1 hc).1
          have : (⟨s.toArray⟩ : ByteArray)[n.toNat]? = some c := by
            rw [getElem?_pos _ _ (by show _ < ByteArray.size _; simpa [ByteArray.size] using hlt)]
            congr 1
            have := (List.getElem?_eq_some_iff.1 hc).2
            simpa [ByteArray.getElem_eq_getElem_data] using this
          simp only [hpos, if_true, this, Sem.run_pure, Result.andThen_ok]
        · simp only [R]; exact ⟨trivial, by
            have := c.toNat_lt
            unfold IntKind.has IntKind.min IntKind.max IntKind.signed IntKind.bits
            simp; omega⟩
      · cases he
    · cases he
  · cases he

theorem ok_extract {x : Operand} {n : Nat} {y : AR} (ho : o.op = .extract x n) (hx : cvX x = some y) (he : astep (.extract y n) (aev t) H = some (v, H')) : OpOk P o a F g H w v H' := by
  have hr := aev_R ht hx
  simp only [astep] at he
  split at he
  · rename_i vs q1
    rw [q1] at hr
    obtain ⟨arr, h1, h2⟩ := R_tup hr
    simp only [Option.map_eq_some_iff, Prod.mk.injEq] at he
    obtain ⟨z, hz, rfl, rfl⟩ := he
    obtain ⟨u, e1, e2⟩ := RL_get h2 n z hz
    refine OpOk.pure hs (u := u) ?_ e2
    have : arr[n]? = some u := by simpa using e1
    simp only [execOp, ho, h1, Instr.extract, this, Sem.run_bind, Sem.run_pure, Result.andThen_ok]
  · cases he

theorem ok_nilck {x : Operand} {y : AR} (ho : o.op = .nilCheck x) (hx : cvX x = some y) (he : astep (.nilck y) (aev t) H = some (v, H')) : OpOk P o a F g H w v H' := by
  have hr := aev_R ht hx
  simp only [astep] at he
  split at he
  · rename_i b off q1
    rw [q1] at hr
    obtain ⟨B, _, _, q3⟩ := R_ptr hr
    simp only [Option.some.injEq, Prod.mk.injEq] at he
    obtain ⟨rfl, rfl⟩ := he
    refine OpOk.pure hs (u := a.eval x) ?_ hr
    simp only [execOp, ho, q3]; rfl
  · rename_i cs q1
    rw [q1] at hr
    obtain ⟨B, off, q3, _⟩ := R_eptr hr
    simp only [Option.some.injEq, Prod.mk.injEq] at he
    obtain ⟨rfl, rfl⟩ := he
    refine OpOk.pure hs (u := a.eval x) ?_ hr
    simp only [execOp, ho, q3]; rfl
  · rename_i f a1 a2 q1
    rw [q1] at hr
    obtain ⟨b1, b2, q3, _⟩ := R_fn hr
    simp only [Option.some.injEq, Prod.mk.injEq] at he
    obtain ⟨rfl, rfl⟩ := he
    refine OpOk.pure hs (u := a.eval x) ?_ hr
    simp only [execOp, ho, q3]; rfl
  · cases he

theorem ok_mkif {ty : TypeId} {x : Operand} {y : AR} {d : TypeDesc} (ho : o.op = .makeInterface ty x) (h1 : P.underlying ty = some d) (h2 : ∀ ms, d ≠ .interface ms) (hx : cvX x = some y) (he : astep (.mkif ty y) (aev t) H = some (v, H')) : OpOk P o a F g H w v H' := by
  simp only [astep, Option.some.injEq, Prod.mk.injEq] at he
  obtain ⟨rfl, rfl⟩ := he
  refine OpOk.pure hs (u := .iface ty (a.eval x)) ?_ (by simp only [R]; exact ⟨_, rfl, aev_R ht hx⟩)
  simp only [execOp, ho, Instr.makeInterface, Sem.run_bind, run_underlying h1, Result.andThen_ok]
  cases d <;> first | (exact absurd rfl (h2 _)) | rfl

theorem ok_mkfn {f : Fn} {first cap : Array Operand} {y z : List AR} (ho : o.op = .makeFunc f first cap) (h1 : cvXs first.toList = some y) (h2 : cvXs cap.toList = some z) (he : astep (.mkfn f y z) (aev t) H = some (v, H')) : OpOk P o a F g H w v H' := by
  simp only [astep, Option.some.injEq, Prod.mk.injEq] at he
  obtain ⟨rfl, rfl⟩ := he
  refine OpOk.pure hs (u := .func f (first.map a.eval) (cap.map a.eval)) (by simp only [execOp, ho, Instr.makeFunc]; rfl) ?_
  simp only [R]; exact ⟨_, _, rfl, by simpa using aev_RL ht h1, by simpa using aev_RL ht h2⟩

theorem ok_convInt {s d : TypeId} {x : Operand} {y : AR} {k k' : IntKind} (ho : o.op = .convert s d x) (h1 : P.underlying s = some (.int k')) (h2 : P.underlying d = some (.int k)) (hx : cvX x = some y) (he : astep (.convInt k y) (aev t) H = some (v, H')) : OpOk P o a F g H w v H' := by
  have hr := aev_R ht hx
  simp only [astep] at he
  split at he
  · rename_i kk n q1
    rw [q1] at hr
    obtain ⟨e1, _⟩ := R_int hr
    simp only [Option.some.injEq, Prod.mk.injEq] at he
    obtain ⟨rfl, rfl⟩ := he
    refine OpOk.pure hs (u := .int k (k.wrap n)) ?_ (by simp only [R]; exact ⟨trivial, wrap_has _ _⟩)
    simp only [execOp, ho, convert, e1, Sem.run_bind, run_underlying h1, run_underlying h2, Result.andThen_ok, Conv.intToInt, Sem.run_pure]
  · cases he
theorem ok_convS {s d : TypeId} {x : Operand} {y : AR} (ho : o.op = .convert s d x) (h1 : P.underlying s = some .string) (h2 : P.underlying d = some .string) (hx : cvX x = some y) (he : astep (.convS y) (aev t) H = some (v, H')) : OpOk P o a F g H w v H' := by
  have hr := aev_R ht hx
  simp only [astep] at he
  split at he
  · rename_i l hl
    simp only [Option.some.injEq, Prod.mk.injEq] at he
    obtain ⟨rfl, rfl⟩ := he
    rw [hl] at hr
    obtain ⟨e1, _⟩ := R_str hr
    refine OpOk.pure hs (u := a.eval x) ?_ hr
    simp only [execOp, ho, convert, e1, Sem.run_bind, run_underlying h1, run_underlying h2, Result.andThen_ok, Sem.run_pure]
  · cases he

theorem ok_len {c : Call} {x : Operand} {y : AR} {ty e : TypeId} {r : List TypeId} (ho : o.op = .call c) (hb : c.callee = .builtin .len) (ha : c.args.toList = [x]) (hty : c.argTypes.toList = ty :: r) (hu : P.underlying ty = some (.slice e))
    (hx : cvX x = some y) (he : astep (.len y) (aev t) H = some (v, H')) : OpOk P o a F g H w v H' := by
  have hr := aev_R ht hx
  simp only [astep] at he
  split at he
  · rename_i tok els q1
    rw [q1] at hr
    simp only [Option.some.injEq, Prod.mk.injEq] at he
    obtain ⟨rfl, rfl⟩ := he
    obtain ⟨b, c', hv⟩ := R_sl_val hr
    refine OpOk.pure hs (u := .int .i64 els.length) (run_builtin ho hb (args := #[a.eval x]) (by simp [arr_one ha]) (run_v _ _ _ ?_)) ?_
    · simp only [Builtin.len_, arr_head hty, hv, List.getElem?_toArray, List.getElem?_cons_zero, Sem.run_bind, run_underlying hu, Result.andThen_ok]
      rfl
    · simp only [R]; exact ⟨trivial, len_has (R_sl hr).1⟩
  · cases he
theorem ok_slen {c : Call} {x : Operand} {y : AR} {ty : TypeId} {r : List TypeId} (ho : o.op = .call c) (hb : c.callee = .builtin .len) (ha : c.args.toList = [x]) (hty : c.argTypes.toList = ty :: r) (hu : P.underlying ty = some .string)
    (hx : cvX x = some y) (he : astep (.slen y) (aev t) H = some (v, H')) : OpOk P o a F g H w v H' := by
  have hr := aev_R ht hx
  simp only [astep] at he
  split at he
  · rename_i s q1
    rw [q1] at hr
    simp only [Option.some.injEq, Prod.mk.injEq] at he
    obtain ⟨rfl, rfl⟩ := he
    obtain ⟨hv, hl⟩ := R_str hr
    refine OpOk.pure hs (u := .int .i64 s.length) (run_builtin ho hb (args := #[a.eval x]) (by simp [arr_one ha]) (run_v _ _ _ ?_)) ?_
    · simp only [Builtin.len_, arr_head hty, hv, List.getElem?_toArray, List.getElem?_cons_zero, Sem.run_bind, run_underlying hu, Result.andThen_ok]
      rfl
    · simp only [R]; exact ⟨trivial, len_has hl⟩
  · cases he

theorem ok_un {op : UnOp} {ty : TypeId} {x : Operand} {y : AR} (ho : o.op = .unOp op ty x) (hx : cvX x = some y) (he : astep (.un op y) (aev t) H = some (v, H')) : OpOk P o a F g H w v H' := by
  have hr := aev_R ht hx
  simp only [astep] at he
  split at he
  · rename_i b q1
    rw [q1] at hr
    simp only [Option.some.injEq, Prod.mk.injEq] at he
    obtain ⟨rfl, rfl⟩ := he
    refine OpOk.pure hs (u := .bool (!b)) ?_ (by simp [R])
    simp only [execOp, ho, R_bool hr, Op.unary]; rfl
  · rename_i k n q1
    rw [q1] at hr
    simp only [Option.some.injEq, Prod.mk.injEq] at he
    obtain ⟨rfl, rfl⟩ := he
    refine OpOk.pure hs (u := .int k (k.wrap (0 - n))) ?_ (by simp only [R]; exact ⟨trivial, wrap_has _ _⟩)
    simp only [execOp, ho, (R_int hr).1, Op.unary, Op.intArith]; rfl
  · cases he

theorem ok_binB {op : BinOp} {ty yt : TypeId} {x x' : Operand} {y y' : AR} (ho : o.op = .binOp op ty x x' yt) (hop : op = .eql ∨ op = .neq) (hb : P.underlying ty = some .bool) (hx : cvX x = some y) (hx' : cvX x' = some y')
    (he : astep (.binB (op = .neq) y y') (aev t) H = some (v, H')) : OpOk P o a F g H w v H' := by
  have hr := aev_R ht hx
  have hr' := aev_R ht hx'
  simp only [astep] at he
  split at he
  · rename_i b b' q1 q2
    rw [q1] at hr; rw [q2] at hr'
    simp only [Option.some.injEq, Prod.mk.injEq] at he
    obtain ⟨rfl, rfl⟩ := he
    refine OpOk.pure hs (u := .bool ((b == b') != decide (op = .neq))) ?_ (by simp [R])
    rcases hop with rfl | rfl
    · simp only [execOp, ho, R_bool hr, R_bool hr', eqGuard, binOp]
      simp [run_equal_bool hb]
    · simp only [execOp, ho, R_bool hr, R_bool hr', eqGuard, binOp]
      simp [run_equal_bool hb]
  · cases he

theorem ok_binNil {op : BinOp} {ty yt : TypeId} {x x' : Operand} {y : AR} {c : NK} (ho : o.op = .binOp op ty x x' yt) (hop : op = .eql ∨ op = .neq) (hn : nilClass P ty x' = some c) (hx : cvX x = some y)
    (he : astep (.binNil c (op = .neq) y) (aev t) H = some (v, H')) : OpOk P o a F g H w v H' := by
  have hr := aev_R ht hx
  simp only [astep, Option.map_eq_some_iff, Prod.mk.injEq] at he
  obtain ⟨b, hbn, rfl, rfl⟩ := he
  have heq := run_equalIn_nil hn hr hbn 9999 a
  have heq' : (Op.equal ty (a.eval x) (a.eval x')).run P w = .ok b w := heq
  refine OpOk.pure hs (u := .bool (b != decide (op = .neq))) ?_ (by simp [R])
  obtain ⟨n, rfl, hnc⟩ := nilClass_const hn
  simp only [execOp, ho, Sem.run_bind, run_eqGuard_nil hop hnc, Result.andThen_ok]
  have hn1 : a.eval (.const n) = n := rfl
  rw [hn1] at heq' ⊢
  rcases hop with rfl | rfl
  · rw [binOp_eql_nil hnc]
    simp [heq']
  · rw [binOp_neq_nil hnc]
    simp [heq']
end
end Go.Proofs.YtblbepjnkehoaaaGreatDoor
/- The abstract operations are sound, fifth part: arithmetic, slicing, least and greatest, building. -/
namespace Go.Proofs.YtblbepjnkehoaaaGreatDoor
open Go

section
variable {F : Addr → Prop} {g : Gh} {w : World} {P : Program}

theorem bytes_size (l : List UInt8) : (⟨l.toArray⟩ : ByteArray).size = l.length := rfl
theorem bytes_loop (b : ByteArray) : ∀ (n i : Nat) (r : List UInt8), b.size - i = n → ByteArray.toList.loop b i r = r.reverse ++ b.data.toList.drop i := by
  have hs : b.data.toList.length = b.size := by rw [Array.length_toList]; rfl
  intro n
  induction n with
  | zero =>
    intro i r h
    rw [ByteArray.toList.loop, if_neg (by omega), List.drop_eq_nil_of_le (by omega), List.append_nil]
  | succ n ih =>
    intro i r h
    have hi : i < b.size := by omega
    rw [ByteArray.toList.loop, if_pos hi, ih (i + 1) _ (by omega)]
    have hi' : i < b.data.size := hi
    have hg : b.get! i = b.data.toList[i]'(by omega) := by
      show b.data[i]! = _
      rw [getElem!_pos b.data i hi', Array.getElem_toList]
    rw [List.drop_eq_getElem_cons (show i < b.data.toList.length by omega), hg, List.reverse_cons, List.append_assoc]
    rfl
theorem bytes_list (l : List UInt8) : (⟨l.toArray⟩ : ByteArray).toList = l := by
  have := bytes_loop ⟨l.toArray⟩ _ 0 [] rfl
  unfold ByteArray.toList
  rw [this]; rfl

theorem has_of_tmod {k : IntKind} {a b : Int} (ha : k.has a) : k.has (a.tmod b) := by
  have h1 : (a.tmod b).natAbs ≤ a.natAbs := by
    rw [Int.natAbs_tmod]; exact Nat.mod_le _ _
  have h2 : 0 ≤ a → 0 ≤ a.tmod b := fun h => Int.tmod_nonneg b h
  have h3 : a ≤ 0 → a.tmod b ≤ 0 := by
    intro h
    have := Int.tmod_nonneg b (a := -a) (by omega)
    rw [Int.neg_tmod] at this; omega
  unfold IntKind.has at *
  have hk : k.min ≤ 0 ∧ 0 ≤ k.max := by cases k <;> decide
  rcases Int.le_total 0 a with h | h
  · have := h2 h; omega
  · have := h3 h; omega
theorem has_of_shr {k : IntKind} {a : Int} (ha : k.has a) (n : Nat) : k.has (a.fdiv (2 ^ n)) := by
  have hp : (0 : Int) < 2 ^ n := Int.pow_pos (by decide)
  rw [Int.fdiv_eq_ediv_of_nonneg _ (Int.le_of_lt hp)]
  unfold IntKind.has at *
  have hk : k.min ≤ 0 ∧ 0 ≤ k.max := by cases k <;> decide
  rcases Int.le_total 0 a with h | h
  · have h1 := Int.ediv_nonneg h (Int.le_of_lt hp)
    have h2 := Int.ediv_le_self (2 ^ n) h
    omega
  · have h1 : a ≤ a / 2 ^ n := by
      rw [Int.le_ediv_iff_mul_le hp]
      have : a * 2 ^ n ≤ a * 1 := Int.mul_le_mul_of_nonpos_left h (by omega)
      omega
    have h2 : a / 2 ^ n ≤ 0 := by
      have := Int.mul_ediv_self_le (x := a) (k := 2 ^ n) (by omega)
      rcases Int.lt_or_le 0 (a / 2 ^ n) with hq | hq
      · have := Int.mul_pos hp hq; omega
      · exact hq
    omega

theorem run_eqGuard_plain {op : BinOp} {ty : TypeId} {x y : Operand} {u v : Value} (h1 : (∃ k n, u = .int k n) ∨ ∃ s, u = .string s) : (eqGuard op ty x y u v).run P w = .ok () w := by
  rcases h1 with ⟨k, n, rfl⟩ | ⟨s, rfl⟩ <;> (unfold eqGuard; cases op <;> cases v <;> simp)

theorem run_intBin {op : BinOp} {ty : TypeId} {k : IntKind} {a b : Int} {v : AV} (ha : k.has a) (h : intBin op k a b = some v) : ∃ u, (binOp op ty (.int k a) (.int k b)).run P w = .ok u w ∧ R F g w v u := by
  cases op <;> simp only [intBin, Option.some.injEq] at h <;> try (cases h; done)
  case quo =>
    split at h
    · cases h
    · rename_i hb
      simp only [Option.some.injEq] at h; subst h
      exact ⟨.int k (k.wrap (a.tdiv b)), by simp [binOp, Op.intDiv, hb], by simp only [R]; exact ⟨trivial, wrap_has _ _⟩⟩
  case rem =>
    split at h
    · cases h
    · rename_i hb
      simp only [Option.some.injEq] at h; subst h
      exact ⟨.int k (a.tmod b), by simp [binOp, Op.intDiv, hb], by simp only [R]; exact ⟨trivial, has_of_tmod ha⟩⟩
  all_goals subst h
  all_goals first
    | exact ⟨.int k (k.wrap _), by simp only [binOp, ne_eq, not_true_eq_false, if_false]; rfl, by simp only [R]; exact ⟨trivial, wrap_has _ _⟩⟩
    | exact ⟨.bool _, by simp only [binOp, ne_eq, not_true_eq_false, if_false]; rfl, by simp only [R]⟩
theorem run_strBin {op : BinOp} {ty : TypeId} {a b : List UInt8} {v : AV} (h : strBin op a b = some v) : ∃ u, (binOp op ty (.string ⟨a.toArray⟩) (.string ⟨b.toArray⟩)).run P w = .ok u w ∧ R F g w v u := by
  cases op <;> simp only [strBin, Option.some.injEq] at h <;> try (cases h; done)
  case add =>
    split at h
    · rename_i hl
      simp only [Option.some.injEq] at h; subst h
      refine ⟨.string ⟨(a ++ b).toArray⟩, ?_, by simp only [R]; exact ⟨trivial, by simpa using hl⟩⟩
      have h1 : ¬ (((⟨a.toArray⟩ : ByteArray).size + (⟨b.toArray⟩ : ByteArray).size : Nat) : Int) > IntKind.i64.max := by
        rw [bytes_size, bytes_size]; unfold maxL at hl; unfold IntKind.max IntKind.signed IntKind.bits; simp; omega
      simp only [binOp, Op.stringOp, if_neg h1]
      congr 1
    · cases h
  all_goals subst h
  all_goals exact ⟨.bool _, by simp only [binOp, Op.stringOp, bytes_list]; rfl, by simp only [R]⟩

section
variable {H H' : List HB} {t : List AV} {a : Act} {o : Oper} {v : AV} (hs : St F g H w) (ht : Tm F g w t a)
include hs ht
theorem ok_bin {op : BinOp} {ty yt : TypeId} {x x' : Operand} {y y' : AR} (ho : o.op = .binOp op ty x x' yt) (hx : cvX x = some y) (hx' : cvX x' = some y') (he : astep (.bin op y y') (aev t) H = some (v, H')) : OpOk P o a F g H w v H' := by
  have hr := aev_R ht hx
  have hr' := aev_R ht hx'
  simp only [astep, Option.map_eq_some_iff, Prod.mk.injEq] at he
  obtain ⟨z, hz, rfl, rfl⟩ := he
  unfold abin at hz
  split at hz
  · rename_i k n k' n' q1 q2
    rw [q1] at hr; rw [q2] at hr'
    obtain ⟨e1, b1⟩ := R_int hr
    obtain ⟨e2, b2⟩ := R_int hr'
    have key : ∃ u, (binOp op ty (.int k n) (.int k' n')).run P w = .ok u w ∧ R F g w z u := by
      split at hz
      · split at hz
        · rename_i hn
          simp only [Option.some.injEq] at hz; subst hz
          have : ¬ n' < 0 := by omega
          exact ⟨_, by simp only [binOp, Op.shift, if_neg this]; rfl, by simp only [R]; exact ⟨trivial, wrap_has _ _⟩⟩
        · cases hz
      · split at hz
        · rename_i hn
          simp only [Option.some.injEq] at hz; subst hz
          have : ¬ n' < 0 := by omega
          exact ⟨_, by simp only [binOp, Op.shift, if_neg this]; rfl, by simp only [R]; exact ⟨trivial, has_of_shr b1 _⟩⟩
        · cases hz
      · split at hz
        · rename_i hk
          subst hk
          exact run_intBin b1 hz
        · cases hz
    obtain ⟨u, h1, h2⟩ := key
    refine OpOk.pure hs (u := u) ?_ h2
    simp only [execOp, ho, Sem.run_bind, e1, e2, run_eqGuard_plain (.inl ⟨k, n, rfl⟩), Result.andThen_ok, h1, Sem.run_pure]
  · rename_i s s' q1 q2
    rw [q1] at hr; rw [q2] at hr'
    obtain ⟨e1, b1⟩ := R_str hr
    obtain ⟨e2, b2⟩ := R_str hr'
    obtain ⟨u, h1, h2⟩ := run_strBin (F := F) (g := g) (w := w) (P := P) (ty := ty) hz
    refine OpOk.pure hs (u := u) ?_ h2
    simp only [execOp, ho, Sem.run_bind, e1, e2, run_eqGuard_plain (.inr ⟨_, rfl⟩), Result.andThen_ok, h1, Sem.run_pure]
  · cases hz
end
end
end Go.Proofs.YtblbepjnkehoaaaGreatDoor
/- The abstract operations are sound, sixth part: slicing, least and greatest, building. -/
namespace Go.Proofs.YtblbepjnkehoaaaGreatDoor
open Go

section
variable {F : Addr → Prop} {g : Gh} {w : World} {P : Program}

theorem run_sliceBound {k : IntKind} {n : Int} {y : Nat} {c : BoundsCode} : 0 ≤ n → n ≤ y → (Instr.sliceBound (.int k n) y c).run P w = .ok n.toNat w := by
  intro h1 h2
  simp only [Instr.sliceBound, asIntOf, Sem.run_bind, Sem.run_pure, Result.andThen_ok, if_pos (And.intro h1 h2)]

/-- Optional operands. -/
def RO (F : Addr → Prop) (g : Gh) (w : World) : Option AV → Option Value → Prop
  | none, none => True
  | some x, some v => R F g w x v
  | _, _ => False
theorem aev_RO {t : List AV} {a : Act} (h : Tm F g w t a) {o : Option Operand} {x : Option AR} (hc : cvO o = some x) : RO F g w (x.map (aev t)) (o.map a.eval) := by
  cases o with
  | none => simp only [cvO, Option.some.injEq] at hc; subst hc; trivial
  | some o =>
    simp only [cvO, Option.map_eq_some_iff] at hc
    obtain ⟨y, hy, rfl⟩ := hc
    exact aev_R h hy
theorem optInt_R {d : Int} {x : Option AV} {v : Option Value} (h : RO F g w x v) {n : Int} (hn : optInt d x = some n) : (v = none ∧ x = none ∧ n = d) ∨ ∃ k, v = some (.int k n) := by
  cases x with
  | none =>
    cases v with
    | none => simp only [optInt, Option.some.injEq] at hn; exact .inl ⟨rfl, rfl, hn.symm⟩
    | some _ => exact h.elim
  | some x =>
    cases v with
    | none => exact h.elim
    | some v =>
      cases x <;> simp only [optInt, Option.some.injEq] at hn <;> try (cases hn; done)
      subst hn
      have h' : R F g w (.int _ _) v := h
      exact .inr ⟨_, by rw [(R_int h').1]⟩

theorem run_sliceBounds2 {b : Bool} {len cap : Nat} {lo hi : Option AV} {lv hv : Option Value} (hl : RO F g w lo lv) (hh : RO F g w hi hv) {l h : Int} (e1 : optInt 0 lo = some l) (e2 : optInt len hi = some h)
    (b1 : 0 ≤ l) (b2 : l ≤ h) (b3 : h ≤ len) (b4 : len ≤ cap) : (Instr.sliceBounds b len cap lv hv none).run P w = .ok (l.toNat, h.toNat, cap) w := by
  rcases optInt_R hl e1 with ⟨rfl, _, rfl⟩ | ⟨k, rfl⟩ <;> rcases optInt_R hh e2 with ⟨rfl, _, rfl⟩ | ⟨k', rfl⟩ <;>
    simp only [Instr.sliceBounds, Sem.run_bind, Sem.run_pure, Result.andThen_ok]
  · simp
  · rw [run_sliceBound (by omega) (by omega)]; simp
  · rw [run_sliceBound (by omega) (by omega)]; simp
  · rw [run_sliceBound (by omega) (by omega)]
    simp only [Result.andThen_ok]
    rw [run_sliceBound (by omega) (by omega)]; simp
theorem run_sliceBounds3 {b : Bool} {len cap : Nat} {lo hi : Option AV} {lv hv : Option Value} (hl : RO F g w lo lv) (hh : RO F g w hi hv) {l h m : Int} {km : IntKind} (e1 : optInt 0 lo = some l) (e2 : optInt len hi = some h) (e3 : hi.isSome = true)
    (b1 : 0 ≤ l) (b2 : l ≤ h) (b3 : h ≤ m) (b4 : m ≤ cap) : (Instr.sliceBounds b len cap lv hv (some (.int km m))).run P w = .ok (l.toNat, h.toNat, m.toNat) w := by
  rcases optInt_R hh e2 with ⟨_, rfl, _⟩ | ⟨k', rfl⟩
  · simp at e3
  · rcases optInt_R hl e1 with ⟨rfl, _, rfl⟩ | ⟨k, rfl⟩ <;> simp only [Instr.sliceBounds, Sem.run_bind]
    · rw [run_sliceBound (by omega) (by omega)]
      simp only [Result.andThen_ok]
      rw [run_sliceBound (by omega) (by omega)]; simp
    · rw [run_sliceBound (by omega) (by omega)]
      simp only [Result.andThen_ok]
      rw [run_sliceBound (by omega) (by omega)]
      simp only [Result.andThen_ok]
      rw [run_sliceBound (by omega) (by omega)]; simp

theorem headK_eq {els : List (List AV)} {B off k k' : Nat} (h : RE F g w B off k els) (hk : headK k' els = true) : els = [] ∨ k = k' := by
  cases els with
  | nil => exact .inl rfl
  | cons r rs =>
    simp only [RE] at h
    simp only [headK, beq_iff_eq] at hk
    exact .inr (h.1.symm.trans hk)

/-- A part of a slice. -/
theorem R_sub {tok : Tok} {els : List (List AV)} {v : Value} (hr : R F g w (.sl tok els) v) {size : Nat} (hk : headK size els = true) {l h : Nat} (hl : l ≤ h) (hh : h ≤ els.length) (mo : Option Nat) (hm : ∀ m, mo = some m → h ≤ m ∧ m ≤ els.length) :
    ∃ b c, v = .slice b els.length c ∧ els.length ≤ c ∧
      R F g w (.sl (sliceTok tok els.length l h mo) ((els.take h).drop l)) (.slice (if mo.getD c = l then b else b.map (·.add (l * size))) (h - l) (mo.getD c - l)) := by
  obtain ⟨r0, ⟨rfl, rfl, r1, r2⟩ | ⟨B, off, sp, cap, k, rfl, c1, c2, c3, c4⟩⟩ := R_sl hr
  · simp only [List.length_nil] at hh hm
    have hl0 : l = 0 := by omega
    have hh0 : h = 0 := by omega
    subst hl0; subst hh0
    refine ⟨none, 0, by simp, by simp, ?_⟩
    have hmo : mo.getD 0 = 0 := by
      cases mo with
      | none => rfl
      | some m => have := hm m rfl; simp; omega
    simp only [R, List.take_nil, List.drop_nil, List.length_nil, hmo, Nat.sub_self]
    refine ⟨Nat.zero_le _, .inl ⟨trivial, by simp, fun t => ?_, ?_⟩⟩
    · cases mo with
      | none => simp only [sliceTok, and_self, if_true]; exact r1 t
      | some m => simp only [sliceTok]; split <;> simp
    · cases mo with
      | none => simp only [sliceTok, and_self, if_true]; exact r2
      | some m => simp only [sliceTok]; split <;> simp
  · refine ⟨some ⟨B, off, sp⟩, cap, rfl, c1, ?_⟩
    have hlen : ((els.take h).drop l).length = h - l := by simp; omega
    simp only [R, hlen]
    refine ⟨by omega, .inr ?_⟩
    have hmc : h ≤ mo.getD cap ∧ mo.getD cap ≤ cap := by
      cases mo with
      | none => simp; omega
      | some m => have := hm m rfl; simp; omega
    have hRT : ∀ (a' : Addr), (l = 0 → a' = ⟨B, off, sp⟩) → RT g (h - l) a' (mo.getD cap - l) (sliceTok tok els.length l h mo) := by
      intro a' ha'
      cases mo with
      | some m =>
        simp only [sliceTok]
        split
        · rename_i e; subst e; rfl
        · trivial
      | none =>
        simp only [sliceTok]
        split
        · rename_i e
          obtain ⟨rfl, rfl⟩ := e
          rw [ha' rfl]
          simpa using c4
        · split
          · rename_i e
            obtain ⟨rfl, rfl⟩ := e
            have : cap = els.length := c4
            simp [RT, this]
          · trivial
    by_cases hml : mo.getD cap = l
    · have : h = l := by omega
      subst this
      refine ⟨B, off, sp, _, k, by rw [if_pos hml], by omega, ⟨c2.1, .inl (List.drop_eq_nil_of_le (by rw [List.length_take]; exact Nat.min_le_left _ _))⟩, ?_, hRT _ fun _ => rfl⟩
      rw [List.drop_eq_nil_of_le (by rw [List.length_take]; exact Nat.min_le_left _ _)]; simp [RE]
    rcases c2 with ⟨c2, rfl | rfl⟩
    · have hl0 : l = 0 := by simp at hh; omega
      subst hl0
      refine ⟨B, off, sp, _, k, by rw [if_neg hml, Option.map_some]; simp [Addr.add], by omega, ⟨c2, .inl (by simp)⟩, by simp [RE], hRT _ fun _ => rfl⟩
    · refine ⟨B, off + l * size, none, _, k, by rw [if_neg hml, Option.map_some, add_plain], by omega, ⟨c2, .inr rfl⟩, ?_, hRT _ fun e => by subst e; simp⟩
      rcases headK_eq c3 hk with rfl | rfl
      · simp [RE]
      · exact RE_drop (RE_take c3 h) l

section
variable {H H' : List HB} {t : List AV} {a : Act} {o : Oper} {v : AV} (hs : St F g H w) (ht : Tm F g w t a)
include hs ht
theorem ok_slice {ty e : TypeId} {x : Operand} {lo hi mx : Option Operand} {y : AR} {lo' hi' mx' : Option AR} {i : TypeInfo} (ho : o.op = .slice ty x lo hi mx) (h1 : P.underlying ty = some (.slice e)) (h2 : P.info? e = some i) (hx : cvX x = some y)
    (hlo : cvO lo = some lo') (hhi : cvO hi = some hi') (hmx : cvO mx = some mx') (he : astep (.slice i.size y lo' hi' mx') (aev t) H = some (v, H')) : OpOk P o a F g H w v H' := by
  have hr := aev_R ht hx
  have rl := aev_RO ht hlo
  have rh := aev_RO ht hhi
  have rm := aev_RO ht hmx
  simp only [astep] at he
  split at he
  · rename_i tok els q1
    rw [q1] at hr
    split at he
    · rename_i hk
      simp only [Option.map_eq_some_iff, Prod.mk.injEq] at he
      obtain ⟨z, hz, rfl, rfl⟩ := he
      unfold asl at hz
      split at hz
      · rename_i l h e1 e2 e3
        split at hz
        · rename_i hb
          simp only [Option.some.injEq] at hz; subst hz
          obtain ⟨b, c, e4, e5, e6⟩ := R_sub hr hk (l := l.toNat) (h := h.toNat) (by omega) (by omega) none (by simp)
          refine OpOk.pure hs ?_ e6
          rw [e3] at rm
          have hmx0 : mx.map a.eval = none := by
            cases hm : mx.map a.eval with
            | none => rfl
            | some _ => rw [hm] at rm; exact rm.elim
          simp only [execOp, ho, Instr.sliceAt, Instr.slice, e4, hmx0, Sem.run_bind, run_underlying h1, Result.andThen_ok, run_sliceBounds2 rl rh e1 e2 hb.1 hb.2.1 hb.2.2 e5, run_sizeOf h2, Sem.run_pure, Option.getD_none]
        · cases hz
      · rename_i l h km m e1 e2 e3
        split at hz
        · rename_i hb
          simp only [Option.some.injEq] at hz; subst hz
          obtain ⟨b, c, e4, e5, e6⟩ := R_sub hr hk (l := l.toNat) (h := h.toNat) (by omega) (by omega) (some m.toNat) (by simp; omega)
          refine OpOk.pure hs ?_ e6
          rw [e3] at rm
          have hmx0 : mx.map a.eval = some (.int km m) := by
            cases hm : mx.map a.eval with
            | none => rw [hm] at rm; exact rm.elim
            | some u =>
              rw [hm] at rm
              have rm' : R F g w (.int km m) u := rm
              rw [(R_int rm').1]
          have hbd := run_sliceBounds3 (P := P) (b := true) (len := els.length) (cap := c) (km := km) rl rh e1 e2 hb.1 hb.2.1 hb.2.2.1 hb.2.2.2.1 (by omega)
          simp only [execOp, ho, Instr.sliceAt, Instr.slice, e4, hmx0, Sem.run_bind, run_underlying h1, Result.andThen_ok, hbd, run_sizeOf h2, Sem.run_pure, Option.getD_some]
        · cases hz
      · cases hz
    · cases he
  · cases he

theorem ok_sslice {ty : TypeId} {x : Operand} {lo hi : Option Operand} {y : AR} {lo' hi' : Option AR} (ho : o.op = .slice ty x lo hi none) (h1 : P.underlying ty = some .string) (hx : cvX x = some y)
    (hlo : cvO lo = some lo') (hhi : cvO hi = some hi') (he : astep (.sslice y lo' hi') (aev t) H = some (v, H')) : OpOk P o a F g H w v H' := by
  have hr := aev_R ht hx
  have rl := aev_RO ht hlo
  have rh := aev_RO ht hhi
  simp only [astep] at he
  split at he
  · rename_i s q1
    rw [q1] at hr
    obtain ⟨e4, e5⟩ := R_str hr
    split at he
    · rename_i l h e1 e2
      split at he
      · rename_i hb
        simp only [Option.some.injEq, Prod.mk.injEq] at he
        obtain ⟨rfl, rfl⟩ := he
        refine OpOk.pure hs (u := .string ⟨((s.take h.toNat).drop l.toNat).toArray⟩) ?_ (by simp only [R]; exact ⟨trivial, by simp; omega⟩)
        have hbd := run_sliceBounds2 (P := P) (b := false) (len := s.length) (cap := s.length) rl rh e1 e2 hb.1 hb.2.1 hb.2.2 (Nat.le_refl _)
        simp only [execOp, ho, Instr.sliceAt, Instr.slice, e4, Sem.run_bind, run_underlying h1, Result.andThen_ok, Option.map_none, Option.isSome_none, Bool.false_eq_true, if_false, Sem.run_pure, bytes_size, hbd]
        have hx : (⟨s.toArray⟩ : ByteArray).extract l.toNat h.toNat = ⟨((s.take h.toNat).drop l.toNat).toArray⟩ := by
          apply ByteArray.ext
          rw [ByteArray.data_extract]
          apply Array.ext'
          rw [Array.toList_extract, List.extract_eq_take_drop]
          simp only [List.drop_take]
        rw [hx]
      · cases he
    · cases he
  · cases he
end
end
end Go.Proofs.YtblbepjnkehoaaaGreatDoor
/- The abstract operations are sound, seventh part: least and greatest, building, making and writing variables. -/
namespace Go.Proofs.YtblbepjnkehoaaaGreatDoor
open Go

section
variable {F : Addr → Prop} {g : Gh} {w : World} {P : Program}

theorem minF_R {k : IntKind} : ∀ {xs : List AV} {vs : List Value} {a : Int} {v : AV}, RL F g w xs vs → k.has a → minF k a xs = some v → ∃ n, v = .int k n ∧ k.has n ∧ (vs.foldlM Builtin.min2 (.int k a)).run P w = .ok (.int k n) w
  | [], vs, a, v, h, ha, hm => by
    simp only [RL] at h; subst h
    simp only [minF, Option.some.injEq] at hm; subst hm
    exact ⟨a, rfl, ha, by simp⟩
  | x :: xs, vs, a, v, h, ha, hm => by
    simp only [RL] at h
    obtain ⟨u, r, rfl, h1, h2⟩ := h
    cases x <;> simp only [minF] at hm <;> try (cases hm; done)
    split at hm
    · rename_i hk; subst hk
      obtain ⟨rfl, hb⟩ := R_int h1
      obtain ⟨n, e1, e2, e3⟩ := minF_R h2 (by split; exact hb; exact ha) hm
      exact ⟨n, e1, e2, by simp only [List.foldlM_cons, Sem.run_bind, Builtin.min2, Sem.run_pure, Result.andThen_ok]; exact e3⟩
    · cases hm
theorem maxF_R {k : IntKind} : ∀ {xs : List AV} {vs : List Value} {a : Int} {v : AV}, RL F g w xs vs → k.has a → maxF k a xs = some v → ∃ n, v = .int k n ∧ k.has n ∧ (vs.foldlM Builtin.max2 (.int k a)).run P w = .ok (.int k n) w
  | [], vs, a, v, h, ha, hm => by
    simp only [RL] at h; subst h
    simp only [maxF, Option.some.injEq] at hm; subst hm
    exact ⟨a, rfl, ha, by simp⟩
  | x :: xs, vs, a, v, h, ha, hm => by
    simp only [RL] at h
    obtain ⟨u, r, rfl, h1, h2⟩ := h
    cases x <;> simp only [maxF] at hm <;> try (cases hm; done)
    split at hm
    · rename_i hk; subst hk
      obtain ⟨rfl, hb⟩ := R_int h1
      obtain ⟨n, e1, e2, e3⟩ := maxF_R h2 (by split; exact hb; exact ha) hm
      exact ⟨n, e1, e2, by simp only [List.foldlM_cons, Sem.run_bind, Builtin.max2, Sem.run_pure, Result.andThen_ok]; exact e3⟩
    · cases hm

theorem zero_R {t : TypeId} {z : List AV} (h : zeroCellsOf P t = some z) : ∃ i v, P.info? t = some i ∧ i.zero = some v ∧ ∀ F g w, RL F g w z v.cells.toList := by
  unfold zeroCellsOf at h
  cases h1 : P.info? t with
  | none => rw [h1] at h; cases h
  | some i =>
    rw [h1] at h
    cases h2 : i.zero with
    | none => simp only [h2] at h; cases h
    | some v => simp only [h2] at h; exact ⟨i, v, rfl, h2, fun _ _ _ => toAVs_R h⟩
theorem run_zero {t : TypeId} {i : TypeInfo} {v : Value} (h : P.info? t = some i) (hz : i.zero = some v) : (zeroValue t).run P w = .ok v w := by
  simp only [zeroValue, Sem.run_bind, run_typeInfo h, Result.andThen_ok, hz]; rfl

theorem foldl_set : ∀ (us : List Value) (k off : Nat) (cs : Array Value), off + k + us.length ≤ cs.size →
    ((us.zipIdx k).foldl (fun (cs : Array Value) (p : Value × Nat) => cs.setIfInBounds (off + p.2) p.1) cs).toList = vsplice cs.toList (off + k) us
  | [], k, off, cs, _ => by simp [vsplice]
  | u :: us, k, off, cs, h => by
    simp only [List.length_cons] at h
    rw [List.zipIdx_cons, List.foldl_cons, foldl_set us (k + 1) off _ (by simp; omega)]
    simp only [vsplice, Array.toList_setIfInBounds]
    rw [show off + (k + 1) = off + k + 1 by omega, List.take_succ_eq_append_getElem (by simp; omega)]
    simp only [List.length_cons, List.append_assoc, List.getElem_set_self]
    rw [List.take_set_of_le (Nat.le_refl _), List.drop_set_of_lt (by omega)]
    simp only [List.singleton_append]
    congr 3
    congr 1
    omega
theorem fill_step (cells : Array Value) (v : Value) (off : Nat) (h : off + v.cells.size ≤ cells.size) :
    (v.cells.zipIdx.foldl (fun (cs : Array Value) (c, j) => cs.setIfInBounds (off + j) c) cells).toList = vsplice cells.toList off v.cells.toList := by
  rw [← Array.foldl_toList, Array.toList_zipIdx]
  have := foldl_set v.cells.toList 0 off cells (by simpa using h)
  simpa using this

theorem fillA_R {place : Nat → Option (Nat × Nat)} : ∀ {ps : List (Nat × Nat × AV)} {vs : List (Nat × Value)} {cs : List AV} {cv : Array Value} {r : List AV}, RL F g w cs cv.toList → fillA cs ps = some r →
    ps.length = vs.length → (∀ (j : Nat) p q, ps[j]? = some p → vs[j]? = some q → place q.1 = some (p.1, p.2.1) ∧ R F g w p.2.2 q.2) → ∃ rv, Instr.fill place cv vs = some rv ∧ RL F g w r rv.toList
  | [], vs, cs, cv, r, h, hf, hl, _ => by
    simp only [fillA, Option.some.injEq] at hf; subst hf
    have : vs = [] := by cases vs with | nil => rfl | cons _ _ => simp at hl
    subst this
    exact ⟨cv, rfl, h⟩
  | p :: ps, vs, cs, cv, r, h, hf, hl, hp => by
    cases vs with
    | nil => simp at hl
    | cons q vs =>
      obtain ⟨off, size, x⟩ := p
      obtain ⟨i, v⟩ := q
      obtain ⟨h1, h2⟩ := hp 0 _ _ rfl rfl
      simp only [fillA] at hf
      split at hf
      · rename_i hc
        have hcl := cells_R h2
        have hlen := RL_len hcl
        have hcs := RL_len h
        simp only [Array.length_toList] at hlen hcs
        have hfit : off + v.cells.size ≤ cv.size := by omega
        obtain ⟨rv, e1, e2⟩ := fillA_R (place := place) (vs := vs) (cv := v.cells.zipIdx.foldl (fun (cs : Array Value) (c, j) => cs.setIfInBounds (off + j) c) cv) (by rw [fill_step cv v off hfit]; exact RL_splice h hcl off) hf (by simpa using hl) (fun j a b ha hb => hp (j + 1) a b (by simpa using ha) (by simpa using hb))
        refine ⟨rv, ?_, e2⟩
        simp only at h1
        simp only [Instr.fill, h1]
        have : (decide (v.cells.size ≠ size) || decide (off + v.cells.size > cv.size)) = false := by simp; omega
        simp only [this, Bool.false_eq_true, if_false]
        exact e1
      · cases hf

theorem fieldParts_spec {fs : Array Field} : ∀ {parts : List (Nat × Operand)} {ps : List (Nat × Nat × AR)}, fieldParts P fs parts = some ps → ps.length = parts.length ∧
    ∀ (j : Nat) q, parts[j]? = some q → ∃ f i y, fs[q.1]? = some f ∧ P.info? f.type = some i ∧ cvX q.2 = some y ∧ ps[j]? = some (f.offset, i.size, y)
  | [], ps, h => by simp only [fieldParts, Option.some.injEq] at h; subst h; simp
  | (i, x) :: r, ps, h => by
    simp only [fieldParts] at h
    split at h
    · rename_i f y ys h1 h2 h3
      split at h
      · rename_i inf hi
        simp only [Option.some.injEq] at h; subst h
        obtain ⟨e1, e2⟩ := fieldParts_spec h3
        refine ⟨by simp [e1], fun j q hq => ?_⟩
        cases j with
        | zero => simp at hq; subst hq; exact ⟨f, inf, y, h1, hi, h2, rfl⟩
        | succ j => simp at hq; simpa using e2 j q hq
      · cases h
    · cases h

theorem run_places {fs : List Field} (h : ∀ f ∈ fs, (P.info? f.type).isSome = true) : ∃ ps : List (Nat × Nat), (fs.mapM fun f => (do pure (f.offset, ← sizeOf f.type) : Sem (Nat × Nat))).run P w = .ok ps w ∧
    ∀ (i : Nat) f inf, fs[i]? = some f → P.info? f.type = some inf → ps[i]? = some (f.offset, inf.size) := by
  induction fs with
  | nil => exact ⟨[], by simp, by simp⟩
  | cons f fs ih =>
    obtain ⟨ps, e1, e2⟩ := ih fun x hx => h x (by simp [hx])
    have hf := h f (by simp)
    cases hi : P.info? f.type with
    | none => rw [hi] at hf; cases hf
    | some inf =>
      refine ⟨(f.offset, inf.size) :: ps, ?_, fun i f' inf' h1 h2 => ?_⟩
      · simp only [List.mapM_cons, Sem.run_bind, run_sizeOf hi, Result.andThen_ok, Sem.run_pure, e1]
      · cases i with
        | zero => simp at h1; subst h1; rw [hi] at h2; cases h2; rfl
        | succ i => simp at h1; simpa using e2 i f' inf' h1 h2

section
variable {H H' : List HB} {t : List AV} {a : Act} {o : Oper} {v : AV} (hs : St F g H w) (ht : Tm F g w t a)
include hs ht
theorem ok_min {c : Call} {ys : List AR} (ho : o.op = .call c) (hb : c.callee = .builtin .min) (hx : cvXs c.args.toList = some ys) (he : astep (.min ys) (aev t) H = some (v, H')) : OpOk P o a F g H w v H' := by
  have hr := aev_RL ht hx
  simp only [astep, Option.map_eq_some_iff, Prod.mk.injEq] at he
  obtain ⟨z, hz, rfl, rfl⟩ := he
  generalize ys.map (aev t) = xs at hr hz
  cases xs with
  | nil => simp [minA] at hz
  | cons x xs =>
    simp only [RL] at hr
    obtain ⟨u, r, hu, h1, h2⟩ := hr
    cases x <;> simp only [minA] at hz <;> try (cases hz; done)
    obtain ⟨rfl, hb'⟩ := R_int h1
    obtain ⟨n, rfl, e2, e3⟩ := minF_R (P := P) h2 hb' hz
    rename_i kk _ 
    refine OpOk.pure hs (u := .int kk n) (run_builtin ho hb (args := c.args.map a.eval) rfl (run_v _ _ _ ?_)) (by simp only [R]; exact ⟨trivial, e2⟩)
    simp only [Builtin.min_, Array.toList_map, hu, e3]
theorem ok_max {c : Call} {ys : List AR} (ho : o.op = .call c) (hb : c.callee = .builtin .max) (hx : cvXs c.args.toList = some ys) (he : astep (.max ys) (aev t) H = some (v, H')) : OpOk P o a F g H w v H' := by
  have hr := aev_RL ht hx
  simp only [astep, Option.map_eq_some_iff, Prod.mk.injEq] at he
  obtain ⟨z, hz, rfl, rfl⟩ := he
  generalize ys.map (aev t) = xs at hr hz
  cases xs with
  | nil => simp [maxA] at hz
  | cons x xs =>
    simp only [RL] at hr
    obtain ⟨u, r, hu, h1, h2⟩ := hr
    cases x <;> simp only [maxA] at hz <;> try (cases hz; done)
    obtain ⟨rfl, hb'⟩ := R_int h1
    obtain ⟨n, rfl, e2, e3⟩ := maxF_R (P := P) h2 hb' hz
    rename_i kk _ 
    refine OpOk.pure hs (u := .int kk n) (run_builtin ho hb (args := c.args.map a.eval) rfl (run_v _ _ _ ?_)) (by simp only [R]; exact ⟨trivial, e2⟩)
    simp only [Builtin.max_, Array.toList_map, hu, e3]

theorem ok_build {ty : TypeId} {parts : Array (Nat × Operand)} {fs : Array Field} {z : List AV} {ps : List (Nat × Nat × AR)} (ho : o.op = .build ty parts) (h1 : P.underlying ty = some (.struct fs)) (h2 : zeroCellsOf P ty = some z) (h3 : infosOk P fs = true)
    (h4 : fieldParts P fs parts.toList = some ps) (he : astep (.build z ps) (aev t) H = some (v, H')) : OpOk P o a F g H w v H' := by
  obtain ⟨i, zv, q1, q2, q3⟩ := zero_R h2
  obtain ⟨f1, f2⟩ := fieldParts_spec h4
  obtain ⟨pl, p1, p2⟩ := run_places (P := P) (w := w) (fs := fs.toList) (fun f hf => by
    unfold infosOk at h3
    rw [Array.all_eq_true_iff_forall_mem] at h3
    exact h3 f (by simpa using hf))
  simp only [astep] at he
  split at he
  · rename_i cs hcs
    simp only [Option.some.injEq, Prod.mk.injEq] at he
    obtain ⟨rfl, rfl⟩ := he
    obtain ⟨rv, e1, e2⟩ := fillA_R (place := (fun (x : Nat) => pl[x]?)) (vs := (parts.map fun (i, x) => (i, a.eval x)).toList) (cv := zv.cells) (q3 F g w) hcs (by simp [f1]) (fun j p q hp hq => by
      simp only [Array.toList_map, List.getElem?_map, Option.map_eq_some_iff] at hq hp
      obtain ⟨q', hq', rfl⟩ := hq
      obtain ⟨p', hp', rfl⟩ := hp
      obtain ⟨f, inf, y, g1, g2, g3, g4⟩ := f2 j q' hq'
      rw [hp'] at g4; cases g4
      exact ⟨p2 _ f inf (by simpa using g1) g2, aev_R ht g3⟩)
    refine OpOk.pure hs (u := .agg rv) ?_ (by simp only [R]; exact ⟨rv, rfl, e2⟩)
    have hpl : (fs.mapM fun f => (do pure (f.offset, ← sizeOf f.type) : Sem (Nat × Nat))).run P w = .ok pl.toArray w := by
      rw [Array.mapM_eq_mapM_toList]
      simp only [Sem.run_map, p1, Result.andThen_ok]
    simp only [execOp, ho, Instr.build, Sem.run_bind, run_zero q1 q2, Result.andThen_ok, run_underlying h1, hpl]
    have : (fun (x : Nat) => pl.toArray[x]?) = (fun (x : Nat) => pl[x]?) := by funext x; simp
    rw [this, e1]
    rfl
  · cases he

omit ht in
theorem ok_alloc {ty : TypeId} {z : List AV} (ho : o.op = .alloc ty) (h2 : zeroCellsOf P ty = some z) (he : astep (.alloc z) (aev t) H = some (v, H')) : OpOk P o a F g H w v H' := by
  obtain ⟨i, zv, q1, q2, q3⟩ := zero_R h2
  simp only [astep, Option.some.injEq, Prod.mk.injEq] at he
  obtain ⟨rfl, rfl⟩ := he
  obtain ⟨g', e1, e2, e3⟩ := push_var hs (vs := zv.cells) (q3 F g w) ty
  refine ⟨.value (.pointer (some ⟨w.heap.size, 0, none⟩)), _, F, g', ?_, .inl ⟨_, rfl, e3⟩, e1, e2⟩
  simp only [execOp, ho, Instr.alloc, Sem.run_bind, run_zero q1 q2, Result.andThen_ok, newVar, newRow, run_newObj, Sem.run_pure]
theorem ok_box {ty : TypeId} {x : Operand} {y : AR} (ho : o.op = .box ty x) (hx : cvX x = some y) (he : astep (.box y) (aev t) H = some (v, H')) : OpOk P o a F g H w v H' := by
  simp only [astep, Option.some.injEq, Prod.mk.injEq] at he
  obtain ⟨rfl, rfl⟩ := he
  obtain ⟨g', e1, e2, e3⟩ := push_var hs (vs := (a.eval x).cells) (cells_R (aev_R ht hx)) ty
  refine ⟨.value (.pointer (some ⟨w.heap.size, 0, none⟩)), _, F, g', ?_, .inl ⟨_, rfl, e3⟩, e1, e2⟩
  simp only [execOp, ho, Instr.box, Sem.run_bind, Result.andThen_ok, newVar, newRow, run_newObj, Sem.run_pure]
theorem ok_boxT {ty : TypeId} {x : Operand} {y : AR} (ho : o.op = .box ty x) (hx : cvX x = some y) (he : astep (.boxT ty y) (aev t) H = some (v, H')) : OpOk P o a F g H w v H' := by
  simp only [astep, Option.some.injEq, Prod.mk.injEq] at he
  obtain ⟨rfl, rfl⟩ := he
  obtain ⟨g', e1, e2, e3⟩ := push_x hs (vs := (a.eval x).cells) (cells_R (aev_R ht hx)) ty _ (.inr rfl)
  refine ⟨.value (.pointer (some ⟨w.heap.size, 0, none⟩)), _, F, g', ?_, .inl ⟨_, rfl, e3⟩, e1, e2⟩
  simp only [execOp, ho, Instr.box, Sem.run_bind, Result.andThen_ok, newVar, newRow, run_newObj, Sem.run_pure]

theorem ok_store {ty : TypeId} {p x : Operand} {q y : AR} {i : TypeInfo} (ho : o.op = .store ty p x) (hi : P.info? ty = some i) (hp : cvX p = some q) (hx : cvX x = some y) (he : astep (.store i.size q y) (aev t) H = some (v, H')) : OpOk P o a F g H w v H' := by
  have hrp := aev_R ht hp
  have hrx := cells_R (aev_R ht hx)
  simp only [astep] at he
  split at he
  · rename_i b off q1
    rw [q1] at hrp
    obtain ⟨B, r1, r2, r3⟩ := R_ptr hrp
    split at he
    · rename_i cs hcs
      split at he
      · rename_i hc
        simp only [Option.some.injEq, Prod.mk.injEq] at he
        obtain ⟨rfl, rfl⟩ := he
        obtain ⟨B', vs, e, s1, s2, s3, s4, s5⟩ := hs.var b cs hcs
        rw [r1] at s1; cases s1
        have l1 := RL_len hrx
        have l2 := RL_len s4
        obtain ⟨w', k1, k2, k3, k4, k5⟩ := run_storeCells_block P B e (0, 0) (a.eval x).cells.toList vs.toList off 0 w (by simpa using s3) (oneCells_of_RL hrx hc.2.2) (by omega) (by simp)
        obtain ⟨m1, m2⟩ := put_var hs (e := e) hcs r1 (RL_splice s4 hrx off) k2 (by rw [k3]; rfl) k4 k5
        refine ⟨.skip, w', F, g, ?_, .inr ⟨rfl, rfl⟩, m1, m2⟩
        have hz : (a.eval x).cells.size = i.size := by simp only [Array.length_toList] at l1; omega
        simp only [execOp, ho, Instr.storeAt, r3, Instr.sureAddr, storeVar, Sem.run_bind, Sem.run_pure, Result.andThen_ok, run_sizeOf hi, hz, ne_eq, not_true_eq_false, if_false, k1]
      · cases he
    · rename_i e cs hcs
      split at he
      · rename_i hc
        simp only [Option.some.injEq, Prod.mk.injEq] at he
        obtain ⟨rfl, rfl⟩ := he
        obtain ⟨B', vs, s1, s2, s3, s4, s5⟩ := hs.tvar b e cs hcs
        rw [r1] at s1; cases s1
        have l1 := RL_len hrx
        have l2 := RL_len s4
        obtain ⟨w', k1, k2, k3, k4, k5⟩ := run_storeCells_block P B e (0, 0) (a.eval x).cells.toList vs.toList off 0 w (by simpa using s3) (oneCells_of_RL hrx hc.2.2) (by omega) (by simp)
        obtain ⟨m1, m2⟩ := put_x hs (e := e) (.inr ⟨rfl, rfl⟩) hcs r1 (RL_splice s4 hrx off) k2 (by rw [k3]; rfl) k4 k5
        refine ⟨.skip, w', F, g, ?_, .inr ⟨rfl, rfl⟩, m1, m2⟩
        have hz : (a.eval x).cells.size = i.size := by simp only [Array.length_toList] at l1; omega
        simp only [execOp, ho, Instr.storeAt, r3, Instr.sureAddr, storeVar, Sem.run_bind, Sem.run_pure, Result.andThen_ok, run_sizeOf hi, hz, ne_eq, not_true_eq_false, if_false, k1]
      · cases he
    · cases he
  · cases he
end
end
end Go.Proofs.YtblbepjnkehoaaaGreatDoor
