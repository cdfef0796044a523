/- A logic of abstract values over the model's own rules: what a call of a Go function does is said of data, not of memory. Conditions: none; it holds over every program. -/
import Derived.WalkKit
import Derived.WalkSpells
import Derived.WalkLawsBesides
import Derived.Orders
import Derived.Great.BuildSlice
import Derived.Deep.AppendSrc
import Derived.Deep.OwnRows
import Derived.Lib.ConvBytes
import Derived.Laws.BytesArg
set_option linter.unusedSimpArgs false
set_option linter.unusedVariables false
/- Abstract data, and how they read in a world: immutable data (Dat, PV), own mutable locations (LV), frames (AV, ASt). Generic over the program. -/
namespace Go.Proofs.Ytfcfhlfehomhpaa.AL
open Go.RowKit

inductive Dat where
  | v (x : Value)
  | sl (sz n : Nat) (f : Nat → List Dat)
  | bx (cs : List Dat)
  | bf (n : Nat) (f : Nat → Dat)
instance : Inhabited Dat := ⟨.v undef⟩

/-- The watermark g: the cells below g b of block b are never written again. -/
inductive RelD (w : World) (g : Nat → Nat) : Value → Dat → Prop
  | v (x : Value) (h : x.oneCell' = true) : RelD w g x (.v x)
  | sl0 (a : Option Addr) (c sz : Nat) (f : Nat → List Dat) : RelD w g (.slice a 0 c) (.sl sz 0 f)
  | sl (b off n c sz : Nat) (f : Nat → List Dat) (u : Nat → Nat → Value) (hn : n ≤ c) (hl : ∀ i, i < n → (f i).length = sz)
      (hc : ∀ i j, i < n → j < sz → w.cell? ⟨b, off + i * sz + j, none⟩ = some (u i j)) (hg : off + n * sz ≤ g b)
      (hr : ∀ i j x, i < n → (f i)[j]? = some x → RelD w g (u i j) x) : RelD w g (.slice (some ⟨b, off, none⟩) n c) (.sl sz n f)
  | bx (b off : Nat) (cs : List Dat) (u : Nat → Value)
      (hc : ∀ j, j < cs.length → w.cell? ⟨b, off + j, none⟩ = some (u j)) (hg : off + cs.length ≤ g b)
      (hr : ∀ j x, cs[j]? = some x → RelD w g (u j) x) : RelD w g (.pointer (some ⟨b, off, none⟩)) (.bx cs)
  | bf (b off n : Nat) (f : Nat → Dat) (u : Nat → Value)
      (hc : ∀ j, j < n → w.cell? ⟨b, off + j, none⟩ = some (u j)) (hg : off + n ≤ g b)
      (hr : ∀ j, j < n → RelD w g (u j) (f j)) : RelD w g (.pointer (some ⟨b, off, none⟩)) (.bf n f)

theorem RelD.one {w : World} {g : Nat → Nat} {v : Value} {d : Dat} (h : RelD w g v d) : v.oneCell' = true := by
  cases h <;> first | assumption | rfl

/-- What is read stays readable, and holds what it held. -/
structure Keep (w : World) (g : Nat → Nat) (w' : World) (g' : Nat → Nat) : Prop where
  gam : ∀ b, g b ≤ g' b
  cell : ∀ b o, o < g b → w'.cell? ⟨b, o, none⟩ = w.cell? ⟨b, o, none⟩

theorem Keep.refl (w : World) (g : Nat → Nat) : Keep w g w g := ⟨fun _ => Nat.le_refl _, fun _ _ _ => rfl⟩
theorem Keep.trans {w w' w'' : World} {g g' g'' : Nat → Nat} (h : Keep w g w' g') (k : Keep w' g' w'' g'') : Keep w g w'' g'' :=
  ⟨fun b => Nat.le_trans (h.gam b) (k.gam b), fun b o ho => (k.cell b o (Nat.lt_of_lt_of_le ho (h.gam b))).trans (h.cell b o ho)⟩

theorem RelD.keep {w w' : World} {g g' : Nat → Nat} (k : Keep w g w' g') {v : Value} {d : Dat} (h : RelD w g v d) : RelD w' g' v d := by
  induction h with
  | v x h => exact .v x h
  | sl0 a c sz f => exact .sl0 a c sz f
  | sl b off n c sz f u hn hl hc hg hr ih =>
    refine .sl b off n c sz f u hn hl (fun i j hi hj => ?_) (Nat.le_trans hg (k.gam b)) ih
    rw [k.cell b _ _, hc i j hi hj]
    have : (i + 1) * sz ≤ n * sz := Nat.mul_le_mul_right _ hi
    rw [Nat.add_mul, Nat.one_mul] at this
    omega
  | bx b off cs u hc hg hr ih =>
    refine .bx b off cs u (fun j hj => ?_) (Nat.le_trans hg (k.gam b)) ih
    rw [k.cell b _ (by omega), hc j hj]
  | bf b off n f u hc hg hr ih =>
    refine .bf b off n f u (fun j hj => ?_) (Nat.le_trans hg (k.gam b)) ih
    rw [k.cell b _ (by omega), hc j hj]

/-- A slice's data, given otherwise but alike. -/
theorem RelD.sl_congr {w : World} {g : Nat → Nat} {v : Value} {sz n : Nat} {f f' : Nat → List Dat} (h : RelD w g v (.sl sz n f)) (hf : ∀ i, i < n → f i = f' i) : RelD w g v (.sl sz n f') := by
  cases h with
  | sl0 a c => exact .sl0 a c sz f'
  | sl b off _ c _ _ u hn hl hc hg hr =>
    exact .sl b off n c sz f' u hn (fun i hi => hf i hi ▸ hl i hi) hc hg (fun i j x hi hx => hr i j x hi (by rw [hf i hi]; exact hx))
theorem RelD.nil {w : World} {g : Nat → Nat} {v : Value} (h : RelD w g v (.v (.slice none 0 0))) (sz : Nat) (f : Nat → List Dat) : RelD w g v (.sl sz 0 f) := by
  cases h with
  | v _ _ => exact .sl0 _ _ _ _
theorem RelD.empty {w : World} {g : Nat → Nat} {v : Value} {sz : Nat} {f : Nat → List Dat} (h : RelD w g v (.sl sz 0 f)) (sz' : Nat) (f' : Nat → List Dat) : RelD w g v (.sl sz' 0 f') := by
  cases h with
  | sl0 a c => exact .sl0 _ _ _ _
  | sl => exact .sl0 _ _ _ _

inductive PV where
  | d (x : Dat)
  | agg (cs : List Dat)
  | arr (n : Nat) (f : Nat → Dat)
  | fn (f : Fn) (first caps : List PV)
instance : Inhabited PV := ⟨.d default⟩

inductive RelP (w : World) (g : Nat → Nat) : Value → PV → Prop
  | d (v : Value) (x : Dat) (h : RelD w g v x) : RelP w g v (.d x)
  | agg (vs : List Value) (cs : List Dat) (hl : vs.length = cs.length) (hr : ∀ (j : Nat) v x, vs[j]? = some v → cs[j]? = some x → RelD w g v x) : RelP w g (.agg vs.toArray) (.agg cs)
  | arr (vs : List Value) (n : Nat) (f : Nat → Dat) (hl : vs.length = n) (hr : ∀ (j : Nat) v, vs[j]? = some v → RelD w g v (f j)) : RelP w g (.agg vs.toArray) (.arr n f)
  | fn (f : Fn) (vs us : List Value) (first caps : List PV) (hl : vs.length = first.length) (hm : us.length = caps.length)
      (hr : ∀ (j : Nat) v x, vs[j]? = some v → first[j]? = some x → RelP w g v x) (hs : ∀ (j : Nat) v x, us[j]? = some v → caps[j]? = some x → RelP w g v x) :
      RelP w g (.func f vs.toArray us.toArray) (.fn f first caps)

theorem RelP.keep {w w' : World} {g g' : Nat → Nat} (k : Keep w g w' g') {v : Value} {d : PV} (h : RelP w g v d) : RelP w' g' v d := by
  induction h with
  | d v x h => exact .d v x (h.keep k)
  | agg vs cs hl hr => exact .agg vs cs hl fun j v x hv hx => (hr j v x hv hx).keep k
  | arr vs n f hl hr => exact .arr vs n f hl fun j v hv => (hr j v hv).keep k
  | fn f vs us first caps hl hm hr hs ih1 ih2 => exact .fn f vs us first caps hl hm ih1 ih2

/-- Several values. -/
def RelPs (w : World) (g : Nat → Nat) (vs : List Value) (xs : List PV) : Prop :=
  vs.length = xs.length ∧ ∀ (j : Nat) v x, vs[j]? = some v → xs[j]? = some x → RelP w g v x
theorem RelPs.keep {w w' : World} {g g' : Nat → Nat} (k : Keep w g w' g') {vs : List Value} {xs : List PV} (h : RelPs w g vs xs) : RelPs w' g' vs xs :=
  ⟨h.1, fun j v x hv hx => (h.2 j v x hv hx).keep k⟩
theorem RelPs.nil (w : World) (g : Nat → Nat) : RelPs w g [] [] := ⟨rfl, fun j v x hv => by simp at hv⟩
theorem RelPs.cons {w : World} {g : Nat → Nat} {v : Value} {x : PV} {vs : List Value} {xs : List PV} (h : RelP w g v x) (t : RelPs w g vs xs) : RelPs w g (v :: vs) (x :: xs) := by
  refine ⟨by simp [t.1], fun j v' x' hv hx => ?_⟩
  cases j with
  | zero => simp at hv hx; subst hv; subst hx; exact h
  | succ j => simp at hv hx; exact t.2 j v' x' hv hx
theorem RelPs.cons_inv {w : World} {g : Nat → Nat} {x : PV} {vs : List Value} {xs : List PV} (h : RelPs w g vs (x :: xs)) :
    ∃ v vs', vs = v :: vs' ∧ RelP w g v x ∧ RelPs w g vs' xs := by
  cases vs with
  | nil => simp [RelPs] at h
  | cons v vs' =>
    refine ⟨v, vs', rfl, h.2 0 v x rfl rfl, by simpa using h.1, fun j v' x' hv hx => h.2 (j + 1) v' x' (by simpa using hv) (by simpa using hx)⟩
theorem RelPs.nil_inv {w : World} {g : Nat → Nat} {vs : List Value} (h : RelPs w g vs []) : vs = [] := by
  have := h.1; cases vs <;> simp_all
theorem RelPs.append {w : World} {g : Nat → Nat} {vs us : List Value} {xs ys : List PV} (h : RelPs w g vs xs) (t : RelPs w g us ys) : RelPs w g (vs ++ us) (xs ++ ys) := by
  refine ⟨by simp [h.1, t.1], fun j v x hv hx => ?_⟩
  by_cases hj : j < vs.length
  · rw [List.getElem?_append_left hj] at hv
    rw [List.getElem?_append_left (h.1 ▸ hj)] at hx
    exact h.2 j v x hv hx
  · rw [List.getElem?_append_right (by omega)] at hv
    rw [List.getElem?_append_right (by have := h.1; omega), ← h.1] at hx
    exact t.2 _ v x hv hx

/-- A call's results: one value, or a tuple. -/
def RelR (w : World) (g : Nat → Nat) (v : Value) : List PV → Prop
  | [x] => RelP w g v x
  | xs => ∃ vs : List Value, v = .tuple vs.toArray ∧ RelPs w g vs xs

/-- The world has grown: all that was there is as it was. -/
structure Ext (w : World) (g : Nat → Nat) (w' : World) (g' : Nat → Nat) : Prop where
  below : Below w.heap.size w w'
  gam : ∀ b, b < w.heap.size → g' b = g b
  gz : ∀ b, w'.heap.size ≤ b → g' b = 0

def GZ (w : World) (g : Nat → Nat) : Prop := ∀ b, w.heap.size ≤ b → g b = 0

theorem Ext.refl {w : World} {g : Nat → Nat} (h : GZ w g) : Ext w g w g := ⟨Below.refl _ _, fun _ _ => rfl, h⟩
theorem Ext.keep {w w' : World} {g g' : Nat → Nat} (h : Ext w g w' g') (hz : GZ w g) : Keep w g w' g' := by
  refine ⟨fun b => ?_, fun b o ho => ?_⟩
  · by_cases hb : b < w.heap.size
    · exact Nat.le_of_eq (h.gam b hb).symm
    · rw [hz b (by omega)]; exact Nat.zero_le _
  · have hb : b < w.heap.size := by
      by_cases hb : b < w.heap.size
      · exact hb
      · rw [hz b (by omega)] at ho; omega
    exact h.below.cell (p := ⟨b, o, none⟩) hb
theorem Ext.trans {w w' w'' : World} {g g' g'' : Nat → Nat} (h : Ext w g w' g') (k : Ext w' g' w'' g'') : Ext w g w'' g'' :=
  ⟨h.below.trans (k.below.mono h.below.size), fun b hb => (k.gam b (Nat.lt_of_lt_of_le hb h.below.size)).trans (h.gam b hb), k.gz⟩

/-- The blocks that may be written: those of B; all new ones are. -/
def NewIn (B : Nat → Prop) (w : World) : Prop := ∀ b, w.heap.size ≤ b → B b
theorem NewIn.lt {B : Nat → Prop} {w : World} (h : NewIn B w) {b : Nat} (hb : ¬ B b) : b < w.heap.size := Nat.lt_of_not_le fun hle => hb (h b hle)
structure BelowS (B : Nat → Prop) (w w' : World) : Prop where
  os : w'.os = w.os
  tape : w'.tape = w.tape
  output : w'.output = w.output
  size : w.heap.size ≤ w'.heap.size
  block : ∀ k, k < w.heap.size → ¬ B k → w'.heap[k]? = w.heap[k]?
theorem BelowS.refl (B : Nat → Prop) (w : World) : BelowS B w w := ⟨rfl, rfl, rfl, Nat.le_refl _, fun _ _ _ => rfl⟩
theorem BelowS.trans {B : Nat → Prop} {a b c : World} (h : BelowS B a b) (k : BelowS B b c) : BelowS B a c :=
  ⟨k.os.trans h.os, k.tape.trans h.tape, k.output.trans h.output, Nat.le_trans h.size k.size, fun i hi hB => (k.block i (Nat.lt_of_lt_of_le hi h.size) hB).trans (h.block i hi hB)⟩
theorem BelowS.drew {B : Nat → Prop} {a w : World} (h : BelowS B a w) : BelowS B a w.drew := ⟨h.os, h.tape, h.output, h.size, h.block⟩
theorem BelowS.alloc {B : Nat → Prop} {a w : World} (h : BelowS B a w) (o : Obj) : BelowS B a (w.alloc o) :=
  h.trans ⟨rfl, rfl, rfl, by simp, fun k hk _ => Below.heap_alloc _ _ _ hk⟩
theorem BelowS.newIn {B : Nat → Prop} {w w' : World} (h : BelowS B w w') (k : NewIn B w) : NewIn B w' := fun b hb => k b (Nat.le_trans h.size hb)
theorem Ext.belowS {B : Nat → Prop} {w w' : World} {g g' : Nat → Nat} (h : Ext w g w' g') : BelowS B w w' := ⟨h.below.os, h.below.tape, h.below.output, h.below.size, fun k hk _ => h.below.block k hk⟩
/-- Where a call began, and what it may write. -/
structure Base where
  w : World
  O : Nat → Prop
  new : NewIn O w
  ρ : Nat → Nat := id
structure ExtS (w0 : Base) (g0 : Nat → Nat) (w : World) (g : Nat → Nat) : Prop where
  below : BelowS w0.O w0.w w
  gam : ∀ b, ¬ w0.O b → g b = g0 b
  gz : GZ w g
  keep : Keep w0.w g0 w g
theorem ExtS.refl (w0 : Base) {g : Nat → Nat} (h : GZ w0.w g) : ExtS w0 g w0.w g := ⟨BelowS.refl _ _, fun _ _ => rfl, h, Keep.refl _ _⟩
theorem ExtS.newIn {w0 : Base} {g0 g : Nat → Nat} {w : World} (h : ExtS w0 g0 w g) : NewIn w0.O w := h.below.newIn w0.new
/-- Nothing that was there. -/
def Base.of (w : World) : Base := ⟨w, fun b => w.heap.size ≤ b, fun _ h => h, id⟩
theorem ExtS.toExt {w : World} {g0 g : Nat → Nat} {w' : World} (h : ExtS (Base.of w) g0 w' g) : Ext w g0 w' g :=
  ⟨⟨h.below.os, h.below.tape, h.below.output, h.below.size, fun k hk => h.below.block k hk (by show ¬ w.heap.size ≤ k; omega)⟩, fun b hb => h.gam b (by show ¬ w.heap.size ≤ b; omega), h.gz⟩

/-- What a call of a value as a function comes to. -/
def CallRes (P : Program) (R : Value → World → Prop) : Result Next → Prop
  | .ok (.enter f args) w => Calls P f args w fun e w' => ∃ v, e = .returned v ∧ R v w'
  | .ok (.value v) w => R v w
  | _ => False

/-- THE CONTRACT of a function that changes nothing that was there: called with values that read as xs, it returns values that read as some rs of Q. -/
def ACalls (P : Program) (f : FuncId) (xs : List PV) (Q : List PV → Prop) : Prop :=
  ∀ (w : World) (g : Nat → Nat) (vs : List Value), GZ w g → RelPs w g vs xs →
    CallRes P (fun v w' => ∃ g' rs, Ext w g w' g' ∧ Q rs ∧ RelR w' g' v rs) ((callFunc f vs.toArray).run P w)

theorem ACalls.mono {P : Program} {f : FuncId} {xs : List PV} {Q Q' : List PV → Prop} (h : ACalls P f xs Q) (hq : ∀ r, Q r → Q' r) : ACalls P f xs Q' := by
  intro w g vs hz hr
  have := h w g vs hz hr
  unfold CallRes at *
  split at this
  · exact this.mono fun e w' ⟨v, he, g', rs, h1, h2, h3⟩ => ⟨v, he, g', rs, h1, hq _ h2, h3⟩
  · obtain ⟨g', rs, h1, h2, h3⟩ := this; exact ⟨g', rs, h1, hq _ h2, h3⟩
  · exact this.elim

/-! ### Frames -/
inductive AV where
  | top
  | undef
  | p (x : PV)
  | loc (l off : Nat)
  | gr (l gen sz n : Nat) (f : Nat → List Dat)
  | row (l sz off n : Nat)
  | tup (xs : List PV)
instance : Inhabited AV := ⟨.top⟩
def AV.mentions : AV → List Nat
  | .loc l _ => [l]
  | .gr l .. => [l]
  | .row l .. => [l]
  | _ => []

/-- The ghosts: watermarks; the block of each own location; the value and the generation of each row that is being grown. -/
structure Gh where
  g : Nat → Nat
  ρ : Nat → Nat
  κ : Nat → Value
  μ : Nat → Nat

def RelA (w : World) (h : Gh) (v : Value) : AV → Prop
  | .top => True
  | .undef => v = _root_.Go.undef
  | .p x => RelP w h.g v x
  | .loc l off => v = .pointer (some ⟨h.ρ l, off, none⟩)
  | .gr l gen sz n f => RelD w h.g v (.sl sz n f) ∧ gen ≤ h.μ l ∧ (h.μ l = gen → v = h.κ l)
  | .row l sz off n => ∃ c, v = .slice (some ⟨h.ρ l, off * sz, none⟩) n c ∧ n ≤ c
  | .tup xs => ∃ vs : List Value, v = .tuple vs.toArray ∧ RelPs w h.g vs xs

inductive LV where
  | cells (e : TypeId) (cs : List AV)
  | arr (e : TypeId) (n : Nat) (f : Nat → Dat)
  | grow (e : TypeId) (sz n gen : Nat)
def LV.mentions : LV → List Nat
  | .cells _ cs => cs.flatMap AV.mentions
  | _ => []

/-- Own memory. -/
def LocOK (B : Nat → Prop) (w : World) (h : Gh) (l : Nat) : LV → Prop
  | .cells e cs => ∃ arr : Array Value, B (h.ρ l) ∧ w.heap[h.ρ l]? = some (.cells arr e (0, 0)) ∧ arr.size = cs.length ∧ h.g (h.ρ l) = 0 ∧
      ∀ (i : Nat) v x, arr[i]? = some v → cs[i]? = some x → RelA w h v x ∧ v.oneCell' = true
  | .arr e n f => ∃ (arr : Array Value) (fz : Nat × Nat), B (h.ρ l) ∧ w.heap[h.ρ l]? = some (.cells arr e fz) ∧ (fz = (0, 0) ∨ arr.size ≤ fz.1) ∧ n ≤ arr.size ∧ h.g (h.ρ l) = 0 ∧
      ∀ (i : Nat) v, i < n → arr[i]? = some v → RelD w h.g v (f i)
  | .grow e sz n gen => h.μ l = gen ∧ (∃ xs, w.ownsRow 0 e sz (h.κ l) n xs) ∧ (∀ b c, h.κ l = .slice (some ⟨b, 0, none⟩) n c → h.g b = n * sz) ∧ ∀ b, (h.κ l).ownBlock = some b → B b

def blockOf (h : Gh) (l : Nat) : LV → Option Nat
  | .grow .. => (h.κ l).ownBlock
  | _ => some (h.ρ l)

structure ASt where
  fr : List (Nat × AV)
  locs : List (Nat × LV)

def look {α : Type} : List (Nat × α) → Nat → Option α
  | [], _ => none
  | (t, x) :: r, u => if t = u then some x else look r u

/-- The frame 'a' in the world 'w' is as the abstract state says; nothing below the world in which the call began has changed. -/
structure Rel (w0 : Base) (g0 : Nat → Nat) (nt : Nat) (A : ASt) (h : Gh) (a : Act) (w : World) : Prop where
  size : a.tmps.size = nt
  defers : a.defers = []
  fr : ∀ t x, look A.fr t = some x → RelA w h (a.tmps.getD t _root_.Go.undef) x
  locs : ∀ l L, look A.locs l = some L → LocOK w0.O w h l L
  sep : ∀ l l' L L' b, l ≠ l' → look A.locs l = some L → look A.locs l' = some L' → blockOf h l L = some b → blockOf h l' L' ≠ some b
  ext : ExtS w0 g0 w h.g
  pin : ∀ l, 1000 ≤ l → h.ρ l = w0.ρ l


-- the equations of what is worked out in a walk, made here once
theorem AV_mentions_eqns : True := have := @AV.mentions.eq_1; trivial
theorem LV_mentions_eqns : True := have := @LV.mentions.eq_1; trivial
theorem look_eqns : True := have := @look.eq_1; trivial
end Go.Proofs.Ytfcfhlfehomhpaa.AL

/- What is known of a type; the runs of the model's operations on memory, in the words of AL1. -/
namespace Go.Proofs.Ytfcfhlfehomhpaa.AL
open Go.RowKit

inductive TK where
  | int (k : IntKind)
  | bool
  | string
  | ptr
  | slice (e : TypeId) (sz bytes : Nat)
  | struct (fs : List (Nat × Nat × Bool))
  | array (n : Nat) (e : TypeId) (sz : Nat) (agg : Bool)
  | other
structure TI where
  k : TK
  size : Nat
  zero : List Value
def TK.agg : TK → Bool
  | .struct _ | .array .. => true
  | _ => false
def isAggD : TypeDesc → Bool
  | .struct _ | .array .. => true
  | _ => false
def fieldOf (P : Program) (f : Field) : Option (Nat × Nat × Bool) :=
  match P.info? f.type, P.underlying f.type with
  | some i, some d => some (f.offset, i.size, isAggD d)
  | _, _ => none
def kindOf (P : Program) : TypeDesc → Option TK
  | .int k => some (.int k)
  | .bool => some .bool
  | .string => some .string
  | .pointer _ => some .ptr
  | .slice e => match P.info? e with
    | some i => some (.slice e i.size i.bytes)
    | none => none
  | .struct fs => match fs.toList.mapM (fieldOf P) with
    | some l => some (.struct l)
    | none => none
  | .array n e => match P.info? e, P.underlying e with
    | some i, some d => some (.array n e i.size (isAggD d))
    | _, _ => none
  | _ => some .other
def tiOf (P : Program) (t : TypeId) : Option TI :=
  match P.info? t, P.underlying t with
  | some i, some d => match i.zero, kindOf P d with
    | some z, some k => some ⟨k, i.size, z.cells.toList⟩
    | _, _ => none
  | _, _ => none

theorem tiOf_spec {P : Program} {t : TypeId} {ti : TI} (h : tiOf P t = some ti) :
    ∃ i d z, P.info? t = some i ∧ P.underlying t = some d ∧ i.zero = some z ∧ kindOf P d = some ti.k ∧ ti.size = i.size ∧ ti.zero = z.cells.toList := by
  unfold tiOf at h
  split at h
  · rename_i i d hi hd
    split at h
    · rename_i z k hz hk
      cases h
      exact ⟨i, d, z, hi, hd, hz, hk, rfl, rfl⟩
    · cases h
  · cases h
theorem kindOf_agg {P : Program} {d : TypeDesc} {k : TK} (h : kindOf P d = some k) : k.agg = isAggD d := by
  cases d <;> simp only [kindOf] at h
  case slice e => split at h <;> simp at h; subst h; rfl
  case struct fs => split at h <;> simp at h; subst h; rfl
  case array n e => split at h <;> simp at h; subst h; rfl
  all_goals (simp at h; subst h; rfl)
theorem kindOf_slice {P : Program} {d : TypeDesc} {e : TypeId} {sz by_ : Nat} (h : kindOf P d = some (.slice e sz by_)) :
    d = .slice e ∧ ∃ i, P.info? e = some i ∧ i.size = sz ∧ i.bytes = by_ := by
  cases d <;> simp only [kindOf] at h
  case slice e' =>
    split at h
    · rename_i i hi; simp at h; obtain ⟨rfl, rfl, rfl⟩ := h; exact ⟨rfl, i, hi, rfl, rfl⟩
    · cases h
  case struct fs => split at h <;> simp at h
  case array n e => split at h <;> simp at h
  all_goals simp at h
theorem kindOf_array {P : Program} {d : TypeDesc} {n : Nat} {e : TypeId} {sz : Nat} {a : Bool} (h : kindOf P d = some (.array n e sz a)) :
    d = .array n e ∧ ∃ i de, P.info? e = some i ∧ P.underlying e = some de ∧ i.size = sz ∧ isAggD de = a := by
  cases d <;> simp only [kindOf] at h
  case array n' e' =>
    split at h
    · rename_i i de hi hde; simp at h; obtain ⟨rfl, rfl, rfl, rfl⟩ := h; exact ⟨rfl, i, de, hi, hde, rfl, rfl⟩
    · cases h
  case slice e => split at h <;> simp at h
  case struct fs => split at h <;> simp at h
  all_goals simp at h
theorem mapM_get {α β : Type} {f : α → Option β} : ∀ {l : List α} {r : List β}, l.mapM f = some r → ∀ (i : Nat) y, r[i]? = some y → ∃ x, l[i]? = some x ∧ f x = some y
  | [], r, h, i, y, hy => by simp at h; subst h; simp at hy
  | x :: l, r, h, i, y, hy => by
    simp only [List.mapM_cons] at h
    cases hx : f x with
    | none => simp [hx] at h
    | some z =>
      cases hl : l.mapM f with
      | none => simp [hx, hl] at h
      | some r' =>
        simp [hx, hl] at h
        subst h
        cases i with
        | zero => simp at hy; subst hy; exact ⟨x, rfl, hx⟩
        | succ i => simp at hy; obtain ⟨x', h1, h2⟩ := mapM_get hl i y hy; exact ⟨x', by simpa using h1, h2⟩
theorem kindOf_struct {P : Program} {d : TypeDesc} {l : List (Nat × Nat × Bool)} (h : kindOf P d = some (.struct l)) :
    ∃ fs : Array Field, d = .struct fs ∧ fs.toList.mapM (fieldOf P) = some l := by
  cases d <;> simp only [kindOf] at h
  case struct fs =>
    split at h
    · rename_i r hr; simp at h; subst h; exact ⟨fs, rfl, hr⟩
    · cases h
  case array n e => split at h <;> simp at h
  case slice e => split at h <;> simp at h
  all_goals simp at h
theorem fieldOf_spec {P : Program} {f : Field} {x : Nat × Nat × Bool} (h : fieldOf P f = some x) :
    ∃ i d, P.info? f.type = some i ∧ P.underlying f.type = some d ∧ x = (f.offset, i.size, isAggD d) := by
  unfold fieldOf at h
  split at h
  · rename_i i d hi hd; cases h; exact ⟨i, d, hi, hd, rfl⟩
  · cases h
theorem kindOf_int {P : Program} {d : TypeDesc} {k : IntKind} (h : kindOf P d = some (.int k)) : d = .int k := by
  cases d <;> simp only [kindOf] at h
  case slice e => split at h <;> simp at h
  case struct fs => split at h <;> simp at h
  case array n e => split at h <;> simp at h
  case int k' => simp at h; subst h; rfl
  all_goals (simp at h; done)
theorem kindOf_string {P : Program} {d : TypeDesc} (h : kindOf P d = some .string) : d = .string := by
  cases d <;> simp only [kindOf] at h
  case slice e => split at h <;> simp at h
  case struct fs => split at h <;> simp at h
  case array n e => split at h <;> simp at h
  case string => rfl
  all_goals (simp at h; done)

section
variable {P : Program} {w : World}
theorem run_isAgg {t : TypeId} {d : TypeDesc} (h : P.underlying t = some d) : (isAgg t).run P w = .ok (isAggD d) w := by
  unfold isAgg
  simp only [Sem.run_bind, run_underlying h, Result.andThen_ok]
  cases d <;> rfl
theorem run_sizeOf {t : TypeId} {i : TypeInfo} (h : P.info? t = some i) : (sizeOf t).run P w = .ok i.size w := by
  simp [sizeOf, typeInfo, h]
theorem addr_add (b o i : Nat) : (⟨b, o, none⟩ : Addr).add i = ⟨b, o + i, none⟩ := by
  unfold Addr.add; split <;> simp_all
theorem run_load_scalar {t : TypeId} {ti : TI} (h : tiOf P t = some ti) (ha : ti.k.agg = false) {b o : Nat} {v : Value} (hc : w.cell? ⟨b, o, none⟩ = some v) :
    (Instr.loadAt t (.pointer (some ⟨b, o, none⟩))).run P w = .ok v w := by
  obtain ⟨i, d, z, hi, hd, hz, hk, _, _⟩ := tiOf_spec h
  rw [kindOf_agg hk] at ha
  simp only [Instr.loadAt, Instr.sureAddr, loadVar, Sem.run_bind, Sem.run_pure, Result.andThen_ok, run_isAgg hd, ha]
  simp [load, Sem.run, hc]
theorem run_load_agg {t : TypeId} {ti : TI} (h : tiOf P t = some ti) (ha : ti.k.agg = true) {b o : Nat} {vs : List Value} (hl : vs.length = ti.size)
    (hc : ∀ j v, vs[j]? = some v → w.cell? ⟨b, o + j, none⟩ = some v) :
    (Instr.loadAt t (.pointer (some ⟨b, o, none⟩))).run P w = .ok (.agg vs.toArray) w := by
  obtain ⟨i, d, z, hi, hd, hz, hk, hs, _⟩ := tiOf_spec h
  rw [kindOf_agg hk] at ha
  have hl' := run_loadCells_list (P := P) w ⟨b, o, none⟩ vs (fun j v hv => by rw [addr_add]; exact hc j v hv)
  rw [hl, hs] at hl'
  simp only [Instr.loadAt, Instr.sureAddr, loadVar, Sem.run_bind, Sem.run_pure, Result.andThen_ok, run_isAgg hd, ha, if_true, run_sizeOf hi, hl']
theorem run_storeCells_fz (P : Program) (g o : Nat) (t : TypeId) (fz : Nat × Nat) : ∀ (vs : List Value) (i : Nat) (cur : Array Value) (w : World), w.heap[g]? = some (.cells cur t fz) → (fz = (0, 0) ∨ cur.size ≤ fz.1) → o + i + vs.length ≤ cur.size → (∀ v ∈ vs, v.oneCell' = true) →
    (storeCells ⟨g, o, none⟩ vs i).run P w = .ok () (w.setRow g (cur.toList.take (o + i) ++ vs ++ cur.toList.drop (o + i + vs.length)).toArray)
  | [], i, cur, w, hg, _, _, _ => by
    simp only [storeCells, List.append_nil, List.length_nil, Nat.add_zero, List.take_append_drop, Array.toArray_toList]
    rw [setRow_self w g cur t fz hg]
    rfl
  | v :: rest, i, cur, w, hg, hfz, hl, h1 => by
    have hi : o + i < cur.size := by simp at hl; omega
    have hadd : (⟨g, o, none⟩ : Addr).add i = ⟨g, o + i, none⟩ := by unfold Addr.add; split <;> simp_all
    have hcell : w.cell? ⟨g, o + i, none⟩ = some cur[o + i] := by simp [World.cell?, hg, hi]
    have hfro : w.frozen? ⟨g, o + i, none⟩ = false := by
      obtain ⟨lo, hi'⟩ := fz
      simp only [World.frozen?, hg, Bool.and_eq_false_iff, decide_eq_false_iff_not]
      rcases hfz with e | e
      · simp only [Prod.mk.injEq] at e; right; omega
      · simp only at e; left; omega
    have hst : (store ((⟨g, o, none⟩ : Addr).add i) v).run P w = .ok () (w.setRow g (cur.setIfInBounds (o + i) v)) := by
      rw [hadd, run_store P w _ v _ (h1 v (by simp)), hcell]
      simp [hfro, setCell_eq_setRow w g (o + i) cur t fz v hg]
    have ih := run_storeCells_fz P g o t fz rest (i + 1) (cur.setIfInBounds (o + i) v) (w.setRow g (cur.setIfInBounds (o + i) v)) (setRow_heap w g cur _ t _ hg) (by simpa using hfz) (by simp at hl ⊢; omega) (fun x hx => h1 x (by simp [hx]))
    simp only [storeCells, Sem.run_bind, hst, Result.andThen_ok, ih, setRow_setRow]
    congr 3
    have e := list_seg_step cur.toList (o + i) v rest (by simp at hl ⊢; omega)
    simpa [Array.toList_setIfInBounds, Nat.add_assoc] using e
theorem run_storeAt {t : TypeId} {ti : TI} (h : tiOf P t = some ti) {b o : Nat} {v : Value} {cur : Array Value} {e : TypeId}
    {fz : Nat × Nat} (hb : w.heap[b]? = some (.cells cur e fz)) (hfz : fz = (0, 0) ∨ cur.size ≤ fz.1) (hv : v.cells.size = ti.size) (hfit : o + v.cells.size ≤ cur.size) (h1 : ∀ u ∈ v.cells.toList, u.oneCell' = true) :
    (Instr.storeAt t (.pointer (some ⟨b, o, none⟩)) v).run P w = .ok () (w.setRow b (cur.toList.take o ++ v.cells.toList ++ cur.toList.drop (o + v.cells.size)).toArray) := by
  obtain ⟨i, d, z, hi, hd, hz, hk, hs, _⟩ := tiOf_spec h
  have hst := run_storeCells_fz P b o e fz v.cells.toList 0 cur w hb hfz (by simpa using hfit) h1
  simp only [Nat.add_zero, Array.length_toList] at hst
  simp only [Instr.storeAt, Instr.sureAddr, storeVar, Sem.run_bind, Sem.run_pure, Result.andThen_ok, run_sizeOf hi]
  rw [if_neg (by rw [hv, hs]; simp)]
  simpa using hst
theorem run_box (t : TypeId) (v : Value) : (Instr.box t v).run P w = .ok (.pointer (some ⟨w.heap.size, 0, none⟩)) (w.alloc (.cells v.cells t)) := by
  simp [Instr.box, newVar, newRow]
theorem run_alloc {t : TypeId} {ti : TI} (h : tiOf P t = some ti) :
    (Instr.alloc t true (.tuple #[])).run P w = .ok (.pointer (some ⟨w.heap.size, 0, none⟩)) (w.alloc (.cells ti.zero.toArray t)) := by
  obtain ⟨i, d, z, hi, hd, hz, hk, _, hzz⟩ := tiOf_spec h
  simp [Instr.alloc, zeroValue, typeInfo, hi, hz, newVar, newRow, hzz]
theorem run_fieldAt {t : TypeId} {ti : TI} (h : tiOf P t = some ti) {l : List (Nat × Nat × Bool)} (hk : ti.k = .struct l) {n off sz : Nat} {ag : Bool} (hn : l[n]? = some (off, sz, ag))
    (hsz : sz ≠ 0) {b o : Nat} :
    (Instr.fieldAt t (.pointer (some ⟨b, o, none⟩)) n).run P w = .ok (.pointer (some ⟨b, o + off, none⟩)) w := by
  obtain ⟨i, d, z, hi, hd, hz, hkk, _, _⟩ := tiOf_spec h
  rw [hk] at hkk
  obtain ⟨fs, rfl, hm⟩ := kindOf_struct hkk
  obtain ⟨f, hf, hff⟩ := mapM_get hm n _ hn
  obtain ⟨fi, _, hfi, _, he⟩ := fieldOf_spec hff
  simp only [Prod.mk.injEq] at he
  obtain ⟨rfl, rfl, _⟩ := he
  have hf' : fs[n]? = some f := by simpa using hf
  simp [Instr.fieldAt, run_underlying hd, hf', Instr.sureAddr, fieldPlace, run_sizeOf hfi, hsz, addr_add]
theorem run_indexAt_slice' {t : TypeId} {ti : TI} (h : tiOf P t = some ti) {e : TypeId} {sz by_ : Nat} (hk : ti.k = .slice e sz by_) {b o n c : Nat} {k : IntKind} {i : Int} (h0 : 0 ≤ i) (hn : i < n) :
    (Instr.indexAt t (.slice (some ⟨b, o, none⟩) n c) (.int k i)).run P w = .ok (.pointer (some ⟨b, o + i.toNat * sz, none⟩)) w := by
  obtain ⟨_, d, z, hi, hd, hz, hkk, _, _⟩ := tiOf_spec h
  rw [hk] at hkk
  obtain ⟨rfl, ie, hie, hs, hb⟩ := kindOf_slice hkk
  simp [Instr.indexAt, asIntOf, run_underlying hd, h0, hn, run_sizeOf hie, hs, addr_add]
theorem run_indexAt_array' {t : TypeId} {ti : TI} (h : tiOf P t = some ti) {m : Nat} {e : TypeId} {sz : Nat} {ag : Bool} (hk : ti.k = .array m e sz ag) {b o : Nat} {k : IntKind} {i : Int} (h0 : 0 ≤ i) (hn : i < m) :
    (Instr.indexAt t (.pointer (some ⟨b, o, none⟩)) (.int k i)).run P w = .ok (.pointer (some ⟨b, o + i.toNat * sz, none⟩)) w := by
  obtain ⟨_, d, z, hi, hd, hz, hkk, _, _⟩ := tiOf_spec h
  rw [hk] at hkk
  obtain ⟨rfl, ie, de, hie, hde, hs, hb⟩ := kindOf_array hkk
  simp [Instr.indexAt, asIntOf, Instr.sureAddr, run_underlying hd, h0, hn, run_sizeOf hie, hs, addr_add]
end

-- the equations of what is worked out in a walk, made here once
theorem TK_agg_eqns : True := have := @TK.agg.eq_1; trivial
end Go.Proofs.Ytfcfhlfehomhpaa.AL

/- What one operation does, in the words of AL1: the triple OpSem, and that it carries a related frame to a related frame. -/
namespace Go.Proofs.Ytfcfhlfehomhpaa.AL
open Go.RowKit

structure Eff where
  val : AV
  obl : Prop := True
  upd : Option (Nat × LV) := none
  fresh : Bool := false

def RelAs (w : World) (h : Gh) (us : List Value) (xs : List AV) : Prop :=
  us.length = xs.length ∧ ∀ (j : Nat) v x, us[j]? = some v → xs[j]? = some x → RelA w h v x

/-- How worlds and ghosts may go on in one operation that updates location u. -/
structure Trans (B : Nat → Prop) (w : World) (h : Gh) (w' : World) (h' : Gh) (own : Option Nat) (u : Option Nat) (fresh : Bool) : Prop where
  below : BelowS B w w'
  blocks : ∀ b, b < w.heap.size → own ≠ some b → w'.heap[b]? = w.heap[b]? ∧ h'.g b = h.g b
  keep : Keep w h.g w' h'.g
  gz : GZ w' h'.g
  gB : ∀ b, ¬ B b → h'.g b = h.g b
  ρ : ∀ l, (fresh = true → u ≠ some l) → h'.ρ l = h.ρ l
  κ : ∀ l, u ≠ some l → h'.κ l = h.κ l ∧ h'.μ l = h.μ l
  up : ∀ l, u = some l → fresh = false → h.μ l < h'.μ l ∨ (h'.κ l = h.κ l ∧ h'.μ l = h.μ l)

theorem Trans.same {B : Nat → Prop} {w w' : World} {h : Gh} {g' : Nat → Nat} (hb : BelowS B w w') (hblocks : ∀ b, b < w.heap.size → w'.heap[b]? = w.heap[b]? ∧ g' b = h.g b) (hgz : GZ w h.g) (hgz' : GZ w' g') (hB : NewIn B w) (own : Option Nat) :
    Trans B w h w' { h with g := g' } own none false where
  below := hb
  blocks := fun b hbl _ => hblocks b hbl
  keep := by
    refine ⟨fun b => ?_, fun b o ho => ?_⟩
    · by_cases hbl : b < w.heap.size
      · exact Nat.le_of_eq (hblocks b hbl).2.symm
      · rw [hgz b (by omega)]; exact Nat.zero_le _
    · have hbl : b < w.heap.size := by
        by_cases hbl : b < w.heap.size
        · exact hbl
        · rw [hgz b (by omega)] at ho; omega
      exact World.cell?_of_block (w := w) (hblocks b hbl).1
  gz := hgz'
  gB := fun b hb => (hblocks b (hB.lt hb)).2
  ρ := fun _ _ => rfl
  κ := fun _ _ => ⟨rfl, rfl⟩
  up := fun l hl => by cases hl

theorem RelA.trans {B : Nat → Prop} {w w' : World} {h h' : Gh} {own u : Option Nat} {fresh : Bool} (t : Trans B w h w' h' own u fresh) {v : Value} {x : AV}
    (hx : fresh = true → ∀ l, u = some l → l ∉ x.mentions) (r : RelA w h v x) : RelA w' h' v x := by
  have hρ : ∀ l, l ∈ x.mentions → h'.ρ l = h.ρ l := fun l hl => t.ρ l fun hf hu => hx hf l hu hl
  cases x with
  | top => trivial
  | undef => exact r
  | p x => exact RelP.keep t.keep r
  | loc l off => simp only [RelA] at *; rw [hρ l (by simp [AV.mentions])]; exact r
  | gr l gen sz n f =>
    simp only [RelA] at *
    obtain ⟨r1, r2, r3⟩ := r
    refine ⟨r1.keep t.keep, ?_⟩
    by_cases hu : u = some l
    · cases hf : fresh with
      | true => exact absurd (by simp [AV.mentions]) (hx hf l hu)
      | false =>
        rcases t.up l hu hf with hlt | ⟨e1, e2⟩
        · exact ⟨by omega, fun he => by omega⟩
        · rw [e1, e2]; exact ⟨r2, r3⟩
    · obtain ⟨e1, e2⟩ := t.κ l hu
      rw [e1, e2]; exact ⟨r2, r3⟩
  | row l sz off n => simp only [RelA] at *; rw [hρ l (by simp [AV.mentions])]; exact r
  | tup xs => obtain ⟨vs, hv, hr⟩ := r; exact ⟨vs, hv, hr.keep t.keep⟩

theorem blockOf_lt {B : Nat → Prop} {w : World} {h : Gh} {l : Nat} {L : LV} (hL : LocOK B w h l L) {b : Nat} (hb : blockOf h l L = some b) : b < w.heap.size := by
  cases L with
  | cells e cs => obtain ⟨arr, _, hh, _⟩ := hL; simp [blockOf] at hb; subst hb; exact (Array.getElem?_eq_some_iff.1 hh).1
  | arr e n f => obtain ⟨arr, _, _, hh, _⟩ := hL; simp [blockOf] at hb; subst hb; exact (Array.getElem?_eq_some_iff.1 hh).1
  | grow e sz n gen => obtain ⟨_, ⟨xs, hx⟩, _⟩ := hL; exact (hx.lt b hb).2

theorem LocOK.trans {B : Nat → Prop} {w w' : World} {h h' : Gh} {own u : Option Nat} {fresh : Bool} (t : Trans B w h w' h' own u fresh) {l : Nat} {L : LV}
    (hl : u ≠ some l) (hm : fresh = true → ∀ l, u = some l → l ∉ L.mentions) (hown : ∀ b, blockOf h l L = some b → own ≠ some b) (k : LocOK B w h l L) :
    LocOK B w' h' l L ∧ blockOf h' l L = blockOf h l L := by
  have hρ : h'.ρ l = h.ρ l := t.ρ l fun _ => hl
  obtain ⟨hκ, hμ⟩ := t.κ l hl
  have hlt : ∀ b, blockOf h l L = some b → b < w.heap.size := fun b hb => blockOf_lt k hb
  have hbk : ∀ b, blockOf h l L = some b → w'.heap[b]? = w.heap[b]? ∧ h'.g b = h.g b := fun b hb => t.blocks b (hlt b hb) (hown b hb)
  cases L with
  | cells e cs =>
    obtain ⟨arr, h1, h2, h3, h4, h5⟩ := k
    obtain ⟨e1, e2⟩ := hbk (h.ρ l) rfl
    refine ⟨⟨arr, by rw [hρ]; exact h1, by rw [hρ, e1]; exact h2, h3, by rw [hρ, e2]; exact h4, fun i v x hv hx => ?_⟩, by simp [blockOf, hρ]⟩
    refine ⟨RelA.trans t (fun hf l' hl' hmem => hm hf l' hl' ?_) (h5 i v x hv hx).1, (h5 i v x hv hx).2⟩
    exact List.mem_flatMap.2 ⟨x, List.mem_of_getElem? hx, hmem⟩
  | arr e n f =>
    obtain ⟨arr, fz, h1, h2, hfz, h3, h4, h5⟩ := k
    obtain ⟨e1, e2⟩ := hbk (h.ρ l) rfl
    exact ⟨⟨arr, fz, by rw [hρ]; exact h1, by rw [hρ, e1]; exact h2, hfz, h3, by rw [hρ, e2]; exact h4, fun i v hi hv => (h5 i v hi hv).keep t.keep⟩, by simp [blockOf, hρ]⟩
  | grow e sz n gen =>
    obtain ⟨h1, ⟨xs, h2⟩, h3, h4⟩ := k
    refine ⟨⟨by rw [hμ]; exact h1, ⟨xs, ?_⟩, fun b c hb => ?_, fun b hb => h4 b (by rw [← hκ]; exact hb)⟩, by simp [blockOf, hκ]⟩
    · rw [hκ]
      rcases h2 with ⟨a1, a2 | ⟨gb, cap, cur, a2, a3, a4, a5⟩⟩
      · exact ⟨a1, .inl a2⟩
      · have hb : blockOf h l (.grow e sz n gen) = some gb := by simp [blockOf, a2, Value.ownBlock]
        exact ⟨a1, .inr ⟨gb, cap, cur, a2, a3, by rw [(hbk gb hb).1]; exact a4, a5⟩⟩
    · rw [hκ] at hb
      have hb' : blockOf h l (.grow e sz n gen) = some b := by simp [blockOf, hb, Value.ownBlock]
      rw [(hbk b hb').2]
      exact h3 b c hb

/-- The block that the operation may write. -/
def ownOf (h : Gh) (lL : Option (Nat × LV)) (E : Eff) : Option Nat :=
  match E.fresh, E.upd, lL with
  | false, some _, some (l, L) => blockOf h l L
  | _, _, _ => none

/-- THE TRIPLE of an operation: whatever the world, with operands that read as xs (and location l as L), it yields a value that reads as E.val, and updates location E.upd. -/
def OpSem (P : Program) (o : Oper) (xs : List AV) (lL : Option (Nat × LV)) (E : Eff) : Prop :=
  ∀ (B : Nat → Prop) (w : World) (h : Gh) (r : Operand → Value), NewIn B w → GZ w h.g → RelAs w h (o.op.operands.toList.map r) xs →
    (∀ l L, lL = some (l, L) → LocOK B w h l L) →
    ∃ n v w' h', (execOp r o).run P w = .ok n w' ∧ (n = .value v ∨ (n = .skip ∧ v = undef)) ∧ RelA w' h' v E.val ∧
      Trans B w h w' h' (ownOf h lL E) (E.upd.map (·.1)) E.fresh ∧
      ∀ l L', E.upd = some (l, L') → LocOK B w' h' l L' ∧ ∀ b, blockOf h' l L' = some b → w.heap.size ≤ b ∨ (E.fresh = false ∧ ∃ L, lL = some (l, L) ∧ blockOf h l L = some b)

namespace ASt
def eval (A : ASt) : Operand → AV
  | .tmp t => (look A.fr t).getD .top
  | .const v => if v.oneCell' then .p (.d (.v v)) else .top
  | .global _ => .top
  | .func f => .p (.fn (.func f) [] [])
def put (A : ASt) (dst : Option Tmp) (x : AV) : ASt :=
  match dst with
  | some d => { A with fr := (d, x) :: A.fr }
  | none => A
def upd (A : ASt) : Option (Nat × LV) → ASt
  | some (l, L) => { A with locs := (l, L) :: A.locs }
  | none => A
def apply (A : ASt) (dst : Option Tmp) (E : Eff) : ASt := (A.upd E.upd).put dst E.val
def unused (A : ASt) (l : Nat) : Prop :=
  (∀ t x, look A.fr t = some x → l ∉ x.mentions) ∧ (∀ l' L, look A.locs l' = some L → l ∉ L.mentions) ∧ l < 1000
/-- The location that the operation speaks of. -/
def locAt (A : ASt) : Option Nat → Option (Nat × LV)
  | some l => (look A.locs l).map (l, ·)
  | none => none
end ASt

theorem look_cons {α : Type} (t u : Nat) (x : α) (r : List (Nat × α)) : look ((t, x) :: r) u = if t = u then some x else look r u := rfl

section
variable {w0 : Base} {g0 : Nat → Nat} {nt : Nat} {A : ASt} {h : Gh} {a : Act} {w : World}

theorem Rel.gz (r : Rel w0 g0 nt A h a w) : GZ w h.g := r.ext.gz
theorem Rel.base (r : Rel w0 g0 nt A h a w) : NewIn w0.O w := r.ext.newIn

theorem Rel.eval (r : Rel w0 g0 nt A h a w) (x : Operand) : RelA w h (a.eval x) (A.eval x) := by
  cases x with
  | tmp t =>
    simp only [ASt.eval, Act.eval]
    cases hl : look A.fr t with
    | none => trivial
    | some y =>
      exact r.fr t y hl
  | const v =>
    simp only [ASt.eval, Act.eval]
    split
    · rename_i h1; exact .d _ _ (.v v h1)
    · trivial
  | global g => trivial
  | func f =>
    simp only [ASt.eval, Act.eval]
    exact .fn (.func f) [] [] [] [] rfl rfl (fun j v x hv => by simp at hv) (fun j v x hv => by simp at hv)

theorem Rel.evals (r : Rel w0 g0 nt A h a w) (l : List Operand) : RelAs w h (l.map a.eval) (l.map A.eval) := by
  refine ⟨by simp, fun j v x hv hx => ?_⟩
  simp only [List.getElem?_map] at hv hx
  cases hj : l[j]? with
  | none => simp [hj] at hv
  | some o => simp [hj] at hv hx; subst hv; subst hx; exact r.eval o

theorem getD_put (a : Act) (d t : Tmp) (v : Value) (hd : d < a.tmps.size) : (a.put (some d) v).tmps.getD t undef = if d = t then v else a.tmps.getD t undef := by
  simp only [Act.put, Array.getD_eq_getD_getElem?, Array.getElem?_setIfInBounds]
  by_cases h : d = t
  · subst h; simp [hd]
  · simp [h]

theorem Rel.put (r : Rel w0 g0 nt A h a w) {dst : Option Tmp} (hd : ∀ d, dst = some d → d < nt) {v : Value} {x : AV} (hx : RelA w h v x) : Rel w0 g0 nt (A.put dst x) h (a.put dst v) w := by
  cases dst with
  | none => exact r
  | some d =>
    refine ⟨by simpa [Act.put] using r.size, r.defers, fun t y hy => ?_, r.locs, r.sep, r.ext, r.pin⟩
    rw [getD_put a d t v (by rw [r.size]; exact hd d rfl)]
    simp only [ASt.put, look_cons] at hy
    split at hy
    · rename_i ht; rw [if_pos ht]; cases hy; exact hx
    · rename_i ht; rw [if_neg ht]; exact r.fr t y hy

/-- THE STEP: what one operation's triple gives carries a related frame on. -/
theorem Rel.carry {o : Oper} {lo : Option Nat} {E : Eff} {v : Value} {w' : World} {h' : Gh} (r : Rel w0 g0 nt A h a w)
    (hd : ∀ d, o.dst = some d → d < nt) (hf : E.fresh = true → ∀ l L, E.upd = some (l, L) → A.unused l) (hu : ∀ l L, E.upd = some (l, L) → E.fresh = false → lo = some l)
    (h3 : RelA w' h' v E.val) (t : Trans w0.O w h w' h' (ownOf h (A.locAt lo) E) (E.upd.map (·.1)) E.fresh)
    (h5 : ∀ l L', E.upd = some (l, L') → LocOK w0.O w' h' l L' ∧ ∀ b, blockOf h' l L' = some b → w.heap.size ≤ b ∨ (E.fresh = false ∧ ∃ L, A.locAt lo = some (l, L) ∧ blockOf h l L = some b)) :
    Rel w0 g0 nt (A.apply o.dst E) h' (a.put o.dst v) w' := by
  have hlo : ∀ l L, A.locAt lo = some (l, L) → lo = some l ∧ look A.locs l = some L := by
    intro l L he
    cases lo with
    | none => simp [ASt.locAt] at he
    | some l' =>
      simp only [ASt.locAt] at he
      cases hk : look A.locs l' with
      | none => simp [hk] at he
      | some L' => simp [hk] at he; obtain ⟨rfl, rfl⟩ := he; exact ⟨rfl, hk⟩
  have hun : E.fresh = true → ∀ l, E.upd.map (·.1) = some l → A.unused l := by
    intro hfr l hl
    cases hE : E.upd with
    | none => simp [hE] at hl
    | some p => obtain ⟨l', L⟩ := p; simp [hE] at hl; subst hl; exact hf hfr l' L hE
  have base : Rel w0 g0 nt (A.upd E.upd) h' a w' := by
    have hown : ∀ l L, look A.locs l = some L → E.upd.map (·.1) ≠ some l → ∀ b, blockOf h l L = some b → ownOf h (A.locAt lo) E ≠ some b := by
      intro l L hL hne b hb hb'
      unfold ownOf at hb'
      split at hb'
      · rename_i pu l' L' hfr hE hk
        obtain ⟨e1, e2⟩ := hlo l' L' hk
        obtain ⟨lu, Lu⟩ := pu
        have := hu lu Lu hE hfr
        rw [e1] at this
        cases this
        refine r.sep l l' L L' b (fun e => ?_) hL e2 hb hb'
        subst e
        simp [hE] at hne
      · cases hb'
    have hkeep : ∀ l L, look A.locs l = some L → E.upd.map (·.1) ≠ some l → LocOK w0.O w' h' l L ∧ blockOf h' l L = blockOf h l L := by
      intro l L hL hne
      exact LocOK.trans t hne (fun hfr l' hl' => (hun hfr l' hl').2.1 l L hL) (hown l L hL hne) (r.locs l L hL)
    have hfr : ∀ tt x, look A.fr tt = some x → RelA w' h' (a.tmps.getD tt undef) x := by
      intro tt x hx
      exact RelA.trans t (fun hfr l' hl' => (hun hfr l' hl').1 tt x hx) (r.fr tt x hx)
    have hext : ExtS w0 g0 w' h'.g := ⟨r.ext.below.trans t.below, fun b hb => (t.gB b hb).trans (r.ext.gam b hb), t.gz, r.ext.keep.trans t.keep⟩
    have hpin : ∀ l, 1000 ≤ l → h'.ρ l = w0.ρ l := fun l hl => (t.ρ l fun hfr hu' => absurd ((hun hfr l hu').2.2) (by omega)).trans (r.pin l hl)
    cases hE : E.upd with
    | none =>
      simp only [hE, Option.map_none] at hkeep
      refine ⟨r.size, r.defers, hfr, fun l L hL => (hkeep l L hL (by simp)).1, fun l l' L L' b hne hL hL' hb => ?_, hext, hpin⟩
      rw [(hkeep l' L' hL' (by simp)).2]
      rw [(hkeep l L hL (by simp)).2] at hb
      exact r.sep l l' L L' b hne hL hL' hb
    | some p =>
      obtain ⟨lu, Lu⟩ := p
      obtain ⟨k1, k2⟩ := h5 lu Lu hE
      simp only [hE, Option.map_some] at hkeep
      have hother : ∀ l L b, l ≠ lu → look A.locs l = some L → blockOf h' l L = some b → blockOf h' lu Lu ≠ some b := by
        intro l L b hne hL hb hb'
        obtain ⟨kk, ke⟩ := hkeep l L hL (by simpa using fun e => hne e.symm)
        rw [ke] at hb
        rcases k2 b hb' with hge | ⟨hff, L0, hL0, hb0⟩
        · have := blockOf_lt (r.locs l L hL) hb; omega
        · exact r.sep l lu L L0 b hne hL (hlo lu L0 hL0).2 hb hb0
      refine ⟨r.size, r.defers, hfr, fun l L hL => ?_, fun l l' L L' b hne hL hL' hb hb' => ?_, hext, hpin⟩
      · simp only [ASt.upd, look_cons] at hL
        split at hL
        · rename_i he; subst he; cases hL; exact k1
        · rename_i he; exact (hkeep l L hL (by simpa using he)).1
      · simp only [ASt.upd, look_cons] at hL hL'
        split at hL
        · rename_i he; subst he; cases hL
          rw [if_neg hne] at hL'
          exact hother l' L' b (Ne.symm hne) hL' hb' hb
        · split at hL'
          · rename_i he; subst he; cases hL'
            exact hother l L b hne hL hb hb'
          · rename_i h1 h2
            rw [(hkeep l L hL (by simpa using h1)).2] at hb
            rw [(hkeep l' L' hL' (by simpa using h2)).2] at hb'
            exact r.sep l l' L L' b hne hL hL' hb hb'
  exact base.put hd h3
end

-- the equations of what is worked out in a walk, made here once
theorem ASt_eval_eqns : True := have := @ASt.eval.eq_1; trivial
theorem ASt_put_eqns : True := have := @ASt.put.eq_1; trivial
theorem ASt_upd_eqns : True := have := @ASt.upd.eq_1; trivial
theorem ASt_apply_eqns : True := have := @ASt.apply.eq_1; trivial
theorem ASt_locAt_eqns : True := have := @ASt.locAt.eq_1; trivial
end Go.Proofs.Ytfcfhlfehomhpaa.AL

/- The operations: what each does to abstract values (opEff), and that it does so (opEff_sound). -/
namespace Go.Proofs.Ytfcfhlfehomhpaa.AL
open Go.RowKit

def setG (g : Nat → Nat) (b k : Nat) : Nat → Nat := fun x => if x = b then k else g x

section helpers
variable {B : Nat → Prop} {w : World} {h : Gh}

theorem trans_refl (hB : NewIn B w) (hz : GZ w h.g) (own : Option Nat) : Trans B w h w h own none false :=
  Trans.same (g' := h.g) (BelowS.refl _ _) (fun _ _ => ⟨rfl, rfl⟩) hz hz hB own

theorem trans_alloc (hB : NewIn B w) (hz : GZ w h.g) (o : Obj) (k : Nat) (own : Option Nat) :
    Trans B w h (w.alloc o) { h with g := setG h.g w.heap.size k } own none false := by
  refine Trans.same ((BelowS.refl _ _).alloc o) (fun b hb => ⟨Below.heap_alloc w o b hb, ?_⟩) hz (fun b hb => ?_) hB own
  · simp only [setG]; rw [if_neg (by omega)]
  · simp at hb
    simp only [setG]; rw [if_neg (by omega)]; exact hz b (by omega)

theorem trans_new (hB : NewIn B w) (hz : GZ w h.g) (o : Obj) (l : Nat) :
    Trans B w h (w.alloc o) { h with ρ := setG h.ρ l w.heap.size } none (some l) true where
  below := (BelowS.refl _ _).alloc o
  blocks := fun b hb _ => ⟨Below.heap_alloc w o b hb, rfl⟩
  keep := by
    refine ⟨fun b => Nat.le_refl _, fun b q hq => ?_⟩
    have hbl : b < w.heap.size := by
      by_cases hbl : b < w.heap.size
      · exact hbl
      · rw [hz b (by omega)] at hq; omega
    exact World.cell?_of_block (w := w) (Below.heap_alloc w o b hbl)
  gz := fun b hb => by simp at hb; exact hz b (by omega)
  gB := fun _ _ => rfl
  ρ := fun l' hl' => by
    have : l' ≠ l := fun e => hl' rfl (by rw [e])
    simp [setG, this]
  κ := fun _ _ => ⟨rfl, rfl⟩
  up := fun _ _ hf => by cases hf

theorem trans_set {b l : Nat} (hz : GZ w h.g) (hb : B b) (hg : h.g b = 0) (cs : Array Value) :
    Trans B w h (w.setRow b cs) h (some b) (some l) false where
  below := ⟨rfl, rfl, rfl, by simp, fun k _ hk => setRow_other w b k _ (fun e => hk (e ▸ hb))⟩
  blocks := fun k hk hne => ⟨setRow_other w b k _ (fun e => hne (by rw [e])), rfl⟩
  keep := by
    refine ⟨fun _ => Nat.le_refl _, fun k q hq => ?_⟩
    have hkb : k ≠ b := fun e => by subst e; omega
    exact World.cell?_of_block (w := w) (a := ⟨k, q, none⟩) (setRow_other w b k _ hkb)
  gz := fun k hk => by simp at hk; exact hz k hk
  gB := fun _ _ => rfl
  ρ := fun _ _ => rfl
  κ := fun _ _ => ⟨rfl, rfl⟩
  up := fun _ _ _ => .inr ⟨rfl, rfl⟩

theorem RelAs.get {us : List Value} {xs : List AV} (r : RelAs w h us xs) {j : Nat} {v : Value} {x : AV} (hv : us[j]? = some v) (hx : xs[j]? = some x) : RelA w h v x := r.2 j v x hv hx
theorem RelAs.one {v : Value} {xs : List AV} {x : AV} (r : RelAs w h [v] xs) (hx : xs = [x]) : RelA w h v x := by subst hx; exact r.2 0 v x rfl rfl
end helpers

variable {P : Program}

/-- An operation that only computes. -/
theorem opSem_pure {o : Oper} {xs : List AV} {lL : Option (Nat × LV)} {x : AV} {obl : Prop}
    (H : ∀ (B : Nat → Prop) (w : World) (h : Gh) (r : Operand → Value), RelAs w h (o.op.operands.toList.map r) xs → (∀ l L, lL = some (l, L) → LocOK B w h l L) →
      ∃ v, (execOp r o).run P w = .ok (.value v) w ∧ RelA w h v x) : OpSem P o xs lL ⟨x, obl, none, false⟩ := by
  intro B w h r hB hz hr hL
  obtain ⟨v, h1, h2⟩ := H B w h r hr hL
  exact ⟨_, v, w, h, h1, .inl rfl, h2, trans_refl hB hz _, fun l L' hl => by cases hl⟩

/-- An operation that makes a block that is never written again. -/
theorem opSem_alloc {o : Oper} {xs : List AV} {lL : Option (Nat × LV)} {x : AV} {obl : Prop}
    (H : ∀ (w : World) (h : Gh) (r : Operand → Value), GZ w h.g → RelAs w h (o.op.operands.toList.map r) xs →
      ∃ v e arr, (execOp r o).run P w = .ok (.value v) (w.alloc (.cells arr e)) ∧ RelA (w.alloc (.cells arr e)) { h with g := setG h.g w.heap.size arr.size } v x) : OpSem P o xs lL ⟨x, obl, none, false⟩ := by
  intro B w h r hB hz hr hL
  obtain ⟨v, e, arr, h1, h2⟩ := H w h r hz hr
  exact ⟨_, v, _, _, h1, .inl rfl, h2, trans_alloc hB hz _ _ _, fun l L' hl => by cases hl⟩

theorem cell_alloc_new (w : World) (arr : Array Value) (e : TypeId) (i : Nat) : (w.alloc (.cells arr e)).cell? ⟨w.heap.size, i, none⟩ = arr[i]? := by
  unfold World.cell?
  rw [_root_.Go.heap_alloc_new]
  rfl

/-! ### values -/
def boolAV : AV → Option Bool
  | .p (.d (.v (.bool b))) => some b
  | _ => none
def pickAV (c a b : AV) : Option AV :=
  match boolAV c with
  | some t => match boolAV a, boolAV b with
    | some x, some y => some (.p (.d (.v (.bool (bif t then x else y)))))
    | _, _ => some (bif t then a else b)
  | none => none
theorem boolAV_spec {w : World} {h : Gh} {x : AV} {b : Bool} (hb : boolAV x = some b) {v : Value} (r : RelA w h v x) : v = .bool b := by
  unfold boolAV at hb
  split at hb
  · cases hb
    cases r with | d _ _ r => cases r; rfl
  · cases hb
theorem relA_v {w : World} {h : Gh} {v x : Value} (r : RelA w h v (.p (.d (.v x)))) : v = x := by
  cases r with | d _ _ r => cases r; rfl
theorem relA_mk {w : World} {h : Gh} {x : Value} (hx : x.oneCell' = true) : RelA w h x (.p (.d (.v x))) := .d _ _ (.v x hx)

/-- A value's cells. -/
def datAV : AV → Option Dat
  | .p (.d d) => some d
  | .gr _ _ sz n f => some (.sl sz n f)
  | _ => none
def datsAV : AV → Option (List Dat)
  | .p (.agg ds) => some ds
  | .p (.d d) => some [d]
  | .gr _ _ sz n f => some [.sl sz n f]
  | _ => none
def cellsAV : AV → Option (List AV)
  | .p (.d d) => some [.p (.d d)]
  | .p (.agg ds) => some (ds.map fun d => .p (.d d))
  | .p (.fn f a b) => some [.p (.fn f a b)]
  | .gr l gen sz n f => some [.gr l gen sz n f]
  | .loc l o => some [.loc l o]
  | .row l sz o n => some [.row l sz o n]
  | _ => none

section
variable {w : World} {h : Gh} {v : Value} {x : AV}
theorem datAV_spec {d : Dat} (hd : datAV x = some d) (r : RelA w h v x) : RelD w h.g v d := by
  cases x <;> simp only [datAV] at hd <;> try (cases hd; done)
  case p x => cases x <;> simp only [datAV] at hd <;> cases hd; cases r with | d _ _ r => exact r
  case gr => cases hd; exact r.1
theorem datsAV_spec {ds : List Dat} (hd : datsAV x = some ds) (r : RelA w h v x) :
    v.cells.size = ds.length ∧ (∀ (j : Nat) u d, v.cells[j]? = some u → ds[j]? = some d → RelD w h.g u d) ∧ (∀ u ∈ v.cells.toList, u.oneCell' = true) := by
  have one : ∀ {v : Value} {d : Dat}, RelD w h.g v d → v.cells.size = [d].length ∧ (∀ (j : Nat) u d', v.cells[j]? = some u → [d][j]? = some d' → RelD w h.g u d') ∧ (∀ u ∈ v.cells.toList, u.oneCell' = true) := by
    intro v d hr
    have h1 := hr.one
    have hc : v.cells = #[v] := by cases v <;> first | rfl | (simp [Value.oneCell'] at h1)
    rw [hc]
    refine ⟨rfl, fun j u d' hu hd' => ?_, fun u hu => ?_⟩
    · cases j with
      | zero => simp at hu hd'; subst hu; subst hd'; exact hr
      | succ j => simp at hu
    · simp at hu; subst hu; exact h1
  cases x <;> simp only [datsAV] at hd <;> try (cases hd; done)
  case p x =>
    cases x <;> simp only [datsAV] at hd <;> try (cases hd; done)
    case d d => cases hd; cases r with | d _ _ r => exact one r
    case agg cs =>
      cases hd
      cases r with
      | agg vs _ hl hr =>
        refine ⟨by simp [Value.cells, hl], fun j u d hu hd => hr j u d (by simpa [Value.cells] using hu) hd, fun u hu => ?_⟩
        simp [Value.cells] at hu
        obtain ⟨j, hj, rfl⟩ := List.getElem_of_mem hu
        have hj' : j < ds.length := hl ▸ hj
        exact (hr j _ _ (List.getElem?_eq_getElem hj) (List.getElem?_eq_getElem hj')).one
  case gr => cases hd; exact one r.1
theorem cellsAV_spec {cs : List AV} (hd : cellsAV x = some cs) (r : RelA w h v x) :
    v.cells.size = cs.length ∧ (∀ (j : Nat) u d, v.cells[j]? = some u → cs[j]? = some d → RelA w h u d) ∧ (∀ u ∈ v.cells.toList, u.oneCell' = true) := by
  have one : ∀ {v : Value} {d : AV}, v.oneCell' = true → RelA w h v d → v.cells.size = [d].length ∧ (∀ (j : Nat) u d', v.cells[j]? = some u → [d][j]? = some d' → RelA w h u d') ∧ (∀ u ∈ v.cells.toList, u.oneCell' = true) := by
    intro v d h1 hr
    have hc : v.cells = #[v] := by cases v <;> first | rfl | (simp [Value.oneCell'] at h1)
    rw [hc]
    refine ⟨rfl, fun j u d' hu hd' => ?_, fun u hu => ?_⟩
    · cases j with
      | zero => simp at hu hd'; subst hu; subst hd'; exact hr
      | succ j => simp at hu
    · simp at hu; subst hu; exact h1
  cases x <;> simp only [cellsAV] at hd <;> try (cases hd; done)
  case p x =>
    cases x <;> simp only [cellsAV] at hd <;> try (cases hd; done)
    case d d => cases hd; exact one (by cases r with | d _ _ r => exact r.one) r
    case agg ds =>
      cases hd
      obtain ⟨h1, h2, h3⟩ := datsAV_spec (x := .p (.agg ds)) rfl r
      refine ⟨by simpa using h1, fun j u d hu hd => ?_, h3⟩
      simp at hd
      obtain ⟨d', hd', rfl⟩ := hd
      exact .d _ _ (h2 j u d' hu hd')
    case fn f a b => cases hd; exact one (by cases r; rfl) r
  case gr => cases hd; exact one r.1.one r
  case loc => cases hd; exact one (by simp only [RelA] at r; subst r; rfl) r
  case row => cases hd; exact one (by obtain ⟨c, rfl, _⟩ := r; rfl) r
end

-- the equations of what is worked out in a walk, made here once
theorem pickAV_eqns : True := have := @pickAV.eq_1; trivial
theorem boolAV_eqns : True := have := @boolAV.eq_1; trivial
theorem datAV_eqns : True := have := @datAV.eq_1; trivial
theorem datsAV_eqns : True := have := @datsAV.eq_1; trivial
theorem cellsAV_eqns : True := have := @cellsAV.eq_1; trivial
end Go.Proofs.Ytfcfhlfehomhpaa.AL

/- The operations, one by one. -/
namespace Go.Proofs.Ytfcfhlfehomhpaa.AL
open Go.RowKit
variable {P : Program}

/-! ### move, pick, nilCheck -/
def effMove : List AV → Option Eff
  | [x] => some { val := x }
  | _ => none
def effPick : List AV → Option Eff
  | [c, a, b] => (pickAV c a b).map fun v => { val := v }
  | _ => none

theorem sem_move {o : Oper} {x : Operand} (ho : o.op = .move x ∨ o.op = .assign x) {xs : List AV} {lL : Option (Nat × LV)} {E : Eff} (hE : effMove xs = some E) : OpSem P o xs lL E := by
  unfold effMove at hE
  split at hE
  · rename_i y
    cases hE
    refine opSem_pure fun B w h r hr hL => ⟨r x, ?_, ?_⟩
    · rcases ho with ho | ho <;> simp [execOp, ho]
    · rcases ho with ho | ho <;> (simp only [ho, Op.operands] at hr; exact hr.2 0 _ _ rfl rfl)
  · cases hE

theorem sem_pick {o : Oper} {c a b : Operand} (ho : o.op = .pick c a b) {xs : List AV} {lL : Option (Nat × LV)} {E : Eff} (hE : effPick xs = some E) : OpSem P o xs lL E := by
  unfold effPick at hE
  split at hE
  · rename_i y1 y2 y3
    unfold pickAV at hE
    split at hE
    · rename_i t ht
      split at hE
      · rename_i x y hx hy
        simp at hE
        subst hE
        refine opSem_pure fun B w h r hr hL => ⟨.bool (bif t then x else y), ?_, relA_mk rfl⟩
        simp only [ho, Op.operands] at hr
        have e1 := boolAV_spec ht (hr.2 0 (r c) y1 rfl rfl)
        have e2 := boolAV_spec hx (hr.2 1 (r a) y2 rfl rfl)
        have e3 := boolAV_spec hy (hr.2 2 (r b) y3 rfl rfl)
        cases t <;> simp [execOp, ho, e1, e2, e3, asBool]
      · simp at hE
        subst hE
        refine opSem_pure fun B w h r hr hL => ⟨if t then r a else r b, ?_, ?_⟩
        · simp only [ho, Op.operands] at hr
          have e1 := boolAV_spec ht (hr.2 0 (r c) y1 rfl rfl)
          simp [execOp, ho, e1, asBool]
        · simp only [ho, Op.operands] at hr
          cases t
          · exact hr.2 2 (r b) y3 rfl rfl
          · exact hr.2 1 (r a) y2 rfl rfl
    · simp at hE
  · cases hE

/-! ### box, alloc -/
def effBox (M : List Nat) (t : TypeId) (dst : Option Tmp) : List AV → Option Eff
  | [x] => match dst with
    | some d => bif M.contains d then
        (match x with
         | .p (.arr n f) => some { val := .loc d 0, upd := some (d, .arr t n f), fresh := true }
         | x => (cellsAV x).map fun cs => { val := .loc d 0, obl := x.mentions.contains d = false, upd := some (d, .cells t cs), fresh := true })
      else
        (match x with
         | .p (.arr n f) => some { val := .p (.d (.bf n f)) }
         | x => (datsAV x).map fun ds => { val := .p (.d (.bx ds)) })
    | none => none
  | _ => none
def effAlloc (P : Program) (t : TypeId) (dst : Option Tmp) : Option Eff :=
  match tiOf P t, dst with
  | some ti, some d =>
    match ti.k, ti.zero with
    | .array n _ 1 false, z :: r => bif 8 < n then some { val := .loc d 0, obl := z :: r = List.replicate n z ∧ z.oneCell' = true, upd := some (d, .arr t n fun _ => .v z), fresh := true }
        else some { val := .loc d 0, obl := ((z :: r).all (·.oneCell')) = true, upd := some (d, .cells t ((z :: r).map fun z => .p (.d (.v z)))), fresh := true }
    | _, zs => some { val := .loc d 0, obl := (zs.all (·.oneCell')) = true, upd := some (d, .cells t (zs.map fun z => .p (.d (.v z)))), fresh := true }
  | _, _ => none

/-- A new location: its block is laid. -/
theorem opSem_new {o : Oper} {xs : List AV} {lL : Option (Nat × LV)} {l : Nat} {L : LV} {obl : Prop} (hgrow : ∀ h, blockOf h l L = some (h.ρ l))
    (H : ∀ (w : World) (h : Gh) (r : Operand → Value), GZ w h.g → RelAs w h (o.op.operands.toList.map r) xs →
      ∃ t arr, (execOp r o).run P w = .ok (.value (.pointer (some ⟨w.heap.size, 0, none⟩))) (w.alloc (.cells arr t)) ∧
        ∀ B : Nat → Prop, NewIn B w → LocOK B (w.alloc (.cells arr t)) { h with ρ := setG h.ρ l w.heap.size } l L) : OpSem P o xs lL ⟨.loc l 0, obl, some (l, L), true⟩ := by
  intro B w h r hB hz hr hL
  obtain ⟨t, arr, h1, h2⟩ := H w h r hz hr
  refine ⟨_, _, _, { h with ρ := setG h.ρ l w.heap.size }, h1, .inl rfl, by simp [RelA, setG], ?_, fun l' L' hl => ?_⟩
  · have : ownOf h lL ⟨.loc l 0, obl, some (l, L), true⟩ = none := rfl
    rw [this]; exact trans_new hB hz _ l
  · cases hl
    refine ⟨h2 B hB, fun b hb => .inl ?_⟩
    rw [hgrow] at hb
    simp [setG] at hb
    omega
theorem locOK_new_cells {B : Nat → Prop} {w : World} {h : Gh} {l : Nat} {t : TypeId} {arr : Array Value} {cs : List AV} (hB : NewIn B w) (hz : GZ w h.g) (hs : arr.size = cs.length)
    (hc : ∀ (i : Nat) v x, arr[i]? = some v → cs[i]? = some x → RelA (w.alloc (.cells arr t)) { h with ρ := setG h.ρ l w.heap.size } v x ∧ v.oneCell' = true) :
    LocOK B (w.alloc (.cells arr t)) { h with ρ := setG h.ρ l w.heap.size } l (.cells t cs) :=
  ⟨arr, by simp only [setG, if_true]; exact hB _ (Nat.le_refl _), by simp only [setG, if_true]; exact _root_.Go.heap_alloc_new w _, hs, by simp only [setG, if_true]; exact hz _ (Nat.le_refl _), hc⟩
theorem locOK_new_arr {B : Nat → Prop} {w : World} {h : Gh} {l : Nat} {t : TypeId} {arr : Array Value} {n : Nat} {f : Nat → Dat} (hB : NewIn B w) (hz : GZ w h.g) (hs : arr.size = n)
    (hc : ∀ (i : Nat) v, arr[i]? = some v → RelD (w.alloc (.cells arr t)) h.g v (f i)) :
    LocOK B (w.alloc (.cells arr t)) { h with ρ := setG h.ρ l w.heap.size } l (.arr t n f) :=
  ⟨arr, (0, 0), by simp only [setG, if_true]; exact hB _ (Nat.le_refl _), by simp only [setG, if_true]; exact _root_.Go.heap_alloc_new w _, .inl rfl, by omega, by simp only [setG, if_true]; exact hz _ (Nat.le_refl _), fun i v _ hv => hc i v hv⟩

theorem keep_alloc {w : World} {g : Nat → Nat} (hz : GZ w g) (o : Obj) (k : Nat) : Keep w g (w.alloc o) (setG g w.heap.size k) := by
  have := (trans_alloc (B := fun _ => True) (h := ⟨g, id, fun _ => undef, id⟩) (fun _ _ => trivial) hz o k none).keep
  exact this
theorem keep_alloc0 {w : World} {g : Nat → Nat} (hz : GZ w g) (o : Obj) : Keep w g (w.alloc o) g := by
  have := (trans_new (B := fun _ => True) (h := ⟨g, id, fun _ => undef, id⟩) (fun _ _ => trivial) hz o 0).keep
  exact this

theorem relA_new {w : World} {h : Gh} (hz : GZ w h.g) (o : Obj) (l : Nat) {v : Value} {x : AV} (hm : x.mentions.contains l = false) (r : RelA w h v x) :
    RelA (w.alloc o) { h with ρ := setG h.ρ l w.heap.size } v x :=
  RelA.trans (trans_new (B := fun _ => True) (fun _ _ => trivial) hz o l) (fun _ l' hl' hm' => by cases hl'; simp at hm; exact hm hm') r

theorem cells_mentions {x : AV} {cs : List AV} (hd : cellsAV x = some cs) {l : Nat} (hm : x.mentions.contains l = false) : ∀ y ∈ cs, y.mentions.contains l = false := by
  intro y hy
  cases x <;> simp only [cellsAV] at hd <;> try (cases hd; done)
  case p x =>
    cases x <;> simp only [cellsAV] at hd <;> try (cases hd; done)
    case d d => cases hd; simp at hy; subst hy; exact hm
    case agg ds => cases hd; simp at hy; obtain ⟨_, _, rfl⟩ := hy; rfl
    case fn f a b => cases hd; simp at hy; subst hy; exact hm
  case gr => cases hd; simp at hy; subst hy; exact hm
  case loc => cases hd; simp at hy; subst hy; exact hm
  case row => cases hd; simp at hy; subst hy; exact hm

theorem run_box_op {o : Oper} {t : TypeId} {x : Operand} (ho : o.op = .box t x) (r : Operand → Value) (w : World) :
    (execOp r o).run P w = .ok (.value (.pointer (some ⟨w.heap.size, 0, none⟩))) (w.alloc (.cells (r x).cells t)) := by
  simp [execOp, ho, run_box]
theorem arr_cells {w : World} {h : Gh} {v : Value} {n : Nat} {f : Nat → Dat} (r : RelA w h v (.p (.arr n f))) : v.cells.size = n ∧ ∀ (i : Nat) u, v.cells[i]? = some u → RelD w h.g u (f i) := by
  cases r with
  | arr vs _ _ hl hr => exact ⟨by simp [Value.cells, hl], fun i u hu => hr i u (by simpa [Value.cells] using hu)⟩

theorem sem_box {M : List Nat} {o : Oper} {t : TypeId} {x : Operand} (ho : o.op = .box t x) {xs : List AV} {lL : Option (Nat × LV)} {E : Eff} (hE : effBox M t o.dst xs = some E) (hobl : E.obl) : OpSem P o xs lL E := by
  unfold effBox at hE
  split at hE
  · rename_i y
    split at hE
    · rename_i d hd
      cases hMd : M.contains d with
      | true =>
        rw [hMd] at hE
        simp only [cond_true] at hE
        split at hE
        · rename_i n f
          cases hE
          refine opSem_new (fun _ => rfl) fun w h r hz hr => ⟨t, (r x).cells, run_box_op ho r w, fun B hB => ?_⟩
          simp only [ho, Op.operands] at hr
          obtain ⟨e1, e2⟩ := arr_cells (hr.2 0 (r x) _ rfl rfl)
          exact locOK_new_arr hB hz e1 fun i v hv => (e2 i v hv).keep (keep_alloc0 hz _)
        · cases hc : cellsAV y with
          | none => simp [hc] at hE
          | some cs =>
            simp [hc] at hE
            subst hE
            have hm : y.mentions.contains d = false := by simpa using hobl
            refine opSem_new (fun _ => rfl) fun w h r hz hr => ⟨t, (r x).cells, run_box_op ho r w, fun B hB => ?_⟩
            simp only [ho, Op.operands] at hr
            obtain ⟨e1, e2, e3⟩ := cellsAV_spec hc (hr.2 0 (r x) _ rfl rfl)
            refine locOK_new_cells hB hz e1 fun i v z hv hz' => ⟨?_, e3 v (Array.mem_toList_iff.2 (Array.mem_of_getElem? hv))⟩
            exact relA_new hz _ d (cells_mentions hc hm z (List.mem_of_getElem? hz')) (e2 i v z hv hz')
      | false =>
        rw [hMd] at hE
        simp only [cond_false] at hE
        split at hE
        · rename_i n f
          cases hE
          refine opSem_alloc fun w h r hz hr => ⟨_, t, (r x).cells, run_box_op ho r w, ?_⟩
          simp only [ho, Op.operands] at hr
          obtain ⟨e1, e2⟩ := arr_cells (hr.2 0 (r x) _ rfl rfl)
          refine .d _ _ (.bf _ _ _ _ (fun i => (r x).cells.getD i undef) (fun j hj => ?_) ?_ (fun j hj => ?_))
          · rw [Nat.zero_add, cell_alloc_new]; simp [Array.getD_eq_getD_getElem?, e1, hj]
          · simp [setG, e1]
          · exact (e2 j _ (by simp [Array.getD_eq_getD_getElem?, e1, hj])).keep (keep_alloc hz _ _)
        · cases hc : datsAV y with
          | none => simp [hc] at hE
          | some ds =>
            simp [hc] at hE
            subst hE
            refine opSem_alloc fun w h r hz hr => ⟨_, t, (r x).cells, run_box_op ho r w, ?_⟩
            simp only [ho, Op.operands] at hr
            obtain ⟨e1, e2, e3⟩ := datsAV_spec hc (hr.2 0 (r x) _ rfl rfl)
            refine .d _ _ (.bx _ _ _ (fun i => (r x).cells.getD i undef) (fun j hj => ?_) ?_ (fun j z hj => ?_))
            · rw [Nat.zero_add, cell_alloc_new]; simp [Array.getD_eq_getD_getElem?, e1, hj]
            · simp [setG, e1]
            · have hj' : j < ds.length := (List.getElem?_eq_some_iff.1 hj).1
              exact (e2 j _ z (by simp [Array.getD_eq_getD_getElem?, e1, hj']) hj).keep (keep_alloc hz _ _)
    · cases hE
  · cases hE

theorem sem_alloc {o : Oper} {t : TypeId} (ho : o.op = .alloc t) {xs : List AV} {lL : Option (Nat × LV)} {E : Eff} (hE : effAlloc P t o.dst = some E) (hobl : E.obl) : OpSem P o xs lL E := by
  unfold effAlloc at hE
  split at hE
  · rename_i ti d hti hd
    have hrun : ∀ (r : Operand → Value) (w : World), (execOp r o).run P w = .ok (.value (.pointer (some ⟨w.heap.size, 0, none⟩))) (w.alloc (.cells ti.zero.toArray t)) := by
      intro r w; simp [execOp, ho, run_alloc hti]
    have gen : ∀ zs, ti.zero = zs → (zs.all (·.oneCell')) = true → OpSem P o xs lL { val := .loc d 0, obl := (zs.all (·.oneCell')) = true, upd := some (d, .cells t (zs.map fun z => .p (.d (.v z)))), fresh := true } := by
      intro zs hzs hall
      refine opSem_new (fun _ => rfl) fun w h r hz hr => ⟨t, ti.zero.toArray, hrun r w, fun B hB => ?_⟩
      refine locOK_new_cells hB hz (by simp [hzs]) fun i v z hv hz' => ?_
      simp [hzs] at hv hz'
      obtain ⟨z0, hz0, rfl⟩ := hz'
      rw [hz0] at hv; cases hv
      have h1 : v.oneCell' = true := List.all_eq_true.1 hall v (List.mem_of_getElem? hz0)
      exact ⟨relA_mk h1, h1⟩
    split at hE
    · rename_i n e z rr hk hzero
      cases h8 : decide (8 < n) with
      | true =>
        rw [h8] at hE
        simp only [cond_true] at hE
        cases hE
        obtain ⟨h1, h2⟩ := hobl
        refine opSem_new (fun _ => rfl) fun w h r hz hr => ⟨t, ti.zero.toArray, hrun r w, fun B hB => ?_⟩
        refine locOK_new_arr hB hz (by rw [hzero, h1]; simp) fun i v hv => ?_
        rw [hzero, h1] at hv
        simp [Array.getElem?_replicate] at hv
        rw [← hv.2]; exact .v _ h2
      | false =>
        rw [h8] at hE
        simp only [cond_false] at hE
        cases hE
        exact gen _ hzero hobl
    · cases hE
      exact gen _ rfl hobl
  · cases hE


-- the equations of what is worked out in a walk, made here once
theorem effMove_eqns : True := have := @effMove.eq_1; trivial
theorem effPick_eqns : True := have := @effPick.eq_1; trivial
theorem effBox_eqns : True := have := @effBox.eq_1; trivial
theorem effAlloc_eqns : True := have := @effAlloc.eq_1; trivial
end Go.Proofs.Ytfcfhlfehomhpaa.AL

/- The operations, continued: loads, stores, addresses. -/
namespace Go.Proofs.Ytfcfhlfehomhpaa.AL
open Go.RowKit
variable {P : Program}

def effLoad (P : Program) (t : TypeId) (xs : List AV) (lL : Option (Nat × LV)) : Option Eff :=
  match tiOf P t, xs with
  | some ti, [.p (.d (.bx cs))] =>
    bif ti.k.agg then some { val := .p (.agg (cs.take ti.size)), obl := ti.size ≤ cs.length }
    else (match cs with
      | c :: _ => some { val := .p (.d c) }
      | [] => none)
  | some ti, [.p (.d (.bf n f))] =>
    bif ti.k.agg then some { val := .p (.arr ti.size f), obl := ti.size ≤ n }
    else some { val := .p (.d (f 0)), obl := 0 < n }
  | some ti, [.loc l off] =>
    match lL with
    | some (l', .cells _ cs) =>
      bif ti.k.agg then (((cs.drop off).take ti.size).mapM datAV).map fun ds => { val := .p (.agg ds), obl := l' = l ∧ ds.length = ti.size }
      else (cs[off]?).map fun c => { val := c, obl := l' = l }
    | some (l', .arr _ n f) =>
      bif ti.k.agg then some { val := .p (.arr ti.size fun j => f (off + j)), obl := l' = l ∧ off + ti.size ≤ n }
      else some { val := .p (.d (f off)), obl := l' = l ∧ off < n }
    | _ => none
  | _, _ => none

theorem run_load_op {o : Oper} {t : TypeId} {x : Operand} (ho : o.op = .load t x) (r : Operand → Value) (w : World) {a : Value} {v : Value} (ha : r x = a) (hv : (Instr.loadAt t a).run P w = .ok v w) :
    (execOp r o).run P w = .ok (.value v) w := by
  simp [execOp, ho, ha, hv]

theorem heap_cell {w : World} {b : Nat} {arr : Array Value} {e : TypeId} {fz : Nat × Nat} (h : w.heap[b]? = some (.cells arr e fz)) (i : Nat) : w.cell? ⟨b, i, none⟩ = arr[i]? := by
  simp [World.cell?, h]

theorem mapM_datAV {w : World} {h : Gh} : ∀ {cs : List AV} {ds : List Dat}, cs.mapM datAV = some ds → ∀ (j : Nat) v d, (∀ x, cs[j]? = some x → RelA w h v x) → ds[j]? = some d → RelD w h.g v d := by
  intro cs ds hm j v d hv hd
  obtain ⟨x, hx, hxd⟩ := mapM_get hm j d hd
  exact datAV_spec hxd (hv x hx)

/-- What a load yields, in the very world. -/
def PureSem (P : Program) (o : Oper) (xs : List AV) (lL : Option (Nat × LV)) (x : AV) : Prop :=
  ∀ (B : Nat → Prop) (w : World) (h : Gh) (r : Operand → Value), RelAs w h (o.op.operands.toList.map r) xs → (∀ l L, lL = some (l, L) → LocOK B w h l L) →
      ∃ v, (execOp r o).run P w = .ok (.value v) w ∧ RelA w h v x
theorem sem_load_pure {o : Oper} {t : TypeId} {x : Operand} (ho : o.op = .load t x) {xs : List AV} {lL : Option (Nat × LV)} {E : Eff} (hE : effLoad P t xs lL = some E) (hobl : E.obl) : PureSem P o xs lL E.val ∧ E.upd = none ∧ E.fresh = false := by
  unfold effLoad at hE
  split at hE
  · rename_i ti cs hti
    cases hag : ti.k.agg with
    | true =>
      rw [hag] at hE; simp only [cond_true] at hE; cases hE
      refine ⟨fun B w h r hr hL => ?_, rfl, rfl⟩
      simp only [ho, Op.operands] at hr
      have h0 := hr.2 0 (r x) _ rfl rfl
      obtain ⟨v0, hv0⟩ : ∃ v, r x = v := ⟨_, rfl⟩
      rw [hv0] at h0
      cases h0 with
      | d _ _ h0 =>
        cases h0 with
        | bx b off _ u hc hg hrr =>
          have hlen : ti.size ≤ cs.length := hobl
          refine ⟨.agg ((List.range ti.size).map u).toArray, run_load_op ho r w hv0 (run_load_agg hti hag (by simp) fun j v hv => ?_), .agg _ _ (by simp; omega) fun j v d hv hd => ?_⟩
          · simp [List.getElem?_map, List.getElem?_range] at hv
            rcases hlt : decide (j < ti.size) with _ | _
            · simp at hlt; rw [List.getElem?_eq_none (by simpa using hlt)] at hv; simp at hv
            · simp at hlt; rw [List.getElem?_range hlt] at hv; simp at hv; subst hv; exact hc j (by omega)
          · have hlt : j < ti.size := by have := (List.getElem?_eq_some_iff.1 hv).1; simpa using this
            simp [List.getElem?_range hlt] at hv; subst hv
            rw [List.getElem?_take_of_lt hlt] at hd
            exact hrr j d hd
    | false =>
      rw [hag] at hE; simp only [cond_false] at hE
      split at hE
      · rename_i c rest
        cases hE
        refine ⟨fun B w h r hr hL => ?_, rfl, rfl⟩
        simp only [ho, Op.operands] at hr
        have h0 := hr.2 0 (r x) _ rfl rfl
        obtain ⟨v0, hv0⟩ : ∃ v, r x = v := ⟨_, rfl⟩
        rw [hv0] at h0
        cases h0 with
        | d _ _ h0 =>
          cases h0 with
          | bx b off _ u hc hg hrr =>
            have := hc 0 (by simp)
            exact ⟨u 0, run_load_op ho r w hv0 (run_load_scalar hti hag (by simpa using this)), .d _ _ (hrr 0 c rfl)⟩
      · cases hE
  · rename_i ti n f hti
    cases hag : ti.k.agg with
    | true =>
      rw [hag] at hE; simp only [cond_true] at hE; cases hE
      refine ⟨fun B w h r hr hL => ?_, rfl, rfl⟩
      simp only [ho, Op.operands] at hr
      have h0 := hr.2 0 (r x) _ rfl rfl
      obtain ⟨v0, hv0⟩ : ∃ v, r x = v := ⟨_, rfl⟩
      rw [hv0] at h0
      have hlen : ti.size ≤ n := hobl
      cases h0 with
      | d _ _ h0 =>
        cases h0 with
        | bf b off _ _ u hc hg hrr =>
          refine ⟨.agg ((List.range ti.size).map u).toArray, run_load_op ho r w hv0 (run_load_agg hti hag (by simp) fun j v hv => ?_), .arr _ _ _ (by simp) fun j v hv => ?_⟩
          · have hlt : j < ti.size := by have := (List.getElem?_eq_some_iff.1 hv).1; simpa using this
            simp [List.getElem?_range hlt] at hv; subst hv; exact hc j (by omega)
          · have hlt : j < ti.size := by have := (List.getElem?_eq_some_iff.1 hv).1; simpa using this
            simp [List.getElem?_range hlt] at hv; subst hv; exact hrr j (by omega)
    | false =>
      rw [hag] at hE; simp only [cond_false] at hE; cases hE
      refine ⟨fun B w h r hr hL => ?_, rfl, rfl⟩
      simp only [ho, Op.operands] at hr
      have h0 := hr.2 0 (r x) _ rfl rfl
      obtain ⟨v0, hv0⟩ : ∃ v, r x = v := ⟨_, rfl⟩
      rw [hv0] at h0
      have hlen : 0 < n := hobl
      cases h0 with
      | d _ _ h0 =>
        cases h0 with
        | bf b off _ _ u hc hg hrr =>
          have := hc 0 hlen
          exact ⟨u 0, run_load_op ho r w hv0 (run_load_scalar hti hag (by simpa using this)), .d _ _ (hrr 0 hlen)⟩
  · rename_i ti l off hti
    split at hE
    · rename_i l' e cs
      cases hag : ti.k.agg with
      | true =>
        rw [hag] at hE; simp only [cond_true] at hE
        cases hm : ((cs.drop off).take ti.size).mapM datAV with
        | none => simp [hm] at hE
        | some ds =>
          simp [hm] at hE; subst hE
          obtain ⟨rfl, hlen⟩ := hobl
          refine ⟨fun B w h r hr hL => ?_, rfl, rfl⟩
          simp only [ho, Op.operands] at hr
          have h0 : r x = _ := hr.2 0 (r x) _ rfl rfl
          obtain ⟨arr, hB, hh, hs, hg, hrr⟩ := hL _ _ rfl
          have hmlen : ∀ {cs : List AV} {ds : List Dat}, cs.mapM datAV = some ds → ds.length = cs.length := by
            intro cs
            induction cs with
            | nil => intro ds h; simp at h; subst h; rfl
            | cons y cs ih =>
              intro ds h
              simp only [List.mapM_cons] at h
              cases hy : datAV y with
              | none => simp [hy] at h
              | some d =>
                cases hl : cs.mapM datAV with
                | none => simp [hy, hl] at h
                | some r' => simp [hy, hl] at h; subst h; simp [ih hl]
          have hl2 := hmlen hm
          simp at hl2
          have hoff : min ti.size (arr.size - off) = ti.size := by rw [hs]; omega
          refine ⟨.agg ((arr.toList.drop off).take ti.size).toArray, run_load_op ho r w h0 (run_load_agg hti hag (by simp; omega) fun j v hv => ?_), .agg _ _ (by simp; omega) fun j v d hv hd => ?_⟩
          · have hlt : j < ti.size := by have := (List.getElem?_eq_some_iff.1 hv).1; simp at this; omega
            rw [List.getElem?_take_of_lt hlt, List.getElem?_drop] at hv
            rw [heap_cell hh]; simpa using hv
          · have hlt : j < ti.size := by have := (List.getElem?_eq_some_iff.1 hv).1; simp at this; omega
            rw [List.getElem?_take_of_lt hlt, List.getElem?_drop] at hv
            refine mapM_datAV hm j v d (fun y hy => ?_) hd
            rw [List.getElem?_take_of_lt hlt, List.getElem?_drop] at hy
            exact (hrr (off + j) v y (by simpa using hv) hy).1
      | false =>
        rw [hag] at hE; simp only [cond_false] at hE
        cases hc : cs[off]? with
        | none => simp [hc] at hE
        | some c =>
          simp [hc] at hE; subst hE
          cases (hobl : _ = _)
          refine ⟨fun B w h r hr hL => ?_, rfl, rfl⟩
          simp only [ho, Op.operands] at hr
          have h0 : r x = _ := hr.2 0 (r x) _ rfl rfl
          obtain ⟨arr, hB, hh, hs, hg, hrr⟩ := hL _ _ rfl
          have hlt : off < arr.size := by rw [hs]; exact (List.getElem?_eq_some_iff.1 hc).1
          exact ⟨arr[off], run_load_op ho r w h0 (run_load_scalar hti hag (by rw [heap_cell hh]; simp [hlt])), (hrr off _ c (by simp [hlt]) hc).1⟩
    · rename_i l' e n f
      cases hag : ti.k.agg with
      | true =>
        rw [hag] at hE; simp only [cond_true] at hE; cases hE
        obtain ⟨rfl, hlen⟩ := hobl
        refine ⟨fun B w h r hr hL => ?_, rfl, rfl⟩
        simp only [ho, Op.operands] at hr
        have h0 : r x = _ := hr.2 0 (r x) _ rfl rfl
        obtain ⟨arr, fz, hB, hh, hfz, hs, hg, hrr⟩ := hL _ _ rfl
        refine ⟨.agg ((arr.toList.drop off).take ti.size).toArray, run_load_op ho r w h0 (run_load_agg hti hag (by simp; omega) fun j v hv => ?_), .arr _ _ _ (by simp; omega) fun j v hv => ?_⟩
        · have hlt : j < ti.size := by have := (List.getElem?_eq_some_iff.1 hv).1; simp at this; omega
          rw [List.getElem?_take_of_lt hlt, List.getElem?_drop] at hv
          rw [heap_cell hh]; simpa using hv
        · have hlt : j < ti.size := by have := (List.getElem?_eq_some_iff.1 hv).1; simp at this; omega
          rw [List.getElem?_take_of_lt hlt, List.getElem?_drop] at hv
          exact hrr (off + j) v (by omega) (by simpa using hv)
      | false =>
        rw [hag] at hE; simp only [cond_false] at hE; cases hE
        obtain ⟨rfl, hlen⟩ := hobl
        refine ⟨fun B w h r hr hL => ?_, rfl, rfl⟩
        simp only [ho, Op.operands] at hr
        have h0 : r x = _ := hr.2 0 (r x) _ rfl rfl
        obtain ⟨arr, fz, hB, hh, hfz, hs, hg, hrr⟩ := hL _ _ rfl
        have hlt : off < arr.size := by omega
        exact ⟨arr[off], run_load_op ho r w h0 (run_load_scalar hti hag (by rw [heap_cell hh]; simp [hlt])), .d _ _ (hrr off _ hlen (by simp [hlt]))⟩
    · cases hE
  · cases hE
theorem sem_load {o : Oper} {t : TypeId} {x : Operand} (ho : o.op = .load t x) {xs : List AV} {lL : Option (Nat × LV)} {E : Eff} (hE : effLoad P t xs lL = some E) (hobl : E.obl) : OpSem P o xs lL E := by
  obtain ⟨h1, h2, h3⟩ := sem_load_pure ho hE hobl
  obtain ⟨val, obl, upd, fresh⟩ := E
  simp only at h1 h2 h3
  subst h2; subst h3
  exact opSem_pure h1

-- the equations of what is worked out in a walk, made here once
theorem effLoad_eqns : True := have := @effLoad.eq_1; trivial
end Go.Proofs.Ytfcfhlfehomhpaa.AL

/- The operations, continued: stores, addresses of fields and elements, parts of values. -/
namespace Go.Proofs.Ytfcfhlfehomhpaa.AL
open Go.RowKit
variable {P : Program}

def effStore (P : Program) (t : TypeId) (xs : List AV) (lL : Option (Nat × LV)) : Option Eff :=
  match tiOf P t, xs, lL with
  | some ti, [.loc l off, x], some (l', .cells e cs) =>
    (cellsAV x).map fun ys => { val := .top, obl := l' = l ∧ ys.length = ti.size ∧ off + ti.size ≤ cs.length, upd := some (l, .cells e (cs.take off ++ ys ++ cs.drop (off + ti.size))) }
  | some ti, [.loc l off, x], some (l', .arr e n f) =>
    match x with
    | .p (.arr m f') => some { val := .top, obl := l' = l ∧ off = 0 ∧ m = n ∧ ti.size = n, upd := some (l, .arr e n f') }
    | .p (.d d) => some { val := .top, obl := l' = l ∧ ti.size = 1 ∧ off < n, upd := some (l, .arr e n fun j => if j = off then d else f j) }
    | .p (.agg ds) => some { val := .top, obl := l' = l ∧ ds.length = ti.size ∧ off + ti.size ≤ n, upd := some (l, .arr e n fun j => if off ≤ j ∧ j < off + ti.size then ds.getD (j - off) default else f j) }
    | _ => none
  | _, _, _ => none

theorem run_store_op {o : Oper} {t : TypeId} {x y : Operand} (ho : o.op = .store t x y) (r : Operand → Value) (w w' : World) {a : Value} (ha : r x = a) (hv : (Instr.storeAt t a (r y)).run P w = .ok () w') :
    (execOp r o).run P w = .ok .skip w' := by
  simp [execOp, ho, ha, hv]

theorem splice_get {α : Type} (l ys : List α) (off : Nat) (hoff : off + ys.length ≤ l.length) (i : Nat) :
    (l.take off ++ ys ++ l.drop (off + ys.length))[i]? = if off ≤ i ∧ i < off + ys.length then ys[i - off]? else l[i]? := by
  by_cases h1 : i < off
  · rw [if_neg (by omega), List.append_assoc, List.getElem?_append_left (by simp; omega), List.getElem?_take_of_lt h1]
  · by_cases h2 : i < off + ys.length
    · rw [if_pos ⟨by omega, h2⟩, List.getElem?_append_left (by simp; omega), List.getElem?_append_right (by simp; omega)]
      congr 1; simp; omega
    · rw [if_neg (by omega), List.getElem?_append_right (by simp; omega), List.getElem?_drop]
      congr 1; simp; omega

/-- A store into an own location. -/
theorem opSem_store {o : Oper} {t : TypeId} {x y : Operand} (ho : o.op = .store t x y) {ti : TI} (hti : tiOf P t = some ti) {l off : Nat} {z : AV} {L L' : LV} {obl : Prop}
    (hL0 : ∀ h, blockOf h l L = some (h.ρ l)) (hL1 : ∀ h, blockOf h l L' = some (h.ρ l))
    (H : ∀ (B : Nat → Prop) (w : World) (h : Gh) (v : Value), RelA w h v z → LocOK B w h l L →
      ∃ arr e fz, B (h.ρ l) ∧ w.heap[h.ρ l]? = some (.cells arr e fz) ∧ (fz = (0, 0) ∨ arr.size ≤ fz.1) ∧ h.g (h.ρ l) = 0 ∧ v.cells.size = ti.size ∧ off + v.cells.size ≤ arr.size ∧ (∀ u ∈ v.cells.toList, u.oneCell' = true) ∧
        ∀ (w' : World), Keep w h.g w' h.g → w'.heap[h.ρ l]? = some (.cells (arr.toList.take off ++ v.cells.toList ++ arr.toList.drop (off + v.cells.size)).toArray e fz) →
          (∀ u x, RelA w h u x → RelA w' h u x) → LocOK B w' h l L') :
    OpSem P o [.loc l off, z] (some (l, L)) ⟨.top, obl, some (l, L'), false⟩ := by
  intro B w h r hB hz hr hL
  simp only [ho, Op.operands] at hr
  have h0 : r x = _ := hr.2 0 (r x) _ rfl rfl
  have h1 := hr.2 1 (r y) _ rfl rfl
  obtain ⟨arr, e, fz, k1, k2, kz, k3, k4, k5, k6, k7⟩ := H B w h (r y) h1 (hL l L rfl)
  have hst := run_storeAt hti k2 kz k4 k5 k6
  have tr : Trans B w h (w.setRow (h.ρ l) (arr.toList.take off ++ (r y).cells.toList ++ arr.toList.drop (off + (r y).cells.size)).toArray) h (some (h.ρ l)) (some l) false := trans_set hz k1 k3 _
  refine ⟨.skip, undef, _, h, run_store_op ho r w _ h0 hst, .inr ⟨rfl, rfl⟩, trivial, ?_, fun l' L2 hl => ?_⟩
  · have : ownOf h (some (l, L)) ⟨.top, obl, some (l, L'), false⟩ = some (h.ρ l) := by simp [ownOf, hL0]
    rw [this]; exact tr
  · cases hl
    refine ⟨k7 _ tr.keep (setRow_heap w _ arr _ e _ k2) (fun u x hx => RelA.trans tr (fun hf => by cases hf) hx), fun b hb => .inr ⟨rfl, L, rfl, ?_⟩⟩
    rw [hL0]; rw [hL1] at hb; exact hb

theorem sem_store {o : Oper} {t : TypeId} {x y : Operand} (ho : o.op = .store t x y) {xs : List AV} {lL : Option (Nat × LV)} {E : Eff} (hE : effStore P t xs lL = some E) (hobl : E.obl) : OpSem P o xs lL E := by
  unfold effStore at hE
  split at hE
  · rename_i ti l off z l' e cs hti
    cases hc : cellsAV z with
    | none => simp [hc] at hE
    | some ys =>
      simp [hc] at hE; subst hE
      obtain ⟨rfl, hlen, hoff⟩ := hobl
      refine opSem_store ho hti (fun _ => rfl) (fun _ => rfl) fun B w h v hv hL => ?_
      obtain ⟨arr, hB, hh, hs, hg, hrr⟩ := hL
      obtain ⟨e1, e2, e3⟩ := cellsAV_spec hc hv
      refine ⟨arr, e, (0, 0), hB, hh, .inl rfl, hg, by omega, by omega, e3, fun w' k hh' hrel => ⟨_, hB, hh', ?_, hg, fun i u d hu hd => ?_⟩⟩
      · simp; omega
      · have hsz : v.cells.size = ti.size := by omega
        have l1 : off + v.cells.toList.length ≤ arr.toList.length := by simp; omega
        have l2 : off + ys.length ≤ cs.length := by omega
        have g1 := splice_get arr.toList v.cells.toList off l1 i
        have g2 := splice_get cs ys off l2 i
        simp only [Array.length_toList, hsz] at g1
        rw [hlen] at g2
        simp only [List.getElem?_toArray, hsz] at hu
        rw [g1] at hu
        rw [← List.append_assoc, g2] at hd
        by_cases hi : off ≤ i ∧ i < off + ti.size
        · rw [if_pos hi] at hu hd
          have hu' : v.cells[i - off]? = some u := by simpa using hu
          exact ⟨hrel _ _ (e2 _ u d hu' hd), e3 u (Array.mem_toList_iff.2 (Array.mem_of_getElem? hu'))⟩
        · rw [if_neg hi] at hu hd
          obtain ⟨r1, r2⟩ := hrr i u d (by simpa using hu) hd
          exact ⟨hrel _ _ r1, r2⟩
  · rename_i ti l off z l' e n f hti
    split at hE
    · rename_i m f'
      cases hE
      obtain ⟨rfl, rfl, rfl, hsz⟩ := hobl
      refine opSem_store ho hti (fun _ => rfl) (fun _ => rfl) fun B w h v hv hL => ?_
      obtain ⟨arr, fz, hB, hh, hfz, hs, hg, hrr⟩ := hL
      obtain ⟨e1, e2⟩ := arr_cells hv
      have hone : ∀ u ∈ v.cells.toList, u.oneCell' = true := by
        intro u hu
        obtain ⟨i, hi, hiu⟩ := Array.getElem_of_mem (Array.mem_toList_iff.1 hu)
        exact (e2 i u (by simp [hi, hiu])).one
      refine ⟨arr, e, fz, hB, hh, hfz, hg, by omega, by omega, hone, fun w' k hh' hrel => ⟨_, fz, hB, hh', ?_, ?_, hg, fun i u hin hu => ?_⟩⟩
      · rcases hfz with e | e
        · exact .inl e
        · right; simp; omega
      · simp; omega
      · have hic : i < v.cells.size := by omega
        simp only [List.getElem?_toArray, List.take_zero, List.nil_append] at hu
        rw [List.getElem?_append_left (by simpa using hic)] at hu
        exact (e2 i u (by simpa using hu)).keep k
    · rename_i d
      cases hE
      obtain ⟨rfl, hsz, hoff⟩ := hobl
      refine opSem_store ho hti (fun _ => rfl) (fun _ => rfl) fun B w h v hv hL => ?_
      obtain ⟨arr, fz, hB, hh, hfz, hs, hg, hrr⟩ := hL
      obtain ⟨e1, e2, e3⟩ := datsAV_spec (x := .p (.d d)) rfl hv
      simp at e1
      refine ⟨arr, e, fz, hB, hh, hfz, hg, by omega, by omega, e3, fun w' k hh' hrel => ⟨_, fz, hB, hh', ?_, ?_, hg, fun i u hin hu => ?_⟩⟩
      · rcases hfz with e | e
        · exact .inl e
        · right; simp; omega
      · simp; omega
      · have g1 := splice_get arr.toList v.cells.toList off (by simp; omega) i
        simp only [Array.length_toList] at g1
        simp only [List.getElem?_toArray] at hu
        rw [g1] at hu
        show RelD _ _ _ (if i = off then d else f i)
        by_cases hi : i = off
        · rw [if_pos (by omega)] at hu
          rw [if_pos hi]
          exact (e2 0 u d (by subst hi; simpa using hu) rfl).keep k
        · rw [if_neg (by omega)] at hu
          rw [if_neg hi]
          exact (hrr i u hin (by simpa using hu)).keep k
    · rename_i ds
      cases hE
      obtain ⟨rfl, hsz, hoff⟩ := hobl
      refine opSem_store ho hti (fun _ => rfl) (fun _ => rfl) fun B w h v hv hL => ?_
      obtain ⟨arr, fz, hB, hh, hfz, hs, hg, hrr⟩ := hL
      obtain ⟨e1, e2, e3⟩ := datsAV_spec (x := .p (.agg ds)) rfl hv
      refine ⟨arr, e, fz, hB, hh, hfz, hg, by omega, by omega, e3, fun w' k hh' hrel => ⟨_, fz, hB, hh', ?_, ?_, hg, fun i u hin hu => ?_⟩⟩
      · rcases hfz with e | e
        · exact .inl e
        · right; simp; omega
      · simp; omega
      · have g1 := splice_get arr.toList v.cells.toList off (by simp; omega) i
        simp only [Array.length_toList] at g1
        simp only [List.getElem?_toArray] at hu
        rw [g1] at hu
        show RelD _ _ _ (if off ≤ i ∧ i < off + ti.size then ds.getD (i - off) default else f i)
        by_cases hi : off ≤ i ∧ i < off + ti.size
        · rw [if_pos (by omega)] at hu
          rw [if_pos hi]
          have hj : i - off < ds.length := by omega
          refine (e2 (i - off) u _ (by simpa using hu) ?_).keep k
          simp [List.getD_eq_getElem?_getD, hj]
        · rw [if_neg (by omega)] at hu
          rw [if_neg hi]
          exact (hrr i u hin (by simpa using hu)).keep k
    · cases hE
  · cases hE

/-! ### addresses -/
def effFieldAddr (P : Program) (t : TypeId) (n : Nat) (xs : List AV) : Option Eff :=
  match tiOf P t with
  | some ti => match ti.k with
    | .struct fs => match fs[n]?, xs with
      | some (off, sz, _), [.p (.d (.bx cs))] => some { val := .p (.d (.bx (cs.drop off))), obl := sz ≠ 0 ∧ off ≤ cs.length }
      | some (off, sz, _), [.loc l o] => some { val := .loc l (o + off), obl := sz ≠ 0 }
      | _, _ => none
    | _ => none
  | none => none
theorem relD_bx_drop {w : World} {g : Nat → Nat} {b o : Nat} {cs : List Dat} (r : RelD w g (.pointer (some ⟨b, o, none⟩)) (.bx cs)) (k : Nat) (hk : k ≤ cs.length) : RelD w g (.pointer (some ⟨b, o + k, none⟩)) (.bx (cs.drop k)) := by
  cases r with
  | bx _ _ _ u hc hg hr =>
    refine .bx b (o + k) _ (fun j => u (k + j)) (fun j hj => ?_) (by simp; omega) (fun j x hx => ?_)
    · simp at hj; rw [Nat.add_assoc]; exact hc _ (by omega)
    · rw [List.getElem?_drop] at hx; exact hr _ x hx
theorem relD_bx_ptr {w : World} {g : Nat → Nat} {v : Value} {cs : List Dat} (r : RelD w g v (.bx cs)) : ∃ b o, v = .pointer (some ⟨b, o, none⟩) := by
  cases r with | bx b o => exact ⟨b, o, rfl⟩
theorem sem_fieldAddr {o : Oper} {t : TypeId} {x : Operand} {n : Nat} (ho : o.op = .fieldAddr t x n) {xs : List AV} {lL : Option (Nat × LV)} {E : Eff} (hE : effFieldAddr P t n xs = some E) (hobl : E.obl) : OpSem P o xs lL E := by
  unfold effFieldAddr at hE
  split at hE
  · rename_i ti hti
    split at hE
    · rename_i fs hk
      split at hE
      · rename_i off sz ag cs hn
        cases hE
        obtain ⟨hsz, hoff⟩ := hobl
        refine opSem_pure fun B w h r hr hL => ?_
        simp only [ho, Op.operands] at hr
        have h0 := hr.2 0 (r x) _ rfl rfl
        obtain ⟨v0, hv0⟩ : ∃ v, r x = v := ⟨_, rfl⟩
        rw [hv0] at h0
        cases h0 with
        | d _ _ h0 =>
          obtain ⟨b, q, rfl⟩ := relD_bx_ptr h0
          exact ⟨_, by simp [execOp, ho, hv0, run_fieldAt hti hk hn hsz], .d _ _ (relD_bx_drop h0 off hoff)⟩
      · rename_i off sz ag l q hn
        cases hE
        refine opSem_pure fun B w h r hr hL => ?_
        simp only [ho, Op.operands] at hr
        have h0 : r x = _ := hr.2 0 (r x) _ rfl rfl
        exact ⟨_, by simp [execOp, ho, h0, run_fieldAt hti hk hn hobl], rfl⟩
      · cases hE
    · cases hE
  · cases hE

def intAV : AV → Option (IntKind × Int)
  | .p (.d (.v (.int k i))) => some (k, i)
  | _ => none
theorem intAV_spec {w : World} {h : Gh} {x : AV} {k : IntKind} {i : Int} (hb : intAV x = some (k, i)) {v : Value} (r : RelA w h v x) : v = .int k i := by
  unfold intAV at hb
  split at hb
  · cases hb; exact relA_v r
  · cases hb
def effIndexAddr (P : Program) (t : TypeId) (xs : List AV) : Option Eff :=
  match tiOf P t, xs with
  | some ti, [x, ix] => match intAV ix with
    | some (_, i) => match ti.k, x with
      | .slice _ sz _, .p (.d (.sl sz' n f)) => some { val := .p (.d (.bx (f i.toNat))), obl := (0 ≤ i ∧ i < n) ∧ sz' = sz }
      | .slice _ sz _, .gr _ _ sz' n f => some { val := .p (.d (.bx (f i.toNat))), obl := (0 ≤ i ∧ i < n) ∧ sz' = sz }
      | .slice _ sz _, .row l sz' off n => some { val := .loc l ((off + i.toNat) * sz), obl := (0 ≤ i ∧ i < n) ∧ sz' = sz }
      | .array n _ sz _, .p (.d (.bx cs)) => some { val := .p (.d (.bx (cs.drop (i.toNat * sz)))), obl := (0 ≤ i ∧ i < n) ∧ n * sz ≤ cs.length }
      | .array n _ sz _, .p (.d (.bf m f)) => some { val := .p (.d (.bf (m - i.toNat * sz) fun j => f (i.toNat * sz + j))), obl := (0 ≤ i ∧ i < n) ∧ n * sz ≤ m }
      | .array n _ sz _, .loc l q => some { val := .loc l (q + i.toNat * sz), obl := 0 ≤ i ∧ i < n }
      | _, _ => none
    | none => none
  | _, _ => none
theorem relD_sl_elem {w : World} {g : Nat → Nat} {v : Value} {sz n : Nat} {f : Nat → List Dat} (r : RelD w g v (.sl sz n f)) {i : Nat} (hi : i < n) :
    ∃ b o c, v = .slice (some ⟨b, o, none⟩) n c ∧ n ≤ c ∧ RelD w g (.pointer (some ⟨b, o + i * sz, none⟩)) (.bx (f i)) := by
  cases r with
  | sl0 => omega
  | sl b off _ c _ _ u hn hl hc hg hr =>
    refine ⟨b, off, c, rfl, hn, .bx b _ _ (u i) (fun j hj => hc i j hi (by rw [hl i hi] at hj; exact hj)) ?_ (fun j x hx => hr i j x hi hx)⟩
    rw [hl i hi]
    have : (i + 1) * sz ≤ n * sz := Nat.mul_le_mul_right _ hi
    rw [Nat.add_mul, Nat.one_mul] at this
    omega
theorem toNat_lt {i : Int} {n : Nat} (h0 : 0 ≤ i) (h1 : i < n) : i.toNat < n := by omega
theorem run_indexAddr_op {o : Oper} {t : TypeId} {x y : Operand} (ho : o.op = .indexAddr t x y) (r : Operand → Value) (w : World) {a b v : Value} (ha : r x = a) (hb : r y = b) (hv : (Instr.indexAt t a b).run P w = .ok v w) :
    (execOp r o).run P w = .ok (.value v) w := by
  simp [execOp, ho, ha, hb, hv]
theorem sem_indexAddr {o : Oper} {t : TypeId} {x y : Operand} (ho : o.op = .indexAddr t x y) {xs : List AV} {lL : Option (Nat × LV)} {E : Eff} (hE : effIndexAddr P t xs = some E) (hobl : E.obl) : OpSem P o xs lL E := by
  unfold effIndexAddr at hE
  split at hE
  · rename_i ti zx zi hti
    split at hE
    · rename_i k i hi
      have slc : ∀ {e sz by_ sz' n} {f : Nat → List Dat}, ti.k = .slice e sz by_ → ((0 ≤ i ∧ i < (n : Nat)) ∧ sz' = sz) → (∀ (w : World) (h : Gh) v, RelA w h v zx → RelD w h.g v (.sl sz' n f)) →
          ∀ obl, OpSem P o [zx, zi] lL ⟨.p (.d (.bx (f i.toNat))), obl, none, false⟩ := by
        intro e sz by_ sz' n f hk hob hrel obl
        obtain ⟨⟨i0, i1⟩, rfl⟩ := hob
        refine opSem_pure fun B w h r hr hL => ?_
        simp only [ho, Op.operands] at hr
        have h0 := hrel w h _ (hr.2 0 (r x) _ rfl rfl)
        have h1 := intAV_spec hi (hr.2 1 (r y) _ rfl rfl)
        obtain ⟨b, q, c, hv, hnc, hbx⟩ := relD_sl_elem h0 (toNat_lt i0 i1)
        exact ⟨_, run_indexAddr_op ho r w hv h1 (run_indexAt_slice' hti hk i0 i1), .d _ _ hbx⟩
      split at hE
      · rename_i e sz by_ sz' n f hk
        cases hE
        exact slc hk hobl (fun w h v hv => by cases hv with | d _ _ hv => exact hv) _
      · rename_i e sz by_ l gen sz' n f hk
        cases hE
        exact slc hk hobl (fun w h v hv => hv.1) _
      · rename_i e sz by_ l sz' off n hk
        cases hE
        obtain ⟨⟨i0, i1⟩, rfl⟩ := hobl
        refine opSem_pure fun B w h r hr hL => ?_
        simp only [ho, Op.operands] at hr
        obtain ⟨c, hv, hnc⟩ := hr.2 0 (r x) _ rfl rfl
        have h1 := intAV_spec hi (hr.2 1 (r y) _ rfl rfl)
        refine ⟨_, run_indexAddr_op ho r w hv h1 (run_indexAt_slice' hti hk i0 i1), ?_⟩
        simp only [RelA, Nat.add_mul]
      · rename_i n e sz ag cs hk
        cases hE
        obtain ⟨⟨i0, i1⟩, hle⟩ := hobl
        refine opSem_pure fun B w h r hr hL => ?_
        simp only [ho, Op.operands] at hr
        have h0 := hr.2 0 (r x) _ rfl rfl
        obtain ⟨v0, hv0⟩ : ∃ v, r x = v := ⟨_, rfl⟩
        rw [hv0] at h0
        have h1 := intAV_spec hi (hr.2 1 (r y) _ rfl rfl)
        cases h0 with
        | d _ _ h0 =>
          obtain ⟨b, q, rfl⟩ := relD_bx_ptr h0
          refine ⟨_, run_indexAddr_op ho r w hv0 h1 (run_indexAt_array' hti hk i0 i1), .d _ _ (relD_bx_drop h0 _ ?_)⟩
          exact Nat.le_trans (Nat.mul_le_mul_right _ (Nat.le_of_lt (toNat_lt i0 i1))) hle
      · rename_i n e sz ag m f hk
        cases hE
        obtain ⟨⟨i0, i1⟩, hle⟩ := hobl
        refine opSem_pure fun B w h r hr hL => ?_
        simp only [ho, Op.operands] at hr
        have h0 := hr.2 0 (r x) _ rfl rfl
        obtain ⟨v0, hv0⟩ : ∃ v, r x = v := ⟨_, rfl⟩
        rw [hv0] at h0
        have h1 := intAV_spec hi (hr.2 1 (r y) _ rfl rfl)
        have hlm := Nat.le_trans (Nat.mul_le_mul_right sz (Nat.le_of_lt (toNat_lt i0 i1))) hle
        cases h0 with
        | d _ _ h0 =>
          cases h0 with
          | bf b q _ _ u hc hg hrr =>
            refine ⟨_, run_indexAddr_op ho r w hv0 h1 (run_indexAt_array' hti hk i0 i1), .d _ _ (.bf b _ _ _ (fun j => u (i.toNat * sz + j)) (fun j hj => ?_) (by omega) (fun j hj => hrr _ (by omega)))⟩
            rw [Nat.add_assoc]; exact hc _ (by omega)
      · rename_i n e sz ag l q hk
        cases hE
        obtain ⟨i0, i1⟩ := hobl
        refine opSem_pure fun B w h r hr hL => ?_
        simp only [ho, Op.operands] at hr
        have h0 : r x = _ := hr.2 0 (r x) _ rfl rfl
        have h1 := intAV_spec hi (hr.2 1 (r y) _ rfl rfl)
        exact ⟨_, run_indexAddr_op ho r w h0 h1 (run_indexAt_array' hti hk i0 i1), rfl⟩
      · cases hE
    · cases hE
  · cases hE

-- the equations of what is worked out in a walk, made here once
theorem effStore_eqns : True := have := @effStore.eq_1; trivial
theorem effFieldAddr_eqns : True := have := @effFieldAddr.eq_1; trivial
theorem effIndexAddr_eqns : True := have := @effIndexAddr.eq_1; trivial
theorem intAV_eqns : True := have := @intAV.eq_1; trivial
end Go.Proofs.Ytfcfhlfehomhpaa.AL

/- The operations, continued: arithmetic, tests, parts of values. -/
namespace Go.Proofs.Ytfcfhlfehomhpaa.AL
open Go.RowKit
variable {P : Program}

/-- The integers of a list of cells, and their kinds. -/
def intsD : List Dat → Option (List IntKind × List Int)
  | [] => some ([], [])
  | .v (.int k a) :: r => match intsD r with
    | some (ks, as) => some (k :: ks, a :: as)
    | none => none
  | _ => none
def ints : List IntKind → List Int → List Value
  | k :: ks, a :: as => .int k a :: ints ks as
  | _, _ => []
def eqI : List Int → List Int → Bool
  | a :: r, b :: s => (a == b) && eqI r s
  | [], [] => true
  | _, _ => false
/-- Values of type t are rows of integers, and '==' compares them. -/
def EqTy (P : Program) (t : TypeId) (ks : List IntKind) : Prop :=
  P.eqGuardType P.depth t = false ∧ ∀ (w : World) (xs ys : List Int), xs.length = ks.length → ys.length = ks.length →
    (Op.equal t (.agg (ints ks xs).toArray) (.agg (ints ks ys).toArray)).run P w = .ok (eqI xs ys) w
theorem intsD_spec {w : World} {g : Nat → Nat} : ∀ {cs : List Dat} {ks : List IntKind} {as : List Int}, intsD cs = some (ks, as) → ∀ {vs : List Value}, vs.length = cs.length →
    (∀ (j : Nat) v x, vs[j]? = some v → cs[j]? = some x → RelD w g v x) → vs = ints ks as ∧ as.length = ks.length
  | [], ks, as, h, vs, hl, _ => by
    simp [intsD] at h; obtain ⟨rfl, rfl⟩ := h
    simp at hl; subst hl; exact ⟨rfl, rfl⟩
  | c :: cs, ks, as, h, vs, hl, hr => by
    unfold intsD at h
    split at h
    · rename_i e; cases e
    · rename_i k a rest e
      cases e
      split at h
      · rename_i ks' as' h'
        cases h
        cases vs with
        | nil => simp at hl
        | cons v vs =>
          obtain ⟨e1, e2⟩ := intsD_spec h' (vs := vs) (by simpa using hl) (fun j v x hv hx => hr (j + 1) v x (by simpa using hv) (by simpa using hx))
          have := hr 0 v _ rfl rfl
          cases this
          exact ⟨by simp [ints, e1], by simp [e2]⟩
      · cases h
    · cases h

def effInt (op : BinOp) (k : IntKind) (a b : Int) : Option (Value × Prop) :=
  match op with
  | .add => some (.int k (k.wrap (a + b)), True)
  | .sub => some (.int k (k.wrap (a - b)), True)
  | .mul => some (.int k (k.wrap (a * b)), True)
  | .quo => some (.int k (k.wrap (a.tdiv b)), b ≠ 0)
  | .rem => some (.int k (a.tmod b), b ≠ 0)
  | .and => some (.int k (bits .and k a b), True)
  | .or => some (.int k (bits .or k a b), True)
  | .xor => some (.int k (bits .xor k a b), True)
  | .andNot => some (.int k (bits .andNot k a b), True)
  | .eql => some (.bool (a == b), True)
  | .neq => some (.bool (a != b), True)
  | .lss => some (.bool (decide (a < b)), True)
  | .leq => some (.bool (decide (a ≤ b)), True)
  | .gtr => some (.bool (decide (a > b)), True)
  | .geq => some (.bool (decide (a ≥ b)), True)
  | _ => none
def effBin (P : Program) (op : BinOp) (t : TypeId) (xs : List AV) : Option Eff :=
  match xs with
  | [.p (.d (.v (.int k a))), .p (.d (.v (.int k' b)))] =>
    match op with
    | .shl => some { val := .p (.d (.v (.int k (k.wrap (a * 2 ^ min b.toNat k.bits))))), obl := 0 ≤ b }
    | .shr => some { val := .p (.d (.v (.int k (a / 2 ^ min b.toNat k.bits)))), obl := 0 ≤ b }
    | op => (effInt op k a b).map fun r => { val := .p (.d (.v r.1)), obl := k = k' ∧ r.2 }
  | [.p (.d (.v (.bool a))), .p (.d (.v (.bool b)))] =>
    match op with
    | .eql => some { val := .p (.d (.v (.bool (a == b)))), obl := P.underlying t = some .bool }
    | .neq => some { val := .p (.d (.v (.bool (!(a == b))))), obl := P.underlying t = some .bool }
    | _ => none
  | [.p (.d (.v (.string a))), .p (.d (.v (.string b)))] =>
    match op with
    | .eql => some { val := .p (.d (.v (.bool (a == b)))) }
    | .neq => some { val := .p (.d (.v (.bool (!(a == b))))) }
    | _ => none
  | [.p (.agg c1), .p (.agg c2)] =>
    match intsD c1, intsD c2 with
    | some (k1, a1), some (k2, a2) =>
      match op with
      | .eql => some { val := .p (.d (.v (.bool (eqI a1 a2)))), obl := k1 = k2 ∧ EqTy P t k1 }
      | .neq => some { val := .p (.d (.v (.bool (!(eqI a1 a2))))), obl := k1 = k2 ∧ EqTy P t k1 }
      | _ => none
    | _, _ => none
  | _ => none

theorem relA_agg {w : World} {h : Gh} {v : Value} {cs : List Dat} (r : RelA w h v (.p (.agg cs))) : ∃ vs : List Value, v = .agg vs.toArray ∧ vs.length = cs.length ∧ ∀ (j : Nat) u x, vs[j]? = some u → cs[j]? = some x → RelD w h.g u x := by
  cases r with
  | agg vs _ hl hr => exact ⟨vs, rfl, hl, hr⟩

theorem run_effInt {op : BinOp} {k : IntKind} {a b : Int} {v : Value} {q : Prop} (h : effInt op k a b = some (v, q)) (hq : q) (t : TypeId) (w : World) :
    (binOp op t (.int k a) (.int k b)).run P w = .ok v w ∧ v.oneCell' = true := by
  unfold effInt at h
  split at h <;> first | (cases h; done) | (simp only [Option.some.injEq, Prod.mk.injEq] at h; obtain ⟨rfl, rfl⟩ := h; refine ⟨?_, rfl⟩)
  all_goals first
    | (simp [binOp, Op.intArith]; done)
    | (simp [binOp, Op.intDiv, hq]; done)
    | (simp only [go_sem]; rfl)
    | (simp [binOp, Op.intCmp]; done)

theorem eqGuard_int (op : BinOp) (t : TypeId) (x y : Operand) (k k' : IntKind) (a b : Int) (w : World) : (eqGuard op t x y (.int k a) (.int k' b)).run P w = .ok () w := by
  cases op <;> simp [eqGuard]
theorem run_bin_op {o : Oper} {op : BinOp} {t t' : TypeId} {x y : Operand} (ho : o.op = .binOp op t x y t') (r : Operand → Value) (w : World) {a b v : Value} (ha : r x = a) (hb : r y = b)
    (hg : (eqGuard op t x y a b).run P w = .ok () w) (hv : (binOp op t a b).run P w = .ok v w) : (execOp r o).run P w = .ok (.value v) w := by
  simp [execOp, ho, ha, hb, hg, hv]

theorem sem_bin {o : Oper} {op : BinOp} {t t' : TypeId} {x y : Operand} (ho : o.op = .binOp op t x y t') {xs : List AV} {lL : Option (Nat × LV)} {E : Eff} (hE : effBin P op t xs = some E) (hobl : E.obl) : OpSem P o xs lL E := by
  unfold effBin at hE
  split at hE
  · rename_i k a k' b
    have pre : ∀ {v : Value} {obl : Prop}, v.oneCell' = true → (∀ w, (binOp op t (.int k a) (.int k' b)).run P w = .ok v w) → OpSem P o [.p (.d (.v (.int k a))), .p (.d (.v (.int k' b)))] lL ⟨.p (.d (.v v)), obl, none, false⟩ := by
      intro v obl h1 hrun
      refine opSem_pure fun B w h r hr hL => ?_
      simp only [ho, Op.operands] at hr
      exact ⟨v, run_bin_op ho r w (relA_v (hr.2 0 (r x) _ rfl rfl)) (relA_v (hr.2 1 (r y) _ rfl rfl)) (eqGuard_int _ _ _ _ _ _ _ _ _) (hrun w), relA_mk h1⟩
    split at hE
    · cases hE
      exact pre rfl fun w => by
        have hb : (0 : Int) ≤ b := hobl
        simp only [binOp, shift_shl_any k k' a b hb]; rfl
    · cases hE
      exact pre rfl fun w => by
        have hb : (0 : Int) ≤ b := hobl
        simp only [binOp, shift_shr_any k k' a b hb]; rfl
    · cases he : effInt op k a b with
      | none => simp [he] at hE
      | some p =>
        obtain ⟨v, q⟩ := p
        simp [he] at hE
        subst hE
        obtain ⟨rfl, hq⟩ := hobl
        exact pre (run_effInt (P := P) he hq t default).2 fun w => (run_effInt he hq t w).1
  · rename_i a b
    have hg : ∀ w, (eqGuard op t x y (.bool a) (.bool b)).run P w = .ok () w := by intro w; cases op <;> simp [eqGuard]
    have heq : P.underlying t = some .bool → ∀ w, (Op.equal t (.bool a) (.bool b)).run P w = .ok (a == b) w := by
      intro ht w
      exact run_equalIn_bool' (P := P) (w := w) 9999 t a b ht
    split at hE
    · cases hE
      refine opSem_pure fun B w h r hr hL => ?_
      simp only [ho, Op.operands] at hr
      exact ⟨_, run_bin_op ho r w (relA_v (hr.2 0 (r x) _ rfl rfl)) (relA_v (hr.2 1 (r y) _ rfl rfl)) (hg w) (by simp [binOp, heq hobl]), relA_mk rfl⟩
    · cases hE
      refine opSem_pure fun B w h r hr hL => ?_
      simp only [ho, Op.operands] at hr
      exact ⟨_, run_bin_op ho r w (relA_v (hr.2 0 (r x) _ rfl rfl)) (relA_v (hr.2 1 (r y) _ rfl rfl)) (hg w) (by simp [binOp, heq hobl]), relA_mk rfl⟩
    · cases hE
  · rename_i a b
    have hg : ∀ w, (eqGuard op t x y (.string a) (.string b)).run P w = .ok () w := by intro w; cases op <;> simp [eqGuard]
    split at hE
    · cases hE
      refine opSem_pure fun B w h r hr hL => ?_
      simp only [ho, Op.operands] at hr
      exact ⟨_, run_bin_op ho r w (relA_v (hr.2 0 (r x) _ rfl rfl)) (relA_v (hr.2 1 (r y) _ rfl rfl)) (hg w) (by simp [binOp, Op.stringOp, beq_toListBytes]), relA_mk rfl⟩
    · cases hE
      refine opSem_pure fun B w h r hr hL => ?_
      simp only [ho, Op.operands] at hr
      exact ⟨_, run_bin_op ho r w (relA_v (hr.2 0 (r x) _ rfl rfl)) (relA_v (hr.2 1 (r y) _ rfl rfl)) (hg w) (by simp [binOp, Op.stringOp, beq_toListBytes]), relA_mk rfl⟩
    · cases hE
  · rename_i c1 c2
    split at hE
    · rename_i k1 a1 k2 a2 e1 e2
      have fin : ∀ {v : Value} {obl : Prop}, k1 = k2 → EqTy P t k1 → v.oneCell' = true → (∀ w (x1 x2 : Array Value), (Op.equal t (.agg x1) (.agg x2)).run P w = .ok (eqI a1 a2) w → (binOp op t (.agg x1) (.agg x2)).run P w = .ok v w) →
          OpSem P o [.p (.agg c1), .p (.agg c2)] lL ⟨.p (.d (.v v)), obl, none, false⟩ := by
        intro v obl hk het h1 hrun
        subst hk
        refine opSem_pure fun B w h r hr hL => ?_
        simp only [ho, Op.operands] at hr
        obtain ⟨v1, q1, l1, r1⟩ := relA_agg (hr.2 0 (r x) _ rfl rfl)
        obtain ⟨v2, q2, l2, r2⟩ := relA_agg (hr.2 1 (r y) _ rfl rfl)
        obtain ⟨s1, n1⟩ := intsD_spec e1 l1 r1
        obtain ⟨s2, n2⟩ := intsD_spec e2 l2 r2
        subst s1; subst s2
        exact ⟨v, run_bin_op ho r w q1 q2 (run_eqGuard_agg (P := P) w op t x y _ _ het.1) (hrun w _ _ (het.2 w a1 a2 n1 n2)), relA_mk h1⟩
      split at hE
      · cases hE
        exact fin hobl.1 hobl.2 rfl fun w x1 x2 he => by simp [binOp, he]
      · cases hE
        exact fin hobl.1 hobl.2 rfl fun w x1 x2 he => by simp [binOp, he]
      · cases hE
    · cases hE
  · cases hE

def effUn (op : UnOp) (xs : List AV) : Option Eff :=
  match op, xs with
  | .not, [.p (.d (.v (.bool b)))] => some { val := .p (.d (.v (.bool !b))) }
  | .neg, [.p (.d (.v (.int k n)))] => some { val := .p (.d (.v (.int k (k.wrap (0 - n))))) }
  | .xor, [.p (.d (.v (.int k n)))] => some { val := .p (.d (.v (.int k (bits .xor k (if k.signed then -1 else k.max) n)))) }
  | _, _ => none
theorem sem_un {o : Oper} {op : UnOp} {t : TypeId} {x : Operand} (ho : o.op = .unOp op t x) {xs : List AV} {lL : Option (Nat × LV)} {E : Eff} (hE : effUn op xs = some E) : OpSem P o xs lL E := by
  unfold effUn at hE
  split at hE
  all_goals first | (cases hE; done) | skip
  all_goals
    cases hE
    refine opSem_pure fun B w h r hr hL => ?_
    simp only [ho, Op.operands] at hr
    have h0 := relA_v (hr.2 0 (r x) _ rfl rfl)
    refine ⟨_, ?_, relA_mk rfl⟩
    simp [execOp, ho, h0, Op.unary, Op.intArith, Op.intBits, bits]

def effConvert (P : Program) (d : TypeId) (xs : List AV) : Option Eff :=
  match tiOf P d, xs with
  | some ti, [.p (.d (.v (.int k n)))] => match ti.k with
    | .int k' => some { val := .p (.d (.v (.int k' (k'.wrap n)))) }
    | _ => none
  | _, _ => none
theorem sem_convert {o : Oper} {s d : TypeId} {x : Operand} (ho : o.op = .convert s d x) (hs : (tiOf P s).isSome = true) {xs : List AV} {lL : Option (Nat × LV)} {E : Eff} (hE : effConvert P d xs = some E) : OpSem P o xs lL E := by
  unfold effConvert at hE
  split at hE
  · rename_i ti k n hti
    split at hE
    · rename_i k' hk
      cases hE
      refine opSem_pure fun B w h r hr hL => ?_
      simp only [ho, Op.operands] at hr
      have h0 := relA_v (hr.2 0 (r x) _ rfl rfl)
      obtain ⟨_, dd, _, _, hd, _, hkk, _, _⟩ := tiOf_spec hti
      rw [hk] at hkk
      have := kindOf_int hkk
      subst this
      obtain ⟨si, hsi⟩ := Option.isSome_iff_exists.1 hs
      obtain ⟨_, sd, _, _, hsd, _, _, _, _⟩ := tiOf_spec hsi
      exact ⟨_, by simp [execOp, ho, h0, convert, run_underlying hd, run_underlying hsd, Conv.intToInt], relA_mk rfl⟩
    · cases hE
  · cases hE

def effExtract (i : Nat) (xs : List AV) : Option Eff :=
  match xs with
  | [.tup ys] => (ys[i]?).map fun y => { val := .p y }
  | _ => none
theorem sem_extract {o : Oper} {x : Operand} {i : Nat} (ho : o.op = .extract x i) {xs : List AV} {lL : Option (Nat × LV)} {E : Eff} (hE : effExtract i xs = some E) : OpSem P o xs lL E := by
  unfold effExtract at hE
  split at hE
  · rename_i ys
    cases hy : ys[i]? with
    | none => simp [hy] at hE
    | some y =>
      simp [hy] at hE; subst hE
      refine opSem_pure fun B w h r hr hL => ?_
      simp only [ho, Op.operands] at hr
      obtain ⟨vs, h0, hrr⟩ := hr.2 0 (r x) _ rfl rfl
      have hlt : i < vs.length := by rw [hrr.1]; exact (List.getElem?_eq_some_iff.1 hy).1
      exact ⟨vs[i], by simp [execOp, ho, h0, Instr.extract, hlt], hrr.2 i _ y (by simp [hlt]) hy⟩
  · cases hE

def effIndex (P : Program) (t : TypeId) (xs : List AV) : Option Eff :=
  match tiOf P t, xs with
  | some ti, [.p (.d (.v (.string s))), .p (.d (.v (.int k i)))] => match ti.k with
    | .string => some { val := .p (.d (.v (.int .u8 ((s.data.toList.getD i.toNat 0).toNat : Nat)))), obl := 0 ≤ i ∧ i < s.size }
    | _ => none
  | _, _ => none
theorem sem_index {o : Oper} {t : TypeId} {x y : Operand} (ho : o.op = .index t x y) {xs : List AV} {lL : Option (Nat × LV)} {E : Eff} (hE : effIndex P t xs = some E) (hobl : E.obl) : OpSem P o xs lL E := by
  unfold effIndex at hE
  split at hE
  · rename_i ti s k i hti
    split at hE
    · rename_i hk
      cases hE
      obtain ⟨i0, i1⟩ := hobl
      refine opSem_pure fun B w h r hr hL => ?_
      simp only [ho, Op.operands] at hr
      have h0 := relA_v (hr.2 0 (r x) _ rfl rfl)
      have h1 := relA_v (hr.2 1 (r y) _ rfl rfl)
      obtain ⟨_, dd, _, _, hd, _, hkk, _, _⟩ := tiOf_spec hti
      rw [hk] at hkk
      have := kindOf_string hkk
      subst this
      have hlt : i.toNat < s.size := by omega
      have hs : s[i.toNat]? = some s[i.toNat] := by simp [hlt]
      have hv : (s.data.toList.getD i.toNat 0) = s[i.toNat] := by
        have : i.toNat < s.data.size := hlt
        rw [List.getD_eq_getElem?_getD, Array.getElem?_toList, Array.getElem?_eq_getElem this]; rfl
      refine ⟨.int .u8 (s[i.toNat]).toNat, ?_, by rw [hv]; exact relA_mk rfl⟩
      simp [execOp, ho, h0, h1, Instr.index, asIntOf, run_underlying hd, i0, hs]
    · cases hE
  · cases hE

-- the equations of what is worked out in a walk, made here once
theorem intsD_eqns : True := have := @intsD.eq_1; trivial
theorem effInt_eqns : True := have := @effInt.eq_1; trivial
theorem effBin_eqns : True := have := @effBin.eq_1; trivial
theorem effUn_eqns : True := have := @effUn.eq_1; trivial
theorem effConvert_eqns : True := have := @effConvert.eq_1; trivial
theorem effExtract_eqns : True := have := @effExtract.eq_1; trivial
theorem effIndex_eqns : True := have := @effIndex.eq_1; trivial
theorem eqI_eqns : True := have := @eqI.eq_1; trivial
end Go.Proofs.Ytfcfhlfehomhpaa.AL

/- The operations, continued: literals, fields of values, functions, lengths, slices of slices. -/
namespace Go.Proofs.Ytfcfhlfehomhpaa.AL
open Go.RowKit
variable {P : Program}

theorem fold_set (off : Nat) : ∀ (l : List Value) (k : Nat) (cells : Array Value), off + k + l.length ≤ cells.size →
    let r := (l.zipIdx k).foldl (fun (cs : Array Value) (x : Value × Nat) => cs.setIfInBounds (off + x.2) x.1) cells
    r.size = cells.size ∧ ∀ i, r[i]? = if off + k ≤ i ∧ i < off + k + l.length then l[i - (off + k)]? else cells[i]?
  | [], k, cells, h => by
    refine ⟨rfl, fun i => ?_⟩
    simp; omega
  | v :: l, k, cells, h => by
    have hk : off + k < cells.size := by simp at h; omega
    obtain ⟨h1, h2⟩ := fold_set off l (k + 1) (cells.setIfInBounds (off + k) v) (by simp at h ⊢; omega)
    simp only [List.zipIdx_cons, List.foldl_cons]
    refine ⟨by rw [h1]; simp, fun i => ?_⟩
    rw [h2 i]
    by_cases hi : i = off + k
    · subst hi
      rw [if_neg (by omega), if_pos (by simp)]
      simp [hk]
    · by_cases hj : off + (k + 1) ≤ i ∧ i < off + (k + 1) + l.length
      · rw [if_pos hj, if_pos (by simp; omega)]
        have : i - (off + k) = (i - (off + (k + 1))) + 1 := by omega
        rw [this, List.getElem?_cons_succ]
      · rw [if_neg hj, if_neg (by simp; omega)]
        rw [Array.getElem?_setIfInBounds_ne (by omega)]

def fillD (place : Nat → Option (Nat × Nat)) : List Dat → List (Nat × AV) → Option (List Dat)
  | cells, [] => some cells
  | cells, (i, x) :: rest => match place i, datsAV x with
    | some (off, sz), some ds => bif ds.length == sz && decide (off + ds.length ≤ cells.length) then fillD place (cells.take off ++ ds ++ cells.drop (off + ds.length)) rest else none
    | _, _ => none

/-- Cells that read as data. -/
def RelC (w : World) (g : Nat → Nat) (vs : List Value) (ds : List Dat) : Prop :=
  vs.length = ds.length ∧ ∀ (j : Nat) u d, vs[j]? = some u → ds[j]? = some d → RelD w g u d

theorem fill_spec {w : World} {h : Gh} (place : Nat → Option (Nat × Nat)) : ∀ (parts : List (Nat × Value)) (xs : List AV) (cells : Array Value) (ds ds' : List Dat),
    RelAs w h (parts.map (·.2)) xs → RelC w h.g cells.toList ds → fillD place ds ((parts.map (·.1)).zip xs) = some ds' →
    ∃ cells', Instr.fill place cells parts = some cells' ∧ RelC w h.g cells'.toList ds'
  | [], xs, cells, ds, ds', hr, hc, hf => by
    simp [fillD] at hf; subst hf; exact ⟨cells, rfl, hc⟩
  | (i, v) :: rest, xs, cells, ds, ds', hr, hc, hf => by
    cases xs with
    | nil => simp [RelAs] at hr
    | cons x xs =>
      have hx : RelA w h v x := hr.2 0 v x rfl rfl
      have hr' : RelAs w h (rest.map (·.2)) xs := ⟨by simpa using hr.1, fun j u y hu hy => hr.2 (j + 1) u y (by simpa using hu) (by simpa using hy)⟩
      simp only [List.map_cons, List.zip_cons_cons, fillD] at hf
      cases hp : place i with
      | none => simp [hp] at hf
      | some p =>
        obtain ⟨off, sz⟩ := p
        cases hd : datsAV x with
        | none => simp [hp, hd] at hf
        | some es =>
          simp only [hp, hd] at hf
          cases hb : (es.length == sz && decide (off + es.length ≤ ds.length)) with
          | false => rw [hb] at hf; simp at hf
          | true =>
            rw [hb] at hf
            simp only [cond_true] at hf
            simp at hb
            obtain ⟨hb1, hb2⟩ := hb
            obtain ⟨e1, e2, e3⟩ := datsAV_spec hd hx
            have hcl := hc.1
            simp at hcl
            obtain ⟨f1, f2⟩ := fold_set off v.cells.toList 0 cells (by simp; omega)
            have hfold : (v.cells.zipIdx.foldl (fun (cs : Array Value) (x : Value × Nat) => match x with | (c, j) => cs.setIfInBounds (off + j) c) cells) =
                (v.cells.toList.zipIdx 0).foldl (fun (cs : Array Value) (x : Value × Nat) => cs.setIfInBounds (off + x.2) x.1) cells := by
              rw [← Array.foldl_toList]; simp
            have hfill : Instr.fill place cells ((i, v) :: rest) = Instr.fill place ((v.cells.toList.zipIdx 0).foldl (fun (cs : Array Value) (x : Value × Nat) => cs.setIfInBounds (off + x.2) x.1) cells) rest := by
              rw [← hfold]
              simp only [Instr.fill, hp]
              rw [if_neg (by simp; omega)]
            have hC : RelC w h.g ((v.cells.toList.zipIdx 0).foldl (fun (cs : Array Value) (x : Value × Nat) => cs.setIfInBounds (off + x.2) x.1) cells).toList (ds.take off ++ es ++ ds.drop (off + es.length)) := by
              refine ⟨by simp only [Array.length_toList]; rw [f1]; simp; omega, fun j u d hu hd' => ?_⟩
              rw [Array.getElem?_toList, f2 j] at hu
              rw [splice_get ds es off (by omega) j] at hd'
              simp only [Nat.add_zero, Array.length_toList] at hu
              by_cases hj : off ≤ j ∧ j < off + es.length
              · rw [if_pos (by omega)] at hu
                rw [if_pos hj] at hd'
                exact e2 _ u d (by simpa using hu) hd'
              · rw [if_neg (by omega)] at hu
                rw [if_neg hj] at hd'
                exact hc.2 j u d (by simpa using hu) hd'
            obtain ⟨cells', g1, g2⟩ := fill_spec place rest xs _ _ ds' hr' hC hf
            exact ⟨cells', hfill.trans g1, g2⟩

theorem relC_zero {w : World} {g : Nat → Nat} {zs : List Value} (h : (zs.all (·.oneCell')) = true) : RelC w g zs (zs.map .v) :=
  ⟨by simp, fun j u d hu hd => by
    simp [hu] at hd; subst hd
    exact .v u (List.all_eq_true.1 h u (List.mem_of_getElem? hu))⟩

def effBuild (P : Program) (t : TypeId) (is : List Nat) (xs : List AV) : Option Eff :=
  match tiOf P t with
  | some ti => match ti.k with
    | .struct fs => (fillD (fun i => (fs[i]?).map fun f => (f.1, f.2.1)) (ti.zero.map .v) (is.zip xs)).map fun ds => { val := .p (.agg ds), obl := (ti.zero.all (·.oneCell')) = true }
    | .array n _ sz _ => bif is.isEmpty && decide (8 < n) then
        (match ti.zero with
         | z :: r => some { val := .p (.arr n fun _ => .v z), obl := z :: r = List.replicate n z ∧ z.oneCell' = true }
         | [] => none)
      else (fillD (fun i => some (i * sz, sz)) (ti.zero.map .v) (is.zip xs)).map fun ds => { val := .p (.agg ds), obl := (ti.zero.all (·.oneCell')) = true }
    | _ => none
  | none => none

theorem parts_ops {o : Oper} {parts : Array (Nat × Operand)} (hop : o.op.operands = (parts.toList.map (·.2)).toArray) (r : Operand → Value) :
    o.op.operands.toList.map r = ((parts.map fun (i, x) => (i, r x)).toList).map (·.2) := by
  rw [hop]; simp
theorem parts_idx (parts : Array (Nat × Operand)) (r : Operand → Value) : ((parts.map fun (i, x) => (i, r x)).toList).map (·.1) = parts.toList.map (·.1) := by
  simp

theorem sem_build {o : Oper} {t : TypeId} {parts : Array (Nat × Operand)} (ho : o.op = .build t parts) {xs : List AV} {lL : Option (Nat × LV)} {E : Eff} (hE : effBuild P t (parts.toList.map (·.1)) xs = some E) (hobl : E.obl) : OpSem P o xs lL E := by
  unfold effBuild at hE
  split at hE
  · rename_i ti hti
    obtain ⟨it, d, z, hit, hd, hz, hkk, hs, hzz⟩ := tiOf_spec hti
    have run : ∀ (r : Operand → Value) (w : World) (cells : Array Value), P.built t (parts.map fun (i, x) => (i, r x)).toList = some cells → (execOp r o).run P w = .ok (.value (.agg cells)) w := by
      intro r w cells hb
      simp only [execOp, ho]
      simp [run_build w t _ cells hb]
    have fin : ∀ {ds : List Dat} {place : Nat → Option (Nat × Nat)}, fillD place (ti.zero.map .v) ((parts.toList.map (·.1)).zip xs) = some ds → (ti.zero.all (·.oneCell')) = true →
        (∀ ps, P.built t ps = Instr.fill place z.cells ps) → ∀ obl, OpSem P o xs lL ⟨.p (.agg ds), obl, none, false⟩ := by
      intro ds place hf hone hbt obl
      refine opSem_pure fun B w h r hr hL => ?_
      rw [parts_ops (parts := parts) (by rw [ho]; rfl)] at hr
      obtain ⟨cells', g1, g2⟩ := fill_spec (w := w) (h := h) place ((parts.map fun (i, x) => (i, r x)).toList) xs z.cells (ti.zero.map .v) ds hr (by rw [hzz]; exact relC_zero (hzz ▸ hone)) (by rw [parts_idx]; exact hf)
      refine ⟨.agg cells', run r w cells' (by rw [hbt]; exact g1), ?_⟩
      have := RelP.agg (w := w) (g := h.g) cells'.toList ds g2.1 g2.2
      show RelP _ _ _ _
      simpa using this
    split at hE
    · rename_i fs hk
      cases hf : fillD (fun i => (fs[i]?).map fun f => (f.1, f.2.1)) (ti.zero.map .v) ((parts.toList.map (·.1)).zip xs) with
      | none => simp [hf] at hE
      | some ds =>
        simp only [hf, Option.map_some, Option.some.injEq] at hE; subst hE
        rw [hk] at hkk
        obtain ⟨fields, rfl, hm⟩ := kindOf_struct hkk
        refine fin hf hobl (fun ps => ?_) _
        have hpl : fields.toList.mapM (fun f => (P.info? f.type).map fun i => (f.offset, i.size)) = some (fs.map fun f => (f.1, f.2.1)) := by
          have gen : ∀ (l : List Field) (r : List (Nat × Nat × Bool)), l.mapM (fieldOf P) = some r → l.mapM (fun f => (P.info? f.type).map fun i => (f.offset, i.size)) = some (r.map fun f => (f.1, f.2.1)) := by
            intro l
            induction l with
            | nil => intro r hr; simp at hr; subst hr; rfl
            | cons f l ih =>
              intro r hr
              simp only [List.mapM_cons] at hr
              cases hx : fieldOf P f with
              | none => simp [hx] at hr
              | some q =>
                cases hl : l.mapM (fieldOf P) with
                | none => simp [hx, hl] at hr
                | some r' =>
                  simp [hx, hl] at hr
                  subst hr
                  obtain ⟨fi, fd, e1, e2, rfl⟩ := fieldOf_spec hx
                  simp [List.mapM_cons, e1, ih r' hl]
          exact gen _ _ hm
        simp only [Program.built, hit, hd, hz, hpl]
        congr 1
        funext i
        simp
    · rename_i n e sz ag hk
      rw [hk] at hkk
      obtain ⟨rfl, ie, de, hie, hde, hsz, _⟩ := kindOf_array hkk
      have hbt : ∀ ps, P.built t ps = Instr.fill (fun i => some (i * sz, sz)) z.cells ps := by
        intro ps; simp only [Program.built, hit, hd, hz, hie, hsz]
      cases hb : ((parts.toList.map (·.1)).isEmpty && decide (8 < n)) with
      | true =>
        rw [hb] at hE
        simp only [cond_true] at hE
        split at hE
        · rename_i z0 rr hzero
          cases hE
          obtain ⟨h1, h2⟩ := hobl
          simp at hb
          have hnil : (parts.map fun (i, x) => (i, x)).toList = [] := by simp [hb.1]
          refine opSem_pure fun B w h r hr hL => ⟨.agg z.cells, run r w z.cells ?_, ?_⟩
          · rw [hbt]
            have : (parts.map fun (i, x) => (i, r x)).toList = [] := by simp [hb.1]
            rw [this]; rfl
          · have := RelP.arr (w := w) (g := h.g) z.cells.toList n (fun _ => .v z0) (by rw [← hzz, hzero, h1]; simp) (fun j v hv => ?_)
            · show RelP _ _ _ _
              simpa using this
            · rw [← hzz, hzero, h1] at hv
              simp [List.getElem?_replicate] at hv
              rw [← hv.2]; exact .v _ h2
        · cases hE
      | false =>
        rw [hb] at hE
        simp only [cond_false] at hE
        cases hf : fillD (fun i => some (i * sz, sz)) (ti.zero.map .v) ((parts.toList.map (·.1)).zip xs) with
        | none => simp [hf] at hE
        | some ds =>
          simp only [hf, Option.map_some, Option.some.injEq] at hE; subst hE
          exact fin hf hobl hbt _
    · cases hE
  · cases hE

/-! ### a slice's literal: its block is never written again -/
def rowsOf (xs : List AV) : Option (List (List Dat)) := xs.mapM datsAV
theorem fillD_rows (sz : Nat) : ∀ (xs : List AV) (rows : List (List Dat)) (k : Nat) (base : List Dat), rowsOf xs = some rows → (∀ r ∈ rows, r.length = sz) → base.length = (k + rows.length) * sz →
    fillD (fun i => some (i * sz, sz)) base ((List.range' k xs.length).zip xs) = some (base.take (k * sz) ++ rows.flatten)
  | [], rows, k, base, h, hl, hb => by
    simp [rowsOf] at h; subst h
    simp at hb
    simp [fillD, ← hb]
  | x :: xs, rows, k, base, h, hl, hb => by
    simp only [rowsOf, List.mapM_cons] at h
    cases hx : datsAV x with
    | none => simp [hx] at h
    | some r =>
      cases hxs : xs.mapM datsAV with
      | none => simp [hx, hxs] at h
      | some rs =>
        simp [hx, hxs] at h
        subst h
        have hr : r.length = sz := hl r (by simp)
        simp only [List.length_cons, Nat.add_mul, Nat.one_mul] at hb
        simp only [List.length_cons, List.range'_succ, List.zip_cons_cons, fillD, hx]
        have e : (r.length == sz && decide (k * sz + r.length ≤ base.length)) = true := by
          simp [hr]; omega
        rw [e]
        simp only [cond_true]
        have hlen : (base.take (k * sz) ++ r).length = (k + 1) * sz := by
          simp [hr, Nat.add_mul]; omega
        rw [fillD_rows sz xs rs (k + 1) _ hxs (fun q hq => hl q (by simp [hq])) (by simp [hr, Nat.add_mul]; omega)]
        rw [List.take_append_of_le_length (by omega), List.take_of_length_le (by omega)]
        simp
theorem flatten_get {α : Type} (sz : Nat) : ∀ (rows : List (List α)), (∀ r ∈ rows, r.length = sz) → ∀ (i j : Nat), j < sz → rows.flatten[i * sz + j]? = (rows[i]?).bind (·[j]?)
  | [], _, i, j, _ => by simp
  | r :: rows, hl, i, j, hj => by
    have hr : r.length = sz := hl r (by simp)
    cases i with
    | zero => simp [List.getElem?_append_left (by omega : j < r.length)]
    | succ i =>
      simp only [List.flatten_cons, List.getElem?_cons_succ]
      rw [List.getElem?_append_right (by rw [Nat.add_mul]; omega)]
      rw [← flatten_get sz rows (fun q hq => hl q (by simp [hq])) i j hj]
      congr 1
      rw [Nat.add_mul]; omega
def effBuildSlice (P : Program) (t : TypeId) (len : Nat) (is : List Nat) (xs : List AV) : Option Eff :=
  match tiOf P t with
  | some ti => match ti.k with
    | .slice e sz _ => match rowsOf xs, tiOf P e with
      | some rows, some te => some { val := .p (.d (.sl sz len fun i => rows.getD i [])), obl := is = List.range' 0 xs.length ∧ xs.length = len ∧ (rows.all fun r => r.length == sz) = true ∧ (te.zero.all (·.oneCell')) = true ∧ te.zero.length = sz ∧ te.size = sz ∧ len * sz ≤ 2 ^ 24 ∧ 0 < len * sz }
      | _, _ => none
    | _ => none
  | none => none
theorem rowsOf_len : ∀ {xs : List AV} {rows : List (List Dat)}, rowsOf xs = some rows → rows.length = xs.length := by
  intro xs
  induction xs with
  | nil => intro rows h; simp [rowsOf] at h; subst h; rfl
  | cons x xs ih =>
    intro rows h
    simp only [rowsOf, List.mapM_cons] at h
    cases hx : datsAV x with
    | none => simp [hx] at h
    | some r =>
      cases hxs : xs.mapM datsAV with
      | none => simp [hx, hxs] at h
      | some rs => simp [hx, hxs] at h; subst h; simp [ih hxs]
theorem sem_buildSlice {o : Oper} {t : TypeId} {len : Nat} {parts : Array (Nat × Operand)} (ho : o.op = .buildSlice t len parts) {xs : List AV} {lL : Option (Nat × LV)} {E : Eff} (hE : effBuildSlice P t len (parts.toList.map (·.1)) xs = some E) (hobl : E.obl) : OpSem P o xs lL E := by
  unfold effBuildSlice at hE
  split at hE
  · rename_i ti hti
    split at hE
    · rename_i e sz by_ hk
      split at hE
      · rename_i rows te hrows hte
        cases hE
        obtain ⟨o1, o2, o3, o4, o5, o6, o7, o8⟩ := hobl
        obtain ⟨it, d, z, hit, hd, hz, hkk, hs, hzz⟩ := tiOf_spec hti
        rw [hk] at hkk
        obtain ⟨rfl, ie, hie, hsz, _⟩ := kindOf_slice hkk
        obtain ⟨ie', de, ze, hie', hde, hze, _, hse, hzze⟩ := tiOf_spec hte
        rw [hie] at hie'; cases hie'
        have hrl : ∀ r ∈ rows, r.length = sz := fun r hr => by simpa using List.all_eq_true.1 o3 r hr
        have hlen := rowsOf_len hrows
        refine opSem_alloc fun w h r hz0 hr => ?_
        rw [parts_ops (parts := parts) (by rw [ho]; rfl)] at hr
        have hszp : 0 < sz := by
          cases sz with
          | zero => simp at o8
          | succ n => omega
        have hC : RelC w h.g ((Array.range (len * sz)).map (ze.cells[· % ze.cells.size]!)).toList ((List.range (len * sz)).map fun i => .v (ze.cells[i % ze.cells.size]!)) := by
          refine ⟨by simp, fun j u d hu hd => ?_⟩
          have hj : j < len * sz := by have := (List.getElem?_eq_some_iff.1 hd).1; simpa using this
          simp [List.getElem?_range hj] at hu hd
          subst hu
          subst hd
          refine .v _ ?_
          have hne : 0 < ze.cells.size := by
            have : ze.cells.toList.length = sz := by rw [← hzze]; exact o5
            simp at this; omega
          have hlt : j % ze.cells.size < ze.cells.size := Nat.mod_lt _ hne
          rw [getElem!_pos ze.cells _ hlt]
          exact List.all_eq_true.1 o4 _ (by rw [hzze]; simp)
        have hF : fillD (fun i => some (i * sz, sz)) ((List.range (len * sz)).map fun i => .v (ze.cells[i % ze.cells.size]!)) ((((parts.map fun (i, x) => (i, r x)).toList).map (·.1)).zip xs) = some rows.flatten := by
          rw [parts_idx, o1]
          have := fillD_rows sz xs rows 0 ((List.range (len * sz)).map fun i => .v (ze.cells[i % ze.cells.size]!)) hrows hrl (by simp; rw [hlen, o2])
          simpa using this
        obtain ⟨cells', g1, g2⟩ := fill_spec (w := w) (h := h) (fun i => some (i * sz, sz)) ((parts.map fun (i, x) => (i, r x)).toList) xs _ _ rows.flatten hr hC hF
        · have hrun := run_buildSlice (P := P) w t e len (parts.map fun (i, x) => (i, r x)) cells' ie ze hd hie hze (by rw [hsz]; omega) (by rw [hsz]; omega) (by rw [hsz]; exact g1)
          have hcl : cells'.size = len * sz := by
            have := g2.1
            simp at this
            rw [this]
            have : ∀ (rows : List (List Dat)), (∀ r ∈ rows, r.length = sz) → (rows.map List.length).sum = rows.length * sz := by
              intro rows
              induction rows with
              | nil => simp
              | cons q rows ih => intro hh; simp [hh q (by simp), ih fun r hr => hh r (by simp [hr]), Nat.add_mul]; omega
            rw [this rows hrl, hlen, o2]
          refine ⟨.slice (some ⟨w.heap.size, 0, none⟩) len len, e, cells', by simp only [execOp, ho]; simp [hrun], ?_⟩
          refine .d _ _ (.sl _ _ _ _ _ _ (fun i j => cells'.getD (i * sz + j) undef) (Nat.le_refl _) (fun i hi => ?_) (fun i j hi hj => ?_) ?_ (fun i j x hi hx => ?_))
          · have : i < rows.length := by omega
            simp [List.getD_eq_getElem?_getD, this]
            exact hrl _ (List.getElem_mem _)
          · have hij : i * sz + j < len * sz := by
              have : (i + 1) * sz ≤ len * sz := Nat.mul_le_mul_right _ hi
              rw [Nat.add_mul] at this; omega
            rw [Nat.zero_add, cell_alloc_new]; simp [Array.getD_eq_getD_getElem?, hcl, hij]
          · simp [setG, hcl]
          · have hi' : i < rows.length := by omega
            simp [List.getD_eq_getElem?_getD, hi'] at hx
            have hj : j < sz := by have := (List.getElem?_eq_some_iff.1 hx).1; rw [hrl _ (List.getElem_mem _)] at this; exact this
            have hij : i * sz + j < len * sz := by
              have : (i + 1) * sz ≤ len * sz := Nat.mul_le_mul_right _ hi
              rw [Nat.add_mul] at this; omega
            refine (g2.2 (i * sz + j) _ x (by simp [Array.getD_eq_getD_getElem?, hcl, hij]) ?_).keep (keep_alloc hz0 _ _)
            rw [flatten_get sz rows hrl i j hj]
            simp [hi', hx]
      · cases hE
    · cases hE
  · cases hE

-- the equations of what is worked out in a walk, made here once
theorem fillD_eqns : True := have := @fillD.eq_1; trivial
theorem effBuild_eqns : True := have := @effBuild.eq_1; trivial
theorem rowsOf_eqns : True := have := @rowsOf.eq_1; trivial
theorem effBuildSlice_eqns : True := have := @effBuildSlice.eq_1; trivial
end Go.Proofs.Ytfcfhlfehomhpaa.AL

/- append. -/
namespace Go.Proofs.Ytfcfhlfehomhpaa.AL
open Go.RowKit
variable {P : Program}

theorem run_append_room_row (w : World) (t tx ty e : TypeId) (i : TypeInfo) (ht : P.underlying t = some (.slice e)) (hi : P.info? e = some i) (g sLen sCap : Nat) (cur : Array Value) (e' : TypeId) (x : Value) (n : Nat) (news : List Value) (hs : Src P i.size tx x n news w)
    (hroom : sLen + n ≤ sCap) (hg : w.heap[g]? = some (.cells cur e' (0, 0))) (hfit : sLen * i.size + news.length ≤ cur.size) :
    (Builtin.append_ #[t, tx] ty #[.slice (some ⟨g, 0, none⟩) sLen sCap, x]).run P w =
      .ok (.slice (some ⟨g, 0, none⟩) (sLen + n) sCap) (w.setRow g (cur.toList.take (sLen * i.size) ++ news ++ cur.toList.drop (sLen * i.size + news.length)).toArray) := by
  have hst := run_storeCells_at P g (sLen * i.size) e' news 0 cur w hg (by simpa using hfit) hs.one
  simp only [Nat.add_zero] at hst
  rcases hs.kind with ⟨e'', hk⟩ | hk <;> simp [Builtin.append_, run_underlying ht, run_underlying hk, sizeOf, typeInfo, hi, hs.len, hroom, hs.cells, Addr.add_lit, hst]

/-- What a value gives that is appended. -/
structure Giv (P : Program) (w : World) (g : Nat → Nat) (sz : Nat) (tx : TypeId) (x : Value) (m : Nat) (f : Nat → List Dat) (news : List Value) : Prop where
  src : Src P sz tx x m news w
  rel : ∀ i j d, i < m → j < sz → (f i)[j]? = some d → ∃ u, news[i * sz + j]? = some u ∧ RelD w g u d
  len : ∀ i, i < m → (f i).length = sz

theorem giv_nil {w : World} {g : Nat → Nat} {sz : Nat} {tx e : TypeId} (hk : P.underlying tx = some (.slice e)) (a : Option Addr) (c : Nat) (f : Nat → List Dat) : Giv P w g sz tx (.slice a 0 c) 0 f [] :=
  ⟨⟨.inl ⟨e, hk⟩, fun _ => rfl, by cases a <;> simp [Builtin.firstCells, loadCells, loadCellsFrom], by cases a <;> simp [Builtin.firstCells, loadCells, loadCellsFrom], by simp, fun _ h => by cases h⟩, fun i _ _ hi => by omega, fun i hi => by omega⟩
theorem div_mod_sz {sz k m : Nat} (hk : k < m * sz) : k / sz < m ∧ k % sz < sz ∧ k / sz * sz + k % sz = k := by
  have hsz : 0 < sz := by
    cases sz with
    | zero => simp at hk
    | succ n => omega
  refine ⟨(Nat.div_lt_iff_lt_mul hsz).2 hk, Nat.mod_lt _ hsz, ?_⟩
  have := Nat.div_add_mod k sz
  rw [Nat.mul_comm] at this
  exact this
theorem idx_lt {sz m i j : Nat} (hi : i < m) (hj : j < sz) : i * sz + j < m * sz := by
  have : (i + 1) * sz ≤ m * sz := Nat.mul_le_mul_right _ hi
  rw [Nat.add_mul] at this; omega
theorem giv_sl {w : World} {g : Nat → Nat} {sz : Nat} {tx e : TypeId} (hk : P.underlying tx = some (.slice e)) {x : Value} {m : Nat} {f : Nat → List Dat} (r : RelD w g x (.sl sz m f)) : ∃ news, Giv P w g sz tx x m f news := by
  cases r with
  | sl0 a c => exact ⟨[], giv_nil hk a c f⟩
  | sl b off _ c _ _ u hn hl hc hg hr =>
    have hone : ∀ i j, i < m → j < sz → (u i j).oneCell' = true := fun i j hi hj =>
      (hr i j _ hi (List.getElem?_eq_getElem (by rw [hl i hi]; exact hj))).one
    refine ⟨(List.range (m * sz)).map fun k => u (k / sz) (k % sz), ⟨Src.ofSlice w hk ⟨b, off, none⟩ m c _ (by simp) (fun j v hv => ?_) (fun v hv => ?_), fun i j d hi hj hd => ?_, hl⟩⟩
    · have hlt : j < m * sz := by have := (List.getElem?_eq_some_iff.1 hv).1; simpa using this
      simp [List.getElem?_range hlt] at hv
      subst hv
      obtain ⟨h1, h2, h3⟩ := div_mod_sz hlt
      rw [addr_add, ← hc _ _ h1 h2]
      congr 2; omega
    · obtain ⟨k, hk', rfl⟩ := List.mem_map.1 hv
      obtain ⟨h1, h2, h3⟩ := div_mod_sz (List.mem_range.1 hk')
      exact hone _ _ h1 h2
    · have hlt := idx_lt hi hj
      refine ⟨u i j, ?_, hr i j d hi hd⟩
      have hsz : 0 < sz := by omega
      simp only [List.getElem?_map, List.getElem?_range hlt, Option.map_some, Option.some.injEq]
      have e1 : (i * sz + j) / sz = i := by rw [Nat.mul_comm, Nat.mul_add_div hsz, Nat.div_eq_of_lt hj]; omega
      have e2 : (i * sz + j) % sz = j := by rw [Nat.mul_comm, Nat.mul_add_mod, Nat.mod_eq_of_lt hj]
      rw [e1, e2]

/-- The data of a value that is appended. -/
def srcAV : AV → Option (Nat × Nat × (Nat → List Dat))
  | .p (.d (.sl sz m f)) => some (sz, m, f)
  | .gr _ _ sz m f => some (sz, m, f)
  | _ => none
theorem srcAV_spec {w : World} {h : Gh} {x : AV} {sz m : Nat} {f : Nat → List Dat} (hx : srcAV x = some (sz, m, f)) {v : Value} (r : RelA w h v x) : RelD w h.g v (.sl sz m f) := by
  unfold srcAV at hx
  split at hx
  · cases hx; cases r with | d _ _ r => exact r
  · cases hx; exact r.1
  · cases hx
def catF (n : Nat) (f f' : Nat → List Dat) : Nat → List Dat := fun i => if i < n then f i else f' (i - n)

def effAppend (P : Program) (ts : List TypeId) (xs : List AV) (lL : Option (Nat × LV)) : Option Eff :=
  match ts, xs, lL with
  | [t, t'], [.gr l gen sz n f, x], some (l', .grow e sz' n' gen') =>
    match tiOf P t, srcAV x with
    | some ti, some (szx, m, f') => match ti.k with
      | .slice _ szt by_ => some { val := .gr l (gen + 1) sz (n + m) (catF n f f'), obl := (l' = l ∧ ti.k = .slice e szt by_ ∧ t' = t ∧ szt = sz ∧ sz' = sz ∧ szx = sz ∧ n' = n ∧ gen' = gen ∧ 0 < sz) ∧ (n + m) * by_ ≤ 140737488355328 ∧ n + m ≤ 140737488355328 ∧ (match tiOf P e with | some te => te.zero.length = sz | none => False), upd := some (l, .grow e sz (n + m) (gen + 1)) }
      | _ => none
    | _, _ => none
  | _, _, _ => none

theorem rel_cat {w w' : World} {g g' : Nat → Nat} (k : Keep w g w' g') {sz n m : Nat} {f f' : Nat → List Dat} {b cap : Nat} {cells : List Value} {news : List Value} {tx : TypeId} {x : Value} {olds : List Value}
    (hol : olds.length = n * sz) (hlf : ∀ i, i < n → (f i).length = sz) (hor : ∀ i j d, i < n → j < sz → (f i)[j]? = some d → ∃ u, olds[i * sz + j]? = some u ∧ RelD w g u d)
    (hgiv : Giv P w g sz tx x m f' news) (hcell : ∀ j u, (olds ++ news)[j]? = some u → w'.cell? ⟨b, j, none⟩ = some u) (hg : (n + m) * sz ≤ g' b) (hcap : n + m ≤ cap) :
    RelD w' g' (.slice (some ⟨b, 0, none⟩) (n + m) cap) (.sl sz (n + m) (catF n f f')) := by
  have hnl := hgiv.src.newsLen
  have hlc : ∀ i, i < n + m → (catF n f f' i).length = sz := by
    intro i hi
    unfold catF
    split
    · exact hlf i ‹_›
    · exact hgiv.len _ (by omega)
  have hall : ∀ i j, i < n + m → j < sz → ∃ u, (olds ++ news)[i * sz + j]? = some u ∧ ∀ d, (catF n f f' i)[j]? = some d → RelD w g u d := by
    intro i j hi hj
    by_cases hin : i < n
    · have hlt := idx_lt hin hj
      have hd : j < (f i).length := by rw [hlf i hin]; exact hj
      obtain ⟨u, hu, hr⟩ := hor i j _ hin hj (List.getElem?_eq_getElem hd)
      refine ⟨u, by rw [List.getElem?_append_left (by omega)]; exact hu, fun d hd' => ?_⟩
      simp only [catF, if_pos hin] at hd'
      rw [List.getElem?_eq_getElem hd] at hd'; cases hd'; exact hr
    · have hd : j < (f' (i - n)).length := by rw [hgiv.len _ (by omega)]; exact hj
      obtain ⟨u, hu, hr⟩ := hgiv.rel (i - n) j _ (by omega) hj (List.getElem?_eq_getElem hd)
      have e1 : (i - n) * sz = i * sz - n * sz := Nat.sub_mul _ _ _
      have e2 : n * sz ≤ i * sz := Nat.mul_le_mul_right _ (by omega)
      refine ⟨u, ?_, fun d hd' => ?_⟩
      · rw [List.getElem?_append_right (by omega), hol, ← hu]; congr 1; omega
      · simp only [catF, if_neg hin] at hd'
        rw [List.getElem?_eq_getElem hd] at hd'; cases hd'; exact hr
  refine .sl b 0 _ cap sz _ (fun i j => ((olds ++ news)[i * sz + j]?).getD undef) hcap hlc (fun i j hi hj => ?_) (by omega) (fun i j d hi hd => ?_)
  · obtain ⟨u, hu, _⟩ := hall i j hi hj
    rw [Nat.zero_add, hcell _ u hu, hu]; rfl
  · have hj : j < sz := by have := (List.getElem?_eq_some_iff.1 hd).1; rw [hlc i hi] at this; exact this
    obtain ⟨u, hu, hr⟩ := hall i j hi hj
    rw [hu]
    exact (hr d hd).keep k
theorem run_append_op {o : Oper} {c : Call} (ho : o.op = .call c) {s x : Operand} {t t' : TypeId} (hc : c = { callee := .builtin .append, args := #[s, x], argTypes := #[t, t'] }) (r : Operand → Value) (w w' : World) {v : Value}
    (hv : (Builtin.append_ #[t, t'] o.type #[r s, r x]).run P w = .ok v w') : (execOp r o).run P w = .ok (.value v) w' := by
  subst hc
  simp [execOp, ho, resolve, invoke, builtin, hv]

def AppGoal (P : Program) (o : Oper) (B : Nat → Prop) (w : World) (h : Gh) (r : Operand → Value) (l : Nat) (e : TypeId) (sz n m gen : Nat) (f f' : Nat → List Dat) : Prop :=
  ∃ nx v w' h', (execOp r o).run P w = .ok nx w' ∧ (nx = .value v ∨ (nx = .skip ∧ v = undef)) ∧ RelA w' h' v (.gr l (gen + 1) sz (n + m) (catF n f f')) ∧
    Trans B w h w' h' (blockOf h l (.grow e sz n gen)) (some l) false ∧
    (LocOK B w' h' l (.grow e sz (n + m) (gen + 1)) ∧ ∀ b, blockOf h' l (.grow e sz (n + m) (gen + 1)) = some b → w.heap.size ≤ b ∨ (false = false ∧ ∃ L, some (l, LV.grow e sz n gen) = some (l, L) ∧ blockOf h l L = some b))

theorem sem_append {o : Oper} {c : Call} (ho : o.op = .call c) {s y : Operand} {t t' : TypeId} (hc : c = { callee := .builtin .append, args := #[s, y], argTypes := #[t, t'] })
    {xs : List AV} {lL : Option (Nat × LV)} {E : Eff} (hE : effAppend P [t, t'] xs lL = some E) (hobl : E.obl) : OpSem P o xs lL E := by
  unfold effAppend at hE
  split at hE
  · rename_i ts0 xs0 lL0 t1 t1' l gen sz n f x l' e sz' n' gen' heq
    cases heq
    split at hE
    · rename_i ti szx m f' hti hsrc
      split at hE
      · rename_i e1 szt by_ hk
        cases hE
        obtain ⟨⟨rfl, hke, rfl, rfl, rfl, rfl, rfl, rfl, hpos⟩, hby, h63, hte⟩ := hobl
        obtain ⟨it, d, z, hit, hd, hz, hkk, hs, hzz⟩ := tiOf_spec hti
        rw [hk] at hke
        cases hke
        rw [hk] at hkk
        obtain ⟨rfl, ie, hie, hsz, hbb⟩ := kindOf_slice hkk
        obtain ⟨te, hte, htez⟩ : ∃ te, tiOf P e = some te ∧ te.zero.length = szx := by
          split at hte
          · rename_i te h1; exact ⟨te, h1, hte⟩
          · exact hte.elim
        obtain ⟨ie', de, ze, hie', hde, hze, _, hse, hzze⟩ := tiOf_spec hte
        rw [hie] at hie'; cases hie'
        intro B w h r hB hz0 hr hL
        rw [ho, hc] at hr
        simp only [Op.operands, Call.operands] at hr
        have r0 : RelA w h (r s) (.gr l' gen' szx n' f) := hr.2 0 (r s) _ rfl rfl
        have r1 : RelA w h (r y) x := hr.2 1 (r y) _ rfl rfl
        obtain ⟨hμ, ⟨olds0, hown⟩, hgam, hgO⟩ := hL _ _ rfl
        obtain ⟨q1, q2, q3⟩ := r0
        have hv := q3 hμ
        rw [hv] at q1
        obtain ⟨news, hgiv⟩ := giv_sl (P := P) (tx := t') hd (srcAV_spec hsrc r1)
        have hnl := hgiv.src.newsLen
        have hgiv' : Src P ie.size t' (r y) m news w := by rw [hsz]; exact hgiv.src
        suffices H : AppGoal P o B w h r l' e szx n' m gen' f f' by
          obtain ⟨nx, v, w', h', a1, a2, a3, a4, a5⟩ := H
          exact ⟨nx, v, w', h', a1, a2, a3, a4, fun l L' hl => by cases hl; exact a5⟩
        have key : ∀ (b cap : Nat) (w' : World) (cur' : Array Value) (olds : List Value), (Builtin.append_ #[t', t'] o.type #[r s, r y]).run P w = .ok (.slice (some ⟨b, 0, none⟩) (n' + m) cap) w' →
            w'.heap[b]? = some (.cells cur' e (0, 0)) → B b → n' + m ≤ cap → cap ≤ maxLen → cur'.size = cap * szx → cur'.toList.take ((n' + m) * szx) = olds ++ news →
            olds.length = n' * szx → (∀ i j d, i < n' → j < szx → (f i)[j]? = some d → ∃ u, olds[i * szx + j]? = some u ∧ RelD w h.g u d) → (∀ i, i < n' → (f i).length = szx) →
            BelowS B w w' → (∀ k, k < w.heap.size → k ≠ b → w'.heap[k]? = w.heap[k]?) → (∀ o', o' < h.g b → b < w.heap.size → w'.cell? ⟨b, o', none⟩ = w.cell? ⟨b, o', none⟩) → h.g b ≤ (n' + m) * szx →
            (b < w.heap.size → (h.κ l').ownBlock = some b) → b < w'.heap.size →
            AppGoal P o B w h r l' e szx n' m gen' f f' := by
          intro b cap w' cur' olds hrun hheap hBb hcap hml hcs htake hol hor hlf hbel hoth hsame hgle hbo hblt
          have hkeep : Keep w h.g w' (setG h.g b ((n' + m) * szx)) := by
            refine ⟨fun k => ?_, fun k q hq => ?_⟩
            · simp only [setG]; split
              · rename_i e; rw [e]; exact hgle
              · exact Nat.le_refl _
            · have hk : k < w.heap.size := by
                by_cases hk : k < w.heap.size
                · exact hk
                · rw [hz0 k (by omega)] at hq; omega
              by_cases hkb : k = b
              · subst hkb; exact hsame q hq hk
              · exact World.cell?_of_block (w := w) (a := ⟨k, q, none⟩) (hoth k hk hkb)
          refine ⟨_, _, w', { h with g := setG h.g b ((n' + m) * szx), κ := fun x => if x = l' then .slice (some ⟨b, 0, none⟩) (n' + m) cap else h.κ x, μ := fun x => if x = l' then gen' + 1 else h.μ x }, run_append_op ho hc r w w' hrun, .inl rfl, ?_, ?_, ?_, ?_⟩
          · refine ⟨rel_cat (cells := []) hkeep hol hlf hor hgiv (fun j u hu => ?_) (by simp [setG]) hcap, by simp, fun _ => by simp⟩
            rw [← htake] at hu
            have hlt : j < (n' + m) * szx := by have := (List.getElem?_eq_some_iff.1 hu).1; simp at this; omega
            rw [List.getElem?_take_of_lt hlt] at hu
            rw [heap_cell hheap]; simpa using hu
          · refine ⟨hbel, fun k hk hne => ?_, hkeep, fun k hk => ?_, fun k hk => ?_, fun _ _ => rfl, fun l hl => ?_, fun l hl _ => .inl ?_⟩
            · have hkb : k ≠ b := by
                intro e; subst e
                exact hne (by simpa [blockOf] using hbo hk)
              exact ⟨hoth k hk hkb, by simp [setG, hkb]⟩
            · have hkb : k ≠ b := by omega
              simp only [setG, if_neg hkb]
              exact hz0 k (by have := hbel.size; omega)
            · have hkb : k ≠ b := fun e => hk (e ▸ hBb)
              simp [setG, hkb]
            · have : l ≠ l' := fun e => hl (by rw [e])
              simp [this]
            · cases hl; simp [hμ]
          · refine ⟨by simp, ⟨olds ++ news, by simp [hol, hnl, Nat.add_mul], .inr ⟨b, cap, cur', by simp, Nat.zero_le _, hheap, hcap, hml, hcs, htake⟩⟩, fun b' c' hb' => ?_, fun b' hb' => ?_⟩
            · simp at hb'
              simp [setG, hb'.1]
            · simp [Value.ownBlock] at hb'
              exact hb' ▸ hBb
          · intro b' hb'
            simp [blockOf, Value.ownBlock] at hb'
            subst hb'
            by_cases hlt : b < w.heap.size
            · exact .inr ⟨rfl, _, rfl, by simpa [blockOf] using hbo hlt⟩
            · exact .inl (by omega)
        have hrange : ∀ {k : Nat}, k ≤ 140737488355328 → ((k : Nat) : Int) ≤ 9223372036854775807 := by intro k hk; omega
        have grow : ∀ (base : Option Addr) (cap : Nat) (olds : List Value), h.κ l' = .slice base n' cap → (Builtin.firstCells ie.size n' (.slice base n' cap)).run P w.drew = .ok olds.toArray w.drew → cap < n' + m →
            olds.length = n' * szx → (∀ i j d, i < n' → j < szx → (f i)[j]? = some d → ∃ u, olds[i * szx + j]? = some u ∧ RelD w h.g u d) → (∀ i, i < n' → (f i).length = szx) →
            AppGoal P o B w h r l' e szx n' m gen' f f' := by
          intro base cap olds hκ hold hcap hol hor hlf
          have hrun := run_append_grow_src (P := P) w t' t' o.type e ie ze hd hie hze base n' cap olds hold (r y) m news hgiv' hcap (hrange h63) (growslice_fits (by omega) (by rw [hbb]; exact hby))
          have hge := grownCap_ge w (n' + m) cap e
          have hcm := grownCap_le_maxLen w (n' + m) cap e (by unfold maxLen; omega)
          have hzs : ze.cells.size = szx := by rw [← htez, hzze]; simp
          have hnew : (w.drew.alloc (.cells ((olds ++ news).toArray ++ Builtin.zeroCells ze.cells (grownCap w (n' + m) cap e - (n' + m))) e)).heap[w.heap.size]? = some (.cells ((olds ++ news).toArray ++ Builtin.zeroCells ze.cells (grownCap w (n' + m) cap e - (n' + m))) e (0, 0)) := _root_.Go.heap_alloc_new w.drew _
          refine key w.heap.size _ _ _ olds (by rw [hv, hκ]; exact hrun) hnew (hB _ (Nat.le_refl _)) hge hcm ?_ ?_ hol hor hlf (((BelowS.refl B w).drew).alloc _) (fun k hk _ => Below.heap_alloc w.drew _ k hk) (fun o' _ hlt => by omega) ?_ (fun hlt => by omega) (by simp)
          · simp only [Array.size_append, List.size_toArray, List.length_append, size_zeroCells, hzs, hol, hnl, ← Nat.add_mul]
            congr 1; omega
          · simp only [Array.toList_append]
            have : (n' + m) * szx = (olds ++ news).length := by simp [hol, hnl, Nat.add_mul]
            rw [this]; exact List.take_left
          · rw [hz0 _ (Nat.le_refl _)]; exact Nat.zero_le _
        rcases hown.2 with ⟨hnil, hn0⟩ | ⟨g0, cap, cur, hκ, hBg, hheap, hnc, hcm, hcs, htake⟩
        · subst hn0
          by_cases hm : m = 0
          · subst hm
            have hrun : (Builtin.append_ #[t', t'] o.type #[r s, r y]).run P w = .ok (.slice none 0 0) w := by
              rw [hv, hnil]
              simp [Builtin.append_, run_underlying hd, sizeOf, typeInfo, hie, hgiv'.len, hgiv'.cells]
            refine ⟨_, _, w, { h with μ := fun x => if x = l' then gen' + 1 else h.μ x }, run_append_op ho hc r w w hrun, .inl rfl, ⟨.sl0 _ _ _ _, by simp, fun _ => hnil.symm⟩, ?_, ⟨by simp, ⟨[], by simpa using hnil ▸ World.ownsRow_nil w 0 e szx⟩, fun b c hb => ?_, fun b hb => ?_⟩, fun b hb => ?_⟩
            · refine ⟨BelowS.refl _ _, fun _ _ _ => ⟨rfl, rfl⟩, Keep.refl _ _, hz0, fun _ _ => rfl, fun _ _ => rfl, fun l hl => ?_, fun l hl _ => .inl ?_⟩
              · have : l ≠ l' := fun e => hl (by rw [e])
                simp [this]
              · cases hl; simp [hμ]
            · simp [hnil] at hb
            · simp [hnil, Value.ownBlock] at hb
            · simp [blockOf, hnil, Value.ownBlock] at hb
          · exact grow none 0 [] hnil (by simp [Builtin.firstCells]) (by omega) (by simp) (fun i j d hi => by omega) (fun i hi => by omega)
        · have hgb : h.g g0 = n' * szx := hgam g0 cap hκ
          have hrel : (∀ i, i < n' → (f i).length = szx) ∧ ∀ i j d, i < n' → j < szx → (f i)[j]? = some d → ∃ u, olds0[i * szx + j]? = some u ∧ RelD w h.g u d := by
            rw [hκ] at q1
            cases q1 with
            | sl0 => exact ⟨fun i hi => by omega, fun i j d hi => by omega⟩
            | sl b off _ c _ _ u hn hl hc hg hrr =>
              refine ⟨hl, fun i j d hi hj hd => ⟨u i j, ?_, hrr i j d hi hd⟩⟩
              have := hc i j hi hj
              rw [Nat.zero_add, heap_cell hheap] at this
              rw [← htake, List.getElem?_take_of_lt (idx_lt hi hj)]
              simpa using this
          by_cases hroom : n' + m ≤ cap
          · have hfit : n' * szx + news.length ≤ cur.size := by rw [hnl, hcs, ← Nat.add_mul]; exact Nat.mul_le_mul_right _ hroom
            have hrun := run_append_room_row (P := P) w t' t' o.type e ie hd hie g0 n' cap cur e (r y) m news hgiv' hroom hheap (by rw [hsz]; exact hfit)
            rw [hsz] at hrun
            have hg0 : g0 < w.heap.size := (Array.getElem?_eq_some_iff.1 hheap).1
            refine key g0 cap _ _ olds0 (by rw [hv, hκ]; exact hrun) (setRow_heap w g0 cur _ e _ hheap) (hgO g0 (by rw [hκ]; rfl)) hroom hcm ?_ ?_ hown.1 hrel.2 hrel.1 ⟨rfl, rfl, rfl, by simp, fun k _ hk => setRow_other w g0 k _ (fun e => hk (e ▸ hgO g0 (by rw [hκ]; rfl)))⟩ (fun k _ hk => setRow_other w g0 k _ hk) (fun o' ho' _ => ?_) (by rw [hgb]; exact Nat.mul_le_mul_right _ (by omega)) (fun _ => by rw [hκ]; rfl) (by simpa using hg0)
            · simp only [List.size_toArray, List.length_append, List.length_take, List.length_drop, Array.length_toList]
              omega
            · have : (n' + m) * szx = (olds0 ++ news).length := by simp [hown.1, hnl, Nat.add_mul]
              simp only [htake]
              rw [this]
              exact List.take_left
            · rw [heap_cell (setRow_heap w g0 cur _ e _ hheap), heap_cell hheap]
              rw [hgb] at ho'
              simp only [List.getElem?_toArray, List.append_assoc]
              rw [List.getElem?_append_left (by simp; omega), List.getElem?_take_of_lt ho']
              simp
          · have hfc : (Builtin.firstCells ie.size n' (.slice (some ⟨g0, 0, none⟩) n' cap)).run P w.drew = .ok olds0.toArray w.drew := by
              refine run_firstCells_some (P := P) w.drew ie.size n' _ n' cap olds0 (by rw [hsz]; exact hown.1) (fun j u hu => ?_)
              rw [addr_add, Nat.zero_add]
              have : w.drew.cell? ⟨g0, j, none⟩ = w.cell? ⟨g0, j, none⟩ := rfl
              rw [this, heap_cell hheap]
              rw [← htake] at hu
              have hlt : j < n' * szx := by have := (List.getElem?_eq_some_iff.1 hu).1; simp at this; omega
              rw [List.getElem?_take_of_lt hlt] at hu
              simpa using hu
            exact grow _ cap olds0 hκ hfc (by omega) hown.1 hrel.2 hrel.1
      · cases hE
    · cases hE
  · cases hE

-- the equations of what is worked out in a walk, made here once
theorem srcAV_eqns : True := have := @srcAV.eq_1; trivial
theorem effAppend_eqns : True := have := @effAppend.eq_1; trivial
end Go.Proofs.Ytfcfhlfehomhpaa.AL

/- The operations, continued: fields of values, functions, lengths, slices of slices, make; all of them in one (opEff). -/
namespace Go.Proofs.Ytfcfhlfehomhpaa.AL
open Go.RowKit
variable {P : Program}

def effNil (xs : List AV) : Option Eff :=
  match xs with
  | [.p (.d (.bx cs))] => some { val := .p (.d (.bx cs)) }
  | [.p (.d (.bf n f))] => some { val := .p (.d (.bf n f)) }
  | [.loc l o] => some { val := .loc l o }
  | [.p (.fn (.func f) a b)] => some { val := .p (.fn (.func f) a b) }
  | _ => none
theorem sem_nil {o : Oper} {x : Operand} (ho : o.op = .nilCheck x) {xs : List AV} {lL : Option (Nat × LV)} {E : Eff} (hE : effNil xs = some E) : OpSem P o xs lL E := by
  unfold effNil at hE
  split at hE
  · rename_i cs
    cases hE
    refine opSem_pure fun B w h r hr hL => ?_
    simp only [ho, Op.operands] at hr
    have h0 := hr.2 0 (r x) _ rfl rfl
    refine ⟨r x, ?_, h0⟩
    obtain ⟨v0, hv0⟩ : ∃ v, r x = v := ⟨_, rfl⟩
    rw [hv0] at h0
    cases h0 with | d _ _ h0 => obtain ⟨b, q, rfl⟩ := relD_bx_ptr h0; simp [execOp, ho, hv0]
  · rename_i n f
    cases hE
    refine opSem_pure fun B w h r hr hL => ?_
    simp only [ho, Op.operands] at hr
    have h0 := hr.2 0 (r x) _ rfl rfl
    refine ⟨r x, ?_, h0⟩
    obtain ⟨v0, hv0⟩ : ∃ v, r x = v := ⟨_, rfl⟩
    rw [hv0] at h0
    cases h0 with | d _ _ h0 => cases h0 with | bf => simp [execOp, ho, hv0]
  · rename_i l q
    cases hE
    refine opSem_pure fun B w h r hr hL => ?_
    simp only [ho, Op.operands] at hr
    have h0 : r x = _ := hr.2 0 (r x) _ rfl rfl
    exact ⟨_, by simp [execOp, ho, h0], rfl⟩
  · rename_i f a b
    cases hE
    refine opSem_pure fun B w h r hr hL => ?_
    simp only [ho, Op.operands] at hr
    have h0 := hr.2 0 (r x) _ rfl rfl
    refine ⟨r x, ?_, h0⟩
    obtain ⟨v0, hv0⟩ : ∃ v, r x = v := ⟨_, rfl⟩
    rw [hv0] at h0
    cases h0 with | fn => simp [execOp, ho, hv0]
  · cases hE

def effField (P : Program) (t : TypeId) (n : Nat) (xs : List AV) : Option Eff :=
  match tiOf P t with
  | some ti => match ti.k with
    | .struct fs => match fs[n]?, xs with
      | some (off, sz, ag), [.p (.agg cs)] => bif ag then some { val := .p (.agg ((cs.drop off).take sz)), obl := off + sz ≤ cs.length }
          else (cs[off]?).map fun d => { val := .p (.d d) }
      | _, _ => none
    | _ => none
  | none => none
theorem sem_field {o : Oper} {t : TypeId} {x : Operand} {n : Nat} (ho : o.op = .field t x n) {xs : List AV} {lL : Option (Nat × LV)} {E : Eff} (hE : effField P t n xs = some E) (hobl : E.obl) : OpSem P o xs lL E := by
  unfold effField at hE
  split at hE
  · rename_i ti hti
    split at hE
    · rename_i fs hk
      split at hE
      · rename_i off sz ag cs hn
        obtain ⟨_, d, z, hi, hd, hz, hkk, _, _⟩ := tiOf_spec hti
        rw [hk] at hkk
        obtain ⟨fields, rfl, hm⟩ := kindOf_struct hkk
        obtain ⟨f, hf, hff⟩ := mapM_get hm n _ hn
        obtain ⟨fi, fd, hfi, hfd, he⟩ := fieldOf_spec hff
        simp only [Prod.mk.injEq] at he
        obtain ⟨rfl, rfl, rfl⟩ := he
        have hf' : fields[n]? = some f := by simpa using hf
        cases hag : isAggD fd with
        | true =>
          rw [hag] at hE; simp only [cond_true] at hE; cases hE
          refine opSem_pure fun B w h r hr hL => ?_
          simp only [ho, Op.operands] at hr
          obtain ⟨vs, hv, hl, hrr⟩ := relA_agg (hr.2 0 (r x) _ rfl rfl)
          have hlen : f.offset + fi.size ≤ cs.length := hobl
          refine ⟨.agg ((vs.drop f.offset).take fi.size).toArray, ?_, .agg _ _ (by simp; omega) fun j v d hv' hd' => ?_⟩
          · simp [execOp, ho, hv, Instr.field, run_underlying hd, hf', asAgg, part, run_isAgg hfd, hag, run_sizeOf hfi]
          · have hlt : j < fi.size := by have := (List.getElem?_eq_some_iff.1 hv').1; simp at this; omega
            rw [List.getElem?_take_of_lt hlt, List.getElem?_drop] at hv' hd'
            exact hrr _ v d hv' hd'
        | false =>
          rw [hag] at hE; simp only [cond_false] at hE
          cases hc : cs[f.offset]? with
          | none => simp [hc] at hE
          | some dd =>
            simp [hc] at hE; subst hE
            refine opSem_pure fun B w h r hr hL => ?_
            simp only [ho, Op.operands] at hr
            obtain ⟨vs, hv, hl, hrr⟩ := relA_agg (hr.2 0 (r x) _ rfl rfl)
            have hlt : f.offset < vs.length := by rw [hl]; exact (List.getElem?_eq_some_iff.1 hc).1
            refine ⟨vs[f.offset], ?_, .d _ _ (hrr _ _ dd (by simp [hlt]) hc)⟩
            simp [execOp, ho, hv, Instr.field, run_underlying hd, hf', asAgg, part, run_isAgg hfd, hag, hlt]
      · cases hE
    · cases hE
  · cases hE

def pvAV : AV → Option PV
  | .p x => some x
  | .gr _ _ sz n f => some (.d (.sl sz n f))
  | _ => none
theorem pvAV_spec {w : World} {h : Gh} {x : AV} {y : PV} (hx : pvAV x = some y) {v : Value} (r : RelA w h v x) : RelP w h.g v y := by
  unfold pvAV at hx
  split at hx
  · cases hx; exact r
  · cases hx; exact .d _ _ r.1
  · cases hx
theorem pvs_spec {w : World} {h : Gh} : ∀ {xs : List AV} {ys : List PV} {us : List Value}, xs.mapM pvAV = some ys → RelAs w h us xs → RelPs w h.g us ys
  | [], ys, us, hm, r => by
    simp at hm; subst hm
    have := r.1; simp at this; subst this; exact RelPs.nil _ _
  | x :: xs, ys, us, hm, r => by
    simp only [List.mapM_cons] at hm
    cases hx : pvAV x with
    | none => simp [hx] at hm
    | some y =>
      cases hxs : xs.mapM pvAV with
      | none => simp [hx, hxs] at hm
      | some ys' =>
        simp [hx, hxs] at hm
        subst hm
        cases us with
        | nil => simp [RelAs] at r
        | cons u us =>
          refine RelPs.cons (pvAV_spec hx (r.2 0 u x rfl rfl)) (pvs_spec hxs ⟨by simpa using r.1, fun j v z hv hz => r.2 (j + 1) v z (by simpa using hv) (by simpa using hz)⟩)

def effFunc (fn : Fn) (n : Nat) (xs : List AV) : Option Eff :=
  (xs.mapM pvAV).map fun ys => { val := .p (.fn fn (ys.take n) (ys.drop n)) }
theorem sem_func {o : Oper} {fn : Fn} {first caps : Array Operand} (ho : o.op = .makeFunc fn first caps) {xs : List AV} {lL : Option (Nat × LV)} {E : Eff} (hE : effFunc fn first.size xs = some E) : OpSem P o xs lL E := by
  unfold effFunc at hE
  cases hm : xs.mapM pvAV with
  | none => simp [hm] at hE
  | some ys =>
    simp [hm] at hE; subst hE
    refine opSem_pure fun B w h r hr hL => ?_
    have hops : o.op.operands.toList.map r = (first.toList.map r) ++ (caps.toList.map r) := by simp [ho, Op.operands]
    rw [hops] at hr
    have hp := pvs_spec hm hr
    have hlen : first.size ≤ ys.length := by have := hp.1; simp at this; omega
    refine ⟨.func fn (first.toList.map r).toArray (caps.toList.map r).toArray, ?_, .fn _ _ _ _ _ (by simp; omega) (by have := hp.1; simp at this ⊢; omega) (fun j v x hv hx => ?_) (fun j v x hv hx => ?_)⟩
    · have e1 : (first.toList.map r).toArray = first.map r := by apply Array.ext'; simp
      have e2 : (caps.toList.map r).toArray = caps.map r := by apply Array.ext'; simp
      rw [e1, e2]
      simp only [execOp, ho]; simp [Instr.makeFunc]
    · have hj : j < first.size := by have := (List.getElem?_eq_some_iff.1 hv).1; simpa using this
      rw [List.getElem?_take_of_lt hj] at hx
      exact hp.2 j v x (by rw [List.getElem?_append_left (by simpa using hj)]; exact hv) hx
    · rw [List.getElem?_drop] at hx
      exact hp.2 _ v x (by rw [List.getElem?_append_right (by simp)]; simpa using hv) hx

/-! ### len -/
def lenAV : AV → Option Nat
  | .p (.d (.sl _ n _)) => some n
  | .p (.d (.v (.slice _ n _))) => some n
  | .gr _ _ _ n _ => some n
  | .row _ _ _ n => some n
  | _ => none
def effLen (P : Program) (t : TypeId) (xs : List AV) : Option Eff :=
  match tiOf P t, xs with
  | some ti, [x] => match ti.k, x with
    | .slice _ _ _, x => (lenAV x).map fun (n : Nat) => { val := .p (.d (.v (.int .i64 (n : Int)))) }
    | .string, .p (.d (.v (.string s))) => some { val := .p (.d (.v (.int .i64 s.size))) }
    | _, _ => none
  | _, _ => none
theorem lenAV_spec {w : World} {h : Gh} {x : AV} {n : Nat} (hx : lenAV x = some n) {v : Value} (r : RelA w h v x) : ∃ a c, v = .slice a n c := by
  unfold lenAV at hx
  split at hx
  · cases hx; cases r with | d _ _ r => cases r <;> exact ⟨_, _, rfl⟩
  · cases hx; exact ⟨_, _, relA_v r⟩
  · cases hx; obtain ⟨r, _⟩ := r; cases r <;> exact ⟨_, _, rfl⟩
  · cases hx; obtain ⟨c, hv, _⟩ := r; exact ⟨_, c, hv⟩
  · cases hx
theorem run_builtin_op {o : Oper} {c : Call} (ho : o.op = .call c) {b : Builtin} (hb : c.callee = .builtin b) (r : Operand → Value) (w w' : World) {n : Next}
    (hv : ∀ consts, (builtin b c.argTypes o.type consts (c.args.map r)).run P w = .ok n w') : (execOp r o).run P w = .ok n w' := by
  simp [execOp, ho, resolve, hb, invoke, hv]
theorem sem_len {o : Oper} {c : Call} (ho : o.op = .call c) {t : TypeId} {x : Operand} (hc : c = { callee := .builtin .len, args := #[x], argTypes := #[t] }) {xs : List AV} {lL : Option (Nat × LV)} {E : Eff} (hE : effLen P t xs = some E) : OpSem P o xs lL E := by
  unfold effLen at hE
  split at hE
  · rename_i ti y hti
    obtain ⟨_, d, z, hi, hd, hz, hkk, _, _⟩ := tiOf_spec hti
    split at hE
    · rename_i e sz by_ hk
      rename_i y _ _
      cases hl : lenAV y with
      | none => simp only [hl, Option.map_none] at hE; cases hE
      | some n =>
        simp only [hl, Option.map_some, Option.some.injEq] at hE; subst hE
        rw [hk] at hkk
        obtain ⟨rfl, _⟩ := kindOf_slice hkk
        refine opSem_pure fun B w h r hr hL => ⟨.int .i64 n, ?_, relA_mk rfl⟩
        rw [ho, hc] at hr
        simp only [Op.operands, Call.operands] at hr
        obtain ⟨a, cc, hv⟩ := lenAV_spec hl (hr.2 0 (r x) _ rfl rfl)
        refine run_builtin_op ho (b := .len) (by rw [hc]) r w w fun consts => ?_
        rw [hc]
        simp [builtin, hv, Builtin.len_, run_underlying hd, goInt]
    · rename_i s hk
      cases hE
      rw [hk] at hkk
      have := kindOf_string hkk
      subst this
      refine opSem_pure fun B w h r hr hL => ⟨.int .i64 s.size, ?_, relA_mk rfl⟩
      rw [ho, hc] at hr
      simp only [Op.operands, Call.operands] at hr
      have h0 := relA_v (hr.2 0 (r x) _ rfl rfl)
      refine run_builtin_op ho (b := .len) (by rw [hc]) r w w fun consts => ?_
      rw [hc]
      simp [builtin, h0, Builtin.len_, run_underlying hd, goInt]
    · cases hE
  · cases hE

/-! ### slices of slices -/
def bndAV : Option AV → Option (Option Int)
  | none => some none
  | some (.p (.d (.v (.int _ i)))) => some (some i)
  | _ => none
/-- lo, hi, max of what is there of them -/
def bnds (lo hi mx : Bool) (xs : List AV) : Option (Option AV × Option AV × Option AV) :=
  match lo, hi, mx, xs with
  | false, false, false, [] => some (none, none, none)
  | true, false, false, [a] => some (some a, none, none)
  | false, true, false, [b] => some (none, some b, none)
  | true, true, false, [a, b] => some (some a, some b, none)
  | false, true, true, [b, c] => some (none, some b, some c)
  | true, true, true, [a, b, c] => some (some a, some b, some c)
  | _, _, _, _ => none
def effSlice (P : Program) (t : TypeId) (lo hi mx : Bool) (xs : List AV) : Option Eff :=
  match tiOf P t, xs with
  | some ti, x :: rest => match bnds lo hi mx rest with
    | some (a, b, c) => match bndAV a, bndAV b, bndAV c with
      | some l, some hh, some m => match ti.k, x with
        | .slice _ sz _, .p (.d (.sl sz' n f)) =>
          some { val := .p (.d (.sl sz ((hh.getD n).toNat - (l.getD 0).toNat) fun i => f ((l.getD 0).toNat + i))), obl := sz' = sz ∧ 0 ≤ l.getD 0 ∧ l.getD 0 ≤ hh.getD n ∧ hh.getD n ≤ m.getD n ∧ m.getD n ≤ n }
        | .slice _ sz _, .gr _ _ sz' n f =>
          some { val := .p (.d (.sl sz ((hh.getD n).toNat - (l.getD 0).toNat) fun i => f ((l.getD 0).toNat + i))), obl := sz' = sz ∧ 0 ≤ l.getD 0 ∧ l.getD 0 ≤ hh.getD n ∧ hh.getD n ≤ m.getD n ∧ m.getD n ≤ n }
        | _, _ => none
      | _, _, _ => none
    | none => none
  | _, _ => none
theorem relD_sub {w : World} {g : Nat → Nat} {a : Option Addr} {sz n c : Nat} {f : Nat → List Dat} (r : RelD w g (.slice a n c) (.sl sz n f)) {l hh m : Nat} (h1 : l ≤ hh) (h2 : hh ≤ n) (h3 : hh ≤ m) (h4 : m ≤ c) :
    RelD w g (sliced a l hh m sz) (.sl sz (hh - l) fun i => f (l + i)) := by
  by_cases hz : hh - l = 0
  · unfold sliced; rw [hz]; exact .sl0 _ _ _ _
  · cases r with
    | sl0 => omega
    | sl b off _ _ _ _ u hn hl hc hg hr =>
      have hml : ¬ m = l := by omega
      have hle : hh * sz ≤ n * sz := Nat.mul_le_mul_right _ h2
      have e1 : (hh - l) * sz = hh * sz - l * sz := Nat.sub_mul _ _ _
      have e2 : l * sz ≤ hh * sz := Nat.mul_le_mul_right _ h1
      simp only [sliced, if_neg hml, Option.map_some, addr_add]
      refine .sl b (off + l * sz) _ _ sz _ (fun i j => u (l + i) j) (by omega) (fun i hi => hl _ (by omega)) (fun i j hi hj => ?_) (by omega) (fun i j x hi hx => hr _ j x (by omega) hx)
      rw [← hc (l + i) j (by omega) hj]
      congr 2
      rw [Nat.add_mul]; omega
theorem slice_of_sl {w : World} {g : Nat → Nat} {v : Value} {sz n : Nat} {f : Nat → List Dat} (r : RelD w g v (.sl sz n f)) : ∃ a c, v = .slice a n c ∧ n ≤ c := by
  cases r with
  | sl0 a c => exact ⟨a, c, rfl, Nat.zero_le _⟩
  | sl b off _ c _ _ u hn => exact ⟨_, c, rfl, hn⟩
theorem sem_slice {o : Oper} {t : TypeId} {x : Operand} {lo hi mx : Option Operand} (ho : o.op = .slice t x lo hi mx) {xs : List AV} {lL : Option (Nat × LV)} {E : Eff} (hE : effSlice P t lo.isSome hi.isSome mx.isSome xs = some E) (hobl : E.obl) : OpSem P o xs lL E := by
  unfold effSlice at hE
  split at hE
  · rename_i ti y rest hti
    split at hE
    · rename_i a b c hb
      split at hE
      · rename_i l hh m ha hb2 hc2
        have main : ∀ {e sz by_ sz' n} {f : Nat → List Dat}, ti.k = .slice e sz by_ → (sz' = sz ∧ 0 ≤ l.getD 0 ∧ l.getD 0 ≤ hh.getD (n : Nat) ∧ hh.getD n ≤ m.getD n ∧ m.getD n ≤ (n : Int)) →
            (∀ (w : World) (h : Gh) v, RelA w h v y → RelD w h.g v (.sl sz' n f)) → ∀ obl, OpSem P o (y :: rest) lL ⟨.p (.d (.sl sz ((hh.getD n).toNat - (l.getD 0).toNat) fun i => f ((l.getD 0).toNat + i))), obl, none, false⟩ := by
          intro e sz by_ sz' n f hk hob hrel obl
          obtain ⟨rfl, o1, o2, o3, o4⟩ := hob
          obtain ⟨_, d, z, hi', hd, hz, hkk, _, _⟩ := tiOf_spec hti
          rw [hk] at hkk
          obtain ⟨rfl, ie, hie, hsz, _⟩ := kindOf_slice hkk
          refine opSem_pure fun B w h r hr hL => ?_
          have hops : o.op.operands.toList.map r = r x :: ((lo.toList ++ hi.toList ++ mx.toList).map r) := by simp [ho, Op.operands, Option.toList_toArray]
          rw [hops] at hr
          have h0 := hrel w h _ (hr.2 0 (r x) y rfl rfl)
          obtain ⟨ad, cp, hv, hnc⟩ := slice_of_sl h0
          rw [hv] at h0
          have hr' : RelAs w h ((lo.toList ++ hi.toList ++ mx.toList).map r) rest := ⟨by simpa using hr.1, fun j v z hv hz => hr.2 (j + 1) v z (by simpa using hv) (by simpa using hz)⟩
          have elem : P.elem t = e := by simp [Program.elem, hd]
          have hds : P.underlying t = some (.slice (P.elem t)) := by rw [elem]; exact hd
          have bnd : ∀ {q : Option AV} {i : Option Int}, bndAV q = some i → ∀ {v z}, q = some z → RelA w h v z → ∃ k j, i = some j ∧ v = .int k j := by
            intro q i hq v z hqz hvz
            subst hqz
            unfold bndAV at hq
            split at hq
            · rename_i e; cases e
            · rename_i k j e; cases e; cases hq; exact ⟨k, j, rfl, relA_v hvz⟩
            · cases hq
          refine ⟨sliced ad (l.getD 0).toNat (hh.getD n).toNat (match m with | some m => m.toNat | none => cp) sz', ?_, .d _ _ (relD_sub h0 (by omega) (by omega) ?_ ?_)⟩
          · simp only [execOp, ho]
            simp only [Sem.run_bind, run_sliceAt_slice (P := P) w t _ _ _ _ hds, hv]
            have hsz' : ∀ {q : Int → Result Value}, ((sizeOf (P.elem t)).run P w) = .ok sz' w := fun {_} => by rw [elem, run_sizeOf hie, hsz]
            have hsz2 := hsz' (q := fun _ => .ok undef w)
            clear hsz'
            rcases rest with _ | ⟨r1, _ | ⟨r2, _ | ⟨r3, _ | ⟨r4, r5⟩⟩⟩⟩ <;> cases lo <;> cases hi <;> cases mx <;> simp only [bnds, Option.isSome_none, Option.isSome_some] at hb <;> first | (cases hb; done) | skip
            all_goals cases hb
            · cases ha; cases hb2; cases hc2
              simp only [Option.map_none]
              rw [run_slice_all (P := P) w t ad n cp hds, hsz2]; simp
            · cases ha; cases hc2
              rename_i bo
              obtain ⟨k1, j1, rfl, q1⟩ := bnd hb2 rfl (hr'.2 0 (r bo) _ rfl rfl)
              simp only [Option.map_none, Option.map_some, q1, Option.getD_some, Option.getD_none] at o1 o2 o3 o4 ⊢
              rw [run_slice_h (P := P) w t ad n cp hds k1 j1 (by omega) (by omega), hsz2]; simp
            · cases hb2; cases hc2
              rename_i ao
              obtain ⟨k1, j1, rfl, q1⟩ := bnd ha rfl (hr'.2 0 (r ao) _ rfl rfl)
              simp only [Option.map_none, Option.map_some, q1, Option.getD_some, Option.getD_none] at o1 o2 o3 o4 ⊢
              rw [run_slice_l (P := P) w t ad n cp hds k1 j1 (by omega) (by omega), hsz2]; simp
            · cases ha
              rename_i bo co
              obtain ⟨k1, j1, rfl, q1⟩ := bnd hb2 rfl (hr'.2 0 (r bo) _ rfl rfl)
              obtain ⟨k2, j2, rfl, q2⟩ := bnd hc2 rfl (hr'.2 1 (r co) _ rfl rfl)
              simp only [Option.map_none, Option.map_some, q1, q2, Option.getD_some, Option.getD_none] at o1 o2 o3 o4 ⊢
              rw [run_slice_hm (P := P) w t ad n cp hds k1 k2 j1 j2 (by omega) (by omega) (by omega), hsz2]; simp
            · cases hc2
              rename_i ao bo
              obtain ⟨k1, j1, rfl, q1⟩ := bnd ha rfl (hr'.2 0 (r ao) _ rfl rfl)
              obtain ⟨k2, j2, rfl, q2⟩ := bnd hb2 rfl (hr'.2 1 (r bo) _ rfl rfl)
              simp only [Option.map_none, Option.map_some, q1, q2, Option.getD_some, Option.getD_none] at o1 o2 o3 o4 ⊢
              rw [run_slice_lh (P := P) w t ad n cp hds k1 k2 j1 j2 (by omega) (by omega) (by omega), hsz2]; simp
            · rename_i ao bo co
              obtain ⟨k1, j1, rfl, q1⟩ := bnd ha rfl (hr'.2 0 (r ao) _ rfl rfl)
              obtain ⟨k2, j2, rfl, q2⟩ := bnd hb2 rfl (hr'.2 1 (r bo) _ rfl rfl)
              obtain ⟨k3, j3, rfl, q3⟩ := bnd hc2 rfl (hr'.2 2 (r co) _ rfl rfl)
              simp only [Option.map_some, q1, q2, q3, Option.getD_some] at o1 o2 o3 o4 ⊢
              rw [run_slice_lhm (P := P) w t ad n cp hds k1 k2 k3 j1 j2 j3 (by omega) (by omega) (by omega) (by omega), hsz2]; simp
          · cases m with
            | none => simp at o3 o4 ⊢; omega
            | some m => simp at o3 o4 ⊢; omega
          · cases m with
            | none => simp
            | some m => simp at o3 o4 ⊢; omega
        split at hE
        · rename_i e sz by_ sz' n f hk
          cases hE
          exact main hk hobl (fun w h v hv => by cases hv with | d _ _ hv => exact hv) _
        · rename_i e sz by_ lq gen sz' n f hk
          cases hE
          exact main hk hobl (fun w h v hv => hv.1) _
        · cases hE
      · cases hE
    · cases hE
  · cases hE

-- the equations of what is worked out in a walk, made here once
theorem effNil_eqns : True := have := @effNil.eq_1; trivial
theorem effField_eqns : True := have := @effField.eq_1; trivial
theorem pvAV_eqns : True := have := @pvAV.eq_1; trivial
theorem effFunc_eqns : True := have := @effFunc.eq_1; trivial
theorem lenAV_eqns : True := have := @lenAV.eq_1; trivial
theorem effLen_eqns : True := have := @effLen.eq_1; trivial
theorem bndAV_eqns : True := have := @bndAV.eq_1; trivial
theorem bnds_eqns : True := have := @bnds.eq_1; trivial
theorem effSlice_eqns : True := have := @effSlice.eq_1; trivial
end Go.Proofs.Ytfcfhlfehomhpaa.AL

/- All operations in one (opEff); calls; an operation in the walk's words (OpT); regions walked in the text's order. -/
namespace Go.Proofs.Ytfcfhlfehomhpaa.AL
open Go.RowKit
variable {P : Program}

/-! ### rows of its own: made, and bytes of a string -/
theorem trans_grow {B : Nat → Prop} {w W : World} {h : Gh} (hz : GZ w h.g) (l : Nat) (hbelow : BelowS B w W) (hbl : ∀ b, b < w.heap.size → W.heap[b]? = w.heap[b]?) :
    Trans B w h W { h with ρ := setG h.ρ l w.heap.size } none (some l) true where
  below := hbelow
  blocks := fun b hb _ => ⟨hbl b hb, rfl⟩
  keep := by
    refine ⟨fun b => Nat.le_refl _, fun b q hq => ?_⟩
    have hlt : b < w.heap.size := by
      by_cases hlt : b < w.heap.size
      · exact hlt
      · rw [hz b (by omega)] at hq; omega
    exact World.cell?_of_block (w := w) (hbl b hlt)
  gz := fun b hb => hz b (by have := hbelow.size; omega)
  gB := fun _ _ => rfl
  ρ := fun l' hl' => by
    have : l' ≠ l := fun e => hl' rfl (by rw [e])
    simp [setG, this]
  κ := fun _ _ => ⟨rfl, rfl⟩
  up := fun _ _ hf => by cases hf
theorem opSem_newR {o : Oper} {xs : List AV} {lL : Option (Nat × LV)} {l : Nat} {L : LV} {x : AV} {obl : Prop} (hgrow : ∀ h, blockOf h l L = some (h.ρ l))
    (H : ∀ (w : World) (h : Gh) (r : Operand → Value), GZ w h.g → RelAs w h (o.op.operands.toList.map r) xs →
      ∃ v W, (execOp r o).run P w = .ok (.value v) W ∧ (∀ B : Nat → Prop, NewIn B w → BelowS B w W) ∧ (∀ b, b < w.heap.size → W.heap[b]? = w.heap[b]?) ∧ RelA W { h with ρ := setG h.ρ l w.heap.size } v x ∧
        ∀ B : Nat → Prop, NewIn B w → LocOK B W { h with ρ := setG h.ρ l w.heap.size } l L) : OpSem P o xs lL ⟨x, obl, some (l, L), true⟩ := by
  intro B w h r hB hz hr hL
  obtain ⟨v, W, h1, h2, h3, h4, h5⟩ := H w h r hz hr
  refine ⟨_, _, _, { h with ρ := setG h.ρ l w.heap.size }, h1, .inl rfl, h4, ?_, fun l' L' hl => ?_⟩
  · have : ownOf h lL ⟨x, obl, some (l, L), true⟩ = none := rfl
    rw [this]; exact trans_grow hz l (h2 B hB) h3
  · cases hl
    refine ⟨h5 B hB, fun b hb => .inl ?_⟩
    rw [hgrow] at hb
    simp [setG] at hb
    omega

/-- An empty row, to be grown. -/
theorem opSem_newK {o : Oper} {xs : List AV} {lL : Option (Nat × LV)} {l sz : Nat} {e : TypeId} {f : Nat → List Dat} {obl : Prop}
    (H : ∀ (w : World) (h : Gh) (r : Operand → Value), RelAs w h (o.op.operands.toList.map r) xs → (execOp r o).run P w = .ok (.value (.slice (some ⟨w.heap.size, 0, none⟩) 0 0)) (w.alloc (.cells #[] e))) :
    OpSem P o xs lL ⟨.gr l 0 sz 0 f, obl, some (l, .grow e sz 0 0), true⟩ := by
  intro B w h r hB hz hr hL
  let v : Value := .slice (some ⟨w.heap.size, 0, none⟩) 0 0
  let h' : Gh := { h with κ := fun k => if k = l then v else h.κ k, μ := fun k => if k = l then 0 else h.μ k }
  have nl : h'.κ l = v := by simp [h']
  refine ⟨_, v, w.alloc (.cells #[] e), h', H w h r hr, .inl rfl, ⟨.sl0 _ _ _ _, by simp [h'], fun _ => nl.symm⟩, ?_, fun l' L' hl => ?_⟩
  · have : ownOf h lL ⟨.gr l 0 sz 0 f, obl, some (l, .grow e sz 0 0), true⟩ = none := rfl
    rw [this]
    have t := trans_new hB hz (.cells #[] e) l
    refine ⟨t.below, t.blocks, t.keep, t.gz, t.gB, fun _ _ => rfl, fun k hk => ?_, fun _ _ hf => by cases hf⟩
    have : k ≠ l := fun e => hk (by rw [e]; rfl)
    simp [h', this]
  · cases hl
    refine ⟨⟨by simp [h'], ⟨[], ?_⟩, fun b c hb => ?_, fun b hb => ?_⟩, fun b hb => .inl ?_⟩
    · rw [nl]; exact World.ownsRow_made w #[] 0 (Nat.zero_le _) (by unfold maxLen; omega) (by simp)
    · rw [nl] at hb
      simp only [v, Value.slice.injEq, Option.some.injEq, Addr.mk.injEq, and_true] at hb
      rw [← hb.1]
      simp only [Nat.zero_mul]
      exact hz _ (Nat.le_refl _)
    · rw [nl] at hb
      simp only [v, Value.ownBlock, Option.some.injEq] at hb
      exact hb ▸ hB _ (Nat.le_refl _)
    · simp only [blockOf, nl, v, Value.ownBlock, Option.some.injEq] at hb
      omega
def effBuildSlice0 (P : Program) (M : List Nat) (t : TypeId) (dst : Option Tmp) (is : List Nat) : Option Eff :=
  match tiOf P t, dst with
  | some ti, some d => match ti.k with
    | .slice e sz _ => match tiOf P e with
      | some te => bif M.contains d then some { val := .gr d 0 sz 0 fun _ => [], obl := is = [], upd := some (d, .grow e sz 0 0), fresh := true }
          else some { val := .p (.d (.sl sz 0 fun _ => [])), obl := is = [] }
      | none => none
    | _ => none
  | _, _ => none
theorem run_buildSlice0 (w : World) (t e : TypeId) (ie : TypeInfo) (hu : P.underlying t = some (.slice e)) (hie : P.info? e = some ie) :
    (Instr.buildSlice t 0 #[]).run P w = .ok (.slice (some ⟨w.heap.size, 0, none⟩) 0 0) (w.alloc (.cells #[] e)) := by
  simp [Instr.buildSlice, run_underlying hu, sizeOf, typeInfo, hie, newRow, Instr.fill]
  rw [show Array.range 0 = #[] from by simp]; simp
theorem sem_buildSlice0 {M : List Nat} {o : Oper} {t : TypeId} {parts : Array (Nat × Operand)} (ho : o.op = .buildSlice t 0 parts) {xs : List AV} {lL : Option (Nat × LV)} {E : Eff} (hE : effBuildSlice0 P M t o.dst (parts.toList.map (·.1)) = some E) (hobl : E.obl) : OpSem P o xs lL E := by
  unfold effBuildSlice0 at hE
  split at hE
  · rename_i ti d hti hdst
    split at hE
    · rename_i e sz by_ hk
      split at hE
      · rename_i te hte
        obtain ⟨it, d', z, hit, hd, hz, hkk, hs, hzz⟩ := tiOf_spec hti
        rw [hk] at hkk
        obtain ⟨rfl, ie, hie, hsz, _⟩ := kindOf_slice hkk
        have key : parts = #[] → ∀ (w : World) (r : Operand → Value), (execOp r o).run P w = .ok (.value (.slice (some ⟨w.heap.size, 0, none⟩) 0 0)) (w.alloc (.cells #[] e)) := by
          intro hp w r
          subst hp
          have := run_buildSlice0 (P := P) w t e ie hd hie
          simp only [execOp, ho]
          simp [this]
        cases hM : M.contains d
        · rw [hM] at hE
          cases hE
          have hp : parts = #[] := by simpa using hobl
          refine opSem_alloc fun w h r hz0 hr => ⟨_, _, _, key hp w r, .d _ _ (.sl0 _ _ _ _)⟩
        · rw [hM] at hE
          cases hE
          have hp : parts = #[] := by simpa using hobl
          exact opSem_newK fun w h r hr => key hp w r
      · cases hE
    · cases hE
  · cases hE
theorem effBuildSlice0_eqns : True := have := @effBuildSlice0.eq_1; trivial

/-- A slice against nil. -/
def nilR : List AV → Bool
  | [_, .p (.d (.v (.slice none _ _)))] => true
  | _ => false
def nilAV : AV → Option (Bool × Prop)
  | .p (.d (.v (.slice a _ _))) => some (a.isNone, True)
  | .p (.d (.sl _ n _)) => some (false, 0 < n)
  | .gr _ _ _ n _ => some (false, 0 < n)
  | .row .. => some (false, True)
  | _ => none
theorem nilAV_spec {w : World} {h : Gh} {x : AV} {b : Bool} {q : Prop} (hx : nilAV x = some (b, q)) (hq : q) {v : Value} (r : RelA w h v x) : ∃ a n c, v = .slice a n c ∧ a.isNone = b := by
  unfold nilAV at hx
  have hsl : ∀ {sz n : Nat} {f : Nat → List Dat}, 0 < n → RelD w h.g v (.sl sz n f) → ∃ a n c, v = .slice a n c ∧ a.isNone = false := by
    intro sz n f hn rd
    cases rd with
    | sl0 => omega
    | sl b off _ c => exact ⟨_, _, _, rfl, rfl⟩
  split at hx
  · cases hx; exact ⟨_, _, _, relA_v r, rfl⟩
  · cases hx; cases r with | d _ _ r => exact hsl hq r
  · cases hx; exact hsl hq r.1
  · cases hx; obtain ⟨c, hv, _⟩ := r; exact ⟨_, _, _, hv, rfl⟩
  · cases hx
def effNil' (P : Program) (op : BinOp) (t : TypeId) (xs : List AV) : Option Eff :=
  match tiOf P t, xs with
  | some ti, [x, _] => match ti.k, nilAV x with
    | .slice .., some (b, q) => match op with
      | .eql => some { val := .p (.d (.v (.bool b))), obl := q }
      | .neq => some { val := .p (.d (.v (.bool (!b)))), obl := q }
      | _ => none
    | _, _ => none
  | _, _ => none
theorem sem_nil' {o : Oper} {op : BinOp} {t t' : TypeId} {x y : Operand} (ho : o.op = .binOp op t x y t') {xs : List AV} {lL : Option (Nat × LV)} {E : Eff} (hn : nilR xs = true) (hE : effNil' P op t xs = some E) (hobl : E.obl) : OpSem P o xs lL E := by
  unfold nilR at hn
  split at hn
  · rename_i z n' c'
    unfold effNil' at hE
    split at hE
    · rename_i ti z' y' hti hxs
      cases hxs
      split at hE
      · rename_i e sz by_ b q hk hz
        obtain ⟨it, d', zz, hit, hd, hzz, hkk, _, _⟩ := tiOf_spec hti
        rw [hk] at hkk
        obtain ⟨rfl, _⟩ := kindOf_slice hkk
        have fin : ∀ {u : Value} {obl : Prop}, q → u.oneCell' = true → (∀ w a n c, a.isNone = b → (binOp op t (.slice a n c) (.slice none n' c')).run P w = .ok u w) → OpSem P o [z, .p (.d (.v (.slice none n' c')))] lL ⟨.p (.d (.v u)), obl, none, false⟩ := by
          intro u obl hq hu hrun
          refine opSem_pure fun B w h r hr hL => ?_
          simp only [ho, Op.operands] at hr
          obtain ⟨a, n, c, hv, ha⟩ := nilAV_spec hz hq (hr.2 0 (r x) _ rfl rfl)
          exact ⟨u, run_bin_op ho r w hv (relA_v (hr.2 1 (r y) _ rfl rfl)) (by simp [eqGuard_at_slice]) (hrun w a n c ha), relA_mk hu⟩
        split at hE
        · cases hE
          exact fin hobl rfl fun w a n c ha => by rw [Lib.run_eql_slice_nil w t e a n c n' c' hd, ha]
        · cases hE
          exact fin hobl rfl fun w a n c ha => by rw [run_neq_slice_nil_any w t e a n c n' c' hd, ha]
        · cases hE
      · cases hE
    · cases hE
  · cases hn
theorem nilR_eqns : True := have := @nilR.eq_1; trivial
theorem nilAV_eqns : True := have := @nilAV.eq_1; trivial
theorem effNil'_eqns : True := have := @effNil'.eq_1; trivial

def effMake (P : Program) (t : TypeId) (dst : Option Tmp) (xs : List AV) : Option Eff :=
  match tiOf P t, dst, xs with
  | some ti, some d, [.p (.d (.v (.int _ n))), .p (.d (.v (.int _ c)))] => match ti.k with
    | .slice e 1 by_ => match tiOf P e with
      | some te => match te.zero with
        | [z] => some { val := .row d 1 0 n.toNat, obl := (0 ≤ n ∧ c = n ∧ by_ * n.toNat ≤ 140737488355328 ∧ n ≤ 140737488355328) ∧ z.oneCell' = true, upd := some (d, .arr e n.toNat fun _ => .v z), fresh := true }
        | _ => none
      | none => none
    | _ => none
  | _, _, _ => none
theorem one_cells {v : Value} (h1 : v.oneCell' = true) : v.cells = #[v] := by
  cases v <;> first | rfl | (simp [Value.oneCell'] at h1)
theorem sem_make {o : Oper} {t : TypeId} {x y : Operand} (ho : o.op = .makeSlice t x y) {xs : List AV} {lL : Option (Nat × LV)} {E : Eff} (hE : effMake P t o.dst xs = some E) (hobl : E.obl) : OpSem P o xs lL E := by
  unfold effMake at hE
  split at hE
  · rename_i ti d k n k' c hti hd
    split at hE
    · rename_i e by_ hk
      split at hE
      · rename_i te hte
        split at hE
        · rename_i z hzero
          cases hE
          obtain ⟨⟨n0, rfl, n1, n2⟩, hz1⟩ := hobl
          refine opSem_newR (fun _ => rfl) fun w h r hz hr => ?_
          simp only [ho, Op.operands] at hr
          have h0 := relA_v (hr.2 0 (r x) _ rfl rfl)
          have h1 := relA_v (hr.2 1 (r y) _ rfl rfl)
          obtain ⟨_, dd, _, _, hdd, _, hkk, _, _⟩ := tiOf_spec hti
          rw [hk] at hkk
          obtain ⟨rfl, ie, hie, hs, hb⟩ := kindOf_slice hkk
          obtain ⟨ie', _, z', hie', _, hzz, _, hsz, hzc⟩ := tiOf_spec hte
          rw [hie] at hie'; cases hie'
          have hcz : z'.cells = #[z] := by apply Array.ext'; rw [← hzc, hzero]
          have hbb : (ie.bytes : Int) * ((c.toNat : Nat) : Int) ≤ 281474976710656 := by
            have : ((ie.bytes * c.toNat : Nat) : Int) ≤ 281474976710656 := by rw [hb]; omega
            rwa [Int.natCast_mul] at this
          have hrun := run_make (P := P) w t e ie z' hdd hie hzz k k' c.toNat c.toNat (by omega) (Int.le_refl _) hbb (by omega)
          simp only [Int.toNat_natCast, hs, Nat.mul_one, hcz] at hrun
          rw [Int.toNat_of_nonneg n0] at hrun
          have hnew := _root_.Go.heap_alloc_new w (.cells (madeCells #[z] c.toNat) e)
          refine ⟨.slice (some ⟨w.heap.size, 0, none⟩) c.toNat c.toNat, w.alloc (.cells (madeCells #[z] c.toNat) e), by simp [execOp, ho, h0, h1, hrun], fun B hB => (BelowS.refl _ _).alloc _, fun b hb => Below.heap_alloc w _ b hb, ?_, fun B hB => ?_⟩
          · exact ⟨c.toNat, by simp [setG], Nat.le_refl _⟩
          · refine locOK_new_arr hB hz (size_madeCells _ _) fun i v hv => ?_
            have hlt : i < c.toNat := by have := (Array.getElem?_eq_some_iff.1 hv).1; rwa [size_madeCells] at this
            rw [Array.getElem?_eq_getElem (by rw [size_madeCells]; exact hlt)] at hv
            simp [madeCells, Nat.mod_one] at hv
            rw [← hv]
            exact .v _ hz1
        · cases hE
      · cases hE
    · cases hE
  · cases hE

def effBytes (P : Program) (t : TypeId) (dst : Option Tmp) (xs : List AV) : Option Eff :=
  match tiOf P t, dst, xs with
  | some ti, some d, [.p (.d (.v (.string s)))] => match ti.k with
    | .slice e 1 _ => match tiOf P e with
      | some te => match te.k with
        | .int .u8 => some { val := .row d 1 0 s.size, upd := some (d, .arr e s.size fun i => .v (.int .u8 ((s.data.toList.getD i 0).toNat : Nat))), fresh := true }
        | _ => none
      | none => none
    | _ => none
  | _, _, _ => none
theorem sem_bytes {o : Oper} {s t : TypeId} {x : Operand} (ho : o.op = .convert s t x) {tis : TI} (hs : tiOf P s = some tis) (hsk : tis.k = .string) {xs : List AV} {lL : Option (Nat × LV)} {E : Eff} (hE : effBytes P t o.dst xs = some E) : OpSem P o xs lL E := by
  unfold effBytes at hE
  split at hE
  · rename_i ti d str hti hd
    split at hE
    · rename_i e by_ hk
      split at hE
      · rename_i te hte
        split at hE
        · rename_i hek
          cases hE
          refine opSem_newR (fun _ => rfl) fun w h r hz hr => ?_
          simp only [ho, Op.operands] at hr
          have h0 := relA_v (hr.2 0 (r x) _ rfl rfl)
          obtain ⟨_, dd, _, _, hdd, _, hkk, _, _⟩ := tiOf_spec hti
          rw [hk] at hkk
          obtain ⟨rfl, ie, hie, hss, hb⟩ := kindOf_slice hkk
          obtain ⟨_, de, _, _, hde, _, hke, _, _⟩ := tiOf_spec hte
          rw [hek] at hke
          have := kindOf_int hke
          subst this
          obtain ⟨_, ds, _, _, hds, _, hks, _, _⟩ := tiOf_spec hs
          have hrun := Lib.run_convert_string_bytes (P := P) w s t e str hds hdd hde
          have hge := grownCap_ge w str.size 0 e
          refine ⟨_, _, by simp only [execOp, ho, h0, hrun, Sem.run_bind, Result.andThen_ok]; rfl, fun B hB => ?_, fun b hb => Lib.bytesWorld_at_old w e str b hb, ?_, fun B hB => ?_⟩
          · refine ⟨?_, ?_, ?_, by rw [Lib.bytesWorld_size]; omega, fun k hk _ => Lib.bytesWorld_at_old w e str k (by omega)⟩ <;> simp [Lib.bytesWorld, World.freeze, World.alloc, World.drew, -World.alloc_eq, -World.drew_eq]
          · exact ⟨_, by simp [setG], hge⟩
          · refine ⟨Lib.bytesCells w e str, _, by simp only [setG, if_true]; exact hB _ (Nat.le_refl _), by simp only [setG, if_true]; exact Lib.bytesWorld_at_new w e str, .inr (Nat.le_refl _), ?_, by simp only [setG, if_true]; exact hz _ (Nat.le_refl _), fun i v hi hv => ?_⟩
            · simp [Lib.bytesCells]
            · have hi' : i < str.data.size := hi
              simp only [Lib.bytesCells] at hv
              rw [Array.getElem?_append_left (by simpa using hi')] at hv
              simp [Array.getElem?_eq_getElem hi'] at hv
              subst hv
              have : str.data.toList.getD i 0 = str.data[i] := by rw [List.getD_eq_getElem?_getD, Array.getElem?_toList, Array.getElem?_eq_getElem hi']; rfl
              show RelD _ _ _ (.v (.int .u8 ((str.data.toList.getD i 0).toNat : Nat)))
              rw [this]
              exact .v _ rfl
        · cases hE
      · cases hE
    · cases hE
  · cases hE

def numD : Dat → Int
  | .v (.int _ n) => n
  | _ => 0
/-- the numbers below n, out of the reach of rules that write lists out -/
def rng (n : Nat) : List Nat := List.range n
@[simp] theorem rng_eq (n : Nat) : rng n = List.range n := rfl
def effStr (P : Program) (e d : TypeId) (xs : List AV) (lL : Option (Nat × LV)) : Option Eff :=
  match tiOf P e, tiOf P d, xs, lL with
  | some te, some td, [.row l 1 off n], some (l', .arr _ m f) => match te.k, td.k with
    | .int .u8, .string => some { val := .p (.d (.v (.string (strOfNums ((rng n).map fun i => numD (f (off + i))))))), obl := l' = l ∧ off + n ≤ m ∧ ∀ i, i < n → f (off + i) = .v (.int .u8 (numD (f (off + i)))) }
    | _, _ => none
  | some te, some td, [.p (.d (.sl 1 n f))], _ => match te.k, td.k with
    | .int .u8, .string => some { val := .p (.d (.v (.string (strOfNums ((rng n).map fun i => numD ((f i).headD default)))))), obl := ∀ i, i < n → f i = [.v (.int .u8 (numD ((f i).headD default)))] }
    | _, _ => none
  | _, _, _, _ => none
theorem relD_v {w : World} {g : Nat → Nat} {v u : Value} (h : RelD w g v (.v u)) : v = u := by cases h; rfl
theorem range_map_getD (n : Nat) (f : Nat → Int) (i : Nat) (hi : i < n) : ((rng n).map f).getD i 0 = f i := by
  rw [rng_eq, List.getD_eq_getElem?_getD, List.getElem?_map, List.getElem?_range hi]; rfl
theorem sem_str {o : Oper} {s d e : TypeId} {x : Operand} (ho : o.op = .convert s d x) {tis : TI} (hs : tiOf P s = some tis) {sz by_ : Nat} (hsk : tis.k = .slice e sz by_) {xs : List AV} {lL : Option (Nat × LV)} {E : Eff} (hE : effStr P e d xs lL = some E) (hobl : E.obl) : OpSem P o xs lL E := by
  obtain ⟨_, ds, _, _, hds, _, hks, _, _⟩ := tiOf_spec hs
  rw [hsk] at hks
  obtain ⟨rfl, ie, hie, hss, hb⟩ := kindOf_slice hks
  unfold effStr at hE
  split at hE
  · rename_i te td l off n l' _ m f hte htd
    split at hE
    · rename_i hek hdk
      cases hE
      obtain ⟨rfl, hn, hf⟩ := hobl
      obtain ⟨_, de, _, _, hde, _, hke, _, _⟩ := tiOf_spec hte
      rw [hek] at hke
      have := kindOf_int hke
      subst this
      obtain ⟨_, dd, _, _, hdd, _, hkd, _, _⟩ := tiOf_spec htd
      rw [hdk] at hkd
      have := kindOf_string hkd
      subst this
      refine opSem_pure fun B w h r hr hL => ?_
      simp only [ho, Op.operands] at hr
      obtain ⟨c, hv, hc⟩ := hr.2 0 (r x) _ rfl rfl
      obtain ⟨arr, fz, hB, hh, hfz, hsz, hg, hrr⟩ := hL _ _ rfl
      refine ⟨_, ?_, relA_mk rfl⟩
      have hrun := run_convert_bytes_arg (P := P) w s e hds hde (h.ρ l') (off * 1) n c ((rng n).map fun i => numD (f (off + i))) (by simp) (fun i hi => by
        rw [heap_cell hh, range_map_getD n _ i hi, Nat.mul_one]
        have hlt : off + i < arr.size := by omega
        rw [Array.getElem?_eq_getElem hlt]
        have := hrr (off + i) _ (by omega) (Array.getElem?_eq_getElem hlt)
        rw [hf i hi] at this
        rw [relD_v this]) d hdd
      simp only [Nat.mul_one] at hrun
      simp [execOp, ho, hv, hrun]
    · cases hE
  · rename_i te td n f hte htd
    split at hE
    · rename_i hek hdk
      cases hE
      obtain ⟨_, de, _, _, hde, _, hke, _, _⟩ := tiOf_spec hte
      rw [hek] at hke
      have := kindOf_int hke
      subst this
      obtain ⟨_, dd, _, _, hdd, _, hkd, _, _⟩ := tiOf_spec htd
      rw [hdk] at hkd
      have := kindOf_string hkd
      subst this
      refine opSem_pure fun B w h r hr hL => ?_
      simp only [ho, Op.operands] at hr
      have h0 := hr.2 0 (r x) _ rfl rfl
      obtain ⟨v0, hv0⟩ : ∃ v, r x = v := ⟨_, rfl⟩
      rw [hv0] at h0
      refine ⟨_, ?_, relA_mk rfl⟩
      cases h0 with
      | d _ _ h0 =>
        cases h0 with
        | sl0 a c =>
          have : ∀ a : Option Addr, (convert s d (.slice a 0 c)).run P w = .ok (.string ByteArray.empty) w := by
            intro a
            cases a with
            | none => exact run_convert_bytes_nil (P := P) w s e hds hde 0 c d hdd
            | some a =>
              rw [run_convert_bytes_string w s d e _ 0 c hds hde hdd, run_bytesToString w _ 0 c [] (by simpa using run_loadCells_list (P := P) w a [] (fun j v hj => by simp at hj))]
              rfl
          simp [execOp, ho, hv0, this]
          rfl
        | sl b off _ c _ _ u hn hl hc hg hrr =>
          have hrun := run_convert_bytes_arg (P := P) w s e hds hde b off n c ((rng n).map fun i => numD ((f i).headD default)) (by simp) (fun i hi => by
            rw [range_map_getD n _ i hi]
            have := hc i 0 hi (by omega)
            simp only [Nat.mul_one, Nat.add_zero] at this
            rw [this]
            have hx := hrr i 0 (.v (.int .u8 (numD ((f i).headD default)))) hi (by have := hobl i hi; rw [this]; rfl)
            rw [relD_v hx]) d hdd
          simp [execOp, ho, hv0, hrun]
    · cases hE
  · cases hE

-- the equations of what is worked out in a walk, made here once
theorem effMake_eqns : True := have := @effMake.eq_1; trivial
theorem effBytes_eqns : True := have := @effBytes.eq_1; trivial
theorem effStr_eqns : True := have := @effStr.eq_1; trivial
theorem numD_eqns : True := have := @numD.eq_1; trivial

def effBuiltin (P : Program) (c : Call) (xs : List AV) (lL : Option (Nat × LV)) : Option Eff :=
  match c.callee, c.args.toList, c.argTypes.toList with
  | .builtin .len, [_], [t] => effLen P t xs
  | .builtin .append, [_, _], [t, t'] => effAppend P [t, t'] xs lL
  | _, _, _ => none
def opEff (P : Program) (M : List Nat) (o : Oper) (xs : List AV) (lL : Option (Nat × LV)) : Option Eff :=
  match o.op with
  | .move _ => effMove xs
  | .assign _ => effMove xs
  | .pick .. => effPick xs
  | .nilCheck _ => effNil xs
  | .box t _ => effBox M t o.dst xs
  | .alloc t => effAlloc P t o.dst
  | .load t _ => effLoad P t xs lL
  | .store t _ _ => effStore P t xs lL
  | .fieldAddr t _ n => effFieldAddr P t n xs
  | .indexAddr t _ _ => effIndexAddr P t xs
  | .field t _ n => effField P t n xs
  | .index t _ _ => effIndex P t xs
  | .binOp op t _ _ _ => match nilR xs with
    | true => effNil' P op t xs
    | false => effBin P op t xs
  | .unOp op _ _ => effUn op xs
  | .convert s d _ => match tiOf P s with
    | some tis => match tis.k with
      | .string => effBytes P d o.dst xs
      | .slice e _ _ => effStr P e d xs lL
      | _ => effConvert P d xs
    | none => none
  | .build t parts => effBuild P t (parts.toList.map (·.1)) xs
  | .buildSlice t len parts => match len with
    | 0 => effBuildSlice0 P M t o.dst (parts.toList.map (·.1))
    | n + 1 => effBuildSlice P t (n + 1) (parts.toList.map (·.1)) xs
  | .slice t _ lo hi mx => effSlice P t lo.isSome hi.isSome mx.isSome xs
  | .makeFunc fn first _ => effFunc fn first.size xs
  | .extract _ i => effExtract i xs
  | .call c => effBuiltin P c xs lL
  | .makeSlice t _ _ => effMake P t o.dst xs
  | _ => none
def locNeed (o : Oper) (xs : List AV) : Option Nat :=
  match o.op, xs with
  | .load .., .loc l _ :: _ => some l
  | .store .., .loc l _ :: _ => some l
  | .call _, .gr l _ _ _ _ :: _ => some l
  | .convert .., .row l _ _ _ :: _ => some l
  | _, _ => none

theorem opEff_sound {M : List Nat} {o : Oper} {xs : List AV} {lL : Option (Nat × LV)} {E : Eff} (hE : opEff P M o xs lL = some E) (hobl : E.obl) : OpSem P o xs lL E := by
  unfold opEff at hE
  split at hE
  case h_1 x ho => exact sem_move (.inl ho) hE
  case h_2 x ho => exact sem_move (.inr ho) hE
  case h_3 c a b ho => exact sem_pick ho hE
  case h_4 x ho => exact sem_nil ho hE
  case h_5 t x ho => exact sem_box ho hE hobl
  case h_6 t ho => exact sem_alloc ho hE hobl
  case h_7 t x ho => exact sem_load ho hE hobl
  case h_8 t x y ho => exact sem_store ho hE hobl
  case h_9 t x n ho => exact sem_fieldAddr ho hE hobl
  case h_10 t x y ho => exact sem_indexAddr ho hE hobl
  case h_11 t x n ho => exact sem_field ho hE hobl
  case h_12 t x y ho => exact sem_index ho hE hobl
  case h_13 op t x y t' ho =>
    split at hE
    · rename_i hn; exact sem_nil' ho hn hE hobl
    · exact sem_bin ho hE hobl
  case h_14 op t x ho => exact sem_un ho hE
  case h_15 s d x ho =>
    split at hE
    · rename_i ti hs
      split at hE
      · rename_i hk; exact sem_bytes ho hs hk hE
      · rename_i hk; exact sem_str ho hs hk hE hobl
      · exact sem_convert ho (by rw [hs]; rfl) hE
    · cases hE
  case h_16 t parts ho => exact sem_build ho hE hobl
  case h_17 t len parts ho =>
    cases len with
    | zero => exact sem_buildSlice0 ho hE hobl
    | succ n => exact sem_buildSlice ho hE hobl
  case h_18 t x lo hi mx ho => exact sem_slice ho hE hobl
  case h_19 fn first caps ho => exact sem_func ho hE
  case h_20 x i ho => exact sem_extract ho hE
  case h_21 c ho =>
    unfold effBuiltin at hE
    split at hE
    · rename_i x t h1 h2 h3
      refine sem_len (t := t) (x := x) ho ?_ hE
      obtain ⟨cl, ar, at_⟩ := c
      simp only at h1 h2 h3
      subst h1
      have e2 : ar = #[x] := by apply Array.ext'; simpa using h2
      have e3 : at_ = #[t] := by apply Array.ext'; simpa using h3
      rw [e2, e3]
    · rename_i s y t t' h1 h2 h3
      refine sem_append (s := s) (y := y) (t := t) (t' := t') ho ?_ hE hobl
      obtain ⟨cl, ar, at_⟩ := c
      simp only at h1 h2 h3
      subst h1
      have e2 : ar = #[s, y] := by apply Array.ext'; simpa using h2
      have e3 : at_ = #[t, t'] := by apply Array.ext'; simpa using h3
      rw [e2, e3]
    · cases hE
  case h_22 t x y ho => exact sem_make ho hE hobl
  case h_23 => cases hE

/-- An operation in the walk's words: whatever follows. -/
def OpT (P : Program) (o : Oper) (xs : List AV) (lL : Option (Nat × LV)) (E : Eff) : Prop :=
  ∀ (B : Nat → Prop) (w : World) (h : Gh) (a : Act) (next : Act → World → Prop) (Q : Exit → Act → World → Prop), NewIn B w → GZ w h.g → RelAs w h (o.op.operands.toList.map a.eval) xs →
    (∀ l L, lL = some (l, L) → LocOK B w h l L) →
    (∀ v w' h', RelA w' h' v E.val → Trans B w h w' h' (ownOf h lL E) (E.upd.map (·.1)) E.fresh →
      (∀ l L', E.upd = some (l, L') → LocOK B w' h' l L' ∧ ∀ b, blockOf h' l L' = some b → w.heap.size ≤ b ∨ (E.fresh = false ∧ ∃ L, lL = some (l, L) ∧ blockOf h l L = some b)) → next (a.put o.dst v) w') →
    o.wp P a w next Q

theorem OpSem.toT {o : Oper} {xs : List AV} {lL : Option (Nat × LV)} {E : Eff} (hs : OpSem P o xs lL E) : OpT P o xs lL E := by
  intro B w h a next Q hB hz hr hL hn
  obtain ⟨n, v, w', h', h1, h2, h3, h4, h5⟩ := hs B w h a.eval hB hz hr hL
  unfold Oper.wp
  rw [h1]
  rcases h2 with rfl | ⟨rfl, rfl⟩
  · exact hn v w' h' h3 h4 h5
  · exact hn undef w' h' h3 h4 h5

def resAV : List PV → AV
  | [x] => .p x
  | xs => .tup xs
theorem relA_res {w : World} {h : Gh} {v : Value} {rs : List PV} (r : RelR w h.g v rs) : RelA w h v (resAV rs) := by
  match rs, r with
  | [x], r => exact r
  | [], r => exact r
  | _ :: _ :: _, r => exact r

/-- Which function a value calls, with which values ahead of the arguments and behind them. -/
def calleeAV : AV → Option (FuncId × List PV × List PV)
  | .p (.fn (.func f) a b) => some (f, a, b)
  | _ => none

theorem call_run {o : Oper} {c : Call} {f : Operand} (ho : o.op = .call c) (hc : c.callee = .value f) {x : AV} {g : FuncId} {pre post : List PV} (hx : calleeAV x = some (g, pre, post)) {ys : List PV}
    {w : World} {h : Gh} {a : Act} (hf : RelA w h (a.eval f) x) (hargs : RelPs w h.g (c.args.toList.map a.eval) ys) :
    ∃ vs : List Value, RelPs w h.g vs (pre ++ ys ++ post) ∧ (execOp a.eval o).run P w = (callFunc g vs.toArray).run P w := by
  unfold calleeAV at hx
  split at hx
  · rename_i g' a' b'
    cases hx
    obtain ⟨v0, hv0⟩ : ∃ v, a.eval f = v := ⟨_, rfl⟩
    rw [hv0] at hf
    cases hf with
    | fn _ us vs _ _ hl hm hr hs =>
      refine ⟨us ++ c.args.toList.map a.eval ++ vs, RelPs.append (RelPs.append ⟨hl, hr⟩ hargs) ⟨hm, hs⟩, ?_⟩
      have : (us ++ c.args.toList.map a.eval ++ vs).toArray = us.toArray ++ c.args.map a.eval ++ vs.toArray := by
        apply Array.ext'; simp
      rw [this]
      simp [execOp, ho, resolve, hc, hv0, Deferred.ofValue, invoke]
  · cases hx

theorem RelAs.tail {w : World} {h : Gh} {v : Value} {us : List Value} {x : AV} {xs : List AV} (r : RelAs w h (v :: us) (x :: xs)) : RelAs w h us xs :=
  ⟨by simpa using r.1, fun j u z hu hz => r.2 (j + 1) u z (by simpa using hu) (by simpa using hz)⟩

theorem opT_call {o : Oper} {c : Call} {f : Operand} (ho : o.op = .call c) (hc : c.callee = .value f) {xs : List AV} {x : AV} {zs : List AV} (hxs : xs = x :: zs) {g : FuncId} {pre post : List PV} (hx : calleeAV x = some (g, pre, post))
    {ys : List PV} (hys : zs.mapM pvAV = some ys) {rs : List PV} (hcall : ACalls P g (pre ++ ys ++ post) (· = rs)) (lL : Option (Nat × LV)) : OpT P o xs lL { val := resAV rs } := by
  subst hxs
  intro B w h a next Q hB hz hr hL hn
  have hops : o.op.operands.toList.map a.eval = a.eval f :: c.args.toList.map a.eval := by simp [ho, Op.operands, Call.operands, hc]
  rw [hops] at hr
  have hf := hr.2 0 (a.eval f) x rfl rfl
  have hargs := pvs_spec (w := w) (h := h) hys hr.tail
  obtain ⟨vs, hvs, hrun⟩ := call_run (P := P) ho hc hx hf hargs
  have key := hcall w h.g vs hz hvs
  have fin : ∀ v w', (∃ g' r, Ext w h.g w' g' ∧ r = rs ∧ RelR w' g' v r) → next (a.put o.dst v) w' := by
    rintro v w' ⟨g', r, he, rfl, hrel⟩
    refine hn v w' { h with g := g' } (relA_res hrel) ?_ (fun l L' hl => by cases hl)
    exact Trans.same he.belowS (fun b hb => ⟨he.below.block b hb, he.gam b hb⟩) hz he.gz hB _
  unfold Oper.wp
  rw [hrun]
  unfold CallRes at key
  split at key
  · rename_i f' args w1 hrr
    rw [hrr]
    show Calls P f' args w1 _
    refine key.mono fun e w' ⟨v, he, hR⟩ => ?_
    subst he
    exact fin v w' hR
  · rename_i v w1 hrr
    rw [hrr]
    exact fin v w1 key
  · exact key.elim

section
variable {w0 : Base} {g0 : Nat → Nat} {nt : Nat} {A : ASt} {h : Gh} {a : Act} {w : World}
/-- A related frame goes on. -/
theorem Rel.opT {o : Oper} {lo : Option Nat} {E : Eff} {next : Act → World → Prop} {Q : Exit → Act → World → Prop} (r : Rel w0 g0 nt A h a w) (hs : OpT P o (o.op.operands.toList.map A.eval) (A.locAt lo) E)
    (hd : ∀ d, o.dst = some d → d < nt) (hf : E.fresh = true → ∀ l L, E.upd = some (l, L) → A.unused l) (hu : ∀ l L, E.upd = some (l, L) → E.fresh = false → lo = some l)
    (hn : ∀ v w' h', Rel w0 g0 nt (A.apply o.dst E) h' (a.put o.dst v) w' → next (a.put o.dst v) w') : o.wp P a w next Q := by
  have hlo : ∀ l L, A.locAt lo = some (l, L) → look A.locs l = some L := by
    intro l L he
    cases lo with
    | none => simp [ASt.locAt] at he
    | some l' =>
      simp only [ASt.locAt] at he
      cases hk : look A.locs l' with
      | none => simp [hk] at he
      | some L' => simp [hk] at he; obtain ⟨rfl, rfl⟩ := he; exact hk
  refine hs w0.O w h a next Q r.base r.gz (r.evals _) (fun l L he => r.locs l L (hlo l L he)) fun v w' h' h3 h4 h5 => ?_
  -- the step is the one of 'Rel.op', at an operation whose run is known to end so
  refine hn v w' h' ?_
  exact r.carry (o := o) hd hf hu h3 h4 h5
end

-- the equations of what is worked out in a walk, made here once
theorem effBuiltin_eqns : True := have := @effBuiltin.eq_1; trivial
theorem opEff_eqns : True := have := @opEff.eq_1; trivial
theorem locNeed_eqns : True := have := @locNeed.eq_1; trivial
theorem resAV_eqns : True := have := @resAV.eq_1; trivial
theorem calleeAV_eqns : True := have := @calleeAV.eq_1; trivial
end Go.Proofs.Ytfcfhlfehomhpaa.AL

/- Regions: in the text's order; in whatever order the edges allow. -/
namespace Go.Proofs.Ytfcfhlfehomhpaa.AL
open Go.RowKit
variable {P : Program}

def wantedA (ops : Array Oper) (o : Oper) (A : ASt) : Option Bool :=
  match o.guard with
  | none => some true
  | some (j, want) => match (ops[j]?).bind (·.dst) with
    | some d => match look A.fr d with
      | some (.p (.d (.v (.bool b)))) => some (b == want)
      | some .undef => some false
      | _ => none
    | none => some false

theorem wantedA_spec {w0 : Base} {g0 : Nat → Nat} {nt : Nat} {A : ASt} {h : Gh} {a : Act} {w : World} (r : Rel w0 g0 nt A h a w) {ops : Array Oper} {o : Oper} {b : Bool} (hw : wantedA ops o A = some b) :
    Region.wanted o (yielded ops a.tmps) = b := by
  unfold wantedA at hw
  unfold Region.wanted
  split at hw
  · rename_i hg; cases hw; rw [hg]
  · rename_i j want hg
    rw [hg]
    simp only
    unfold yielded
    split at hw
    · rename_i d hd
      rw [hd]
      simp only [Option.bind_some]
      split at hw
      · rename_i q hq
        cases hw
        have := relA_v (r.fr d _ hq)
        have ht : a.tmps[d]? = some (.bool q) := by
          rw [Array.getD_eq_getD_getElem?] at this
          cases hx : a.tmps[d]? with
          | none => rw [hx] at this; cases this
          | some v => rw [hx] at this; simp at this; rw [this]
        rw [ht]
        simp
      · rename_i hq
        cases hw
        have : a.tmps.getD d undef = undef := r.fr d _ hq
        rw [Array.getD_eq_getD_getElem?] at this
        cases hx : a.tmps[d]? with
        | none => simp
        | some v => rw [hx] at this; simp at this; subst this; rfl
      · cases hw
    · rename_i hd
      rw [hd]
      cases hw
      rfl

/-- Operation o, come up in state A, does E (lo: the location that it speaks of). -/
structure OpDo (P : Program) (nt : Nat) (ops : Array Oper) (o : Oper) (A : ASt) (lo : Option Nat) (E : Eff) : Prop where
  dst : ∀ d, o.dst = some d → d < nt
  does : (wantedA ops o A = some false ∧ E = { val := .undef }) ∨
    (wantedA ops o A = some true ∧ OpT P o (o.op.operands.toList.map A.eval) (A.locAt lo) E)
  fresh : E.fresh = true → ∀ l L, E.upd = some (l, L) → A.unused l
  upd : ∀ l L, E.upd = some (l, L) → E.fresh = false → lo = some l

theorem OpDo.sound {nt : Nat} {ops : Array Oper} {o : Oper} {A : ASt} {lo : Option Nat} {E : Eff} (d : OpDo P nt ops o A lo E) {w0 : Base} {g0 : Nat → Nat} {h : Gh} {a : Act} {w : World} (r : Rel w0 g0 nt A h a w)
    {K : Act → World → Prop} {Q : Exit → Act → World → Prop} (hn : ∀ a' w' h', Rel w0 g0 nt (A.apply o.dst E) h' a' w' → K a' w') :
    if Region.wanted o (yielded ops a.tmps) then o.wp P a w K Q ∨ (o.asks P a w ∧ LetsOut Q) else K (a.put o.dst undef) w := by
  rcases d.does with ⟨h1, rfl⟩ | ⟨h1, h2⟩
  · rw [wantedA_spec r h1]
    simp only [Bool.false_eq_true, if_false]
    exact hn _ _ h (Rel.put r d.dst rfl)
  · rw [wantedA_spec r h1]
    simp only [if_true]
    exact .inl (Rel.opT r h2 d.dst d.fresh d.upd fun v w' h' hr => hn _ _ h' hr)

/-- What an operation in its place does to a related frame. -/
def StepS (P : Program) (nt : Nat) (ops : Array Oper) (o : Oper) (A A' : ASt) : Prop :=
  ∀ (w0 : Base) (g0 : Nat → Nat) (h : Gh) (a : Act) (w : World), Rel w0 g0 nt A h a w → ∀ (K : Act → World → Prop) (Q : Exit → Act → World → Prop), (∀ a' w' h', Rel w0 g0 nt A' h' a' w' → K a' w') →
    if Region.wanted o (yielded ops a.tmps) then o.wp P a w K Q ∨ (o.asks P a w ∧ LetsOut Q) else K (a.put o.dst undef) w
theorem OpDo.step {nt : Nat} {ops : Array Oper} {o : Oper} {A : ASt} {lo : Option Nat} {E : Eff} (d : OpDo P nt ops o A lo E) : StepS P nt ops o A (A.apply o.dst E) :=
  fun w0 g0 h a w r K Q hn => d.sound r hn

/-! ### in the text's order -/
def walkS (P : Program) (nt : Nat) (ops : Array Oper) : List Oper → ASt → (ASt → Prop) → Prop
  | [], A, K => K A
  | o :: rest, A, K => (∃ A', StepS P nt ops o A A' ∧ walkS P nt ops rest A' K)

theorem walkS_sound {nt : Nat} {ops : Array Oper} {w0 : Base} {g0 : Nat → Nat} {Q : Exit → Act → World → Prop} {K : ASt → Prop} (hQ : ∀ A h a w, Rel w0 g0 nt A h a w → K A → Q .normal a w) :
    ∀ (l : List Oper) (A : ASt) (h : Gh) (a : Act) (w : World), Rel w0 g0 nt A h a w → walkS P nt ops l A K → wpList P ops Q l a w
  | [], A, h, a, w, r, hk => hQ A h a w r hk
  | o :: rest, A, h, a, w, r, hk => by
    obtain ⟨A', hd, hk⟩ := hk
    have := hd w0 g0 h a w r (wpList P ops Q rest) Q (fun a' w' h' hr => walkS_sound hQ rest _ h' a' w' hr hk)
    simpa [wpList] using this

/-! ### in whatever order -/
structure Done where
  o : Oper
  lo : Option Nat
  E : Eff

/-- The state in which just the operations of S have been done. -/
def part (S : Nat → Bool) : Nat → List Done → ASt → ASt
  | _, [], A => A
  | k, d :: r, A => part S (k + 1) r (if S k then A.apply d.o.dst d.E else A)

theorem look_apply_fr (A : ASt) (dst : Option Tmp) (E : Eff) (t : Nat) : look (A.apply dst E).fr t = if dst = some t then some E.val else look A.fr t := by
  unfold ASt.apply ASt.put ASt.upd
  cases dst with
  | none => cases E.upd <;> simp
  | some d =>
    by_cases h : d = t
    · subst h; cases E.upd <;> simp [look]
    · cases E.upd <;> simp [look, h]
theorem look_apply_locs (A : ASt) (dst : Option Tmp) (E : Eff) (l : Nat) : look (A.apply dst E).locs l = match E.upd with
    | some (l', L) => if l' = l then some L else look A.locs l
    | none => look A.locs l := by
  unfold ASt.apply ASt.put ASt.upd
  cases dst <;> cases E.upd <;> simp [look]

/-- The last one of a list that a test finds, if there is one: what stands at a key behind writes. -/
def lastW {α β : Type} (f : α → Option β) : List α → Option β
  | [] => none
  | x :: r => match lastW f r with
    | some y => some y
    | none => f x
def valAt (t : Nat) (d : Done) : Option AV := if d.o.dst = some t then some d.E.val else none
def locAtD (l : Nat) (d : Done) : Option LV := match d.E.upd with
  | some (l', L) => if l' = l then some L else none
  | none => none
def selD {β : Type} (S : Nat → Bool) (f : Done → Option β) : Nat × Done → Option β := fun p => if S p.1 then f p.2 else none

def idx {α : Type} (k : Nat) : List α → List (Nat × α)
  | [] => []
  | x :: r => (k, x) :: idx (k + 1) r
theorem idx_mem {α : Type} : ∀ {l : List α} {k i : Nat} {x : α}, (i, x) ∈ idx k l ↔ k ≤ i ∧ l[i - k]? = some x
  | [], k, i, x => by simp [idx]
  | y :: r, k, i, x => by
    simp only [idx, List.mem_cons, Prod.mk.injEq, idx_mem (l := r)]
    constructor
    · rintro (⟨rfl, rfl⟩ | ⟨h1, h2⟩)
      · simp
      · refine ⟨by omega, ?_⟩
        have : i - k = (i - (k + 1)) + 1 := by omega
        rw [this]; simpa using h2
    · rintro ⟨h1, h2⟩
      by_cases h : i = k
      · subst h; simp at h2; exact .inl ⟨rfl, h2.symm⟩
      · refine .inr ⟨by omega, ?_⟩
        have : i - k = (i - (k + 1)) + 1 := by omega
        rw [this] at h2; simpa using h2

theorem part_fr (S : Nat → Bool) (t : Nat) : ∀ (l : List Done) (k : Nat) (A : ASt), look (part S k l A).fr t = (lastW (selD S (valAt t)) (idx k l)).or (look A.fr t)
  | [], k, A => by simp [part, idx, lastW]
  | d :: r, k, A => by
    simp only [part, idx, lastW, part_fr S t r (k + 1)]
    cases hl : lastW (selD S (valAt t)) (idx (k + 1) r) with
    | some y => simp
    | none =>
      simp only [Option.none_or, selD]
      cases S k with
      | false => simp
      | true =>
        simp only [if_true, look_apply_fr, valAt]
        split <;> simp
theorem part_locs (S : Nat → Bool) (l : Nat) : ∀ (tr : List Done) (k : Nat) (A : ASt), look (part S k tr A).locs l = (lastW (selD S (locAtD l)) (idx k tr)).or (look A.locs l)
  | [], k, A => by simp [part, idx, lastW]
  | d :: r, k, A => by
    simp only [part, idx, lastW, part_locs S l r (k + 1)]
    cases hl : lastW (selD S (locAtD l)) (idx (k + 1) r) with
    | some y => simp
    | none =>
      simp only [Option.none_or, selD]
      cases S k with
      | false => simp
      | true =>
        simp only [if_true, look_apply_locs, locAtD]
        cases d.E.upd with
        | none => simp
        | some p =>
          obtain ⟨l', L⟩ := p
          simp only
          split <;> simp

theorem lastW_congr {α β : Type} {f g : α → Option β} : ∀ {l : List α}, (∀ x ∈ l, f x = g x) → lastW f l = lastW g l
  | [], _ => rfl
  | x :: r, h => by
    simp only [lastW, lastW_congr (l := r) fun y hy => h y (by simp [hy]), h x (by simp)]
theorem lastW_some {α β : Type} {f : α → Option β} : ∀ {l : List α} {y : β}, lastW f l = some y → ∃ x ∈ l, f x = some y
  | [], y, h => by cases h
  | x :: r, y, h => by
    simp only [lastW] at h
    split at h
    · rename_i z hz; cases h; obtain ⟨x', h1, h2⟩ := lastW_some hz; exact ⟨x', by simp [h1], h2⟩
    · exact ⟨x, by simp, h⟩

-- the equations of what is worked out in a walk, made here once
theorem wantedA_eqns : True := have := @wantedA.eq_1; trivial
end Go.Proofs.Ytfcfhlfehomhpaa.AL

/- Regions in whatever order the edges allow: one walk in the text's order serves. -/
namespace Go.Proofs.Ytfcfhlfehomhpaa.AL
open Go.RowKit
variable {P : Program}

/-- What binds operation o to wait. -/
def preds (o : Oper) : List Nat := (o.after.toList.filter (Region.binds .any)).map (·.on)
/-- All that each operation waits for, at last. -/
def ancs : List Oper → List (List Nat) → List (List Nat)
  | [], acc => acc
  | o :: r, acc => ancs r (acc ++ [((preds o).flatMap fun p => p :: acc.getD p []).eraseDups])
def Closed (ops : List Oper) (S : Nat → Bool) : Prop := ∀ i o, ops[i]? = some o → S i = true → ∀ p ∈ preds o, S p = true

theorem ancs_len : ∀ (l : List Oper) (acc : List (List Nat)), (ancs l acc).length = acc.length + l.length
  | [], acc => by simp [ancs]
  | o :: r, acc => by simp [ancs, ancs_len r]; omega
theorem ancs_old : ∀ (l : List Oper) (acc : List (List Nat)) (i : Nat), i < acc.length → (ancs l acc)[i]? = acc[i]?
  | [], acc, i, h => rfl
  | o :: r, acc, i, h => by
    simp only [ancs]
    rw [ancs_old r _ i (by simp; omega), List.getElem?_append_left h]
/-- Whoever's direct predecessors are all in a closed set, has all its ancestors in it. -/
theorem ancs_spec (ops : List Oper) (S : Nat → Bool) (hS : Closed ops S) : ∀ (l : List Oper) (acc : List (List Nat)), ops.drop acc.length = l →
    (∀ (i : Nat) (as : List Nat), acc[i]? = some as → ∀ o, ops[i]? = some o → (∀ p ∈ preds o, S p = true) → ∀ j ∈ as, S j = true) →
    ∀ (i : Nat) (as : List Nat), (ancs l acc)[i]? = some as → ∀ o, ops[i]? = some o → (∀ p ∈ preds o, S p = true) → ∀ j ∈ as, S j = true
  | [], acc, _, hacc => hacc
  | o :: r, acc, hd, hacc => by
    simp only [ancs]
    have ho : ops[acc.length]? = some o := by
      have : (ops.drop acc.length)[0]? = some o := by rw [hd]; rfl
      simpa using this
    refine ancs_spec ops S hS r _ ?_ ?_
    · have : ops.drop (acc.length + 1) = (ops.drop acc.length).drop 1 := by rw [List.drop_drop]
      simp [this, hd]
    · intro i as hi o' ho' hp j hj
      by_cases hlt : i < acc.length
      · rw [List.getElem?_append_left hlt] at hi
        exact hacc i as hi o' ho' hp j hj
      · have hi' : i = acc.length := by
          have := (List.getElem?_eq_some_iff.1 hi).1
          simp at this; omega
        subst hi'
        rw [ho] at ho'; cases ho'
        simp at hi
        subst hi
        rw [List.mem_eraseDups, List.mem_flatMap] at hj
        obtain ⟨p, hpm, hjp⟩ := hj
        rcases List.mem_cons.1 hjp with rfl | hjp
        · exact hp j hpm
        · cases hq : acc[p]? with
          | none => simp [List.getD_eq_getElem?_getD, hq] at hjp
          | some bs =>
            simp [List.getD_eq_getElem?_getD, hq] at hjp
            cases hop : ops[p]? with
            | none =>
              have h1 := (List.getElem?_eq_some_iff.1 hq).1
              have h2 := List.getElem?_eq_none_iff.1 hop
              have h3 := (List.getElem?_eq_some_iff.1 ho).1
              omega
            | some op => exact hacc p bs hq op hop (hS p op hop (hp p hpm)) j hjp

/-- Operation j is bound to come ahead of operation i. -/
def ahead (an : List (List Nat)) (j i : Nat) : Bool := (an.getD i []).contains j
def ordered (an : List (List Nat)) (i k : Nat) : Bool := if k < i then ahead an k i else ahead an i k

/-- Every two operations that a test finds at odds are bound in the text's order. -/
def okPairs (n : Nat) (an : List (List Nat)) (conf : Nat → Nat → Bool) : Bool :=
  (List.range n).all fun i => (List.range n).all fun k => i == k || !conf i k || ordered an i k
def confTmps (ops : List Oper) (i k : Nat) : Bool :=
  match ops[i]?, ops[k]? with
  | some o, some o' => match o'.dst with
    | some d => (o.looksAt ops.toArray).contains d || o.dst == some d
    | none => false
  | _, _ => false
def okEdges (ops : List Oper) : Bool := (List.range ops.length).all fun i => match ops[i]? with
  | some o => (preds o).all (· < i)
  | none => true
/-- What can be said of a region's own text. -/
def okText (ops : List Oper) : Bool := okEdges ops && okPairs ops.length (ancs ops []) (confTmps ops) && ops.all fun o => match o.op with
  | .select .. => false
  | _ => true

def updOf (d : Done) : Option Nat := d.E.upd.map (·.1)
def confLocs (tr : List Done) (i k : Nat) : Bool :=
  match tr[i]?, tr[k]? with
  | some d, some d' => match updOf d' with
    | some l => d.lo == some l || updOf d == some l
    | none => false
  | _, _ => false
def mentionsE (E : Eff) : List Nat := E.val.mentions ++ (match E.upd with
  | some (_, L) => L.mentions
  | none => [])
def confFresh (tr : List Done) (i k : Nat) : Bool :=
  match tr[i]?, tr[k]? with
  | some d, some d' => d.E.fresh && (match updOf d with
    | some l => (mentionsE d'.E).contains l
    | none => false)
  | _, _ => false
def okAhead (n : Nat) (an : List (List Nat)) (conf : Nat → Nat → Bool) : Bool :=
  (List.range n).all fun i => (List.range n).all fun k => i == k || !conf i k || ahead an i k
/-- What is to be said of what a region's walk did. -/
def OkTrace (ops : List Oper) (A : ASt) (tr : List Done) : Prop :=
  okPairs tr.length (ancs ops []) (confLocs tr) = true ∧ okAhead tr.length (ancs ops []) (confFresh tr) = true ∧
  ∀ d ∈ tr, d.E.fresh = true → ∀ l, updOf d = some l → A.unused l

def walkD (P : Program) (nt : Nat) (ops : Array Oper) (K : ASt → List Done → Prop) : List Oper → ASt → List Done → Prop
  | [], A, tr => K A tr.reverse
  | o :: rest, A, tr => ∃ lo E, OpDo P nt ops o A lo E ∧ walkD P nt ops K rest (A.apply o.dst E) (⟨o, lo, E⟩ :: tr)

/-- What a walk leaves: each operation did what it did in the state behind those ahead of it. -/
def Traced (P : Program) (nt : Nat) (ops : Array Oper) (A : ASt) (tr : List Done) : Prop :=
  ∀ i d, tr[i]? = some d → ops[i]? = some d.o ∧ OpDo P nt ops d.o (part (fun k => decide (k < i)) 0 tr A) d.lo d.E

theorem part_congr {S T : Nat → Bool} : ∀ (l : List Done) (k : Nat) (A : ASt), (∀ i, k ≤ i → i < k + l.length → S i = T i) → part S k l A = part T k l A
  | [], k, A, _ => rfl
  | d :: r, k, A, h => by
    simp only [part]
    rw [h k (Nat.le_refl _) (by simp), part_congr r (k + 1) _ fun i h1 h2 => h i (by omega) (by simp; omega)]
theorem part_append (S : Nat → Bool) : ∀ (l l' : List Done) (k : Nat) (A : ASt), part S k (l ++ l') A = part S (k + l.length) l' (part S k l A)
  | [], l', k, A => by simp [part]
  | d :: r, l', k, A => by
    simp only [List.cons_append, part, part_append S r l' (k + 1), List.length_cons]
    congr 1; omega
theorem part_false : ∀ (l : List Done) (k : Nat) (A : ASt) (S : Nat → Bool), (∀ i, k ≤ i → i < k + l.length → S i = false) → part S k l A = A
  | [], k, A, S, _ => rfl
  | d :: r, k, A, S, h => by
    simp only [part, h k (Nat.le_refl _) (by simp)]
    exact part_false r (k + 1) A S fun i h1 h2 => h i (by omega) (by simp; omega)

theorem walkD_traced {nt : Nat} {ops : Array Oper} {K : ASt → List Done → Prop} (A0 : ASt) : ∀ (l : List Oper) (A : ASt) (tr : List Done),
    ops.toList = (tr.reverse.map (·.o)) ++ l → A = part (fun _ => true) 0 tr.reverse A0 → Traced P nt ops A0 tr.reverse → walkD P nt ops K l A tr →
    ∃ tr', Traced P nt ops A0 tr' ∧ tr'.map (·.o) = ops.toList ∧ K (part (fun _ => true) 0 tr' A0) tr'
  | [], A, tr, ho, hA, ht, hk => ⟨tr.reverse, ht, by simp [ho], by rw [← hA]; exact hk⟩
  | o :: rest, A, tr, ho, hA, ht, hk => by
    obtain ⟨lo, E, hd, hk⟩ := hk
    have hlen : tr.reverse.length = tr.length := List.length_reverse
    refine walkD_traced A0 rest _ (⟨o, lo, E⟩ :: tr) (by simp [ho]) ?_ ?_ hk
    · rw [List.reverse_cons, part_append, ← hA]
      simp [part]
    · rw [List.reverse_cons]
      intro i d hi
      by_cases hlt : i < tr.reverse.length
      · rw [List.getElem?_append_left hlt] at hi
        obtain ⟨e1, e2⟩ := ht i d hi
        refine ⟨e1, ?_⟩
        rw [part_append, part_false _ _ _ _ (fun j h1 h2 => by simp at h1 hlt ⊢; omega)]
        exact e2
      · have hi' : i = tr.reverse.length := by
          have := (List.getElem?_eq_some_iff.1 hi).1
          simp at this hlt; simp; omega
        subst hi'
        simp at hi
        subst hi
        have hget : ops[tr.reverse.length]? = some o := by
          have : ops.toList[tr.reverse.length]? = some o := by rw [ho]; simp
          simpa using this
        refine ⟨hget, ?_⟩
        rw [part_append, part_false [_] _ _ _ (fun j h1 h2 => by simp at h1 h2 ⊢; omega)]
        rw [part_congr (T := fun _ => true) _ _ _ (fun j h1 h2 => by simp at h2 ⊢; omega), ← hA]
        exact hd
end Go.Proofs.Ytfcfhlfehomhpaa.AL

/- Regions in whatever order the edges allow, continued: the theorem. -/
namespace Go.Proofs.Ytfcfhlfehomhpaa.AL
open Go.RowKit
variable {P : Program}

theorem Rel.ext' {w0 : Base} {g0 : Nat → Nat} {nt : Nat} {A A' : ASt} {h : Gh} {a : Act} {w : World} (r : Rel w0 g0 nt A h a w) (hf : ∀ t, look A'.fr t = look A.fr t) (hl : ∀ l, look A'.locs l = look A.locs l) : Rel w0 g0 nt A' h a w :=
  ⟨r.size, r.defers, fun t x hx => r.fr t x (by rw [← hf]; exact hx), fun l L hL => r.locs l L (by rw [← hl]; exact hL),
   fun l l' L L' b hne h1 h2 => r.sep l l' L L' b hne (by rw [← hl]; exact h1) (by rw [← hl]; exact h2), r.ext, r.pin⟩

theorem okPairs_spec {n : Nat} {an : List (List Nat)} {conf : Nat → Nat → Bool} (h : okPairs n an conf = true) {i k : Nat} (hi : i < n) (hk : k < n) (hne : i ≠ k) (hc : conf i k = true) : ordered an i k = true := by
  unfold okPairs at h
  have h1 := List.all_eq_true.1 h i (List.mem_range.2 hi)
  have h2 := List.all_eq_true.1 h1 k (List.mem_range.2 hk)
  simp [hne, hc] at h2
  exact h2

theorem okAhead_spec {n : Nat} {an : List (List Nat)} {conf : Nat → Nat → Bool} (h : okAhead n an conf = true) {i k : Nat} (hi : i < n) (hk : k < n) (hne : i ≠ k) (hc : conf i k = true) : ahead an i k = true := by
  unfold okAhead at h
  have h1 := List.all_eq_true.1 h i (List.mem_range.2 hi)
  have h2 := List.all_eq_true.1 h1 k (List.mem_range.2 hk)
  simp [hne, hc] at h2
  exact h2

section
variable {opsL : List Oper} {S : Nat → Bool}

theorem anc_in (hS : Closed opsL S) {i j : Nat} {o : Oper} (ho : opsL[i]? = some o) (hp : ∀ p ∈ preds o, S p = true) (hj : ahead (ancs opsL []) j i = true) : S j = true := by
  unfold ahead at hj
  cases hq : (ancs opsL [])[i]? with
  | none => simp [List.getD_eq_getElem?_getD, hq] at hj
  | some as =>
    simp [List.getD_eq_getElem?_getD, hq] at hj
    exact ancs_spec opsL S hS opsL [] rfl (fun i as h => by simp at h) i as hq o ho hp j hj

/-- Of an operation that may come up now: whoever is at odds with it has been done just if it stands ahead in the text. -/
theorem ord_sel (hS : Closed opsL S) {n : Nat} {conf : Nat → Nat → Bool} (hc : okPairs n (ancs opsL []) conf = true) {i k : Nat} (hi : i < n) (hk : k < n) (hne : i ≠ k) (hcf : conf i k = true)
    {o ok : Oper} (ho : opsL[i]? = some o) (hok : opsL[k]? = some ok) (hp : ∀ p ∈ preds o, S p = true) (hSi : S i = false) : S k = decide (k < i) := by
  have h := okPairs_spec hc hi hk hne hcf
  unfold ordered at h
  by_cases hlt : k < i
  · rw [if_pos hlt] at h
    rw [anc_in hS ho hp h]; simp [hlt]
  · rw [if_neg hlt] at h
    cases hSk : S k with
    | false => simp [hlt]
    | true =>
      have := anc_in hS hok (hS k ok hok hSk) h
      rw [hSi] at this; cases this
end

theorem countP_lt {α : Type} {p q : α → Bool} : ∀ (l : List α) (x : α), x ∈ l → p x = true → q x = false → (∀ y, q y = true → p y = true) → l.countP q < l.countP p
  | [], x, hx, _, _, _ => by cases hx
  | y :: r, x, hx, hp, hq, hi => by
    simp only [List.countP_cons]
    have hle : r.countP q ≤ r.countP p := List.countP_mono_left fun z _ hz => hi z hz
    rcases List.mem_cons.1 hx with rfl | hx
    · simp [hp, hq]; omega
    · have := countP_lt r x hx hp hq hi
      cases hqy : q y with
      | true => simp [hi y hqy]; omega
      | false => cases p y <;> simp <;> omega

theorem sel_congr {β : Type} {S T : Nat → Bool} {f : Done → Option β} {tr : List Done} (h : ∀ k d y, tr[k]? = some d → f d = some y → S k = T k) : lastW (selD S f) (idx 0 tr) = lastW (selD T f) (idx 0 tr) := by
  refine lastW_congr fun p hp => ?_
  obtain ⟨k, d⟩ := p
  obtain ⟨_, hk⟩ := idx_mem.1 hp
  simp only [selD]
  cases hf : f d with
  | none => simp
  | some y => rw [h k d y (by simpa using hk) hf]
theorem lastW_le {β : Type} {f : Done → Option β} : ∀ (tr : List Done) (k i : Nat) (d : Done) (y : β), k ≤ i → tr[i - k]? = some d → f d = some y → lastW (selD (fun j => decide (j ≤ i)) f) (idx k tr) = some y
  | [], k, i, d, y, h, hd, _ => by simp at hd
  | x :: r, k, i, d, y, h, hd, hf => by
    simp only [idx, lastW]
    by_cases hik : i = k
    · subst hik
      simp at hd
      subst hd
      have hnone : lastW (selD (fun j => decide (j ≤ i)) f) (idx (i + 1) r) = none := by
        cases hl : lastW (selD (fun j => decide (j ≤ i)) f) (idx (i + 1) r) with
        | none => rfl
        | some z =>
          obtain ⟨p, hp, hz⟩ := lastW_some hl
          obtain ⟨j, d'⟩ := p
          have := (idx_mem.1 hp).1
          simp only [selD] at hz
          rw [if_neg (by simp; omega)] at hz
          cases hz
      rw [hnone]
      simp [selD, hf]
    · have : i - k = (i - (k + 1)) + 1 := by omega
      rw [this] at hd
      simp at hd
      rw [lastW_le r (k + 1) i d y (by omega) hd hf]

theorem locAt_look {A A' : ASt} {lo : Option Nat} (h : ∀ l, lo = some l → look A.locs l = look A'.locs l) : A.locAt lo = A'.locAt lo := by
  cases lo with
  | none => rfl
  | some l => simp [ASt.locAt, h l rfl]
theorem eval_look {A A' : ASt} {x : Operand} (h : ∀ t, x = .tmp t → look A.fr t = look A'.fr t) : A.eval x = A'.eval x := by
  cases x with
  | tmp t => simp [ASt.eval, h t rfl]
  | _ => rfl

section
variable {nt : Nat} {ops : Array Oper} {A0 : ASt} {tr : List Done} {S : Nat → Bool}

/-- What operation i did in the text's order it does wherever it may come up. -/
theorem opDo_part (hT : Traced P nt ops A0 tr) (hm : tr.map (·.o) = ops.toList) (hX : okText ops.toList = true) (hO : OkTrace ops.toList A0 tr) (hS : Closed ops.toList S) {i : Nat} {d : Done} (hi : tr[i]? = some d)
    (hp : ∀ p ∈ preds d.o, S p = true) (hSi : S i = false) :
    OpDo P nt ops d.o (part S 0 tr A0) d.lo d.E ∧
    (∀ t, look (part (fun k => S k || decide (k = i)) 0 tr A0).fr t = look ((part S 0 tr A0).apply d.o.dst d.E).fr t) ∧
    (∀ l, look (part (fun k => S k || decide (k = i)) 0 tr A0).locs l = look ((part S 0 tr A0).apply d.o.dst d.E).locs l) := by
  have hlen : tr.length = ops.toList.length := by rw [← hm]; simp
  have hin : i < tr.length := (List.getElem?_eq_some_iff.1 hi).1
  have hop : ∀ {k : Nat} {d' : Done}, tr[k]? = some d' → ops.toList[k]? = some d'.o := by
    intro k d' hk; rw [← hm, List.getElem?_map, hk]; rfl
  unfold okText at hX
  simp only [Bool.and_eq_true] at hX
  obtain ⟨⟨hE, hPT⟩, _⟩ := hX
  obtain ⟨hL, hF, hU⟩ := hO
  rw [← hlen] at hPT
  have selT : ∀ {k : Nat} {d' : Done} {t : Tmp}, tr[k]? = some d' → d'.o.dst = some t → (t ∈ d.o.looksAt ops ∨ d.o.dst = some t) → k ≠ i → S k = decide (k < i) := by
    intro k d' t hk hdst ht hne
    have hkn : k < tr.length := (List.getElem?_eq_some_iff.1 hk).1
    refine ord_sel hS hPT hin hkn (Ne.symm hne) ?_ (hop hi) (hop hk) hp hSi
    unfold confTmps
    rw [hop hi, hop hk]
    simp only [hdst]
    rcases ht with ht | ht
    · simp; exact .inl ht
    · simp [ht]
  have selL : ∀ {k : Nat} {d' : Done} {l : Nat}, tr[k]? = some d' → updOf d' = some l → (d.lo = some l ∨ updOf d = some l) → k ≠ i → S k = decide (k < i) := by
    intro k d' l hk hu hl hne
    have hkn : k < tr.length := (List.getElem?_eq_some_iff.1 hk).1
    refine ord_sel hS hL hin hkn (Ne.symm hne) ?_ (hop hi) (hop hk) hp hSi
    unfold confLocs
    rw [hi, hk]
    simp only [hu]
    rcases hl with hl | hl <;> simp [hl]
  have updA : ∀ {d' : Done} {l : Nat} {L : LV}, locAtD l d' = some L → updOf d' = some l := by
    intro d' l L h
    unfold locAtD at h
    unfold updOf
    cases hq : d'.E.upd with
    | none => rw [hq] at h; cases h
    | some q =>
      obtain ⟨l', L'⟩ := q
      rw [hq] at h
      simp only at h
      split at h
      · rename_i e; simp [e]
      · cases h
  have frEq : ∀ t, (t ∈ d.o.looksAt ops) → look (part S 0 tr A0).fr t = look (part (fun k => decide (k < i)) 0 tr A0).fr t := by
    intro t ht
    rw [part_fr, part_fr, sel_congr (T := fun k => decide (k < i))]
    intro k d' y hk hy
    unfold valAt at hy
    split at hy
    · rename_i hdst
      by_cases hki : k = i
      · subst hki; rw [hSi]; simp
      · exact selT hk hdst (.inl ht) hki
    · cases hy
  have locEq : ∀ l, (d.lo = some l) → look (part S 0 tr A0).locs l = look (part (fun k => decide (k < i)) 0 tr A0).locs l := by
    intro l hl
    rw [part_locs, part_locs, sel_congr (T := fun k => decide (k < i))]
    intro k d' y hk hy
    by_cases hki : k = i
    · subst hki; rw [hSi]; simp
    · exact selL hk (updA hy) (.inl hl) hki
  obtain ⟨hget, hdo⟩ := hT i d hi
  refine ⟨⟨hdo.dst, ?_, ?_, hdo.upd⟩, ?_, ?_⟩
  · have hw : wantedA ops d.o (part S 0 tr A0) = wantedA ops d.o (part (fun k => decide (k < i)) 0 tr A0) := by
      unfold wantedA
      split
      · rfl
      · rename_i j want hg
        split
        · rename_i t hdt
          rw [frEq t (by unfold Oper.looksAt; rw [hg]; simp [hdt])]
        · rfl
    have he : d.o.op.operands.toList.map (part S 0 tr A0).eval = d.o.op.operands.toList.map (part (fun k => decide (k < i)) 0 tr A0).eval := by
      refine List.map_congr_left fun x hx => eval_look fun t hxt => frEq t ?_
      subst hxt
      unfold Oper.looksAt
      refine List.mem_append.2 (.inl (List.mem_filterMap.2 ⟨_, hx, rfl⟩))
    rw [hw, he, locAt_look locEq]
    exact hdo.does
  · intro hfr l L hu
    have hul : updOf d = some l := by simp [updOf, hu]
    obtain ⟨u1, u2, u3⟩ := hU d (List.mem_of_getElem? hi) hfr l hul
    have notIn : ∀ {k : Nat} {d' : Done}, tr[k]? = some d' → S k = true → l ∉ mentionsE d'.E := by
      intro k d' hk hSk hmem
      have hkn : k < tr.length := (List.getElem?_eq_some_iff.1 hk).1
      have hki : k ≠ i := fun e => by subst e; rw [hSi] at hSk; cases hSk
      have hcf : confFresh tr i k = true := by
        unfold confFresh
        rw [hi, hk]
        simp [hfr, hul, hmem]
      have hord := okAhead_spec hF hin hkn (Ne.symm hki) hcf
      have := anc_in hS (hop hk) (hS k _ (hop hk) hSk) hord
      rw [hSi] at this; cases this
    refine ⟨fun t x hx => ?_, fun l' L' hL' => ?_, u3⟩
    · rw [part_fr] at hx
      cases hl : lastW (selD S (valAt t)) (idx 0 tr) with
      | none => rw [hl] at hx; simp at hx; exact u1 t x hx
      | some y =>
        rw [hl] at hx; simp at hx; subst hx
        obtain ⟨⟨k, d'⟩, hmem, hy⟩ := lastW_some hl
        have hk := (idx_mem.1 hmem).2
        simp only [selD] at hy
        split at hy
        · rename_i hSk
          unfold valAt at hy
          split at hy
          · cases hy
            intro hm'
            exact notIn (by simpa using hk) hSk (List.mem_append.2 (.inl hm'))
          · cases hy
        · cases hy
    · rw [part_locs] at hL'
      cases hl : lastW (selD S (locAtD l')) (idx 0 tr) with
      | none => rw [hl] at hL'; simp at hL'; exact u2 l' L' hL'
      | some y =>
        rw [hl] at hL'; simp at hL'; subst hL'
        obtain ⟨⟨k, d'⟩, hmem, hy⟩ := lastW_some hl
        have hk := (idx_mem.1 hmem).2
        simp only [selD] at hy
        split at hy
        · rename_i hSk
          unfold locAtD at hy
          cases hq : d'.E.upd with
          | none => rw [hq] at hy; cases hy
          | some q =>
            obtain ⟨l'', L''⟩ := q
            rw [hq] at hy
            simp only at hy
            split at hy
            · cases hy
              intro hm'
              exact notIn (by simpa using hk) hSk (List.mem_append.2 (.inr (by rw [hq]; exact hm')))
            · cases hy
        · cases hy
  · intro t
    rw [look_apply_fr, part_fr]
    by_cases hdt : d.o.dst = some t
    · rw [if_pos hdt, sel_congr (T := fun k => decide (k ≤ i))]
      · rw [lastW_le tr 0 i d d.E.val (Nat.zero_le _) (by simpa using hi) (by simp [valAt, hdt])]
        simp
      · intro k d' y hk hy
        unfold valAt at hy
        split at hy
        · rename_i hdst
          by_cases hki : k = i
          · subst hki; simp
          · rw [selT hk hdst (.inr hdt) hki]
            simp [hki]; omega
        · cases hy
    · rw [if_neg hdt, part_fr, sel_congr (T := S)]
      intro k d' y hk hy
      unfold valAt at hy
      split at hy
      · rename_i hdst
        have hki : k ≠ i := fun e => by subst e; rw [hi] at hk; cases hk; exact hdt hdst
        simp [hki]
      · cases hy
  · intro l
    rw [look_apply_locs, part_locs]
    have rest : updOf d ≠ some l → (lastW (selD (fun k => S k || decide (k = i)) (locAtD l)) (idx 0 tr)).or (look A0.locs l) = look (part S 0 tr A0).locs l := by
      intro hne
      rw [part_locs, sel_congr (T := S)]
      intro k d' y hk hy
      have hki : k ≠ i := fun e => by subst e; rw [hi] at hk; cases hk; exact hne (updA hy)
      simp [hki]
    cases hq : d.E.upd with
    | none => exact rest (by simp [updOf, hq])
    | some q =>
      obtain ⟨l', L'⟩ := q
      simp only
      by_cases hll : l' = l
      · subst hll
        rw [if_pos rfl, sel_congr (T := fun k => decide (k ≤ i))]
        · rw [lastW_le tr 0 i d L' (Nat.zero_le _) (by simpa using hi) (by simp [locAtD, hq])]
          simp
        · intro k d' y hk hy
          by_cases hki : k = i
          · subst hki; simp
          · rw [selL hk (updA hy) (.inr (by simp [updOf, hq])) hki]
            simp [hki]; omega
      · rw [if_neg hll]
        exact rest (by simp [updOf, hq, hll])
/-- Whatever order is picked. -/
theorem draw_any {w0 : Base} {g0 : Nat → Nat} {Q : Exit → Act → World → Prop} (hT : Traced P nt ops A0 tr) (hm : tr.map (·.o) = ops.toList) (hX : okText ops.toList = true) (hO : OkTrace ops.toList A0 tr)
    (hQ : ∀ h a w, Rel w0 g0 nt (part (fun _ => true) 0 tr A0) h a w → Q .normal a w) :
    ∀ (fuel : Nat) (listed : Array Bool) (a : Act) (w : World) (h : Gh), listed.size = ops.size → Closed ops.toList (fun i => listed.getD i true) →
      ((List.range ops.size).countP fun i => !listed.getD i true) ≤ fuel → Rel w0 g0 nt (part (fun i => listed.getD i true) 0 tr A0) h a w → wpAny P .any ops Q fuel listed a w := by
  have hlen : tr.length = ops.size := by have := congrArg List.length hm; simpa using this
  have hop : ∀ {k : Nat} {d' : Done}, tr[k]? = some d' → ops.toList[k]? = some d'.o := by
    intro k d' hk; rw [← hm, List.getElem?_map, hk]; rfl
  have hEdge : ∀ i o, ops.toList[i]? = some o → ∀ p ∈ preds o, p < i := by
    intro i o ho p hp
    unfold okText okEdges at hX
    simp only [Bool.and_eq_true] at hX
    have h1 := List.all_eq_true.1 hX.1.1 i (List.mem_range.2 (List.getElem?_eq_some_iff.1 ho).1)
    rw [ho] at h1
    have := List.all_eq_true.1 h1 p hp
    simpa using this
  have readyIff : ∀ (listed : Array Bool) (i : Nat), listed.size = ops.size → (i ∈ Region.ready .any ops listed ↔ ∃ o, ops.toList[i]? = some o ∧ listed.getD i true = false ∧ ∀ p ∈ preds o, listed.getD p true = true) := by
    intro listed i hsz
    unfold Region.ready
    rw [List.mem_filter, List.mem_range]
    constructor
    · rintro ⟨h1, h2⟩
      have hi : ops[i]? = some ops[i] := by simp [h1]
      rw [hi] at h2
      simp only [Option.map_some, Option.getD_some, Bool.and_eq_true] at h2
      refine ⟨ops[i], by simp [h1], by simpa using h2.1, fun p hp => ?_⟩
      have hlt := hEdge i ops[i] (by simp [h1]) p hp
      unfold preds at hp
      rw [List.mem_map] at hp
      obtain ⟨e, he, rfl⟩ := hp
      rw [List.mem_filter] at he
      have hall := Array.all_eq_true_iff_forall_mem.1 h2.2 e (by simpa using he.1)
      rw [he.2] at hall
      have hlt' : e.on < listed.size := by omega
      simp [Array.getD_eq_getD_getElem?, hlt'] at hall ⊢
      exact hall
    · rintro ⟨o, ho, h2, h3⟩
      have h1 : i < ops.size := by have := (List.getElem?_eq_some_iff.1 ho).1; simpa using this
      refine ⟨h1, ?_⟩
      have hi : ops[i]? = some o := by simpa using ho
      rw [hi]
      simp only [Option.map_some, Option.getD_some, Bool.and_eq_true]
      refine ⟨by simpa using h2, Array.all_eq_true_iff_forall_mem.2 fun e he => ?_⟩
      cases hb : Region.binds .any e with
      | false => simp
      | true =>
        have hp : e.on ∈ preds o := List.mem_map.2 ⟨e, List.mem_filter.2 ⟨by simpa using he, hb⟩, rfl⟩
        have hlt := hEdge i o ho _ hp
        have := h3 _ hp
        have hlt' : e.on < listed.size := by omega
        simp [Array.getD_eq_getD_getElem?, hlt'] at this ⊢
        exact this
  have fin : ∀ (listed : Array Bool) (a : Act) (w : World) (h : Gh), listed.size = ops.size → Region.ready .any ops listed = [] → Rel w0 g0 nt (part (fun i => listed.getD i true) 0 tr A0) h a w → Q .normal a w := by
    intro listed a w h hsz hr rel
    have all : ∀ i, i < ops.size → listed.getD i true = true := by
      intro i
      induction i using Nat.strongRecOn with
      | _ i ih =>
        intro hi
        cases hb : listed.getD i true with
        | true => rfl
        | false =>
          have : i ∈ Region.ready .any ops listed := (readyIff listed i hsz).2 ⟨ops[i], by simp [hi], hb, fun p hp => ih p (hEdge i _ (by simp [hi]) p hp) (by have := hEdge i _ (by simp [hi]) p hp; omega)⟩
          rw [hr] at this; cases this
    refine hQ h a w ?_
    rw [part_congr (S := fun _ => true) (T := fun i => listed.getD i true) tr 0 A0 (fun i _ hi => (all i (by omega)).symm)]
    exact rel
  intro fuel
  induction fuel with
  | zero =>
    intro listed a w h hsz hcl hcnt rel
    have hr : Region.ready .any ops listed = [] := by
      cases hq : Region.ready .any ops listed with
      | nil => rfl
      | cons i rs =>
        have hi : i ∈ Region.ready .any ops listed := by rw [hq]; simp
        obtain ⟨o, h1, h2, _⟩ := (readyIff listed i hsz).1 hi
        have hlt : i < ops.size := by have := (List.getElem?_eq_some_iff.1 h1).1; simpa using this
        have : 0 < (List.range ops.size).countP fun i => !listed.getD i true := List.countP_pos_iff.2 ⟨i, List.mem_range.2 hlt, by simp [h2]⟩
        omega
    exact ⟨hr, fin listed a w h hsz hr rel⟩
  | succ fuel ih =>
    intro listed a w h hsz hcl hcnt rel
    refine ⟨fun hr => fin listed a w h hsz hr rel, fun i hi => ?_⟩
    obtain ⟨o, h1, h2, h3⟩ := (readyIff listed i hsz).1 hi
    have hlt : i < ops.size := by have := (List.getElem?_eq_some_iff.1 h1).1; simpa using this
    have hit : tr[i]? = some tr[i] := by simp [hlen, hlt]
    have ho : tr[i].o = o := by have := hop hit; rw [h1] at this; exact (Option.some.inj this).symm
    obtain ⟨p1, p2, p3⟩ := opDo_part hT hm hX hO hcl hit (by rw [ho]; exact h3) h2
    have hsel : ∀ k, (listed.setIfInBounds i true).getD k true = (listed.getD k true || decide (k = i)) := by
      intro k
      simp only [Array.getD_eq_getD_getElem?, Array.getElem?_setIfInBounds]
      by_cases hk : i = k
      · subst hk; simp; split <;> rfl
      · have : k ≠ i := fun e => hk e.symm
        simp [hk, this]
    have hset : (fun k => (listed.setIfInBounds i true).getD k true) = fun k => listed.getD k true || decide (k = i) := funext hsel
    unfold wpOp
    have hget : ops[i]? = some tr[i].o := by rw [ho]; simpa using h1
    rw [hget]
    refine p1.sound rel fun a' w' h' hr => ih _ a' w' h' (by simpa using hsz) ?_ ?_ ?_
    · intro j oj hoj hj p hp
      simp only [hsel, Bool.or_eq_true] at hj ⊢
      rcases hj with hj | hj
      · exact .inl (hcl j oj hoj hj p hp)
      · have hji : j = i := by simpa using hj
        subst hji
        rw [h1] at hoj; cases hoj
        exact .inl (h3 p hp)
    · have hdec : ((List.range ops.size).countP fun k => !(listed.setIfInBounds i true).getD k true) < (List.range ops.size).countP fun k => !listed.getD k true := by
        refine countP_lt (List.range ops.size) i (List.mem_range.2 hlt) (by simp [h2]) (by simp [hsel]) fun k hk => ?_
        simp [hsel] at hk ⊢
        exact hk.1
      omega
    · rw [hset]
      exact Rel.ext' hr p2 p3
end
end Go.Proofs.Ytfcfhlfehomhpaa.AL

/- Code: the rules of the logic; a function's contract out of its body. -/
namespace Go.Proofs.Ytfcfhlfehomhpaa.AL
open Go.RowKit
variable {P : Program}

theorem Rel.drew {w0 : Base} {g0 : Nat → Nat} {nt : Nat} {A : ASt} {h : Gh} {a : Act} {w : World} (r : Rel w0 g0 nt A h a w) : Rel w0 g0 nt A h a { w with drawn := w.drawn + 1 } := by
  have t : Trans w0.O w h { w with drawn := w.drawn + 1 } h none none false :=
    Trans.same (w := w) (w' := { w with drawn := w.drawn + 1 }) (g' := h.g) ⟨rfl, rfl, rfl, Nat.le_refl _, fun _ _ _ => rfl⟩ (fun _ _ => ⟨rfl, rfl⟩) r.gz r.gz r.base none
  exact ⟨r.size, r.defers, fun x y hy => RelA.trans t (fun hf => by cases hf) (r.fr x y hy), fun l L hL => (LocOK.trans t (by simp) (fun hf => by cases hf) (fun b _ => by simp) (r.locs l L hL)).1, r.sep,
    ⟨r.ext.below.trans t.below, r.ext.gam, r.ext.gz, r.ext.keep.trans t.keep⟩, r.pin⟩

def AWP (P : Program) (nt : Nat) (c : Code) (Q : Exit → ASt → Prop) (A : ASt) : Prop :=
  ∀ (w0 : Base) (g0 : Nat → Nat) (h : Gh) (a : Act) (w : World), Rel w0 g0 nt A h a w → c.wp P (fun e a' w' => ∃ A' h', Q e A' ∧ Rel w0 g0 nt A' h' a' w') a w

section
variable {nt : Nat} {Q : Exit → ASt → Prop} {A : ASt}

theorem awp_mono {c : Code} {Q' : Exit → ASt → Prop} (h : AWP P nt c Q A) (hq : ∀ e A, Q e A → Q' e A) : AWP P nt c Q' A :=
  fun w0 g0 h' a w r => Go.wp_mono (h w0 g0 h' a w r) fun e a' w' ⟨A', hh, q, rr⟩ => ⟨A', hh, hq _ _ q, rr⟩
theorem awp_skip (h : Q .normal A) : AWP P nt .skip Q A := fun _ _ h' _ _ r => wp_skip ⟨A, h', h, r⟩
theorem awp_exit {id : Nat} (h : Q (.exit id) A) : AWP P nt (.exit id) Q A := fun _ _ h' _ _ r => wp_exit ⟨A, h', h, r⟩
theorem awp_ret (h : Q .ret A) : AWP P nt .ret Q A := fun _ _ h' _ _ r => wp_ret ⟨A, h', h, r⟩

/-- The same related frame, said otherwise: less, or with other ghosts. -/
def Weak (A A' : ASt) : Prop := ∀ (w0 : Base) (g0 : Nat → Nat) (nt : Nat) (h : Gh) (a : Act) (w : World), Rel w0 g0 nt A h a w → ∃ h', Rel w0 g0 nt A' h' a w
theorem Weak.refl (A : ASt) : Weak A A := fun _ _ _ h _ _ r => ⟨h, r⟩
theorem Weak.trans {A A' A'' : ASt} (h : Weak A A') (k : Weak A' A'') : Weak A A'' := fun w0 g0 nt h' a w r => let ⟨_, r'⟩ := h w0 g0 nt h' a w r; k w0 g0 nt _ a w r'
theorem awp_weak {c : Code} {A' : ASt} (hw : Weak A A') (h : AWP P nt c Q A') : AWP P nt c Q A := fun w0 g0 h' a w r => let ⟨_, r'⟩ := hw w0 g0 nt h' a w r; h w0 g0 _ a w r'

/-- Less said: of the slots and the locations that are named alone. -/
def keep {α : Type} (ks : List Nat) (l : List (Nat × α)) : List (Nat × α) := match ks with
  | [] => []
  | k :: r => match look l k with
    | some x => (k, x) :: keep r l
    | none => keep r l
theorem look_keep {α : Type} (l : List (Nat × α)) : ∀ (ks : List Nat) (t : Nat) (x : α), look (keep ks l) t = some x → look l t = some x
  | [], t, x, h => by cases h
  | k :: r, t, x, h => by
    unfold keep at h
    split at h
    · rename_i y hy
      simp only [look] at h
      split at h
      · rename_i e; subst e; cases h; exact hy
      · exact look_keep l r t x h
    · exact look_keep l r t x h
theorem Weak.of_look {A A' : ASt} (hf : ∀ t x, look A'.fr t = some x → look A.fr t = some x) (hl : ∀ l L, look A'.locs l = some L → look A.locs l = some L) : Weak A A' :=
  fun w0 g0 nt h a w r => ⟨h, r.size, r.defers, fun t x hx => r.fr t x (hf t x hx), fun l L hL => r.locs l L (hl l L hL), fun l l' L L' b hne h1 h2 => r.sep l l' L L' b hne (hl l L h1) (hl l' L' h2), r.ext, r.pin⟩
theorem awp_keep (ks ls : List Nat) {c : Code} (h : AWP P nt c Q ⟨keep ks A.fr, keep ls A.locs⟩) : AWP P nt c Q A :=
  awp_weak (Weak.of_look (fun t x hx => look_keep A.fr ks t x hx) (fun l L hL => look_keep A.locs ls l L hL)) h

def seqQ (P : Program) (nt : Nat) (y : Code) (Q : Exit → ASt → Prop) : Exit → ASt → Prop
  | .normal, A => AWP P nt y Q A
  | e, A => Q e A
theorem awp_seq {x y : Code} (h : AWP P nt x (seqQ P nt y Q) A) : AWP P nt (.seq x y) Q A := by
  intro w0 g0 h' a w r
  refine wp_seq (Go.wp_mono (h w0 g0 h' a w r) fun e a' w' ⟨A', hh, q, rr⟩ => ?_)
  cases e with
  | normal => exact q w0 g0 hh a' w' rr
  | _ => exact ⟨A', hh, q, rr⟩
theorem awp_cond {c : Operand} {x y : Code} {t : Bool} (hc : A.eval c = .p (.d (.v (.bool t)))) (ht : t = true → AWP P nt x Q A) (hf : t = false → AWP P nt y Q A) : AWP P nt (.cond c x y) Q A := by
  intro w0 g0 h' a w r
  have hv := r.eval c
  rw [hc] at hv
  exact wp_cond_split (relA_v hv) (fun e => ht e w0 g0 h' a w r) (fun e => hf e w0 g0 h' a w r)
def blockQ (id : Nat) (Q : Exit → ASt → Prop) : Exit → ASt → Prop
  | .exit id', A => if id' = id then Q .normal A else Q (.exit id') A
  | e, A => Q e A
theorem awp_block {id : Nat} {c : Code} (h : AWP P nt c (blockQ id Q) A) : AWP P nt (.block id c) Q A := by
  intro w0 g0 h' a w r
  refine wp_block (Go.wp_mono (h w0 g0 h' a w r) fun e a' w' ⟨A', hh, q, rr⟩ => ?_)
  cases e with
  | exit id' =>
    simp only [blockQ] at q
    simp only [Exit.inBlock]
    split at q
    · rename_i e; rw [if_pos e]; exact ⟨A', hh, q, rr⟩
    · rename_i e; rw [if_neg e]; exact ⟨A', hh, q, rr⟩
  | _ => exact ⟨A', hh, q, rr⟩

theorem wp_loop' {c : Code} {Q : Exit → Act → World → Prop} (I : Nat → Act → World → Prop)
    (round : ∀ n a w, I n a w → c.wp P (Exit.then (fun a' w' => ∃ m, m < n ∧ I m a' w') Q) a w) : ∀ n a w, I n a w → (Code.loop c).wp P Q a w := by
  intro n a w hI b k cs
  have key : ∀ n a w, I n a w → ∃ e a' w', Q e a' w' ∧ Arrives P (lone (b.at a (.code c :: .inLoop c :: k)) cs w) b k cs e a' w' := by
    intro n
    induction n using Nat.strongRecOn with
    | _ n ih =>
      intro a w hI
      obtain ⟨e, a₁, w₁, hq, harr⟩ := round n a w hI b (.inLoop c :: k) cs
      cases e with
      | normal =>
        obtain ⟨m, hm, hI₁⟩ := hq
        obtain ⟨e₂, a₂, w₂, hq₂, harr₂⟩ := ih m hm a₁ w₁ hI₁
        exact ⟨e₂, a₂, w₂, hq₂, .of_steps (Steps.trans harr (.one step_inLoop)) harr₂⟩
      | exit id => exact ⟨_, a₁, w₁, hq, .pass (x := .inLoop c) rfl (fun _ _ => .inl (by simp)) harr⟩
      | goto l => exact ⟨_, a₁, w₁, hq, .pass (x := .inLoop c) rfl (fun _ _ => .inl (by simp)) harr⟩
      | ret => exact ⟨_, a₁, w₁, hq, .pass (x := .inLoop c) rfl (fun _ _ => .inl (by simp)) harr⟩
      | panic ch => exact ⟨_, a₁, w₁, hq, .pass (x := .inLoop c) rfl (fun _ _ => .inl (by simp)) harr⟩
      | outgrown => exact ⟨_, a₁, w₁, hq, .pass (x := .inLoop c) rfl (fun _ _ => .inl (by simp)) harr⟩
  obtain ⟨e, a', w', hq, harr⟩ := key n a w hI
  exact ⟨e, a', w', hq, .of_steps (.one step_loop) harr⟩

def loopQ {ι : Type} (I : ι → ASt) (μ : ι → Nat) (x : ι) (Q : Exit → ASt → Prop) : Exit → ASt → Prop
  | .normal, A => ∃ x', μ x' < μ x ∧ Weak A (I x')
  | e, A => Q e A
/-- THE LOOP: I says the state at a round's head, by a letter x; each round lowers μ. -/
theorem awp_loop {ι : Type} (I : ι → ASt) (μ : ι → Nat) {c : Code} (x0 : ι) (h0 : Weak A (I x0)) (round : ∀ x, AWP P nt c (loopQ I μ x Q) (I x)) : AWP P nt (.loop c) Q A := by
  intro w0 g0 h' a w r
  obtain ⟨h1, r1⟩ := h0 w0 g0 nt h' a w r
  refine wp_loop' (fun n a w => ∃ x h, μ x = n ∧ Rel w0 g0 nt (I x) h a w) (fun n a w ⟨x, h, hn, rr⟩ => ?_) (μ x0) a w ⟨x0, h1, rfl, r1⟩
  refine Go.wp_mono (round x w0 g0 h a w rr) fun e a' w' ⟨A', hh, q, rr'⟩ => ?_
  cases e with
  | normal =>
    obtain ⟨x', hlt, hw⟩ := q
    obtain ⟨h2, r2⟩ := hw w0 g0 nt hh a' w' rr'
    exact ⟨μ x', by omega, x', h2, rfl, r2⟩
  | _ => exact ⟨A', hh, q, rr'⟩

theorem awp_region {id : Nat} {l : List Oper} (hh : ∀ K : ASt → Prop, (∀ A', Q .normal A' → K A') → walkS P nt l.toArray l A K) : AWP P nt (.region id l.toArray false) Q A := by
  have h := hh _ fun _ h => h
  intro w0 g0 h' a w r
  refine wp_region_list ?_
  exact walkS_sound (Q := fun e a' w' => ∃ A' h', Q e A' ∧ Rel w0 g0 nt A' h' a' w') (fun A h a w r k => ⟨A, h, k, r⟩) l A h' a w r h
theorem awp_draw {id : Nat} {l : List Oper} (hm : P.follows .mixedOrders = true) (hX : okText l = true) (hh : ∀ K : ASt → List Done → Prop, (∀ A' tr, OkTrace l A tr → Q .normal A' → K A' tr) → walkD P nt l.toArray K l A []) : AWP P nt (.region id l.toArray true) Q A := by
  have h := hh (fun A' tr => OkTrace l A tr ∧ Q .normal A') fun _ _ h1 h2 => ⟨h1, h2⟩
  intro w0 g0 h' a w r
  obtain ⟨tr, t1, t2, t3, t4⟩ := walkD_traced (ops := l.toArray) A l A [] (by simp) (by simp [part]) (fun i d hi => by simp at hi) h
  refine wp_region_any hm ?_
  refine draw_any (ops := l.toArray) t1 t2 (by simpa using hX) (by simpa using t3) (fun h a w r => ⟨_, h, t4, r⟩) _ _ a _ h' (by simp) (fun i o ho hi p hp => ?_) ?_ ?_
  · exfalso
    have hlt : i < l.length := by have := (List.getElem?_eq_some_iff.1 ho).1; simpa using this
    simp [hlt] at hi
  · exact Nat.le_trans List.countP_le_length (by simp)
  · have : part (fun i => (Array.replicate l.toArray.size false).getD i true) 0 tr A = A := by
      refine part_false tr 0 A _ (fun i _ hi => ?_)
      have hlen : tr.length = l.length := by have := congrArg List.length t2; simpa using this
      have hlt : i < l.length := by omega
      simp [hlt]
    rw [this]
    exact r.drew
end

/-! ### the steps of a walk -/
section
variable {nt : Nat} {ops : Array Oper} {o : Oper} {rest : List Oper} {A : ASt}

def unusedB (A : ASt) (l : Nat) : Bool := (A.fr.all fun p => !p.2.mentions.contains l) && (A.locs.all fun p => !p.2.mentions.contains l) && decide (l < 1000)
theorem look_mem {α : Type} : ∀ {l : List (Nat × α)} {t : Nat} {x : α}, look l t = some x → (t, x) ∈ l
  | [], t, x, h => by cases h
  | (u, y) :: r, t, x, h => by
    simp only [look] at h
    split at h
    · rename_i e; subst e; cases h; simp
    · exact List.mem_cons_of_mem _ (look_mem h)
theorem unusedB_spec {l : Nat} (h : unusedB A l = true) : A.unused l := by
  unfold unusedB at h
  simp only [Bool.and_eq_true] at h
  refine ⟨fun t x hx => ?_, fun l' L hL => ?_, of_decide_eq_true h.2⟩
  · have := List.all_eq_true.1 h.1.1 _ (look_mem hx)
    simpa using this
  · have := List.all_eq_true.1 h.1.2 _ (look_mem hL)
    simpa using this
/-- What is to be said of an operation's effect. -/
def effOK (A : ASt) (lo : Option Nat) (E : Eff) : Prop :=
  match E.upd with
  | none => True
  | some (l, _) => if E.fresh then unusedB A l = true else lo = some l
def dstOK (nt : Nat) (o : Oper) : Bool := match o.dst with
  | some d => decide (d < nt)
  | none => true
theorem dstOK_spec (h : dstOK nt o = true) : ∀ d, o.dst = some d → d < nt := by
  intro d hd; unfold dstOK at h; rw [hd] at h; simpa using h

theorem opDo_eff {M : List Nat} {E : Eff} (hd : dstOK nt o = true) (hw : wantedA ops o A = some true)
    (hE : opEff P M o (o.op.operands.toList.map A.eval) (A.locAt (locNeed o (o.op.operands.toList.map A.eval))) = some E) (hobl : E.obl) (hok : effOK A (locNeed o (o.op.operands.toList.map A.eval)) E) :
    OpDo P nt ops o A (locNeed o (o.op.operands.toList.map A.eval)) E := by
  refine ⟨dstOK_spec hd, .inr ⟨hw, (opEff_sound hE hobl).toT⟩, fun hf l L hu => ?_, fun l L hu hf => ?_⟩
  · unfold effOK at hok
    rw [hu] at hok
    simp only [hf, if_true] at hok
    exact unusedB_spec hok
  · unfold effOK at hok
    rw [hu] at hok
    simp only [hf] at hok
    exact hok
theorem opDo_skip (hd : dstOK nt o = true) (hw : wantedA ops o A = some false) : OpDo P nt ops o A none { val := .undef } :=
  ⟨dstOK_spec hd, .inl ⟨hw, rfl⟩, fun hf => (by cases hf), fun l L hu => (by cases hu)⟩
theorem opDo_call {c : Call} {f : Operand} (hd : dstOK nt o = true) (hw : wantedA ops o A = some true) (ho : o.op = .call c) (hc : c.callee = .value f) {g : FuncId} {pre post ys rs : List PV}
    (hx : calleeAV (A.eval f) = some (g, pre, post)) (hys : (c.args.toList.map A.eval).mapM pvAV = some ys) (hcall : ACalls P g (pre ++ ys ++ post) (· = rs)) : OpDo P nt ops o A none { val := resAV rs } := by
  refine ⟨dstOK_spec hd, .inr ⟨hw, opT_call (x := A.eval f) (zs := c.args.toList.map A.eval) ho hc ?_ hx hys hcall none⟩, fun hf => (by cases hf), fun l L hu => (by cases hu)⟩
  simp [ho, Op.operands, Call.operands, hc]
end

-- the equations of what is worked out in a walk, made here once
theorem keep_eqns : True := have := @keep.eq_1; trivial
theorem dstOK_eqns : True := have := @dstOK.eq_1; trivial
theorem effOK_eqns : True := have := @effOK.eq_1; trivial
theorem unusedB_eqns : True := have := @unusedB.eq_1; trivial
theorem seqQ_eqns : True := have := @seqQ.eq_1; trivial
theorem blockQ_eqns : True := have := @blockQ.eq_1; trivial
theorem loopQ_eqns : True := have := @loopQ.eq_1; trivial
end Go.Proofs.Ytfcfhlfehomhpaa.AL

/- A function's contract out of its body. -/
namespace Go.Proofs.Ytfcfhlfehomhpaa.AL
open Go.RowKit
variable {P : Program}

def ptrLoc : AV → Option Nat
  | .loc l _ => some l
  | _ => none
/-- A result variable holds r. -/
def ResVar (P : Program) (A : ASt) : ResultVar → PV → Prop
  | .tmp t, r => pvAV (A.eval (.tmp t)) = some r
  | .cell a t, r => match effLoad P t [A.eval (.tmp a)] (A.locAt (ptrLoc (A.eval (.tmp a)))) with
    | some E => E.obl ∧ pvAV E.val = some r
    | none => False
def ResVars (P : Program) (A : ASt) : List ResultVar → List PV → Prop
  | [], [] => True
  | v :: vs, r :: rs => ResVar P A v r ∧ ResVars P A vs rs
  | _, _ => False

section
variable {w0 : Base} {g0 : Nat → Nat} {nt : Nat} {A : ASt} {h : Gh} {a : Act} {w : World}
def oneResult (tmps : Array Value) : ResultVar → Sem Value
  | .tmp t => pure (tmps.getD t undef)
  | .cell b t => do loadVar t (← asAddr (tmps.getD b undef))
theorem resVar_spec (r : Rel w0 g0 nt A h a w) {v : ResultVar} {x : PV} (hv : ResVar P A v x) : ∃ u, (oneResult a.tmps v).run P w = .ok u w ∧ RelP w h.g u x := by
  cases v with
  | tmp t => exact ⟨_, rfl, pvAV_spec hv (r.eval (.tmp t))⟩
  | cell b t =>
    simp only [ResVar] at hv
    split at hv
    case h_2 => exact hv.elim
    rename_i E hE
    obtain ⟨hobl, hp⟩ := hv
    have hev := r.eval (.tmp b)
    obtain ⟨hs, _, _⟩ := sem_load_pure (o := { dst := none, op := .load t (.tmp b), type := 0, pos := "", after := #[], guard := none }) rfl hE hobl
    obtain ⟨u, hrun, hrel⟩ := hs w0.O w h a.eval (by simpa [Op.operands] using r.evals [.tmp b]) (fun l L he => by
      unfold ptrLoc at he
      split at he
      · rename_i l' q heq
        simp only [ASt.locAt] at he
        cases hk : look A.locs l' with
        | none => simp [hk] at he
        | some L' => simp [hk] at he; obtain ⟨rfl, rfl⟩ := he; exact r.locs _ _ hk
      · simp [ASt.locAt] at he)
    refine ⟨u, ?_, pvAV_spec hp hrel⟩
    have hptr : ∃ ad, a.eval (.tmp b) = .pointer (some ad) := by
      unfold effLoad at hE
      split at hE
      · rename_i ti cs hti heq
        simp only [List.cons.injEq, and_true] at heq
        rw [heq] at hev
        obtain ⟨v0, hv0⟩ : ∃ v, a.eval (.tmp b) = v := ⟨_, rfl⟩
        rw [hv0] at hev
        cases hev with | d _ _ hev => obtain ⟨b', q, rfl⟩ := relD_bx_ptr hev; exact ⟨_, hv0⟩
      · rename_i ti n f hti heq
        simp only [List.cons.injEq, and_true] at heq
        rw [heq] at hev
        obtain ⟨v0, hv0⟩ : ∃ v, a.eval (.tmp b) = v := ⟨_, rfl⟩
        rw [hv0] at hev
        cases hev with | d _ _ hev => cases hev with | bf => exact ⟨_, hv0⟩
      · rename_i ti l off hti heq
        simp only [List.cons.injEq, and_true] at heq
        rw [heq] at hev
        exact ⟨_, hev⟩
      · cases hE
    obtain ⟨ad, had⟩ := hptr
    have he : a.tmps.getD b undef = .pointer (some ad) := had
    simp only [execOp, had, Instr.loadAt, Instr.sureAddr, Sem.run_bind, Sem.run_pure, Result.andThen_ok] at hrun
    simp only [oneResult, he, asAddr, Sem.run_bind, Sem.run_pure, Result.andThen_ok]
    cases hl : (loadVar t ad).run P w with
    | ok u' w' => rw [hl] at hrun; simp at hrun; obtain ⟨rfl, rfl⟩ := hrun; rfl
    | halt x w' => rw [hl] at hrun; simp [Result.andThen] at hrun
theorem resVars_run (r : Rel w0 g0 nt A h a w) : ∀ {vs : List ResultVar} {rs : List PV}, ResVars P A vs rs → ∃ us, (vs.mapM (oneResult a.tmps)).run P w = .ok us w ∧ RelPs w h.g us rs
  | [], [], _ => ⟨[], rfl, RelPs.nil _ _⟩
  | v :: vs, x :: rs, hv => by
    obtain ⟨u, h1, h2⟩ := resVar_spec r hv.1
    obtain ⟨us, h3, h4⟩ := resVars_run r hv.2
    exact ⟨u :: us, by simp [List.mapM_cons, h1, h3], RelPs.cons h2 h4⟩
  | [], _ :: _, hv => hv.elim
  | _ :: _, [], hv => hv.elim
theorem results_spec (r : Rel w0 g0 nt A h a w) {fn : Func} {rs : List PV} (hv : ResVars P A fn.results.toList rs) : ∃ v, (results fn a.tmps).run P w = .ok v w ∧ RelR w h.g v rs := by
  obtain ⟨us, h1, h2⟩ := resVars_run r hv
  have e : (fn.results.mapM (oneResult a.tmps)).run P w = .ok us.toArray w := by
    rw [Array.mapM_eq_mapM_toList]
    simp [h1]
  have e' : results fn a.tmps = (do let vs ← fn.results.mapM (oneResult a.tmps); pure (if h : vs.size = 1 then vs[0] else .tuple vs)) := by
    unfold results
    congr 1
  rw [e']
  simp only [Sem.run_bind, e, Result.andThen_ok, Sem.run_pure]
  refine ⟨_, rfl, ?_⟩
  match us, rs, h2 with
  | [u], [x], h2 => exact h2.2 0 u x rfl rfl
  | [], [], h2 => exact ⟨[], rfl, h2⟩
  | u :: u' :: us, x :: x' :: rs, h2 => exact ⟨_, by simp, h2⟩
  | [], _ :: _, h2 => simp [RelPs] at h2
  | _ :: _, [], h2 => simp [RelPs] at h2
  | [_], _ :: _ :: _, h2 => simp [RelPs] at h2
  | _ :: _ :: _, [_], h2 => simp [RelPs] at h2
end

def frOf : Nat → List PV → List (Nat × AV)
  | _, [] => []
  | k, x :: r => (k, .p x) :: frOf (k + 1) r
theorem look_frOf : ∀ (xs : List PV) (k t : Nat) (y : AV), look (frOf k xs) t = some y → ∃ x, k ≤ t ∧ xs[t - k]? = some x ∧ y = .p x
  | [], k, t, y, h => by cases h
  | x :: r, k, t, y, h => by
    simp only [frOf, look] at h
    split at h
    · rename_i e; subst e; cases h; exact ⟨x, Nat.le_refl _, by simp, rfl⟩
    · obtain ⟨z, h1, h2, h3⟩ := look_frOf r (k + 1) t y h
      refine ⟨z, by omega, ?_, h3⟩
      have : t - k = (t - (k + 1)) + 1 := by omega
      rw [this]; simpa using h2

/-- What is to be shown of a body at its ends. -/
def retQ (P : Program) (fn : Func) (Q : List PV → Prop) : Exit → ASt → Prop
  | .normal, A => ∃ rs, ResVars P A fn.results.toList rs ∧ Q rs
  | .ret, A => ∃ rs, ResVars P A fn.results.toList rs ∧ Q rs
  | _, _ => False

theorem acalls_of_awp {f : FuncId} {fn : Func} {c : Code} {xs : List PV} {Q : List PV → Prop} (hf : P.funcs[f]? = some fn) (hb : fn.body = some c) (hname : (fn.name == "runtime.NumGoroutine") = false) (hn : xs.length ≤ fn.ntmps)
    (h : AWP P fn.ntmps c (retQ P fn Q) ⟨frOf 0 xs, []⟩) : ACalls P f xs Q := by
  intro w g vs hz hr
  have hrun : (callFunc f vs.toArray).run P w = .ok (.enter f vs.toArray) w := by
    simp only [callFunc, program, Sem.run, Bind.bind, Sem.bind, hf, hname, hb]; rfl
  rw [hrun]
  show Calls P f vs.toArray w _
  refine calls_of_wp hf hb ?_
  have hrel : Rel (Base.of w) g fn.ntmps ⟨frOf 0 xs, []⟩ ⟨g, id, fun _ => undef, fun _ => 0⟩ { tmps := vs.toArray ++ Array.replicate (fn.ntmps - vs.toArray.size) undef, defers := [] } w := by
    refine ⟨by have := hr.1; simp; omega, rfl, fun t y hy => ?_, fun l L hL => (by cases hL), fun l l' L L' b _ hL => (by cases hL), ExtS.refl (Base.of w) hz, fun l _ => rfl⟩
    obtain ⟨x, _, hx, rfl⟩ := look_frOf xs 0 t y hy
    have hlt : t < vs.length := by rw [hr.1]; have := (List.getElem?_eq_some_iff.1 hx).1; simpa using this
    have hv : (vs.toArray ++ Array.replicate (fn.ntmps - vs.toArray.size) undef).getD t undef = vs[t] := by
      rw [Array.getD_eq_getD_getElem?, Array.getElem?_append_left (by simpa using hlt)]
      simp [hlt]
    show RelP _ _ _ _
    rw [hv]
    exact hr.2 t _ x (by simp [hlt]) (by simpa using hx)
  refine Go.wp_mono (h (Base.of w) g _ _ w hrel) fun e a' w' ⟨A', h', q, rr⟩ => ?_
  have fin : (∃ rs, ResVars P A' fn.results.toList rs ∧ Q rs) → a'.defers = [] ∧ ∃ v, (results fn a'.tmps).run P w' = .ok v w' ∧ ∃ u, Ending.returned v = .returned u ∧ ∃ g' rs, Ext w g w' g' ∧ Q rs ∧ RelR w' g' u rs := by
    rintro ⟨rs, hv, hq⟩
    obtain ⟨v, h1, h2⟩ := results_spec rr hv
    exact ⟨rr.defers, v, h1, v, rfl, h'.g, rs, rr.ext.toExt, hq, h2⟩
  cases e with
  | normal => exact fin q
  | ret => exact fin q
  | exit id => exact q.elim
  | goto l => exact q.elim
  | panic ch => exact q.elim
  | outgrown => exact q.elim

-- the equations of what is worked out in a walk, made here once
theorem ptrLoc_eqns : True := have := @ptrLoc.eq_1; trivial
theorem ResVar_eqns : True := have := @ResVar.eq_1; trivial
theorem ResVars_eqns : True := have := @ResVars.eq_1; trivial
theorem frOf_eqns : True := have := @frOf.eq_1; trivial
theorem retQ_eqns : True := have := @retQ.eq_1; trivial
end Go.Proofs.Ytfcfhlfehomhpaa.AL

/- The steps of a walk, as one can run them: stepS in the text's order, stepD where the order is open. -/
namespace Go.Proofs.Ytfcfhlfehomhpaa.AL
open Go.RowKit
variable {P : Program}

section
variable {nt : Nat} {ops : Array Oper} {o : Oper} {rest : List Oper} {A : ASt}

def mapEv (A : ASt) : List Operand → List AV
  | [] => []
  | x :: r => A.eval x :: mapEv A r
theorem mapEv_eq (A : ASt) : ∀ l : List Operand, mapEv A l = l.map A.eval
  | [] => rfl
  | x :: r => by simp [mapEv, mapEv_eq A r]

/-- One operation: what it gives, and what is to be shown for it. -/
def stepE (P : Program) (M : List Nat) (nt : Nat) (o : Oper) (A : ASt) (K : Option Nat → Eff → Prop) : Prop :=
  match opEff P M o (mapEv A o.op.operands.toList) (A.locAt (locNeed o (mapEv A o.op.operands.toList))) with
  | some E => dstOK nt o = true ∧ E.obl ∧ effOK A (locNeed o (mapEv A o.op.operands.toList)) E ∧ K (locNeed o (mapEv A o.op.operands.toList)) E
  | none => False
theorem stepE_spec {M : List Nat} {K : Option Nat → Eff → Prop} (hw : wantedA ops o A = some true) (h : stepE P M nt o A K) : ∃ lo E, OpDo P nt ops o A lo E ∧ K lo E := by
  unfold stepE at h
  rw [mapEv_eq] at h
  split at h
  · rename_i E hE
    exact ⟨_, E, opDo_eff h.1 hw hE h.2.1 h.2.2.1, h.2.2.2⟩
  · exact h.elim
theorem walkS_op (M : List Nat) {K : ASt → Prop} (hw : wantedA ops o A = some true) (h : stepE P M nt o A fun _ E => walkS P nt ops rest (A.apply o.dst E) K) : walkS P nt ops (o :: rest) A K := by
  obtain ⟨lo, E, h1, h2⟩ := stepE_spec hw h
  exact ⟨_, h1.step, h2⟩
theorem walkD_op (M : List Nat) {K : ASt → List Done → Prop} {tr : List Done} (hw : wantedA ops o A = some true) (h : stepE P M nt o A fun lo E => walkD P nt ops K rest (A.apply o.dst E) (⟨o, lo, E⟩ :: tr)) : walkD P nt ops K (o :: rest) A tr := by
  obtain ⟨lo, E, h1, h2⟩ := stepE_spec hw h
  exact ⟨lo, E, h1, h2⟩
theorem walkS_skip {K : ASt → Prop} (hw : wantedA ops o A = some false) (hd : dstOK nt o = true) (h : walkS P nt ops rest (A.put o.dst .undef) K) : walkS P nt ops (o :: rest) A K :=
  ⟨_, (opDo_skip hd hw).step, h⟩
theorem walkD_skip {K : ASt → List Done → Prop} {tr : List Done} (hw : wantedA ops o A = some false) (hd : dstOK nt o = true) (h : walkD P nt ops K rest (A.put o.dst .undef) (⟨o, none, { val := .undef }⟩ :: tr)) : walkD P nt ops K (o :: rest) A tr :=
  ⟨none, _, opDo_skip hd hw, h⟩

/-- What a call's operands come to. -/
def callAV (A : ASt) (o : Oper) : Option (FuncId × List PV) :=
  match o.op with
  | .call c => match c.callee with
    | .value f => match calleeAV (A.eval f), (mapEv A c.args.toList).mapM pvAV with
      | some (g, pre, post), some ys => some (g, pre ++ ys ++ post)
      | _, _ => none
    | _ => none
  | _ => none
theorem callAV_spec {g : FuncId} {xs rs : List PV} (hd : dstOK nt o = true) (hw : wantedA ops o A = some true) (hx : callAV A o = some (g, xs)) (h : ACalls P g xs (· = rs)) : OpDo P nt ops o A none { val := resAV rs } := by
  unfold callAV at hx
  split at hx
  · rename_i c hc
    split at hx
    · rename_i f hf
      split at hx
      · rename_i g' pre post ys h1 h2
        cases hx
        rw [mapEv_eq] at h2
        exact opDo_call hd hw hc hf h1 h2 h
      · cases hx
    · cases hx
  · cases hx
theorem walkS_call {K : ASt → Prop} {g : FuncId} {xs rs : List PV} (hw : wantedA ops o A = some true) (hd : dstOK nt o = true) (hx : callAV A o = some (g, xs)) (h : ACalls P g xs (· = rs))
    (hk : walkS P nt ops rest (A.put o.dst (resAV rs)) K) : walkS P nt ops (o :: rest) A K := ⟨_, (callAV_spec hd hw hx h).step, hk⟩
theorem walkD_call {K : ASt → List Done → Prop} {tr : List Done} {g : FuncId} {xs rs : List PV} (hw : wantedA ops o A = some true) (hd : dstOK nt o = true) (hx : callAV A o = some (g, xs)) (h : ACalls P g xs (· = rs))
    (hk : walkD P nt ops K rest (A.put o.dst (resAV rs)) (⟨o, none, { val := resAV rs }⟩ :: tr)) : walkD P nt ops K (o :: rest) A tr := ⟨none, _, callAV_spec hd hw hx h, hk⟩

/-- A call: its operands worked out. -/
def callK (A : ASt) (o : Oper) (K : FuncId → List PV → Prop) : Prop :=
  match callAV A o with
  | some (g, xs) => K g xs
  | none => False
theorem walkS_call2 {K : ASt → Prop} (hw : wantedA ops o A = some true) (hd : dstOK nt o = true) (h : callK A o fun g xs => ∃ rs, ACalls P g xs (· = rs) ∧ walkS P nt ops rest (A.put o.dst (resAV rs)) K) : walkS P nt ops (o :: rest) A K := by
  unfold callK at h
  split at h
  · rename_i g xs hx
    obtain ⟨rs, h1, h2⟩ := h
    exact walkS_call hw hd hx h1 h2
  · exact h.elim
theorem walkD_call2 {K : ASt → List Done → Prop} {tr : List Done} (hw : wantedA ops o A = some true) (hd : dstOK nt o = true)
    (h : callK A o fun g xs => ∃ rs, ACalls P g xs (· = rs) ∧ walkD P nt ops K rest (A.put o.dst (resAV rs)) (⟨o, none, { val := resAV rs }⟩ :: tr)) : walkD P nt ops K (o :: rest) A tr := by
  unfold callK at h
  split at h
  · rename_i g xs hx
    obtain ⟨rs, h1, h2⟩ := h
    exact walkD_call hw hd hx h1 h2
  · exact h.elim
end

section
variable {nt : Nat} {ops : Array Oper} {o : Oper} {rest : List Oper} {A : ASt}
def isCall (o : Oper) : Bool := match o.op with
  | .call c => (match c.callee with
    | .value _ => true
    | _ => false)
  | _ => false
theorem walkS_op2 (M : List Nat) {K : ASt → Prop} (_hc : isCall o = false) (hw : wantedA ops o A = some true) (h : stepE P M nt o A fun _ E => walkS P nt ops rest (A.apply o.dst E) K) : walkS P nt ops (o :: rest) A K := walkS_op M hw h
theorem walkD_op2 (M : List Nat) {K : ASt → List Done → Prop} {tr : List Done} (_hc : isCall o = false) (hw : wantedA ops o A = some true) (h : stepE P M nt o A fun lo E => walkD P nt ops K rest (A.apply o.dst E) (⟨o, lo, E⟩ :: tr)) : walkD P nt ops K (o :: rest) A tr := walkD_op M hw h
theorem walkS_call3 {K : ASt → Prop} (_hc : isCall o = true) (hw : wantedA ops o A = some true) (hd : dstOK nt o = true) (h : callK A o fun g xs => ∃ rs, ACalls P g xs (· = rs) ∧ walkS P nt ops rest (A.put o.dst (resAV rs)) K) : walkS P nt ops (o :: rest) A K := walkS_call2 hw hd h
theorem walkD_call3 {K : ASt → List Done → Prop} {tr : List Done} (_hc : isCall o = true) (hw : wantedA ops o A = some true) (hd : dstOK nt o = true)
    (h : callK A o fun g xs => ∃ rs, ACalls P g xs (· = rs) ∧ walkD P nt ops K rest (A.put o.dst (resAV rs)) (⟨o, none, { val := resAV rs }⟩ :: tr)) : walkD P nt ops K (o :: rest) A tr := walkD_call2 hw hd h
end

def okFresh (A : ASt) (tr : List Done) : Bool := tr.all fun d => !d.E.fresh || match updOf d with
  | some l => unusedB A l
  | none => true
def okTrace (ops : List Oper) (A : ASt) (tr : List Done) : Bool :=
  okPairs tr.length (ancs ops []) (confLocs tr) && okAhead tr.length (ancs ops []) (confFresh tr) && okFresh A tr
theorem okTrace_spec {ops : List Oper} {A : ASt} {tr : List Done} (h : okTrace ops A tr = true) : OkTrace ops A tr := by
  unfold okTrace at h
  simp only [Bool.and_eq_true] at h
  refine ⟨h.1.1, h.1.2, fun d hd hf l hl => ?_⟩
  have := List.all_eq_true.1 h.2 d hd
  rw [hf, hl] at this
  exact unusedB_spec (by simpa using this)

/-- 'pick' of tests -/
theorem pick_true (a b : Option AV) : (match boolAV (.p (.d (.v (.bool true)))) with
  | some t => (match t with | true => a | false => b)
  | none => none) = a := rfl

-- the equations of what is worked out in a walk, made here once
theorem mapEv_eqns : True := have := @mapEv.eq_1; trivial
theorem stepE_eqns : True := have := @stepE.eq_1; trivial
theorem callAV_eqns : True := have := @callAV.eq_1; trivial
theorem callK_eqns : True := have := @callK.eq_1; trivial
theorem isCall_eqns : True := have := @isCall.eq_1; trivial
end Go.Proofs.Ytfcfhlfehomhpaa.AL

/- Many operations in one step. -/
namespace Go.Proofs.Ytfcfhlfehomhpaa.AL
open Go.RowKit
variable {P : Program}

section
variable (P : Program) (M : List Nat) (nt : Nat) (ops : Array Oper)
def runS : List Oper → ASt → (ASt → List Oper → Prop) → Prop
  | [], A, K => K A []
  | o :: rest, A, K => match wantedA ops o A with
    | some true => match isCall o with
      | true => K A (o :: rest)
      | false => match opEff P M o (mapEv A o.op.operands.toList) (A.locAt (locNeed o (mapEv A o.op.operands.toList))) with
        | some E => dstOK nt o = true ∧ E.obl ∧ effOK A (locNeed o (mapEv A o.op.operands.toList)) E ∧ runS rest (A.apply o.dst E) K
        | none => False
    | some false => dstOK nt o = true ∧ runS rest (A.put o.dst .undef) K
    | none => K A (o :: rest)
def runC (o : Oper) (rest : List Oper) (A : ASt) (lo : Option Nat) (K : ASt → List Oper → Prop) : Option Eff → Prop
  | some E => dstOK nt o = true ∧ E.obl ∧ effOK A lo E ∧ runS P M nt ops rest (A.apply o.dst E) K
  | none => False
def runB (o : Oper) (rest : List Oper) (A : ASt) (K : ASt → List Oper → Prop) : List AV → Prop
  | xs => runC P M nt ops o rest A (locNeed o xs) K (opEff P M o xs (A.locAt (locNeed o xs)))
def runA (o : Oper) (rest : List Oper) (A : ASt) (K : ASt → List Oper → Prop) : Option Bool → Bool → Prop
  | some true, true => K A (o :: rest)
  | some true, false => runB P M nt ops o rest A K (mapEv A o.op.operands.toList)
  | some false, _ => dstOK nt o = true ∧ runS P M nt ops rest (A.put o.dst .undef) K
  | none, _ => K A (o :: rest)
def runD : List Oper → ASt → List Done → (ASt → List Oper → List Done → Prop) → Prop
  | [], A, tr, K => K A [] tr
  | o :: rest, A, tr, K => match wantedA ops o A with
    | some true => match isCall o with
      | true => K A (o :: rest) tr
      | false => match opEff P M o (mapEv A o.op.operands.toList) (A.locAt (locNeed o (mapEv A o.op.operands.toList))) with
        | some E => dstOK nt o = true ∧ E.obl ∧ effOK A (locNeed o (mapEv A o.op.operands.toList)) E ∧ runD rest (A.apply o.dst E) (⟨o, locNeed o (mapEv A o.op.operands.toList), E⟩ :: tr) K
        | none => False
    | some false => dstOK nt o = true ∧ runD rest (A.put o.dst .undef) (⟨o, none, { val := .undef }⟩ :: tr) K
    | none => K A (o :: rest) tr
def runCD (o : Oper) (rest : List Oper) (A : ASt) (tr : List Done) (lo : Option Nat) (K : ASt → List Oper → List Done → Prop) : Option Eff → Prop
  | some E => dstOK nt o = true ∧ E.obl ∧ effOK A lo E ∧ runD P M nt ops rest (A.apply o.dst E) (⟨o, lo, E⟩ :: tr) K
  | none => False
def runBD (o : Oper) (rest : List Oper) (A : ASt) (tr : List Done) (K : ASt → List Oper → List Done → Prop) : List AV → Prop
  | xs => runCD P M nt ops o rest A tr (locNeed o xs) K (opEff P M o xs (A.locAt (locNeed o xs)))
def runAD (o : Oper) (rest : List Oper) (A : ASt) (tr : List Done) (K : ASt → List Oper → List Done → Prop) : Option Bool → Bool → Prop
  | some true, true => K A (o :: rest) tr
  | some true, false => runBD P M nt ops o rest A tr K (mapEv A o.op.operands.toList)
  | some false, _ => dstOK nt o = true ∧ runD P M nt ops rest (A.put o.dst .undef) (⟨o, none, { val := .undef }⟩ :: tr) K
  | none, _ => K A (o :: rest) tr
end
section
variable {M : List Nat} {nt : Nat} {ops : Array Oper}
theorem runS_nil (A : ASt) (K : ASt → List Oper → Prop) : runS P M nt ops [] A K = K A [] := rfl
theorem runS_cons (o : Oper) (rest : List Oper) (A : ASt) (K : ASt → List Oper → Prop) : runS P M nt ops (o :: rest) A K = runA P M nt ops o rest A K (wantedA ops o A) (isCall o) := by
  simp only [runS, runA, runB, runC]
  cases wantedA ops o A with
  | none => rfl
  | some b => cases b <;> cases isCall o <;> first | rfl | (simp only []; split <;> rename_i h <;> simp only [h])
theorem runD_nil (A : ASt) (tr : List Done) (K : ASt → List Oper → List Done → Prop) : runD P M nt ops [] A tr K = K A [] tr := rfl
theorem runD_cons (o : Oper) (rest : List Oper) (A : ASt) (tr : List Done) (K : ASt → List Oper → List Done → Prop) : runD P M nt ops (o :: rest) A tr K = runAD P M nt ops o rest A tr K (wantedA ops o A) (isCall o) := by
  simp only [runD, runAD, runBD, runCD]
  cases wantedA ops o A with
  | none => rfl
  | some b => cases b <;> cases isCall o <;> first | rfl | (simp only []; split <;> rename_i h <;> simp only [h])
end
theorem walkS_run (M : List Nat) {nt : Nat} {ops : Array Oper} {K : ASt → Prop} : ∀ (l : List Oper) (A : ASt), runS P M nt ops l A (fun A' l' => walkS P nt ops l' A' K) → walkS P nt ops l A K
  | [], A, h => h
  | o :: rest, A, h => by
    unfold runS at h
    split at h
    · rename_i hw
      split at h
      · exact h
      · split at h
        · rename_i E hE
          rw [mapEv_eq] at hE h
          exact ⟨_, (opDo_eff h.1 hw hE h.2.1 h.2.2.1).step, walkS_run M rest _ h.2.2.2⟩
        · exact h.elim
    · rename_i hw
      exact walkS_skip hw h.1 (walkS_run M rest _ h.2)
    · exact h
theorem walkD_run (M : List Nat) {nt : Nat} {ops : Array Oper} {K : ASt → List Done → Prop} : ∀ (l : List Oper) (A : ASt) (tr : List Done), runD P M nt ops l A tr (fun A' l' tr' => walkD P nt ops K l' A' tr') → walkD P nt ops K l A tr
  | [], A, tr, h => h
  | o :: rest, A, tr, h => by
    unfold runD at h
    split at h
    · rename_i hw
      split at h
      · exact h
      · split at h
        · rename_i E hE
          rw [mapEv_eq] at hE h
          exact ⟨_, E, opDo_eff h.1 hw hE h.2.1 h.2.2.1, walkD_run M rest _ _ h.2.2.2⟩
        · exact h.elim
    · rename_i hw
      exact walkD_skip hw h.1 (walkD_run M rest _ _ h.2)
    · exact h
theorem runA_eqns : True := have := @runA.eq_1; trivial
theorem runB_eqns : True := have := @runB.eq_1; trivial
theorem runC_eqns : True := have := @runC.eq_1; trivial
theorem runAD_eqns : True := have := @runAD.eq_1; trivial
theorem runBD_eqns : True := have := @runBD.eq_1; trivial
theorem runCD_eqns : True := have := @runCD.eq_1; trivial
/-- what a contract says, said out -/
theorem acalls_iff {P : Program} {f : FuncId} {xs : List PV} {Q : List PV → Prop} : ACalls P f xs Q ↔ ∀ (w : World) (g : Nat → Nat) (vs : List Value), GZ w g → RelPs w g vs xs →
    CallRes P (fun v w' => ∃ g' rs, Ext w g w' g' ∧ Q rs ∧ RelR w' g' v rs) ((callFunc f vs.toArray).run P w) := Iff.rfl
theorem acalls_awp {P : Program} {nt : Nat} {c : Code} {Q : Exit → ASt → Prop} {A : ASt} : AWP P nt c Q A ↔ ∀ (w0 : Base) (g0 : Nat → Nat) (h : Gh) (a : Act) (w : World), Rel w0 g0 nt A h a w → c.wp P (fun e a' w' => ∃ A' h', Q e A' ∧ Rel w0 g0 nt A' h' a' w') a w := Iff.rfl
theorem walkS_cons {P : Program} {nt : Nat} {ops : Array Oper} {o : Oper} {rest : List Oper} {A : ASt} {K : ASt → Prop} (A' : ASt) (h : StepS P nt ops o A A') (k : walkS P nt ops rest A' K) : walkS P nt ops (o :: rest) A K := ⟨A', h, k⟩
theorem walkS_end {P : Program} {nt : Nat} {ops : Array Oper} {A : ASt} {K : ASt → Prop} (h : K A) : walkS P nt ops [] A K := h
theorem walkD_end {P : Program} {nt : Nat} {ops : Array Oper} {A : ASt} {tr : List Done} {K : ASt → List Done → Prop} (h : K A tr.reverse) : walkD P nt ops K [] A tr := h
attribute [irreducible] ACalls AWP walkS walkD
end Go.Proofs.Ytfcfhlfehomhpaa.AL
