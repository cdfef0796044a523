/- Part 1 of a proof: lemmas beneath the theorem that the last text bears. Conditions: none. -/
import Derived.WalkKit
import Derived.WalkSpells
import Derived.WalkLawsBesides
import Derived.Orders
import Derived.Great.BuildSlice
import Derived.Deep.AppendSrc
import Derived.Deep.OwnRows
import Derived.Lib.ConvBytes
import Derived.Laws.BytesArg
set_option linter.unusedSimpArgs false
set_option linter.unusedVariables false
namespace Go.Proofs.Ytjfammnjpeeahaa.AL
open Go.RowKit
inductive Dat where
 | v (x : Value)
 | sl (sz n : Nat) (f : Nat → List Dat)
 | bx (cs : List Dat)
 | bf (n : Nat) (f : Nat → Dat)
instance : Inhabited Dat := ⟨.v undef⟩
inductive RelD (w : World) (g : Nat → Nat) : Value → Dat → Prop
 | v (x : Value) (h : x.oneCell' = true) : RelD w g x (.v x)
 | sl0 (a : Option Addr) (c sz : Nat) (f : Nat → List Dat) : RelD w g (.slice a 0 c) (.sl sz 0 f)
 | sl (b off n c sz : Nat) (f : Nat → List Dat) (u : Nat → Nat → Value) (hn : n ≤ c) (hl : ∀ i,i < n → (f i).length = sz)
   (hc : ∀ i j,i < n → j < sz → w.cell? ⟨b,off + i * sz + j,none⟩ = some (u i j)) (hg : off + n * sz ≤ g b)
   (hr : ∀ i j x,i < n → (f i)[j]? = some x → RelD w g (u i j) x) : RelD w g (.slice (some ⟨b,off,none⟩) n c) (.sl sz n f)
 | bx (b off : Nat) (cs : List Dat) (u : Nat → Value)
   (hc : ∀ j,j < cs.length → w.cell? ⟨b,off + j,none⟩ = some (u j)) (hg : off + cs.length ≤ g b)
   (hr : ∀ j x,cs[j]? = some x → RelD w g (u j) x) : RelD w g (.pointer (some ⟨b,off,none⟩)) (.bx cs)
 | bf (b off n : Nat) (f : Nat → Dat) (u : Nat → Value)
   (hc : ∀ j,j < n → w.cell? ⟨b,off + j,none⟩ = some (u j)) (hg : off + n ≤ g b)
   (hr : ∀ j,j < n → RelD w g (u j) (f j)) : RelD w g (.pointer (some ⟨b,off,none⟩)) (.bf n f)
theorem RelD.one {w : World} {g : Nat → Nat} {v : Value} {d : Dat} (h : RelD w g v d) : v.oneCell' = true := by
 cases h <;> first | assumption | rfl
structure Keep (w : World) (g : Nat → Nat) (w' : World) (g' : Nat → Nat) : Prop where
 gam : ∀ b,g b ≤ g' b
 cell : ∀ b o,o < g b → w'.cell? ⟨b,o,none⟩ = w.cell? ⟨b,o,none⟩
theorem Keep.refl (w : World) (g : Nat → Nat) : Keep w g w g := ⟨fun _ => Nat.le_refl _,fun _ _ _ => rfl⟩
theorem Keep.trans {w w' w'' : World} {g g' g'' : Nat → Nat} (h : Keep w g w' g') (k : Keep w' g' w'' g'') : Keep w g w'' g'' :=
 ⟨fun b => Nat.le_trans (h.gam b) (k.gam b),fun b o ho => (k.cell b o (Nat.lt_of_lt_of_le ho (h.gam b))).trans (h.cell b o ho)⟩
theorem RelD.keep {w w' : World} {g g' : Nat → Nat} (k : Keep w g w' g') {v : Value} {d : Dat} (h : RelD w g v d) : RelD w' g' v d := by
 induction h with
 | v x h => exact .v x h
 | sl0 a c sz f => exact .sl0 a c sz f
 |sl b off n c sz f u hn hl hc hg hr ih =>
  refine .sl b off n c sz f u hn hl (fun i j hi hj => ?_) (Nat.le_trans hg (k.gam b)) ih
  rw [k.cell b _ _,hc i j hi hj]
  have : (i + 1) * sz ≤ n * sz := Nat.mul_le_mul_right _ hi
  rw [Nat.add_mul,Nat.one_mul] at this
  omega
 |bx b off cs u hc hg hr ih =>
  refine .bx b off cs u (fun j hj => ?_) (Nat.le_trans hg (k.gam b)) ih
  rw [k.cell b _ (by omega),hc j hj]
 |bf b off n f u hc hg hr ih =>
  refine .bf b off n f u (fun j hj => ?_) (Nat.le_trans hg (k.gam b)) ih
  rw [k.cell b _ (by omega),hc j hj]
theorem RelD.sl_congr {w : World} {g : Nat → Nat} {v : Value} {sz n : Nat} {f f' : Nat → List Dat} (h : RelD w g v (.sl sz n f)) (hf : ∀ i,i < n → f i = f' i) : RelD w g v (.sl sz n f') := by
 cases h with
 | sl0 a c => exact .sl0 a c sz f'
 |sl b off _ c _ _ u hn hl hc hg hr =>
  exact .sl b off n c sz f' u hn (fun i hi => hf i hi ▸ hl i hi) hc hg (fun i j x hi hx => hr i j x hi (by rw [hf i hi];exact hx))
theorem RelD.nil {w : World} {g : Nat → Nat} {v : Value} (h : RelD w g v (.v (.slice none 0 0))) (sz : Nat) (f : Nat → List Dat) : RelD w g v (.sl sz 0 f) := by
 cases h with
 | v _ _ => exact .sl0 _ _ _ _
theorem RelD.empty {w : World} {g : Nat → Nat} {v : Value} {sz : Nat} {f : Nat → List Dat} (h : RelD w g v (.sl sz 0 f)) (sz' : Nat) (f' : Nat → List Dat) : RelD w g v (.sl sz' 0 f') := by
 cases h with
 | sl0 a c => exact .sl0 _ _ _ _
 | sl => exact .sl0 _ _ _ _
inductive PV where
 | d (x : Dat)
 | agg (cs : List Dat)
 | arr (n : Nat) (f : Nat → Dat)
 | fn (f : Fn) (first caps : List PV)
instance : Inhabited PV := ⟨.d default⟩
inductive RelP (w : World) (g : Nat → Nat) : Value → PV → Prop
 | d (v : Value) (x : Dat) (h : RelD w g v x) : RelP w g v (.d x)
 | agg (vs : List Value) (cs : List Dat) (hl : vs.length = cs.length) (hr : ∀ (j : Nat) v x,vs[j]? = some v → cs[j]? = some x → RelD w g v x) : RelP w g (.agg vs.toArray) (.agg cs)
 | arr (vs : List Value) (n : Nat) (f : Nat → Dat) (hl : vs.length = n) (hr : ∀ (j : Nat) v,vs[j]? = some v → RelD w g v (f j)) : RelP w g (.agg vs.toArray) (.arr n f)
 | fn (f : Fn) (vs us : List Value) (first caps : List PV) (hl : vs.length = first.length) (hm : us.length = caps.length)
   (hr : ∀ (j : Nat) v x,vs[j]? = some v → first[j]? = some x → RelP w g v x) (hs : ∀ (j : Nat) v x,us[j]? = some v → caps[j]? = some x → RelP w g v x) :
   RelP w g (.func f vs.toArray us.toArray) (.fn f first caps)
theorem RelP.keep {w w' : World} {g g' : Nat → Nat} (k : Keep w g w' g') {v : Value} {d : PV} (h : RelP w g v d) : RelP w' g' v d := by
 induction h with
 | d v x h => exact .d v x (h.keep k)
 | agg vs cs hl hr => exact .agg vs cs hl fun j v x hv hx => (hr j v x hv hx).keep k
 | arr vs n f hl hr => exact .arr vs n f hl fun j v hv => (hr j v hv).keep k
 | fn f vs us first caps hl hm hr hs ih1 ih2 => exact .fn f vs us first caps hl hm ih1 ih2
def RelPs (w : World) (g : Nat → Nat) (vs : List Value) (xs : List PV) : Prop :=
 vs.length = xs.length ∧ ∀ (j : Nat) v x,vs[j]? = some v → xs[j]? = some x → RelP w g v x
theorem RelPs.keep {w w' : World} {g g' : Nat → Nat} (k : Keep w g w' g') {vs : List Value} {xs : List PV} (h : RelPs w g vs xs) : RelPs w' g' vs xs :=
 ⟨h.1,fun j v x hv hx => (h.2 j v x hv hx).keep k⟩
theorem RelPs.nil (w : World) (g : Nat → Nat) : RelPs w g [] [] := ⟨rfl,fun j v x hv => by simp at hv⟩
theorem RelPs.cons {w : World} {g : Nat → Nat} {v : Value} {x : PV} {vs : List Value} {xs : List PV} (h : RelP w g v x) (t : RelPs w g vs xs) : RelPs w g (v :: vs) (x :: xs) := by
 refine ⟨by simp [t.1],fun j v' x' hv hx => ?_⟩
 cases j with
 | zero => simp at hv hx;subst hv;subst hx;exact h
 | succ j => simp at hv hx;exact t.2 j v' x' hv hx
theorem RelPs.cons_inv {w : World} {g : Nat → Nat} {x : PV} {vs : List Value} {xs : List PV} (h : RelPs w g vs (x :: xs)) :
  ∃ v vs',vs = v :: vs' ∧ RelP w g v x ∧ RelPs w g vs' xs := by
 cases vs with
 | nil => simp [RelPs] at h
 |cons v vs' =>
  refine ⟨v,vs',rfl,h.2 0 v x rfl rfl,by simpa using h.1,fun j v' x' hv hx => h.2 (j + 1) v' x' (by simpa using hv) (by simpa using hx)⟩
theorem RelPs.append {w : World} {g : Nat → Nat} {vs us : List Value} {xs ys : List PV} (h : RelPs w g vs xs) (t : RelPs w g us ys) : RelPs w g (vs ++ us) (xs ++ ys) := by
 refine ⟨by simp [h.1,t.1],fun j v x hv hx => ?_⟩
 by_cases hj : j < vs.length
 ·rw [List.getElem?_append_left hj] at hv
  rw [List.getElem?_append_left (h.1 ▸ hj)] at hx
  exact h.2 j v x hv hx
 ·rw [List.getElem?_append_right (by omega)] at hv
  rw [List.getElem?_append_right (by have := h.1;omega),← h.1] at hx
  exact t.2 _ v x hv hx
def RelR (w : World) (g : Nat → Nat) (v : Value) : List PV → Prop
 | [x] => RelP w g v x
 | xs => ∃ vs : List Value,v = .tuple vs.toArray ∧ RelPs w g vs xs
structure Ext (w : World) (g : Nat → Nat) (w' : World) (g' : Nat → Nat) : Prop where
 below : Below w.heap.size w w'
 gam : ∀ b,b < w.heap.size → g' b = g b
 gz : ∀ b,w'.heap.size ≤ b → g' b = 0
def GZ (w : World) (g : Nat → Nat) : Prop := ∀ b,w.heap.size ≤ b → g b = 0
theorem Ext.refl {w : World} {g : Nat → Nat} (h : GZ w g) : Ext w g w g := ⟨Below.refl _ _,fun _ _ => rfl,h⟩
theorem Ext.keep {w w' : World} {g g' : Nat → Nat} (h : Ext w g w' g') (hz : GZ w g) : Keep w g w' g' := by
 refine ⟨fun b => ?_,fun b o ho => ?_⟩
 ·by_cases hb : b < w.heap.size
  ·exact Nat.le_of_eq (h.gam b hb).symm
  ·rw [hz b (by omega)];exact Nat.zero_le _
 ·have hb : b < w.heap.size := by
   by_cases hb : b < w.heap.size
   ·exact hb
   ·rw [hz b (by omega)] at ho;omega
  exact h.below.cell (p := ⟨b,o,none⟩) hb
theorem Ext.trans {w w' w'' : World} {g g' g'' : Nat → Nat} (h : Ext w g w' g') (k : Ext w' g' w'' g'') : Ext w g w'' g'' :=
 ⟨h.below.trans (k.below.mono h.below.size),fun b hb => (k.gam b (Nat.lt_of_lt_of_le hb h.below.size)).trans (h.gam b hb),k.gz⟩
def NewIn (B : Nat → Prop) (w : World) : Prop := ∀ b,w.heap.size ≤ b → B b
theorem NewIn.lt {B : Nat → Prop} {w : World} (h : NewIn B w) {b : Nat} (hb : ¬ B b) : b < w.heap.size := Nat.lt_of_not_le fun hle => hb (h b hle)
structure BelowS (B : Nat → Prop) (w w' : World) : Prop where
 os : w'.os = w.os
 tape : w'.tape = w.tape
 output : w'.output = w.output
 size : w.heap.size ≤ w'.heap.size
 block : ∀ k,k < w.heap.size → ¬ B k → w'.heap[k]? = w.heap[k]?
theorem BelowS.refl (B : Nat → Prop) (w : World) : BelowS B w w := ⟨rfl,rfl,rfl,Nat.le_refl _,fun _ _ _ => rfl⟩
theorem BelowS.trans {B : Nat → Prop} {a b c : World} (h : BelowS B a b) (k : BelowS B b c) : BelowS B a c :=
 ⟨k.os.trans h.os,k.tape.trans h.tape,k.output.trans h.output,Nat.le_trans h.size k.size,fun i hi hB => (k.block i (Nat.lt_of_lt_of_le hi h.size) hB).trans (h.block i hi hB)⟩
theorem BelowS.drew {B : Nat → Prop} {a w : World} (h : BelowS B a w) : BelowS B a w.drew := ⟨h.os,h.tape,h.output,h.size,h.block⟩
theorem BelowS.alloc {B : Nat → Prop} {a w : World} (h : BelowS B a w) (o : Obj) : BelowS B a (w.alloc o) :=
 h.trans ⟨rfl,rfl,rfl,by simp,fun k hk _ => Below.heap_alloc _ _ _ hk⟩
theorem BelowS.newIn {B : Nat → Prop} {w w' : World} (h : BelowS B w w') (k : NewIn B w) : NewIn B w' := fun b hb => k b (Nat.le_trans h.size hb)
theorem Ext.belowS {B : Nat → Prop} {w w' : World} {g g' : Nat → Nat} (h : Ext w g w' g') : BelowS B w w' := ⟨h.below.os,h.below.tape,h.below.output,h.below.size,fun k hk _ => h.below.block k hk⟩
structure Base where
 w : World
 O : Nat → Prop
 new : NewIn O w
 ρ : Nat → Nat := id
 κ : Nat → Value := fun _ => undef
 μ : Nat → Nat := fun _ => 0
structure ExtS (w0 : Base) (g0 : Nat → Nat) (w : World) (g : Nat → Nat) : Prop where
 below : BelowS w0.O w0.w w
 gam : ∀ b,¬ w0.O b → g b = g0 b
 gz : GZ w g
 keep : Keep w0.w g0 w g
theorem ExtS.refl (w0 : Base) {g : Nat → Nat} (h : GZ w0.w g) : ExtS w0 g w0.w g := ⟨BelowS.refl _ _,fun _ _ => rfl,h,Keep.refl _ _⟩
theorem ExtS.newIn {w0 : Base} {g0 g : Nat → Nat} {w : World} (h : ExtS w0 g0 w g) : NewIn w0.O w := h.below.newIn w0.new
def Base.of (w : World) : Base := ⟨w,fun b => w.heap.size ≤ b,fun _ h => h,id,fun _ => undef,fun _ => 0⟩
theorem ExtS.toExt {w : World} {g0 g : Nat → Nat} {w' : World} (h : ExtS (Base.of w) g0 w' g) : Ext w g0 w' g :=
 ⟨⟨h.below.os,h.below.tape,h.below.output,h.below.size,fun k hk => h.below.block k hk (by show ¬ w.heap.size ≤ k;omega)⟩,fun b hb => h.gam b (by show ¬ w.heap.size ≤ b;omega),h.gz⟩
def CallRes (P : Program) (R : Value → World → Prop) : Result Next → Prop
 | .ok (.enter f args) w => Calls P f args w fun e w' => ∃ v,e = .returned v ∧ R v w'
 | .ok (.value v) w => R v w
 | _ => False
inductive CV where
 | p (x : PV)
 | loc (l off : Nat)
 | ow (l gen sz n : Nat)
 | mp (l : Nat)
 | a1 (l off : Nat)
def CV.mentions : CV → List Nat
 | .p _ => []
 | .loc l _ => [l]
 | .ow l .. => [l]
 | .mp l => [l]
 | .a1 l _ => [l]
inductive AV where
 | ow (l gen sz n : Nat)
 | el (l gen sz i j : Nat)
 | cl (f : Fn) (first caps : List CV)
 | top
 | undef
 | p (x : PV)
 | loc (l off : Nat)
 | gr (l gen sz n : Nat) (f : Nat → List Dat)
 | row (l sz off n : Nat)
 | tup (xs : List PV)
 | mp (l : Nat)
 | ag (cs : List CV)
 | is (Q : Value → Prop)
 | ex (b sz i j : Nat)
instance : Inhabited AV := ⟨.top⟩
def AV.mentions : AV → List Nat
 | .ow l .. => [l]
 | .el l .. => [l]
 | .cl _ a b => (a ++ b).flatMap CV.mentions
 | .loc l _ => [l]
 | .gr l .. => [l]
 | .row l .. => [l]
 | .mp l => [l]
 | .ag cs => cs.flatMap CV.mentions
 | _ => []
structure Gh where
 g : Nat → Nat
 ρ : Nat → Nat
 κ : Nat → Value
 μ : Nat → Nat
def RelOw (h : Gh) (v : Value) (l gen n : Nat) : Prop := gen ≤ h.μ l ∧ (∃ a c,v = .slice a n c ∧ (0 < n → ∃ b,a = some ⟨b,0,none⟩)) ∧ (h.μ l = gen → v = h.κ l)
def RelCV (w : World) (h : Gh) (v : Value) : CV → Prop
 | .p x => RelP w h.g v x
 | .loc l off => v = .pointer (some ⟨h.ρ l,off,none⟩)
 | .ow l gen _ n => RelOw h v l gen n
 | .mp l => v = .map (some (h.ρ l))
 | .a1 l off => v = .agg #[.pointer (some ⟨h.ρ l,off,none⟩)]
def RelCs (w : World) (h : Gh) (vs : List Value) (cs : List CV) : Prop := vs.length = cs.length ∧ ∀ (j : Nat) v c,vs[j]? = some v → cs[j]? = some c → RelCV w h v c
def RelA (w : World) (h : Gh) (v : Value) : AV → Prop
 | .ow l gen _ n => RelOw h v l gen n
 | .el l gen sz i j => gen ≤ h.μ l ∧ ∃ b,v = .pointer (some ⟨b,i * sz + j,none⟩) ∧ (h.μ l = gen → (h.κ l).ownBlock = some b)
 | .cl f first caps => ∃ vs us : List Value,v = .func f vs.toArray us.toArray ∧ RelCs w h vs first ∧ RelCs w h us caps
 | .top => True
 | .undef => v = _root_.Go.undef
 | .p x => RelP w h.g v x
 | .loc l off => v = .pointer (some ⟨h.ρ l,off,none⟩)
 | .gr l gen sz n f => RelD w h.g v (.sl sz n f) ∧ gen ≤ h.μ l ∧ (h.μ l = gen → v = h.κ l)
 | .row l sz off n => ∃ c,v = .slice (some ⟨h.ρ l,off * sz,none⟩) n c ∧ n ≤ c
 | .tup xs => ∃ vs : List Value,v = .tuple vs.toArray ∧ RelPs w h.g vs xs
 | .mp l => v = .map (some (h.ρ l))
 | .ag cs => ∃ vs : List Value,v = .agg vs.toArray ∧ RelCs w h vs cs ∧ ∀ u ∈ vs,u.oneCell' = true
 | .is Q => Q v
 | .ex b sz i j => v = .pointer (some ⟨b,i * sz + j,none⟩)
structure Ent where
 e : TypeId
 sz : Nat
 cap : Nat
 n : Nat
 f : Nat → List Dat
inductive LV where
 | cells (e : TypeId) (cs : List AV)
 | arr (e : TypeId) (n : Nat) (f : Nat → Dat)
 | grow (e : TypeId) (sz n gen : Nat)
 | own (e : TypeId) (sz n gen : Nat) (f : Nat → List Dat)
 | fz (e : TypeId) (cs : List AV)
 | map (ks : List IntKind) (es : List (List Int × PV))
 | raw (M : Nat → Option Ent)
 | blk (e : TypeId) (sz n : Nat) (f : Nat → List Dat)
 | obj (o : Obj)
def LV.mentions : LV → List Nat
 | .cells _ cs => cs.flatMap AV.mentions
 | .fz _ cs => cs.flatMap AV.mentions
 | _ => []
def keyVal : List IntKind → List Int → Value
 | [k],[x] => .int k x
 | ks,xs => .agg (List.zipWith Value.int ks xs).toArray
structure MapIs (w : World) (g : Nat → Nat) (ks : List IntKind) (arr : Array MapEntry) (clock : Nat) (es : List (List Int × PV)) : Prop where
 size : arr.size = es.length
 at' : ∀ (i : Nat) e p,arr[i]? = some e → es[i]? = some p → e.key = keyVal ks p.1 ∧ p.1.length = ks.length ∧ RelP w g e.val p.2
 born : ∀ (i : Nat) e,arr[i]? = some e → e.born < clock
 inj : ∀ (i j : Nat) e e',arr[i]? = some e → arr[j]? = some e' → e.born = e'.born → i = j
theorem MapIs.keep {w w' : World} {g g' : Nat → Nat} (k : Keep w g w' g') {ks : List IntKind} {arr : Array MapEntry} {clock : Nat} {es : List (List Int × PV)} (h : MapIs w g ks arr clock es) : MapIs w' g' ks arr clock es :=
 ⟨h.size,fun i e p a b => ⟨(h.at' i e p a b).1,(h.at' i e p a b).2.1,(h.at' i e p a b).2.2.keep k⟩,h.born,h.inj⟩
def RowIs (w : World) (g : Nat → Nat) (sz n : Nat) (xs : List Value) (f : Nat → List Dat) : Prop :=
 (∀ i,i < n → (f i).length = sz) ∧ ∀ i j d,i < n → j < sz → (f i)[j]? = some d → ∃ u,xs[i * sz + j]? = some u ∧ RelD w g u d
def EntOK (w : World) (g : Nat → Nat) (b : Nat) (E : Ent) : Prop :=
 ∃ cur : Array Value,w.heap[b]? = some (.cells cur E.e (0,0)) ∧ cur.size = E.cap * E.sz ∧ E.n ≤ E.cap ∧ E.cap ≤ maxLen ∧ RowIs w g E.sz E.n (cur.toList.take (E.n * E.sz)) E.f
theorem RowIs.keep {w w' : World} {g g' : Nat → Nat} (k : Keep w g w' g') {sz n : Nat} {xs : List Value} {f : Nat → List Dat} (h : RowIs w g sz n xs f) : RowIs w' g' sz n xs f :=
 ⟨h.1,fun i j d hi hj hd => by obtain ⟨u,h1,h2⟩ := h.2 i j d hi hj hd;exact ⟨u,h1,h2.keep k⟩⟩
theorem EntOK.keep {w w' : World} {g g' : Nat → Nat} (k : Keep w g w' g') {b : Nat} {E : Ent} (hb : w'.heap[b]? = w.heap[b]?) (h : EntOK w g b E) : EntOK w' g' b E := by
 obtain ⟨cur,h1,h2,h3,h4,h5⟩ := h
 exact ⟨cur,hb.trans h1,h2,h3,h4,h5.keep k⟩
def LocOK (B : Nat → Prop) (w : World) (h : Gh) (l : Nat) : LV → Prop
 | .cells e cs => ∃ arr : Array Value,B (h.ρ l) ∧ w.heap[h.ρ l]? = some (.cells arr e (0,0)) ∧ arr.size = cs.length ∧ h.g (h.ρ l) = 0 ∧
   ∀ (i : Nat) v x,arr[i]? = some v → cs[i]? = some x → RelA w h v x ∧ v.oneCell' = true
 | .arr e n f => ∃ (arr : Array Value) (fz : Nat × Nat),B (h.ρ l) ∧ w.heap[h.ρ l]? = some (.cells arr e fz) ∧ (fz = (0,0) ∨ arr.size ≤ fz.1) ∧ n ≤ arr.size ∧ h.g (h.ρ l) = 0 ∧
   ∀ (i : Nat) v,i < n → arr[i]? = some v → RelD w h.g v (f i)
 | .grow e sz n gen => h.μ l = gen ∧ (∃ xs,w.ownsRow 0 e sz (h.κ l) n xs) ∧ (∀ b c,h.κ l = .slice (some ⟨b,0,none⟩) n c → h.g b = n * sz) ∧ ∀ b,(h.κ l).ownBlock = some b → B b
 | .own e sz n gen f => h.μ l = gen ∧ (∃ xs,w.ownsRow 0 e sz (h.κ l) n xs ∧ RowIs w h.g sz n xs f) ∧ ∀ b,(h.κ l).ownBlock = some b → h.g b = 0 ∧ B b
 | .fz e cs => ∃ arr : Array Value,B (h.ρ l) ∧ w.heap[h.ρ l]? = some (.cells arr e (0,0)) ∧ arr.size = cs.length ∧ h.g (h.ρ l) = arr.size ∧
   ∀ (i : Nat) v x,arr[i]? = some v → cs[i]? = some x → RelA w h v x ∧ v.oneCell' = true
 | .map ks es => ∃ (arr : Array MapEntry) (clock : Nat),B (h.ρ l) ∧ w.heap[h.ρ l]? = some (.map arr clock) ∧ h.g (h.ρ l) = 0 ∧ MapIs w h.g ks arr clock es
 | .raw M => ∀ b E,M b = some E → B b ∧ EntOK w h.g b E ∧ h.g b = 0
 | .blk e sz n f => ∃ cap,B (h.ρ l) ∧ EntOK w h.g (h.ρ l) ⟨e,sz,cap,n,f⟩ ∧ h.g (h.ρ l) = 0
 | .obj o => B (h.ρ l) ∧ w.heap[h.ρ l]? = some o ∧ h.g (h.ρ l) = 0
def inB (h : Gh) (l : Nat) : LV → Nat → Prop
 | .own .. => fun b => (h.κ l).ownBlock = some b
 | .grow .. => fun b => (h.κ l).ownBlock = some b
 | .raw M => fun b => M b ≠ none
 | _ => fun b => h.ρ l = b
structure ASt where
 fr : List (Nat × AV)
 locs : List (Nat × LV)
def look {α : Type} : List (Nat × α) → Nat → Option α
 | [],_ => none
 | (t,x) :: r,u => if t = u then some x else look r u
structure Rel (w0 : Base) (g0 : Nat → Nat) (nt : Nat) (A : ASt) (h : Gh) (a : Act) (w : World) : Prop where
 size : a.tmps.size = nt
 defers : a.defers = []
 fr : ∀ t x,look A.fr t = some x → RelA w h (a.tmps.getD t _root_.Go.undef) x
 locs : ∀ l L,look A.locs l = some L → LocOK w0.O w h l L
 sep : ∀ l l' L L' b,l ≠ l' → look A.locs l = some L → look A.locs l' = some L' → inB h l L b → ¬ inB h l' L' b
 ext : ExtS w0 g0 w h.g
 pin : ∀ l,1000 ≤ l → h.ρ l = w0.ρ l ∧ (w0.μ l < h.μ l ∨ (h.κ l = w0.κ l ∧ h.μ l = w0.μ l))
inductive TK where
 | int (k : IntKind)
 | bool
 | string
 | ptr
 | slice (e : TypeId) (sz bytes : Nat)
 | struct (fs : List (Nat × Nat × Bool))
 | array (n : Nat) (e : TypeId) (sz : Nat) (agg : Bool)
 | other
structure TI where
 k : TK
 size : Nat
 zero : List Value
def TK.agg : TK → Bool
 | .struct _ | .array .. => true
 | _ => false
def isAggD : TypeDesc → Bool
 | .struct _ | .array .. => true
 | _ => false
def fieldOf (P : Program) (f : Field) : Option (Nat × Nat × Bool) :=
 match P.info? f.type,P.underlying f.type with
 | some i,some d => some (f.offset,i.size,isAggD d)
 | _,_ => none
def kindOf (P : Program) : TypeDesc → Option TK
 | .int k => some (.int k)
 | .bool => some .bool
 | .string => some .string
 | .pointer _ => some .ptr
 | .slice e => match P.info? e with
  | some i => some (.slice e i.size i.bytes)
  | none => none
 | .struct fs => match fs.toList.mapM (fieldOf P) with
  | some l => some (.struct l)
  | none => none
 | .array n e => match P.info? e,P.underlying e with
  | some i,some d => some (.array n e i.size (isAggD d))
  | _,_ => none
 | _ => some .other
def tiOf (P : Program) (t : TypeId) : Option TI :=
 match P.info? t,P.underlying t with
 |some i,some d => match i.zero,kindOf P d with
  | some z,some k => some ⟨k,i.size,z.cells.toList⟩
  | _,_ => none
 | _,_ => none
theorem j12 {P : Program} {t : TypeId} {ti : TI} (h : tiOf P t = some ti) :
  ∃ i d z,P.info? t = some i ∧ P.underlying t = some d ∧ i.zero = some z ∧ kindOf P d = some ti.k ∧ ti.size = i.size ∧ ti.zero = z.cells.toList := by
 unfold tiOf at h
 split at h
 ·rename_i i d hi hd
  split at h
  ·rename_i z k hz hk
   cases h
   exact ⟨i,d,z,hi,hd,hz,hk,rfl,rfl⟩
  ·cases h
 ·cases h
theorem x62 {P : Program} {d : TypeDesc} {k : TK} (h : kindOf P d = some k) : k.agg = isAggD d := by
 cases d <;> simp only [kindOf] at h
 case slice e => split at h <;> simp at h;subst h;rfl
 case struct fs => split at h <;> simp at h;subst h;rfl
 case array n e => split at h <;> simp at h;subst h;rfl
 all_goals (simp at h;subst h;rfl)
theorem z16 {P : Program} {d : TypeDesc} {e : TypeId} {sz by_ : Nat} (h : kindOf P d = some (.slice e sz by_)) :
  d = .slice e ∧ ∃ i,P.info? e = some i ∧ i.size = sz ∧ i.bytes = by_ := by
 cases d <;> simp only [kindOf] at h
 case slice e' =>
  split at h
  ·rename_i i hi;simp at h;obtain ⟨rfl,rfl,rfl⟩ := h;exact ⟨rfl,i,hi,rfl,rfl⟩
  ·cases h
 case struct fs => split at h <;> simp at h
 case array n e => split at h <;> simp at h
 all_goals simp at h
theorem j62 {P : Program} {d : TypeDesc} {n : Nat} {e : TypeId} {sz : Nat} {a : Bool} (h : kindOf P d = some (.array n e sz a)) :
  d = .array n e ∧ ∃ i de,P.info? e = some i ∧ P.underlying e = some de ∧ i.size = sz ∧ isAggD de = a := by
 cases d <;> simp only [kindOf] at h
 case array n' e' =>
  split at h
  ·rename_i i de hi hde;simp at h;obtain ⟨rfl,rfl,rfl,rfl⟩ := h;exact ⟨rfl,i,de,hi,hde,rfl,rfl⟩
  ·cases h
 case slice e => split at h <;> simp at h
 case struct fs => split at h <;> simp at h
 all_goals simp at h
theorem z34 {α β : Type} {f : α → Option β} : ∀ {l : List α} {r : List β},l.mapM f = some r → ∀ (i : Nat) y,r[i]? = some y → ∃ x,l[i]? = some x ∧ f x = some y
 | [],r,h,i,y,hy => by simp at h;subst h;simp at hy
 |x :: l,r,h,i,y,hy => by
  simp only [List.mapM_cons] at h
  cases hx : f x with
  | none => simp [hx] at h
  |some z =>
   cases hl : l.mapM f with
   | none => simp [hx,hl] at h
   |some r' =>
    simp [hx,hl] at h
    subst h
    cases i with
    | zero => simp at hy;subst hy;exact ⟨x,rfl,hx⟩
    | succ i => simp at hy;obtain ⟨x',h1,h2⟩ := z34 hl i y hy;exact ⟨x',by simpa using h1,h2⟩
theorem x34 {P : Program} {d : TypeDesc} {l : List (Nat × Nat × Bool)} (h : kindOf P d = some (.struct l)) :
  ∃ fs : Array Field,d = .struct fs ∧ fs.toList.mapM (fieldOf P) = some l := by
 cases d <;> simp only [kindOf] at h
 case struct fs =>
  split at h
  ·rename_i r hr;simp at h;subst h;exact ⟨fs,rfl,hr⟩
  ·cases h
 case array n e => split at h <;> simp at h
 case slice e => split at h <;> simp at h
 all_goals simp at h
theorem j34 {P : Program} {f : Field} {x : Nat × Nat × Bool} (h : fieldOf P f = some x) :
  ∃ i d,P.info? f.type = some i ∧ P.underlying f.type = some d ∧ x = (f.offset,i.size,isAggD d) := by
 unfold fieldOf at h
 split at h
 ·rename_i i d hi hd;cases h;exact ⟨i,d,hi,hd,rfl⟩
 ·cases h
theorem q35 {P : Program} {d : TypeDesc} {k : IntKind} (h : kindOf P d = some (.int k)) : d = .int k := by
 cases d <;> simp only [kindOf] at h
 case slice e => split at h <;> simp at h
 case struct fs => split at h <;> simp at h
 case array n e => split at h <;> simp at h
 case int k' => simp at h;subst h;rfl
 all_goals (simp at h;done)
theorem j39 {P : Program} {d : TypeDesc} (h : kindOf P d = some .string) : d = .string := by
 cases d <;> simp only [kindOf] at h
 case slice e => split at h <;> simp at h
 case struct fs => split at h <;> simp at h
 case array n e => split at h <;> simp at h
 case string => rfl
 all_goals (simp at h;done)
section
variable {P : Program} {w : World}
theorem z35 {t : TypeId} {d : TypeDesc} (h : P.underlying t = some d) : (isAgg t).run P w = .ok (isAggD d) w := by
 unfold isAgg
 simp only [Sem.run_bind,run_underlying h,Result.andThen_ok]
 cases d <;> rfl
theorem x26 {t : TypeId} {i : TypeInfo} (h : P.info? t = some i) : (sizeOf t).run P w = .ok i.size w := by
 simp [sizeOf,typeInfo,h]
theorem j15 (b o i : Nat) : (⟨b,o,none⟩ : Addr).add i = ⟨b,o + i,none⟩ := by
 unfold Addr.add;split <;> simp_all
theorem j26 {t : TypeId} {ti : TI} (h : tiOf P t = some ti) (ha : ti.k.agg = false) {b o : Nat} {v : Value} (hc : w.cell? ⟨b,o,none⟩ = some v) :
  (Instr.loadAt t (.pointer (some ⟨b,o,none⟩))).run P w = .ok v w := by
 obtain ⟨i,d,z,hi,hd,hz,hk,_,_⟩ := j12 h
 rw [x62 hk] at ha
 simp only [Instr.loadAt,Instr.sureAddr,loadVar,Sem.run_bind,Sem.run_pure,Result.andThen_ok,z35 hd,ha]
 simp [load,Sem.run,hc]
theorem x30 {t : TypeId} {ti : TI} (h : tiOf P t = some ti) (ha : ti.k.agg = true) {b o : Nat} {vs : List Value} (hl : vs.length = ti.size)
  (hc : ∀ j v,vs[j]? = some v → w.cell? ⟨b,o + j,none⟩ = some v) :
  (Instr.loadAt t (.pointer (some ⟨b,o,none⟩))).run P w = .ok (.agg vs.toArray) w := by
 obtain ⟨i,d,z,hi,hd,hz,hk,hs,_⟩ := j12 h
 rw [x62 hk] at ha
 have hl' := run_loadCells_list (P := P) w ⟨b,o,none⟩ vs (fun j v hv => by rw [j15];exact hc j v hv)
 rw [hl,hs] at hl'
 simp only [Instr.loadAt,Instr.sureAddr,loadVar,Sem.run_bind,Sem.run_pure,Result.andThen_ok,z35 hd,ha,if_true,x26 hi,hl']
theorem q63 (P : Program) (g o : Nat) (t : TypeId) (fz : Nat × Nat) : ∀ (vs : List Value) (i : Nat) (cur : Array Value) (w : World),w.heap[g]? = some (.cells cur t fz) → (fz = (0,0) ∨ cur.size ≤ fz.1) → o + i + vs.length ≤ cur.size → (∀ v ∈ vs,v.oneCell' = true) →
  (storeCells ⟨g,o,none⟩ vs i).run P w = .ok () (w.setRow g (cur.toList.take (o + i) ++ vs ++ cur.toList.drop (o + i + vs.length)).toArray)
 | [],i,cur,w,hg,_,_,_ => by
  simp only [storeCells,List.append_nil,List.length_nil,Nat.add_zero,List.take_append_drop,Array.toArray_toList]
  rw [setRow_self w g cur t fz hg]
  rfl
 |v :: rest,i,cur,w,hg,hfz,hl,h1 => by
  have hi : o + i < cur.size := by simp at hl;omega
  have hadd : (⟨g,o,none⟩ : Addr).add i = ⟨g,o + i,none⟩ := by unfold Addr.add;split <;> simp_all
  have hcell : w.cell? ⟨g,o + i,none⟩ = some cur[o + i] := by simp [World.cell?,hg,hi]
  have hfro : w.frozen? ⟨g,o + i,none⟩ = false := by
   obtain ⟨lo,hi'⟩ := fz
   simp only [World.frozen?,hg,Bool.and_eq_false_iff,decide_eq_false_iff_not]
   rcases hfz with e | e
   ·simp only [Prod.mk.injEq] at e;right;omega
   ·simp only at e;left;omega
  have hst : (store ((⟨g,o,none⟩ : Addr).add i) v).run P w = .ok () (w.setRow g (cur.setIfInBounds (o + i) v)) := by
   rw [hadd,run_store P w _ v _ (h1 v (by simp)),hcell]
   simp [hfro,setCell_eq_setRow w g (o + i) cur t fz v hg]
  have ih := q63 P g o t fz rest (i + 1) (cur.setIfInBounds (o + i) v) (w.setRow g (cur.setIfInBounds (o + i) v)) (setRow_heap w g cur _ t _ hg) (by simpa using hfz) (by simp at hl ⊢;omega) (fun x hx => h1 x (by simp [hx]))
  simp only [storeCells,Sem.run_bind,hst,Result.andThen_ok,ih,setRow_setRow]
  congr 3
  have e := list_seg_step cur.toList (o + i) v rest (by simp at hl ⊢;omega)
  simpa [Array.toList_setIfInBounds,Nat.add_assoc] using e
theorem x49 {t : TypeId} {ti : TI} (h : tiOf P t = some ti) {b o : Nat} {v : Value} {cur : Array Value} {e : TypeId}
  {fz : Nat × Nat} (hb : w.heap[b]? = some (.cells cur e fz)) (hfz : fz = (0,0) ∨ cur.size ≤ fz.1) (hv : v.cells.size = ti.size) (hfit : o + v.cells.size ≤ cur.size) (h1 : ∀ u ∈ v.cells.toList,u.oneCell' = true) :
  (Instr.storeAt t (.pointer (some ⟨b,o,none⟩)) v).run P w = .ok () (w.setRow b (cur.toList.take o ++ v.cells.toList ++ cur.toList.drop (o + v.cells.size)).toArray) := by
 obtain ⟨i,d,z,hi,hd,hz,hk,hs,_⟩ := j12 h
 have hst := q63 P b o e fz v.cells.toList 0 cur w hb hfz (by simpa using hfit) h1
 simp only [Nat.add_zero,Array.length_toList] at hst
 simp only [Instr.storeAt,Instr.sureAddr,storeVar,Sem.run_bind,Sem.run_pure,Result.andThen_ok,x26 hi]
 rw [if_neg (by rw [hv,hs];simp)]
 simpa using hst
theorem run_box (t : TypeId) (v : Value) : (Instr.box t v).run P w = .ok (.pointer (some ⟨w.heap.size,0,none⟩)) (w.alloc (.cells v.cells t)) := by
 simp [Instr.box,newVar,newRow]
theorem q94 {t : TypeId} {ti : TI} (h : tiOf P t = some ti) :
  (Instr.alloc t true (.tuple #[])).run P w = .ok (.pointer (some ⟨w.heap.size,0,none⟩)) (w.alloc (.cells ti.zero.toArray t)) := by
 obtain ⟨i,d,z,hi,hd,hz,hk,_,hzz⟩ := j12 h
 simp [Instr.alloc,zeroValue,typeInfo,hi,hz,newVar,newRow,hzz]
theorem q40 {t : TypeId} {ti : TI} (h : tiOf P t = some ti) {l : List (Nat × Nat × Bool)} (hk : ti.k = .struct l) {n off sz : Nat} {ag : Bool} (hn : l[n]? = some (off,sz,ag))
  (hsz : sz ≠ 0) {b o : Nat} :
  (Instr.fieldAt t (.pointer (some ⟨b,o,none⟩)) n).run P w = .ok (.pointer (some ⟨b,o + off,none⟩)) w := by
 obtain ⟨i,d,z,hi,hd,hz,hkk,_,_⟩ := j12 h
 rw [hk] at hkk
 obtain ⟨fs,rfl,hm⟩ := x34 hkk
 obtain ⟨f,hf,hff⟩ := z34 hm n _ hn
 obtain ⟨fi,_,hfi,_,he⟩ := j34 hff
 simp only [Prod.mk.injEq] at he
 obtain ⟨rfl,rfl,_⟩ := he
 have hf' : fs[n]? = some f := by simpa using hf
 simp [Instr.fieldAt,run_underlying hd,hf',Instr.sureAddr,fieldPlace,x26 hfi,hsz,j15]
theorem z40 {t : TypeId} {ti : TI} (h : tiOf P t = some ti) {e : TypeId} {sz by_ : Nat} (hk : ti.k = .slice e sz by_) {b o n c : Nat} {k : IntKind} {i : Int} (h0 : 0 ≤ i) (hn : i < n) :
  (Instr.indexAt t (.slice (some ⟨b,o,none⟩) n c) (.int k i)).run P w = .ok (.pointer (some ⟨b,o + i.toNat * sz,none⟩)) w := by
 obtain ⟨_,d,z,hi,hd,hz,hkk,_,_⟩ := j12 h
 rw [hk] at hkk
 obtain ⟨rfl,ie,hie,hs,hb⟩ := z16 hkk
 simp [Instr.indexAt,asIntOf,run_underlying hd,h0,hn,x26 hie,hs,j15]
theorem j30 {t : TypeId} {ti : TI} (h : tiOf P t = some ti) {m : Nat} {e : TypeId} {sz : Nat} {ag : Bool} (hk : ti.k = .array m e sz ag) {b o : Nat} {k : IntKind} {i : Int} (h0 : 0 ≤ i) (hn : i < m) :
  (Instr.indexAt t (.pointer (some ⟨b,o,none⟩)) (.int k i)).run P w = .ok (.pointer (some ⟨b,o + i.toNat * sz,none⟩)) w := by
 obtain ⟨_,d,z,hi,hd,hz,hkk,_,_⟩ := j12 h
 rw [hk] at hkk
 obtain ⟨rfl,ie,de,hie,hde,hs,hb⟩ := j62 hkk
 simp [Instr.indexAt,asIntOf,Instr.sureAddr,run_underlying hd,h0,hn,x26 hie,hs,j15]
end
end Go.Proofs.Ytjfammnjpeeahaa.AL
namespace Go.Proofs.Ytjfammnjpeeahaa.AL
open Go.RowKit
structure Eff where
 val : AV
 obl : Prop := True
 upd : Option (Nat × LV) := none
 fresh : Bool := false
def RelAs (w : World) (h : Gh) (us : List Value) (xs : List AV) : Prop :=
 us.length = xs.length ∧ ∀ (j : Nat) v x,us[j]? = some v → xs[j]? = some x → RelA w h v x
structure Trans (B : Nat → Prop) (w : World) (h : Gh) (w' : World) (h' : Gh) (own : Nat → Prop) (u : Option Nat) (fresh : Bool) : Prop where
 below : BelowS B w w'
 blocks : ∀ b,b < w.heap.size → ¬ own b → w'.heap[b]? = w.heap[b]? ∧ h'.g b = h.g b
 keep : Keep w h.g w' h'.g
 gz : GZ w' h'.g
 gB : ∀ b,¬ B b → h'.g b = h.g b
 ρ : ∀ l,(fresh = true → u ≠ some l) → h'.ρ l = h.ρ l
 κ : ∀ l,u ≠ some l → h'.κ l = h.κ l ∧ h'.μ l = h.μ l
 up : ∀ l,u = some l → fresh = false → h.μ l < h'.μ l ∨ (h'.κ l = h.κ l ∧ h'.μ l = h.μ l)
theorem Trans.same {B : Nat → Prop} {w w' : World} {h : Gh} {g' : Nat → Nat} (hb : BelowS B w w') (hblocks : ∀ b,b < w.heap.size → w'.heap[b]? = w.heap[b]? ∧ g' b = h.g b) (hgz : GZ w h.g) (hgz' : GZ w' g') (hB : NewIn B w) (own : Nat → Prop) :
  Trans B w h w' { h with g := g' } own none false where
 below := hb
 blocks := fun b hbl _ => hblocks b hbl
 keep := by
  refine ⟨fun b => ?_,fun b o ho => ?_⟩
  ·by_cases hbl : b < w.heap.size
   ·exact Nat.le_of_eq (hblocks b hbl).2.symm
   ·rw [hgz b (by omega)];exact Nat.zero_le _
  ·have hbl : b < w.heap.size := by
    by_cases hbl : b < w.heap.size
    ·exact hbl
    ·rw [hgz b (by omega)] at ho;omega
   exact World.cell?_of_block (w := w) (hblocks b hbl).1
 gz := hgz'
 gB := fun b hb => (hblocks b (hB.lt hb)).2
 ρ := fun _ _ => rfl
 κ := fun _ _ => ⟨rfl,rfl⟩
 up := fun l hl => by cases hl
theorem Trans.gen {B : Nat → Prop} {w w' : World} {h h' : Gh} {own : Nat → Prop} {u : Option Nat} {fresh : Bool} (t : Trans B w h w' h' own u fresh) {l gen : Nat} (hx : fresh = true → u ≠ some l) (hg : gen ≤ h.μ l) :
  gen ≤ h'.μ l ∧ (h'.μ l = gen → h.μ l = gen ∧ h'.κ l = h.κ l) := by
 by_cases hu : u = some l
 ·cases hf : fresh with
  | true => exact absurd hu (hx hf)
  |false =>
   rcases t.up l hu hf with hlt | ⟨e1,e2⟩
   ·exact ⟨by omega,fun he => by omega⟩
   ·rw [e1,e2];exact ⟨hg,fun e => ⟨e,rfl⟩⟩
 ·obtain ⟨e1,e2⟩ := t.κ l hu
  rw [e1,e2];exact ⟨hg,fun e => ⟨e,rfl⟩⟩
theorem RelOw.trans {B : Nat → Prop} {w w' : World} {h h' : Gh} {own : Nat → Prop} {u : Option Nat} {fresh : Bool} (t : Trans B w h w' h' own u fresh) {v : Value} {l gen n : Nat}
  (hx : fresh = true → u ≠ some l) (r : RelOw h v l gen n) : RelOw h' v l gen n := by
 obtain ⟨r1,r2,r3⟩ := r
 obtain ⟨g1,g2⟩ := t.gen hx r1
 exact ⟨g1,r2,fun he => by obtain ⟨e1,e2⟩ := g2 he;rw [e2];exact r3 e1⟩
theorem RelCV.trans {B : Nat → Prop} {w w' : World} {h h' : Gh} {own : Nat → Prop} {u : Option Nat} {fresh : Bool} (t : Trans B w h w' h' own u fresh) {v : Value} {c : CV}
  (hx : fresh = true → ∀ l,u = some l → l ∉ c.mentions) (r : RelCV w h v c) : RelCV w' h' v c := by
 cases c with
 | p x => exact RelP.keep t.keep r
 | loc l off => simp only [RelCV] at *;rw [t.ρ l fun hf hu => hx hf l hu (by simp [CV.mentions])];exact r
 | ow l gen sz n => exact RelOw.trans t (fun hf hu => hx hf l hu (by simp [CV.mentions])) r
 | mp l => simp only [RelCV] at *;rw [t.ρ l fun hf hu => hx hf l hu (by simp [CV.mentions])];exact r
 | a1 l off => simp only [RelCV] at *;rw [t.ρ l fun hf hu => hx hf l hu (by simp [CV.mentions])];exact r
theorem RelCs.trans {B : Nat → Prop} {w w' : World} {h h' : Gh} {own : Nat → Prop} {u : Option Nat} {fresh : Bool} (t : Trans B w h w' h' own u fresh) {vs : List Value} {cs : List CV}
  (hx : fresh = true → ∀ l,u = some l → l ∉ cs.flatMap CV.mentions) (r : RelCs w h vs cs) : RelCs w' h' vs cs :=
 ⟨r.1,fun j v c hv hc => RelCV.trans t (fun hf l hu hm => hx hf l hu (List.mem_flatMap.2 ⟨c,List.mem_of_getElem? hc,hm⟩)) (r.2 j v c hv hc)⟩
theorem RelA.trans {B : Nat → Prop} {w w' : World} {h h' : Gh} {own : Nat → Prop} {u : Option Nat} {fresh : Bool} (t : Trans B w h w' h' own u fresh) {v : Value} {x : AV}
  (hx : fresh = true → ∀ l,u = some l → l ∉ x.mentions) (r : RelA w h v x) : RelA w' h' v x := by
 have hρ : ∀ l,l ∈ x.mentions → h'.ρ l = h.ρ l := fun l hl => t.ρ l fun hf hu => hx hf l hu hl
 cases x with
 | ow l gen sz n => exact RelOw.trans t (fun hf hu => hx hf l hu (by simp [AV.mentions])) r
 |el l gen sz i j =>
  obtain ⟨r1,b,r2,r3⟩ := r
  obtain ⟨g1,g2⟩ := t.gen (fun hf hu => hx hf l hu (by simp [AV.mentions])) r1
  exact ⟨g1,b,r2,fun he => by obtain ⟨e1,e2⟩ := g2 he;rw [e2];exact r3 e1⟩
 |cl f first caps =>
  obtain ⟨vs,us,rfl,h1,h2⟩ := r
  exact ⟨vs,us,rfl,h1.trans t (fun hf l hu hm => hx hf l hu (by simp only [AV.mentions,List.flatMap_append];exact List.mem_append_left _ hm)),h2.trans t (fun hf l hu hm => hx hf l hu (by simp only [AV.mentions,List.flatMap_append];exact List.mem_append_right _ hm))⟩
 | top => trivial
 | undef => exact r
 | p x => exact RelP.keep t.keep r
 | loc l off => simp only [RelA] at *;rw [hρ l (by simp [AV.mentions])];exact r
 |gr l gen sz n f =>
  simp only [RelA] at *
  obtain ⟨r1,r2,r3⟩ := r
  refine ⟨r1.keep t.keep,?_⟩
  by_cases hu : u = some l
  ·cases hf : fresh with
   | true => exact absurd (by simp [AV.mentions]) (hx hf l hu)
   |false =>
    rcases t.up l hu hf with hlt | ⟨e1,e2⟩
    ·exact ⟨by omega,fun he => by omega⟩
    ·rw [e1,e2];exact ⟨r2,r3⟩
  ·obtain ⟨e1,e2⟩ := t.κ l hu
   rw [e1,e2];exact ⟨r2,r3⟩
 | row l sz off n => simp only [RelA] at *;rw [hρ l (by simp [AV.mentions])];exact r
 | tup xs => obtain ⟨vs,hv,hr⟩ := r;exact ⟨vs,hv,hr.keep t.keep⟩
 | mp l => simp only [RelA] at *;rw [hρ l (by simp [AV.mentions])];exact r
 | ag cs => obtain ⟨vs,hv,hr,ho⟩ := r;exact ⟨vs,hv,RelCs.trans t (fun hf l hu hm => hx hf l hu hm) hr,ho⟩
 | is Q => exact r
 | ex b sz i j => exact r
theorem q27 {B : Nat → Prop} {w : World} {h : Gh} {l : Nat} {L : LV} (hL : LocOK B w h l L) {b : Nat} (hb : inB h l L b) : b < w.heap.size := by
 cases L with
 | cells e cs => obtain ⟨arr,_,hh,_⟩ := hL;simp [inB] at hb;subst hb;exact (Array.getElem?_eq_some_iff.1 hh).1
 | arr e n f => obtain ⟨arr,_,_,hh,_⟩ := hL;simp [inB] at hb;subst hb;exact (Array.getElem?_eq_some_iff.1 hh).1
 | grow e sz n gen => obtain ⟨_,⟨xs,hx⟩,_⟩ := hL;exact (hx.lt b hb).2
 | own e sz n gen f => obtain ⟨_,⟨xs,hx,_⟩,_⟩ := hL;exact (hx.lt b hb).2
 | fz e cs => obtain ⟨arr,_,hh,_⟩ := hL;simp [inB] at hb;subst hb;exact (Array.getElem?_eq_some_iff.1 hh).1
 | map ks es => obtain ⟨arr,c,_,hh,_⟩ := hL;simp [inB] at hb;subst hb;exact (Array.getElem?_eq_some_iff.1 hh).1
 |raw M =>
  simp only [inB] at hb
  cases hM : M b with
  | none => exact absurd hM hb
  | some o => obtain ⟨_,⟨cur,hh,_⟩,_⟩ := hL b o hM;exact (Array.getElem?_eq_some_iff.1 hh).1
 | blk e sz n f => obtain ⟨cap,_,⟨cur,hh,_⟩,_⟩ := hL;simp [inB] at hb;subst hb;exact (Array.getElem?_eq_some_iff.1 hh).1
 | obj o => obtain ⟨_,hh,_⟩ := hL;simp [inB] at hb;subst hb;exact (Array.getElem?_eq_some_iff.1 hh).1
theorem z63 {w w' : World} {e : TypeId} {sz n : Nat} {v : Value} {xs : List Value} (h : w.ownsRow 0 e sz v n xs) (hb : ∀ b,v.ownBlock = some b → w'.heap[b]? = w.heap[b]?) : w'.ownsRow 0 e sz v n xs := by
 rcases h with ⟨a1,a2 | ⟨gb,cap,cur,a2,a3,a4,a5⟩⟩
 ·exact ⟨a1,.inl a2⟩
 ·exact ⟨a1,.inr ⟨gb,cap,cur,a2,a3,by rw [hb gb (by simp [a2,Value.ownBlock])];exact a4,a5⟩⟩
theorem LocOK.trans {B : Nat → Prop} {w w' : World} {h h' : Gh} {own : Nat → Prop} {u : Option Nat} {fresh : Bool} (t : Trans B w h w' h' own u fresh) {l : Nat} {L : LV}
  (hl : u ≠ some l) (hm : fresh = true → ∀ l,u = some l → l ∉ L.mentions) (hown : ∀ b,inB h l L b → ¬ own b) (k : LocOK B w h l L) :
  LocOK B w' h' l L ∧ inB h' l L = inB h l L := by
 have hρ : h'.ρ l = h.ρ l := t.ρ l fun _ => hl
 obtain ⟨hκ,hμ⟩ := t.κ l hl
 have hlt : ∀ b,inB h l L b → b < w.heap.size := fun b hb => q27 k hb
 have hbk : ∀ b,inB h l L b → w'.heap[b]? = w.heap[b]? ∧ h'.g b = h.g b := fun b hb => t.blocks b (hlt b hb) (hown b hb)
 cases L with
 |cells e cs =>
  obtain ⟨arr,h1,h2,h3,h4,h5⟩ := k
  obtain ⟨e1,e2⟩ := hbk (h.ρ l) rfl
  refine ⟨⟨arr,by rw [hρ];exact h1,by rw [hρ,e1];exact h2,h3,by rw [hρ,e2];exact h4,fun i v x hv hx => ?_⟩,by simp [inB,hρ]⟩
  refine ⟨RelA.trans t (fun hf l' hl' hmem => hm hf l' hl' ?_) (h5 i v x hv hx).1,(h5 i v x hv hx).2⟩
  exact List.mem_flatMap.2 ⟨x,List.mem_of_getElem? hx,hmem⟩
 |arr e n f =>
  obtain ⟨arr,fz,h1,h2,hfz,h3,h4,h5⟩ := k
  obtain ⟨e1,e2⟩ := hbk (h.ρ l) rfl
  exact ⟨⟨arr,fz,by rw [hρ];exact h1,by rw [hρ,e1];exact h2,hfz,h3,by rw [hρ,e2];exact h4,fun i v hi hv => (h5 i v hi hv).keep t.keep⟩,by simp [inB,hρ]⟩
 |grow e sz n gen =>
  obtain ⟨h1,⟨xs,h2⟩,h3,h4⟩ := k
  refine ⟨⟨by rw [hμ];exact h1,⟨xs,?_⟩,fun b c hb => ?_,fun b hb => h4 b (by rw [← hκ];exact hb)⟩,by simp [inB,hκ]⟩
  ·rw [hκ]
   rcases h2 with ⟨a1,a2 | ⟨gb,cap,cur,a2,a3,a4,a5⟩⟩
   ·exact ⟨a1,.inl a2⟩
   ·have hb : inB h l (.grow e sz n gen) gb := by simp [inB,a2,Value.ownBlock]
    exact ⟨a1,.inr ⟨gb,cap,cur,a2,a3,by rw [(hbk gb hb).1];exact a4,a5⟩⟩
  ·rw [hκ] at hb
   have hb' : inB h l (.grow e sz n gen) b := by simp [inB,hb,Value.ownBlock]
   rw [(hbk b hb').2]
   exact h3 b c hb
 |own e sz n gen f =>
  obtain ⟨h1,⟨xs,h2,hr⟩,h4⟩ := k
  refine ⟨⟨by rw [hμ];exact h1,⟨xs,?_,hr.keep t.keep⟩,fun b hb => ?_⟩,by simp [inB,hκ]⟩
  ·rw [hκ]
   exact z63 h2 fun b hb => (hbk b (by simpa [inB] using hb)).1
  ·rw [hκ] at hb
   obtain ⟨k1,k2⟩ := h4 b hb
   exact ⟨by rw [(hbk b (by simpa [inB] using hb)).2];exact k1,k2⟩
 |fz e cs =>
  obtain ⟨arr,h1,h2,h3,h4,h5⟩ := k
  obtain ⟨e1,e2⟩ := hbk (h.ρ l) rfl
  refine ⟨⟨arr,by rw [hρ];exact h1,by rw [hρ,e1];exact h2,h3,by rw [hρ,e2];exact h4,fun i v x hv hx => ?_⟩,by simp [inB,hρ]⟩
  refine ⟨RelA.trans t (fun hf l' hl' hmem => hm hf l' hl' ?_) (h5 i v x hv hx).1,(h5 i v x hv hx).2⟩
  exact List.mem_flatMap.2 ⟨x,List.mem_of_getElem? hx,hmem⟩
 |map ks es =>
  obtain ⟨arr,c,h1,h2,h3,h4⟩ := k
  obtain ⟨e1,e2⟩ := hbk (h.ρ l) rfl
  exact ⟨⟨arr,c,by rw [hρ];exact h1,by rw [hρ,e1];exact h2,by rw [hρ,e2];exact h3,h4.keep t.keep⟩,by simp [inB,hρ]⟩
 |raw M =>
  refine ⟨fun b o hb => ?_,rfl⟩
  obtain ⟨k1,k2,k3⟩ := k b o hb
  obtain ⟨e1,e2⟩ := hbk b (by simp [inB,hb])
  exact ⟨k1,k2.keep t.keep e1,by rw [e2];exact k3⟩
 |blk e sz n f =>
  obtain ⟨cap,h1,h2,h3⟩ := k
  obtain ⟨e1,e2⟩ := hbk (h.ρ l) rfl
  exact ⟨⟨cap,by rw [hρ];exact h1,by rw [hρ];exact h2.keep t.keep e1,by rw [hρ,e2];exact h3⟩,by simp [inB,hρ]⟩
 |obj o =>
  obtain ⟨h1,h2,h3⟩ := k
  obtain ⟨e1,e2⟩ := hbk (h.ρ l) rfl
  exact ⟨⟨by rw [hρ];exact h1,by rw [hρ,e1];exact h2,by rw [hρ,e2];exact h3⟩,by simp [inB,hρ]⟩
def ownOf (h : Gh) (lL : Option (Nat × LV)) (E : Eff) : Nat → Prop :=
 match E.fresh,E.upd,lL with
 | false,some _,some (l,L) => inB h l L
 | _,_,_ => fun _ => False
def OpSem (P : Program) (o : Oper) (xs : List AV) (lL : Option (Nat × LV)) (E : Eff) : Prop :=
 ∀ (B : Nat → Prop) (w : World) (h : Gh) (r : Operand → Value),NewIn B w → GZ w h.g → RelAs w h (o.op.operands.toList.map r) xs →
  (∀ l L,lL = some (l,L) → LocOK B w h l L) →
  ∃ n v w' h',(execOp r o).run P w = .ok n w' ∧ (n = .value v ∨ (n = .skip ∧ v = undef)) ∧ RelA w' h' v E.val ∧
   Trans B w h w' h' (ownOf h lL E) (E.upd.map (·.1)) E.fresh ∧
   ∀ l L',E.upd = some (l,L') → LocOK B w' h' l L' ∧ ∀ b,inB h' l L' b → w.heap.size ≤ b ∨ (E.fresh = false ∧ ∃ L,lL = some (l,L) ∧ inB h l L b)
namespace ASt
def eval (A : ASt) : Operand → AV
 | .tmp t => (look A.fr t).getD .top
 | .const v => if v.oneCell' then .p (.d (.v v)) else .top
 | .global _ => .top
 | .func f => .p (.fn (.func f) [] [])
def put (A : ASt) (dst : Option Tmp) (x : AV) : ASt :=
 match dst with
 | some d => { A with fr := (d,x) :: A.fr }
 | none => A
def upd (A : ASt) : Option (Nat × LV) → ASt
 | some (l,L) => { A with locs := (l,L) :: A.locs }
 | none => A
def apply (A : ASt) (dst : Option Tmp) (E : Eff) : ASt := (A.upd E.upd).put dst E.val
def unused (A : ASt) (l : Nat) : Prop :=
 (∀ t x,look A.fr t = some x → l ∉ x.mentions) ∧ (∀ l' L,look A.locs l' = some L → l ∉ L.mentions) ∧ l < 1000
def locAt (A : ASt) : Option Nat → Option (Nat × LV)
 | some l => (look A.locs l).map (l,·)
 | none => none
end ASt
theorem j49 {α : Type} (t u : Nat) (x : α) (r : List (Nat × α)) : look ((t,x) :: r) u = if t = u then some x else look r u := rfl
section
variable {w0 : Base} {g0 : Nat → Nat} {nt : Nat} {A : ASt} {h : Gh} {a : Act} {w : World}
theorem Rel.gz (r : Rel w0 g0 nt A h a w) : GZ w h.g := r.ext.gz
theorem Rel.base (r : Rel w0 g0 nt A h a w) : NewIn w0.O w := r.ext.newIn
theorem Rel.eval (r : Rel w0 g0 nt A h a w) (x : Operand) : RelA w h (a.eval x) (A.eval x) := by
 cases x with
 |tmp t =>
  simp only [ASt.eval,Act.eval]
  cases hl : look A.fr t with
  | none => trivial
  |some y =>
   exact r.fr t y hl
 |const v =>
  simp only [ASt.eval,Act.eval]
  split
  ·rename_i h1;exact .d _ _ (.v v h1)
  ·trivial
 | global g => trivial
 |func f =>
  simp only [ASt.eval,Act.eval]
  exact .fn (.func f) [] [] [] [] rfl rfl (fun j v x hv => by simp at hv) (fun j v x hv => by simp at hv)
theorem Rel.evals (r : Rel w0 g0 nt A h a w) (l : List Operand) : RelAs w h (l.map a.eval) (l.map A.eval) := by
 refine ⟨by simp,fun j v x hv hx => ?_⟩
 simp only [List.getElem?_map] at hv hx
 cases hj : l[j]? with
 | none => simp [hj] at hv
 | some o => simp [hj] at hv hx;subst hv;subst hx;exact r.eval o
theorem x63 (a : Act) (d t : Tmp) (v : Value) (hd : d < a.tmps.size) : (a.put (some d) v).tmps.getD t undef = if d = t then v else a.tmps.getD t undef := by
 simp only [Act.put,Array.getD_eq_getD_getElem?,Array.getElem?_setIfInBounds]
 by_cases h : d = t
 ·subst h;simp [hd]
 ·simp [h]
theorem Rel.put (r : Rel w0 g0 nt A h a w) {dst : Option Tmp} (hd : ∀ d,dst = some d → d < nt) {v : Value} {x : AV} (hx : RelA w h v x) : Rel w0 g0 nt (A.put dst x) h (a.put dst v) w := by
 cases dst with
 | none => exact r
 |some d =>
  refine ⟨by simpa [Act.put] using r.size,r.defers,fun t y hy => ?_,r.locs,r.sep,r.ext,r.pin⟩
  rw [x63 a d t v (by rw [r.size];exact hd d rfl)]
  simp only [ASt.put,j49] at hy
  split at hy
  ·rename_i ht;rw [if_pos ht];cases hy;exact hx
  ·rename_i ht;rw [if_neg ht];exact r.fr t y hy
theorem Rel.carry {o : Oper} {lo : Option Nat} {E : Eff} {v : Value} {w' : World} {h' : Gh} (r : Rel w0 g0 nt A h a w)
  (hd : ∀ d,o.dst = some d → d < nt) (hf : E.fresh = true → ∀ l L,E.upd = some (l,L) → A.unused l) (hu : ∀ l L,E.upd = some (l,L) → E.fresh = false → lo = some l)
  (h3 : RelA w' h' v E.val) (t : Trans w0.O w h w' h' (ownOf h (A.locAt lo) E) (E.upd.map (·.1)) E.fresh)
  (h5 : ∀ l L',E.upd = some (l,L') → LocOK w0.O w' h' l L' ∧ ∀ b,inB h' l L' b → w.heap.size ≤ b ∨ (E.fresh = false ∧ ∃ L,A.locAt lo = some (l,L) ∧ inB h l L b)) :
  Rel w0 g0 nt (A.apply o.dst E) h' (a.put o.dst v) w' := by
 have hlo : ∀ l L,A.locAt lo = some (l,L) → lo = some l ∧ look A.locs l = some L := by
  intro l L he
  cases lo with
  | none => simp [ASt.locAt] at he
  |some l' =>
   simp only [ASt.locAt] at he
   cases hk : look A.locs l' with
   | none => simp [hk] at he
   | some L' => simp [hk] at he;obtain ⟨rfl,rfl⟩ := he;exact ⟨rfl,hk⟩
 have hun : E.fresh = true → ∀ l,E.upd.map (·.1) = some l → A.unused l := by
  intro hfr l hl
  cases hE : E.upd with
  | none => simp [hE] at hl
  | some p => obtain ⟨l',L⟩ := p;simp [hE] at hl;subst hl;exact hf hfr l' L hE
 have base : Rel w0 g0 nt (A.upd E.upd) h' a w' := by
  have hown : ∀ l L,look A.locs l = some L → E.upd.map (·.1) ≠ some l → ∀ b,inB h l L b → ¬ ownOf h (A.locAt lo) E b := by
   intro l L hL hne b hb hb'
   unfold ownOf at hb'
   cases hfr : E.fresh with
   | true => simp [hfr] at hb'
   |false =>
    cases hE : E.upd with
    | none => simp [hfr,hE] at hb'
    |some pu =>
     cases hk : A.locAt lo with
     | none => simp [hfr,hE,hk] at hb'
     |some pl =>
      obtain ⟨l',L'⟩ := pl
      simp only [hfr,hE,hk] at hb'
      obtain ⟨e1,e2⟩ := hlo l' L' hk
      obtain ⟨lu,Lu⟩ := pu
      have := hu lu Lu hE hfr
      rw [e1] at this
      cases this
      refine r.sep l l' L L' b (fun e => ?_) hL e2 hb hb'
      subst e
      simp [hE] at hne
  have hkeep : ∀ l L,look A.locs l = some L → E.upd.map (·.1) ≠ some l → LocOK w0.O w' h' l L ∧ inB h' l L = inB h l L := by
   intro l L hL hne
   exact LocOK.trans t hne (fun hfr l' hl' => (hun hfr l' hl').2.1 l L hL) (hown l L hL hne) (r.locs l L hL)
  have hfr : ∀ tt x,look A.fr tt = some x → RelA w' h' (a.tmps.getD tt undef) x := by
   intro tt x hx
   exact RelA.trans t (fun hfr l' hl' => (hun hfr l' hl').1 tt x hx) (r.fr tt x hx)
  have hext : ExtS w0 g0 w' h'.g := ⟨r.ext.below.trans t.below,fun b hb => (t.gB b hb).trans (r.ext.gam b hb),t.gz,r.ext.keep.trans t.keep⟩
  have hpin : ∀ l,1000 ≤ l → h'.ρ l = w0.ρ l ∧ (w0.μ l < h'.μ l ∨ (h'.κ l = w0.κ l ∧ h'.μ l = w0.μ l)) := fun l hl => by
   obtain ⟨p1,p2⟩ := r.pin l hl
   refine ⟨(t.ρ l fun hfr hu' => absurd ((hun hfr l hu').2.2) (by omega)).trans p1,?_⟩
   by_cases hu' : E.upd.map (·.1) = some l
   ·cases hfr : E.fresh with
    | true => exact absurd ((hun hfr l hu').2.2) (by omega)
    |false =>
     rcases t.up l hu' hfr with hlt | ⟨e1,e2⟩
     ·rcases p2 with p2 | ⟨p2,p3⟩ <;> exact .inl (by omega)
     ·rw [e1,e2];exact p2
   ·obtain ⟨e1,e2⟩ := t.κ l hu'
    rw [e1,e2];exact p2
  cases hE : E.upd with
  |none =>
   simp only [hE,Option.map_none] at hkeep
   refine ⟨r.size,r.defers,hfr,fun l L hL => (hkeep l L hL (by simp)).1,fun l l' L L' b hne hL hL' hb => ?_,hext,hpin⟩
   rw [(hkeep l' L' hL' (by simp)).2]
   rw [(hkeep l L hL (by simp)).2] at hb
   exact r.sep l l' L L' b hne hL hL' hb
  |some p =>
   obtain ⟨lu,Lu⟩ := p
   obtain ⟨k1,k2⟩ := h5 lu Lu hE
   simp only [hE,Option.map_some] at hkeep
   have hother : ∀ l L b,l ≠ lu → look A.locs l = some L → inB h' l L b → ¬ inB h' lu Lu b := by
    intro l L b hne hL hb hb'
    obtain ⟨kk,ke⟩ := hkeep l L hL (by simpa using fun e => hne e.symm)
    rw [ke] at hb
    rcases k2 b hb' with hge | ⟨hff,L0,hL0,hb0⟩
    ·have := q27 (r.locs l L hL) hb;omega
    ·exact r.sep l lu L L0 b hne hL (hlo lu L0 hL0).2 hb hb0
   refine ⟨r.size,r.defers,hfr,fun l L hL => ?_,fun l l' L L' b hne hL hL' hb hb' => ?_,hext,hpin⟩
   ·simp only [ASt.upd,j49] at hL
    split at hL
    ·rename_i he;subst he;cases hL;exact k1
    ·rename_i he;exact (hkeep l L hL (by simpa using he)).1
   ·simp only [ASt.upd,j49] at hL hL'
    split at hL
    ·rename_i he;subst he;cases hL
     rw [if_neg hne] at hL'
     exact hother l' L' b (Ne.symm hne) hL' hb' hb
    ·split at hL'
     ·rename_i he;subst he;cases hL'
      exact hother l L b hne hL hb hb'
     ·rename_i h1 h2
      rw [(hkeep l L hL (by simpa using h1)).2] at hb
      rw [(hkeep l' L' hL' (by simpa using h2)).2] at hb'
      exact r.sep l l' L L' b hne hL hL' hb hb'
 exact base.put hd h3
end
end Go.Proofs.Ytjfammnjpeeahaa.AL
namespace Go.Proofs.Ytjfammnjpeeahaa.AL
open Go.RowKit
def setG (g : Nat → Nat) (b k : Nat) : Nat → Nat := fun x => if x = b then k else g x
section helpers
variable {B : Nat → Prop} {w : World} {h : Gh}
theorem z94 (hB : NewIn B w) (hz : GZ w h.g) (own : Nat → Prop) : Trans B w h w h own none false :=
 Trans.same (g' := h.g) (BelowS.refl _ _) (fun _ _ => ⟨rfl,rfl⟩) hz hz hB own
theorem j63 (hB : NewIn B w) (hz : GZ w h.g) (o : Obj) (k : Nat) (own : Nat → Prop) :
  Trans B w h (w.alloc o) { h with g := setG h.g w.heap.size k } own none false := by
 refine Trans.same ((BelowS.refl _ _).alloc o) (fun b hb => ⟨Below.heap_alloc w o b hb,?_⟩) hz (fun b hb => ?_) hB own
 ·simp only [setG];rw [if_neg (by omega)]
 ·simp at hb
  simp only [setG];rw [if_neg (by omega)];exact hz b (by omega)
theorem q31 (hB : NewIn B w) (hz : GZ w h.g) (o : Obj) (l : Nat) :
  Trans B w h (w.alloc o) { h with ρ := setG h.ρ l w.heap.size } (fun _ => False) (some l) true where
 below := (BelowS.refl _ _).alloc o
 blocks := fun b hb _ => ⟨Below.heap_alloc w o b hb,rfl⟩
 keep := by
  refine ⟨fun b => Nat.le_refl _,fun b q hq => ?_⟩
  have hbl : b < w.heap.size := by
   by_cases hbl : b < w.heap.size
   ·exact hbl
   ·rw [hz b (by omega)] at hq;omega
  exact World.cell?_of_block (w := w) (Below.heap_alloc w o b hbl)
 gz := fun b hb => by simp at hb;exact hz b (by omega)
 gB := fun _ _ => rfl
 ρ := fun l' hl' => by
  have : l' ≠ l := fun e => hl' rfl (by rw [e])
  simp [setG,this]
 κ := fun _ _ => ⟨rfl,rfl⟩
 up := fun _ _ hf => by cases hf
theorem x35 {b l : Nat} (hz : GZ w h.g) (hb : B b) (hg : h.g b = 0) (cs : Array Value) :
  Trans B w h (w.setRow b cs) h (fun k => b = k) (some l) false where
 below := ⟨rfl,rfl,rfl,by simp,fun k _ hk => setRow_other w b k _ (fun e => hk (e ▸ hb))⟩
 blocks := fun k hk hne => ⟨setRow_other w b k _ (fun e => hne e.symm),rfl⟩
 keep := by
  refine ⟨fun _ => Nat.le_refl _,fun k q hq => ?_⟩
  have hkb : k ≠ b := fun e => by subst e;omega
  exact World.cell?_of_block (w := w) (a := ⟨k,q,none⟩) (setRow_other w b k _ hkb)
 gz := fun k hk => by simp at hk;exact hz k hk
 gB := fun _ _ => rfl
 ρ := fun _ _ => rfl
 κ := fun _ _ => ⟨rfl,rfl⟩
 up := fun _ _ _ => .inr ⟨rfl,rfl⟩
theorem RelAs.get {us : List Value} {xs : List AV} (r : RelAs w h us xs) {j : Nat} {v : Value} {x : AV} (hv : us[j]? = some v) (hx : xs[j]? = some x) : RelA w h v x := r.2 j v x hv hx
theorem RelAs.one {v : Value} {xs : List AV} {x : AV} (r : RelAs w h [v] xs) (hx : xs = [x]) : RelA w h v x := by subst hx;exact r.2 0 v x rfl rfl
end helpers
variable {P : Program}
theorem z12 {o : Oper} {xs : List AV} {lL : Option (Nat × LV)} {x : AV} {obl : Prop}
  (H : ∀ (B : Nat → Prop) (w : World) (h : Gh) (r : Operand → Value),RelAs w h (o.op.operands.toList.map r) xs → (∀ l L,lL = some (l,L) → LocOK B w h l L) →
   ∃ v,(execOp r o).run P w = .ok (.value v) w ∧ RelA w h v x) : OpSem P o xs lL ⟨x,obl,none,false⟩ := by
 intro B w h r hB hz hr hL
 obtain ⟨v,h1,h2⟩ := H B w h r hr hL
 exact ⟨_,v,w,h,h1,.inl rfl,h2,z94 hB hz _,fun l L' hl => by cases hl⟩
theorem x40 {o : Oper} {xs : List AV} {lL : Option (Nat × LV)} {x : AV} {obl : Prop}
  (H : ∀ (w : World) (h : Gh) (r : Operand → Value),GZ w h.g → RelAs w h (o.op.operands.toList.map r) xs →
   ∃ v e arr,(execOp r o).run P w = .ok (.value v) (w.alloc (.cells arr e)) ∧ RelA (w.alloc (.cells arr e)) { h with g := setG h.g w.heap.size arr.size } v x) : OpSem P o xs lL ⟨x,obl,none,false⟩ := by
 intro B w h r hB hz hr hL
 obtain ⟨v,e,arr,h1,h2⟩ := H w h r hz hr
 exact ⟨_,v,_,_,h1,.inl rfl,h2,j63 hB hz _ _ _,fun l L' hl => by cases hl⟩
theorem q50 (w : World) (arr : Array Value) (e : TypeId) (i : Nat) : (w.alloc (.cells arr e)).cell? ⟨w.heap.size,i,none⟩ = arr[i]? := by
 unfold World.cell?
 rw [_root_.Go.heap_alloc_new]
 rfl
def boolAV : AV → Option Bool
 | .p (.d (.v (.bool b))) => some b
 | _ => none
def pickAV (c a b : AV) : Option AV :=
 match boolAV c with
 |some t => match boolAV a,boolAV b with
  | some x,some y => some (.p (.d (.v (.bool (bif t then x else y)))))
  | _,_ => some (bif t then a else b)
 | none => none
theorem j40 {w : World} {h : Gh} {x : AV} {b : Bool} (hb : boolAV x = some b) {v : Value} (r : RelA w h v x) : v = .bool b := by
 unfold boolAV at hb
 split at hb
 ·cases hb
  cases r with | d _ _ r => cases r;rfl
 ·cases hb
theorem q13 {w : World} {h : Gh} {v x : Value} (r : RelA w h v (.p (.d (.v x)))) : v = x := by
 cases r with | d _ _ r => cases r;rfl
theorem q14 {w : World} {h : Gh} {x : Value} (hx : x.oneCell' = true) : RelA w h x (.p (.d (.v x))) := .d _ _ (.v x hx)
def datAV : AV → Option Dat
 | .p (.d d) => some d
 | .gr _ _ sz n f => some (.sl sz n f)
 | _ => none
def datsAV : AV → Option (List Dat)
 | .p (.agg ds) => some ds
 | .p (.d d) => some [d]
 | .gr _ _ sz n f => some [.sl sz n f]
 | _ => none
def CV.av : CV → AV
 | .p x => .p x
 | .loc l off => .loc l off
 | .ow l gen sz n => .ow l gen sz n
 | .mp l => .mp l
 | .a1 l off => .ag [.loc l off]
theorem q41 {w : World} {h : Gh} {v : Value} (c : CV) : RelCV w h v c ↔ RelA w h v c.av := by
 cases c with
 |a1 l off =>
  constructor
  ·intro r
   refine ⟨[.pointer (some ⟨h.ρ l,off,none⟩)],r,⟨rfl,fun j v c hv hc => ?_⟩,fun u hu => ?_⟩
   ·cases j with
    | zero => simp at hv hc;subst hv;subst hc;rfl
    | succ j => simp at hv
   ·simp at hu;subst hu;rfl
  ·rintro ⟨vs,hv,⟨hl,hr⟩,_⟩
   match vs,hl with
   | [u],_ =>
    have := hr 0 u _ rfl rfl
    simp only [RelCV] at this
    subst this
    exact hv
 | _ => exact Iff.rfl
theorem CV.av_mentions (c : CV) : c.av.mentions = c.mentions := by cases c <;> rfl
def cellsAV : AV → Option (List AV)
 | .p (.d d) => some [.p (.d d)]
 | .p (.agg ds) => some (ds.map fun d => .p (.d d))
 | .p (.fn f a b) => some [.p (.fn f a b)]
 | .gr l gen sz n f => some [.gr l gen sz n f]
 | .loc l o => some [.loc l o]
 | .row l sz o n => some [.row l sz o n]
 | .ow l gen sz n => some [.ow l gen sz n]
 | .el l gen sz i j => some [.el l gen sz i j]
 | .cl f a b => some [.cl f a b]
 | .mp l => some [.mp l]
 | .ag cs => some (cs.map CV.av)
 | _ => none
section
variable {w : World} {h : Gh} {v : Value} {x : AV}
theorem x94 {d : Dat} (hd : datAV x = some d) (r : RelA w h v x) : RelD w h.g v d := by
 cases x <;> simp only [datAV] at hd <;> try (cases hd;done)
 case p x => cases x <;> simp only [datAV] at hd <;> cases hd;cases r with | d _ _ r => exact r
 case gr => cases hd;exact r.1
theorem j24 {ds : List Dat} (hd : datsAV x = some ds) (r : RelA w h v x) :
  v.cells.size = ds.length ∧ (∀ (j : Nat) u d,v.cells[j]? = some u → ds[j]? = some d → RelD w h.g u d) ∧ (∀ u ∈ v.cells.toList,u.oneCell' = true) := by
 have one : ∀ {v : Value} {d : Dat},RelD w h.g v d → v.cells.size = [d].length ∧ (∀ (j : Nat) u d',v.cells[j]? = some u → [d][j]? = some d' → RelD w h.g u d') ∧ (∀ u ∈ v.cells.toList,u.oneCell' = true) := by
  intro v d hr
  have h1 := hr.one
  have hc : v.cells = #[v] := by cases v <;> first | rfl | (simp [Value.oneCell'] at h1)
  rw [hc]
  refine ⟨rfl,fun j u d' hu hd' => ?_,fun u hu => ?_⟩
  ·cases j with
   | zero => simp at hu hd';subst hu;subst hd';exact hr
   | succ j => simp at hu
  ·simp at hu;subst hu;exact h1
 cases x <;> simp only [datsAV] at hd <;> try (cases hd;done)
 case p x =>
  cases x <;> simp only [datsAV] at hd <;> try (cases hd;done)
  case d d => cases hd;cases r with | d _ _ r => exact one r
  case agg cs =>
   cases hd
   cases r with
   |agg vs _ hl hr =>
    refine ⟨by simp [Value.cells,hl],fun j u d hu hd => hr j u d (by simpa [Value.cells] using hu) hd,fun u hu => ?_⟩
    simp [Value.cells] at hu
    obtain ⟨j,hj,rfl⟩ := List.getElem_of_mem hu
    have hj' : j < ds.length := hl ▸ hj
    exact (hr j _ _ (List.getElem?_eq_getElem hj) (List.getElem?_eq_getElem hj')).one
 case gr => cases hd;exact one r.1
theorem q64 {cs : List AV} (hd : cellsAV x = some cs) (r : RelA w h v x) :
  v.cells.size = cs.length ∧ (∀ (j : Nat) u d,v.cells[j]? = some u → cs[j]? = some d → RelA w h u d) ∧ (∀ u ∈ v.cells.toList,u.oneCell' = true) := by
 have one : ∀ {v : Value} {d : AV},v.oneCell' = true → RelA w h v d → v.cells.size = [d].length ∧ (∀ (j : Nat) u d',v.cells[j]? = some u → [d][j]? = some d' → RelA w h u d') ∧ (∀ u ∈ v.cells.toList,u.oneCell' = true) := by
  intro v d h1 hr
  have hc : v.cells = #[v] := by cases v <;> first | rfl | (simp [Value.oneCell'] at h1)
  rw [hc]
  refine ⟨rfl,fun j u d' hu hd' => ?_,fun u hu => ?_⟩
  ·cases j with
   | zero => simp at hu hd';subst hu;subst hd';exact hr
   | succ j => simp at hu
  ·simp at hu;subst hu;exact h1
 cases x <;> simp only [cellsAV] at hd <;> try (cases hd;done)
 case p x =>
  cases x <;> simp only [cellsAV] at hd <;> try (cases hd;done)
  case d d => cases hd;exact one (by cases r with | d _ _ r => exact r.one) r
  case agg ds =>
   cases hd
   obtain ⟨h1,h2,h3⟩ := j24 (x := .p (.agg ds)) rfl r
   refine ⟨by simpa using h1,fun j u d hu hd => ?_,h3⟩
   simp at hd
   obtain ⟨d',hd',rfl⟩ := hd
   exact .d _ _ (h2 j u d' hu hd')
  case fn f a b => cases hd;exact one (by cases r;rfl) r
 case gr => cases hd;exact one r.1.one r
 case loc => cases hd;exact one (by simp only [RelA] at r;subst r;rfl) r
 case row => cases hd;exact one (by obtain ⟨c,rfl,_⟩ := r;rfl) r
 case ow => cases hd;exact one (by obtain ⟨_,⟨a,c,rfl,_⟩,_⟩ := r;rfl) r
 case el => cases hd;exact one (by obtain ⟨_,b,rfl,_⟩ := r;rfl) r
 case cl => cases hd;exact one (by obtain ⟨vs,us,rfl,_⟩ := r;rfl) r
 case mp => cases hd;exact one (by simp only [RelA] at r;subst r;rfl) r
 case ag cs =>
  cases hd
  obtain ⟨vs,rfl,⟨hl,hr⟩,ho⟩ := r
  refine ⟨by simp [Value.cells,hl],fun j u d hu hd => ?_,fun u hu => ho u (by simpa [Value.cells] using hu)⟩
  rw [List.getElem?_map] at hd
  cases hc : cs[j]? with
  | none => rw [hc] at hd;cases hd
  | some c => rw [hc] at hd;cases hd;exact (q41 c).1 (hr j u c (by simpa [Value.cells] using hu) hc)
end
end Go.Proofs.Ytjfammnjpeeahaa.AL
namespace Go.Proofs.Ytjfammnjpeeahaa.AL
open Go.RowKit
variable {P : Program}
def effMove : List AV → Option Eff
 | [x] => some { val := x }
 | _ => none
def effPick : List AV → Option Eff
 | [c,a,b] => (pickAV c a b).map fun v => { val := v }
 | _ => none
theorem z64 {o : Oper} {x : Operand} (ho : o.op = .move x ∨ o.op = .assign x) {xs : List AV} {lL : Option (Nat × LV)} {E : Eff} (hE : effMove xs = some E) : OpSem P o xs lL E := by
 unfold effMove at hE
 split at hE
 ·rename_i y
  cases hE
  refine z12 fun B w h r hr hL => ⟨r x,?_,?_⟩
  ·rcases ho with ho | ho <;> simp [execOp,ho]
  ·rcases ho with ho | ho <;> (simp only [ho,Op.operands] at hr;exact hr.2 0 _ _ rfl rfl)
 ·cases hE
theorem j94 {o : Oper} {c a b : Operand} (ho : o.op = .pick c a b) {xs : List AV} {lL : Option (Nat × LV)} {E : Eff} (hE : effPick xs = some E) : OpSem P o xs lL E := by
 unfold effPick at hE
 split at hE
 ·rename_i y1 y2 y3
  unfold pickAV at hE
  split at hE
  ·rename_i t ht
   split at hE
   ·rename_i x y hx hy
    simp at hE
    subst hE
    refine z12 fun B w h r hr hL => ⟨.bool (bif t then x else y),?_,q14 rfl⟩
    simp only [ho,Op.operands] at hr
    have e1 := j40 ht (hr.2 0 (r c) y1 rfl rfl)
    have e2 := j40 hx (hr.2 1 (r a) y2 rfl rfl)
    have e3 := j40 hy (hr.2 2 (r b) y3 rfl rfl)
    cases t <;> simp [execOp,ho,e1,e2,e3,asBool]
   ·simp at hE
    subst hE
    refine z12 fun B w h r hr hL => ⟨if t then r a else r b,?_,?_⟩
    ·simp only [ho,Op.operands] at hr
     have e1 := j40 ht (hr.2 0 (r c) y1 rfl rfl)
     simp [execOp,ho,e1,asBool]
    ·simp only [ho,Op.operands] at hr
     cases t
     ·exact hr.2 2 (r b) y3 rfl rfl
     ·exact hr.2 1 (r a) y2 rfl rfl
  ·simp at hE
 ·cases hE
def effBox (M : List Nat) (t : TypeId) (dst : Option Tmp) : List AV → Option Eff
 | [x] => match dst with
  | some d => bif M.contains d then
    (match x with
     | .p (.arr n f) => some { val := .loc d 0,upd := some (d,.arr t n f),fresh := true }
     | x => (cellsAV x).map fun cs => { val := .loc d 0,obl := x.mentions.contains d = false,upd := some (d,.cells t cs),fresh := true })
   else
    (match x with
     | .p (.arr n f) => some { val := .p (.d (.bf n f)) }
     | x => (datsAV x).map fun ds => { val := .p (.d (.bx ds)) })
  | none => none
 | _ => none
def isSl : Value → Bool
 | .slice _ _ _ => true
 | _ => false
def effAlloc (P : Program) (t : TypeId) (dst : Option Tmp) : Option Eff :=
 match tiOf P t,dst with
 |some ti,some d =>
  match ti.k,ti.zero with
  | .array n _ 1 false,z :: r => bif decide (8 < n) && !isSl z then some { val := .loc d 0,obl := z :: r = List.replicate n z ∧ z.oneCell' = true,upd := some (d,.arr t n fun _ => .v z),fresh := true }
    else some { val := .loc d 0,obl := ((z :: r).all (·.oneCell')) = true,upd := some (d,.cells t ((z :: r).map fun z => .p (.d (.v z)))),fresh := true }
  | _,zs => some { val := .loc d 0,obl := (zs.all (·.oneCell')) = true,upd := some (d,.cells t (zs.map fun z => .p (.d (.v z)))),fresh := true }
 | _,_ => none
theorem z41 {o : Oper} {xs : List AV} {lL : Option (Nat × LV)} {l : Nat} {L : LV} {obl : Prop} (hgrow : ∀ h,inB h l L = (fun b => h.ρ l = b))
  (H : ∀ (w : World) (h : Gh) (r : Operand → Value),GZ w h.g → RelAs w h (o.op.operands.toList.map r) xs →
   ∃ t arr,(execOp r o).run P w = .ok (.value (.pointer (some ⟨w.heap.size,0,none⟩))) (w.alloc (.cells arr t)) ∧
    ∀ B : Nat → Prop,NewIn B w → LocOK B (w.alloc (.cells arr t)) { h with ρ := setG h.ρ l w.heap.size } l L) : OpSem P o xs lL ⟨.loc l 0,obl,some (l,L),true⟩ := by
 intro B w h r hB hz hr hL
 obtain ⟨t,arr,h1,h2⟩ := H w h r hz hr
 refine ⟨_,_,_,{ h with ρ := setG h.ρ l w.heap.size },h1,.inl rfl,by simp [RelA,setG],?_,fun l' L' hl => ?_⟩
 ·have : ownOf h lL ⟨.loc l 0,obl,some (l,L),true⟩ = (fun _ => False) := rfl
  rw [this];exact q31 hB hz _ l
 ·cases hl
  refine ⟨h2 B hB,fun b hb => .inl ?_⟩
  rw [hgrow] at hb
  simp [setG] at hb
  omega
theorem x64 {B : Nat → Prop} {w : World} {h : Gh} {l : Nat} {t : TypeId} {arr : Array Value} {cs : List AV} (hB : NewIn B w) (hz : GZ w h.g) (hs : arr.size = cs.length)
  (hc : ∀ (i : Nat) v x,arr[i]? = some v → cs[i]? = some x → RelA (w.alloc (.cells arr t)) { h with ρ := setG h.ρ l w.heap.size } v x ∧ v.oneCell' = true) :
  LocOK B (w.alloc (.cells arr t)) { h with ρ := setG h.ρ l w.heap.size } l (.cells t cs) :=
 ⟨arr,by simp only [setG,if_true];exact hB _ (Nat.le_refl _),by simp only [setG,if_true];exact _root_.Go.heap_alloc_new w _,hs,by simp only [setG,if_true];exact hz _ (Nat.le_refl _),hc⟩
theorem z50 {B : Nat → Prop} {w : World} {h : Gh} {l : Nat} {t : TypeId} {arr : Array Value} {n : Nat} {f : Nat → Dat} (hB : NewIn B w) (hz : GZ w h.g) (hs : arr.size = n)
  (hc : ∀ (i : Nat) v,arr[i]? = some v → RelD (w.alloc (.cells arr t)) h.g v (f i)) :
  LocOK B (w.alloc (.cells arr t)) { h with ρ := setG h.ρ l w.heap.size } l (.arr t n f) :=
 ⟨arr,(0,0),by simp only [setG,if_true];exact hB _ (Nat.le_refl _),by simp only [setG,if_true];exact _root_.Go.heap_alloc_new w _,.inl rfl,by omega,by simp only [setG,if_true];exact hz _ (Nat.le_refl _),fun i v _ hv => hc i v hv⟩
theorem x50 {w : World} {g : Nat → Nat} (hz : GZ w g) (o : Obj) (k : Nat) : Keep w g (w.alloc o) (setG g w.heap.size k) := by
 have := (j63 (B := fun _ => True) (h := ⟨g,id,fun _ => undef,id⟩) (fun _ _ => trivial) hz o k (fun _ => False)).keep
 exact this
theorem q95 {w : World} {g : Nat → Nat} (hz : GZ w g) (o : Obj) : Keep w g (w.alloc o) g := by
 have := (q31 (B := fun _ => True) (h := ⟨g,id,fun _ => undef,id⟩) (fun _ _ => trivial) hz o 0).keep
 exact this
theorem z95 {w : World} {h : Gh} (hz : GZ w h.g) (o : Obj) (l : Nat) {v : Value} {x : AV} (hm : x.mentions.contains l = false) (r : RelA w h v x) :
  RelA (w.alloc o) { h with ρ := setG h.ρ l w.heap.size } v x :=
 RelA.trans (q31 (B := fun _ => True) (fun _ _ => trivial) hz o l) (fun _ l' hl' hm' => by cases hl';simp at hm;exact hm hm') r
theorem x95 {x : AV} {cs : List AV} (hd : cellsAV x = some cs) {l : Nat} (hm : x.mentions.contains l = false) : ∀ y ∈ cs,y.mentions.contains l = false := by
 intro y hy
 cases x <;> simp only [cellsAV] at hd <;> try (cases hd;done)
 case p x =>
  cases x <;> simp only [cellsAV] at hd <;> try (cases hd;done)
  case d d => cases hd;simp at hy;subst hy;exact hm
  case agg ds => cases hd;simp at hy;obtain ⟨_,_,rfl⟩ := hy;rfl
  case fn f a b => cases hd;simp at hy;subst hy;exact hm
 case gr => cases hd;simp at hy;subst hy;exact hm
 case loc => cases hd;simp at hy;subst hy;exact hm
 case row => cases hd;simp at hy;subst hy;exact hm
 case ow => cases hd;simp at hy;subst hy;exact hm
 case el => cases hd;simp at hy;subst hy;exact hm
 case cl => cases hd;simp at hy;subst hy;exact hm
 case mp => cases hd;simp at hy;subst hy;exact hm
 case ag cs =>
  cases hd
  obtain ⟨c,hc,rfl⟩ := List.mem_map.1 hy
  rw [CV.av_mentions]
  cases hh : c.mentions.contains l with
  | false => rfl
  |true =>
   have : (cs.flatMap CV.mentions).contains l = true := by
    rw [List.contains_iff_mem] at *
    exact List.mem_flatMap.2 ⟨c,hc,hh⟩
   simp only [AV.mentions] at hm
   rw [this] at hm;cases hm
theorem x41 {o : Oper} {t : TypeId} {x : Operand} (ho : o.op = .box t x) (r : Operand → Value) (w : World) :
  (execOp r o).run P w = .ok (.value (.pointer (some ⟨w.heap.size,0,none⟩))) (w.alloc (.cells (r x).cells t)) := by
 simp [execOp,ho,run_box]
theorem j41 {w : World} {h : Gh} {v : Value} {n : Nat} {f : Nat → Dat} (r : RelA w h v (.p (.arr n f))) : v.cells.size = n ∧ ∀ (i : Nat) u,v.cells[i]? = some u → RelD w h.g u (f i) := by
 cases r with
 | arr vs _ _ hl hr => exact ⟨by simp [Value.cells,hl],fun i u hu => hr i u (by simpa [Value.cells] using hu)⟩
theorem sem_box {M : List Nat} {o : Oper} {t : TypeId} {x : Operand} (ho : o.op = .box t x) {xs : List AV} {lL : Option (Nat × LV)} {E : Eff} (hE : effBox M t o.dst xs = some E) (hobl : E.obl) : OpSem P o xs lL E := by
 unfold effBox at hE
 split at hE
 ·rename_i y
  split at hE
  ·rename_i d hd
   cases hMd : M.contains d with
   |true =>
    rw [hMd] at hE
    simp only [cond_true] at hE
    split at hE
    ·rename_i n f
     cases hE
     refine z41 (fun _ => rfl) fun w h r hz hr => ⟨t,(r x).cells,x41 ho r w,fun B hB => ?_⟩
     simp only [ho,Op.operands] at hr
     obtain ⟨e1,e2⟩ := j41 (hr.2 0 (r x) _ rfl rfl)
     exact z50 hB hz e1 fun i v hv => (e2 i v hv).keep (q95 hz _)
    ·cases hc : cellsAV y with
     | none => simp [hc] at hE
     |some cs =>
      simp [hc] at hE
      subst hE
      have hm : y.mentions.contains d = false := by simpa using hobl
      refine z41 (fun _ => rfl) fun w h r hz hr => ⟨t,(r x).cells,x41 ho r w,fun B hB => ?_⟩
      simp only [ho,Op.operands] at hr
      obtain ⟨e1,e2,e3⟩ := q64 hc (hr.2 0 (r x) _ rfl rfl)
      refine x64 hB hz e1 fun i v z hv hz' => ⟨?_,e3 v (Array.mem_toList_iff.2 (Array.mem_of_getElem? hv))⟩
      exact z95 hz _ d (x95 hc hm z (List.mem_of_getElem? hz')) (e2 i v z hv hz')
   |false =>
    rw [hMd] at hE
    simp only [cond_false] at hE
    split at hE
    ·rename_i n f
     cases hE
     refine x40 fun w h r hz hr => ⟨_,t,(r x).cells,x41 ho r w,?_⟩
     simp only [ho,Op.operands] at hr
     obtain ⟨e1,e2⟩ := j41 (hr.2 0 (r x) _ rfl rfl)
     refine .d _ _ (.bf _ _ _ _ (fun i => (r x).cells.getD i undef) (fun j hj => ?_) ?_ (fun j hj => ?_))
     ·rw [Nat.zero_add,q50];simp [Array.getD_eq_getD_getElem?,e1,hj]
     ·simp [setG,e1]
     ·exact (e2 j _ (by simp [Array.getD_eq_getD_getElem?,e1,hj])).keep (x50 hz _ _)
    ·cases hc : datsAV y with
     | none => simp [hc] at hE
     |some ds =>
      simp [hc] at hE
      subst hE
      refine x40 fun w h r hz hr => ⟨_,t,(r x).cells,x41 ho r w,?_⟩
      simp only [ho,Op.operands] at hr
      obtain ⟨e1,e2,e3⟩ := j24 hc (hr.2 0 (r x) _ rfl rfl)
      refine .d _ _ (.bx _ _ _ (fun i => (r x).cells.getD i undef) (fun j hj => ?_) ?_ (fun j z hj => ?_))
      ·rw [Nat.zero_add,q50];simp [Array.getD_eq_getD_getElem?,e1,hj]
      ·simp [setG,e1]
      ·have hj' : j < ds.length := (List.getElem?_eq_some_iff.1 hj).1
       exact (e2 j _ z (by simp [Array.getD_eq_getD_getElem?,e1,hj']) hj).keep (x50 hz _ _)
  ·cases hE
 ·cases hE
theorem j95 {o : Oper} {t : TypeId} (ho : o.op = .alloc t) {xs : List AV} {lL : Option (Nat × LV)} {E : Eff} (hE : effAlloc P t o.dst = some E) (hobl : E.obl) : OpSem P o xs lL E := by
 unfold effAlloc at hE
 split at hE
 ·rename_i ti d hti hd
  have hrun : ∀ (r : Operand → Value) (w : World),(execOp r o).run P w = .ok (.value (.pointer (some ⟨w.heap.size,0,none⟩))) (w.alloc (.cells ti.zero.toArray t)) := by
   intro r w;simp [execOp,ho,q94 hti]
  have gen : ∀ zs,ti.zero = zs → (zs.all (·.oneCell')) = true → OpSem P o xs lL { val := .loc d 0,obl := (zs.all (·.oneCell')) = true,upd := some (d,.cells t (zs.map fun z => .p (.d (.v z)))),fresh := true } := by
   intro zs hzs hall
   refine z41 (fun _ => rfl) fun w h r hz hr => ⟨t,ti.zero.toArray,hrun r w,fun B hB => ?_⟩
   refine x64 hB hz (by simp [hzs]) fun i v z hv hz' => ?_
   simp [hzs] at hv hz'
   obtain ⟨z0,hz0,rfl⟩ := hz'
   rw [hz0] at hv;cases hv
   have h1 : v.oneCell' = true := List.all_eq_true.1 hall v (List.mem_of_getElem? hz0)
   exact ⟨q14 h1,h1⟩
  split at hE
  ·rename_i n e z rr hk hzero
   cases h8 : (decide (8 < n) && !isSl z) with
   |true =>
    rw [h8] at hE
    simp only [cond_true] at hE
    cases hE
    obtain ⟨h1,h2⟩ := hobl
    refine z41 (fun _ => rfl) fun w h r hz hr => ⟨t,ti.zero.toArray,hrun r w,fun B hB => ?_⟩
    refine z50 hB hz (by rw [hzero,h1];simp) fun i v hv => ?_
    rw [hzero,h1] at hv
    simp [Array.getElem?_replicate] at hv
    rw [← hv.2];exact .v _ h2
   |false =>
    rw [h8] at hE
    simp only [cond_false] at hE
    cases hE
    exact gen _ hzero hobl
  ·cases hE
   exact gen _ rfl hobl
 ·cases hE
end Go.Proofs.Ytjfammnjpeeahaa.AL
namespace Go.Proofs.Ytjfammnjpeeahaa.AL
open Go.RowKit
variable {P : Program}
def effLoad (P : Program) (t : TypeId) (xs : List AV) (lL : Option (Nat × LV)) : Option Eff :=
 match tiOf P t,xs with
 |some ti,[.p (.d (.bx cs))] =>
  bif ti.k.agg then some { val := .p (.agg (cs.take ti.size)),obl := ti.size ≤ cs.length }
  else (match cs with
   | c :: _ => some { val := .p (.d c) }
   | [] => none)
 |some ti,[.p (.d (.bf n f))] =>
  bif ti.k.agg then some { val := .p (.arr ti.size f),obl := ti.size ≤ n }
  else some { val := .p (.d (f 0)),obl := 0 < n }
 |some ti,[.loc l off] =>
  match lL with
  |some (l',.cells _ cs) =>
   bif ti.k.agg then (((cs.drop off).take ti.size).mapM datAV).map fun ds => { val := .p (.agg ds),obl := l' = l ∧ ds.length = ti.size }
   else (cs[off]?).map fun c => { val := c,obl := l' = l }
  |some (l',.arr _ n f) =>
   bif ti.k.agg then some { val := .p (.arr ti.size fun j => f (off + j)),obl := l' = l ∧ off + ti.size ≤ n }
   else some { val := .p (.d (f off)),obl := l' = l ∧ off < n }
  |some (l',.fz _ cs) =>
   bif ti.k.agg then none
   else (cs[off]?).map fun c => { val := c,obl := l' = l }
  | _ => none
 | _,_ => none
theorem q19 {o : Oper} {t : TypeId} {x : Operand} (ho : o.op = .load t x) (r : Operand → Value) (w : World) {a : Value} {v : Value} (ha : r x = a) (hv : (Instr.loadAt t a).run P w = .ok v w) :
  (execOp r o).run P w = .ok (.value v) w := by
 simp [execOp,ho,ha,hv]
theorem z15 {w : World} {b : Nat} {arr : Array Value} {e : TypeId} {fz : Nat × Nat} (h : w.heap[b]? = some (.cells arr e fz)) (i : Nat) : w.cell? ⟨b,i,none⟩ = arr[i]? := by
 simp [World.cell?,h]
theorem q96 {w : World} {h : Gh} : ∀ {cs : List AV} {ds : List Dat},cs.mapM datAV = some ds → ∀ (j : Nat) v d,(∀ x,cs[j]? = some x → RelA w h v x) → ds[j]? = some d → RelD w h.g v d := by
 intro cs ds hm j v d hv hd
 obtain ⟨x,hx,hxd⟩ := z34 hm j d hd
 exact x94 hxd (hv x hx)
def PureSem (P : Program) (o : Oper) (xs : List AV) (lL : Option (Nat × LV)) (x : AV) : Prop :=
 ∀ (B : Nat → Prop) (w : World) (h : Gh) (r : Operand → Value),RelAs w h (o.op.operands.toList.map r) xs → (∀ l L,lL = some (l,L) → LocOK B w h l L) →
   ∃ v,(execOp r o).run P w = .ok (.value v) w ∧ RelA w h v x
theorem j64 {o : Oper} {t : TypeId} {x : Operand} (ho : o.op = .load t x) {xs : List AV} {lL : Option (Nat × LV)} {E : Eff} (hE : effLoad P t xs lL = some E) (hobl : E.obl) : PureSem P o xs lL E.val ∧ E.upd = none ∧ E.fresh = false := by
 unfold effLoad at hE
 split at hE
 ·rename_i ti cs hti
  cases hag : ti.k.agg with
  |true =>
   rw [hag] at hE;simp only [cond_true] at hE;cases hE
   refine ⟨fun B w h r hr hL => ?_,rfl,rfl⟩
   simp only [ho,Op.operands] at hr
   have h0 := hr.2 0 (r x) _ rfl rfl
   obtain ⟨v0,hv0⟩ : ∃ v,r x = v := ⟨_,rfl⟩
   rw [hv0] at h0
   cases h0 with
   |d _ _ h0 =>
    cases h0 with
    |bx b off _ u hc hg hrr =>
     have hlen : ti.size ≤ cs.length := hobl
     refine ⟨.agg ((List.range ti.size).map u).toArray,q19 ho r w hv0 (x30 hti hag (by simp) fun j v hv => ?_),.agg _ _ (by simp;omega) fun j v d hv hd => ?_⟩
     ·simp [List.getElem?_map,List.getElem?_range] at hv
      rcases hlt : decide (j < ti.size) with _ | _
      ·simp at hlt;rw [List.getElem?_eq_none (by simpa using hlt)] at hv;simp at hv
      ·simp at hlt;rw [List.getElem?_range hlt] at hv;simp at hv;subst hv;exact hc j (by omega)
     ·have hlt : j < ti.size := by have := (List.getElem?_eq_some_iff.1 hv).1;simpa using this
      simp [List.getElem?_range hlt] at hv;subst hv
      rw [List.getElem?_take_of_lt hlt] at hd
      exact hrr j d hd
  |false =>
   rw [hag] at hE;simp only [cond_false] at hE
   split at hE
   ·rename_i c rest
    cases hE
    refine ⟨fun B w h r hr hL => ?_,rfl,rfl⟩
    simp only [ho,Op.operands] at hr
    have h0 := hr.2 0 (r x) _ rfl rfl
    obtain ⟨v0,hv0⟩ : ∃ v,r x = v := ⟨_,rfl⟩
    rw [hv0] at h0
    cases h0 with
    |d _ _ h0 =>
     cases h0 with
     |bx b off _ u hc hg hrr =>
      have := hc 0 (by simp)
      exact ⟨u 0,q19 ho r w hv0 (j26 hti hag (by simpa using this)),.d _ _ (hrr 0 c rfl)⟩
   ·cases hE
 ·rename_i ti n f hti
  cases hag : ti.k.agg with
  |true =>
   rw [hag] at hE;simp only [cond_true] at hE;cases hE
   refine ⟨fun B w h r hr hL => ?_,rfl,rfl⟩
   simp only [ho,Op.operands] at hr
   have h0 := hr.2 0 (r x) _ rfl rfl
   obtain ⟨v0,hv0⟩ : ∃ v,r x = v := ⟨_,rfl⟩
   rw [hv0] at h0
   have hlen : ti.size ≤ n := hobl
   cases h0 with
   |d _ _ h0 =>
    cases h0 with
    |bf b off _ _ u hc hg hrr =>
     refine ⟨.agg ((List.range ti.size).map u).toArray,q19 ho r w hv0 (x30 hti hag (by simp) fun j v hv => ?_),.arr _ _ _ (by simp) fun j v hv => ?_⟩
     ·have hlt : j < ti.size := by have := (List.getElem?_eq_some_iff.1 hv).1;simpa using this
      simp [List.getElem?_range hlt] at hv;subst hv;exact hc j (by omega)
     ·have hlt : j < ti.size := by have := (List.getElem?_eq_some_iff.1 hv).1;simpa using this
      simp [List.getElem?_range hlt] at hv;subst hv;exact hrr j (by omega)
  |false =>
   rw [hag] at hE;simp only [cond_false] at hE;cases hE
   refine ⟨fun B w h r hr hL => ?_,rfl,rfl⟩
   simp only [ho,Op.operands] at hr
   have h0 := hr.2 0 (r x) _ rfl rfl
   obtain ⟨v0,hv0⟩ : ∃ v,r x = v := ⟨_,rfl⟩
   rw [hv0] at h0
   have hlen : 0 < n := hobl
   cases h0 with
   |d _ _ h0 =>
    cases h0 with
    |bf b off _ _ u hc hg hrr =>
     have := hc 0 hlen
     exact ⟨u 0,q19 ho r w hv0 (j26 hti hag (by simpa using this)),.d _ _ (hrr 0 hlen)⟩
 ·rename_i ti l off hti
  split at hE
  ·rename_i l' e cs
   cases hag : ti.k.agg with
   |true =>
    rw [hag] at hE;simp only [cond_true] at hE
    cases hm : ((cs.drop off).take ti.size).mapM datAV with
    | none => simp [hm] at hE
    |some ds =>
     simp [hm] at hE;subst hE
     obtain ⟨rfl,hlen⟩ := hobl
     refine ⟨fun B w h r hr hL => ?_,rfl,rfl⟩
     simp only [ho,Op.operands] at hr
     have h0 : r x = _ := hr.2 0 (r x) _ rfl rfl
     obtain ⟨arr,hB,hh,hs,hg,hrr⟩ := hL _ _ rfl
     have hmlen : ∀ {cs : List AV} {ds : List Dat},cs.mapM datAV = some ds → ds.length = cs.length := by
      intro cs
      induction cs with
      | nil => intro ds h;simp at h;subst h;rfl
      |cons y cs ih =>
       intro ds h
       simp only [List.mapM_cons] at h
       cases hy : datAV y with
       | none => simp [hy] at h
       |some d =>
        cases hl : cs.mapM datAV with
        | none => simp [hy,hl] at h
        | some r' => simp [hy,hl] at h;subst h;simp [ih hl]
     have hl2 := hmlen hm
     simp at hl2
     have hoff : min ti.size (arr.size - off) = ti.size := by rw [hs];omega
     refine ⟨.agg ((arr.toList.drop off).take ti.size).toArray,q19 ho r w h0 (x30 hti hag (by simp;omega) fun j v hv => ?_),.agg _ _ (by simp;omega) fun j v d hv hd => ?_⟩
     ·have hlt : j < ti.size := by have := (List.getElem?_eq_some_iff.1 hv).1;simp at this;omega
      rw [List.getElem?_take_of_lt hlt,List.getElem?_drop] at hv
      rw [z15 hh];simpa using hv
     ·have hlt : j < ti.size := by have := (List.getElem?_eq_some_iff.1 hv).1;simp at this;omega
      rw [List.getElem?_take_of_lt hlt,List.getElem?_drop] at hv
      refine q96 hm j v d (fun y hy => ?_) hd
      rw [List.getElem?_take_of_lt hlt,List.getElem?_drop] at hy
      exact (hrr (off + j) v y (by simpa using hv) hy).1
   |false =>
    rw [hag] at hE;simp only [cond_false] at hE
    cases hc : cs[off]? with
    | none => simp [hc] at hE
    |some c =>
     simp [hc] at hE;subst hE
     cases (hobl : _ = _)
     refine ⟨fun B w h r hr hL => ?_,rfl,rfl⟩
     simp only [ho,Op.operands] at hr
     have h0 : r x = _ := hr.2 0 (r x) _ rfl rfl
     obtain ⟨arr,hB,hh,hs,hg,hrr⟩ := hL _ _ rfl
     have hlt : off < arr.size := by rw [hs];exact (List.getElem?_eq_some_iff.1 hc).1
     exact ⟨arr[off],q19 ho r w h0 (j26 hti hag (by rw [z15 hh];simp [hlt])),(hrr off _ c (by simp [hlt]) hc).1⟩
  ·rename_i l' e n f
   cases hag : ti.k.agg with
   |true =>
    rw [hag] at hE;simp only [cond_true] at hE;cases hE
    obtain ⟨rfl,hlen⟩ := hobl
    refine ⟨fun B w h r hr hL => ?_,rfl,rfl⟩
    simp only [ho,Op.operands] at hr
    have h0 : r x = _ := hr.2 0 (r x) _ rfl rfl
    obtain ⟨arr,fz,hB,hh,hfz,hs,hg,hrr⟩ := hL _ _ rfl
    refine ⟨.agg ((arr.toList.drop off).take ti.size).toArray,q19 ho r w h0 (x30 hti hag (by simp;omega) fun j v hv => ?_),.arr _ _ _ (by simp;omega) fun j v hv => ?_⟩
    ·have hlt : j < ti.size := by have := (List.getElem?_eq_some_iff.1 hv).1;simp at this;omega
     rw [List.getElem?_take_of_lt hlt,List.getElem?_drop] at hv
     rw [z15 hh];simpa using hv
    ·have hlt : j < ti.size := by have := (List.getElem?_eq_some_iff.1 hv).1;simp at this;omega
     rw [List.getElem?_take_of_lt hlt,List.getElem?_drop] at hv
     exact hrr (off + j) v (by omega) (by simpa using hv)
   |false =>
    rw [hag] at hE;simp only [cond_false] at hE;cases hE
    obtain ⟨rfl,hlen⟩ := hobl
    refine ⟨fun B w h r hr hL => ?_,rfl,rfl⟩
    simp only [ho,Op.operands] at hr
    have h0 : r x = _ := hr.2 0 (r x) _ rfl rfl
    obtain ⟨arr,fz,hB,hh,hfz,hs,hg,hrr⟩ := hL _ _ rfl
    have hlt : off < arr.size := by omega
    exact ⟨arr[off],q19 ho r w h0 (j26 hti hag (by rw [z15 hh];simp [hlt])),.d _ _ (hrr off _ hlen (by simp [hlt]))⟩
  ·rename_i l' e cs
   cases hag : ti.k.agg with
   | true => rw [hag] at hE;simp only [cond_true] at hE;cases hE
   |false =>
    rw [hag] at hE;simp only [cond_false] at hE
    cases hc : cs[off]? with
    | none => simp [hc] at hE
    |some c =>
     simp [hc] at hE;subst hE
     cases (hobl : _ = _)
     refine ⟨fun B w h r hr hL => ?_,rfl,rfl⟩
     simp only [ho,Op.operands] at hr
     have h0 : r x = _ := hr.2 0 (r x) _ rfl rfl
     obtain ⟨arr,hB,hh,hs,hg,hrr⟩ := hL _ _ rfl
     have hlt : off < arr.size := by rw [hs];exact (List.getElem?_eq_some_iff.1 hc).1
     exact ⟨arr[off],q19 ho r w h0 (j26 hti hag (by rw [z15 hh];simp [hlt])),(hrr off _ c (by simp [hlt]) hc).1⟩
  ·cases hE
 ·cases hE
theorem z96 {o : Oper} {t : TypeId} {x : Operand} (ho : o.op = .load t x) {xs : List AV} {lL : Option (Nat × LV)} {E : Eff} (hE : effLoad P t xs lL = some E) (hobl : E.obl) : OpSem P o xs lL E := by
 obtain ⟨h1,h2,h3⟩ := j64 ho hE hobl
 obtain ⟨val,obl,upd,fresh⟩ := E
 simp only at h1 h2 h3
 subst h2;subst h3
 exact z12 h1
end Go.Proofs.Ytjfammnjpeeahaa.AL
namespace Go.Proofs.Ytjfammnjpeeahaa.AL
open Go.RowKit
variable {P : Program}
def rowAr (n : Nat) (f : Nat → Dat) : List AV := (List.range n).map fun j => .p (.d (f j))
theorem q65 (n : Nat) (f : Nat → Dat) : (rowAr n f).length = n := by simp [rowAr]
theorem x96 {n : Nat} {f : Nat → Dat} {j : Nat} (h : j < n) : (rowAr n f)[j]? = some (.p (.d (f j))) := by simp [rowAr,h]
def effStore (P : Program) (t : TypeId) (xs : List AV) (lL : Option (Nat × LV)) : Option Eff :=
 match tiOf P t,xs,lL with
 | some ti,[.loc l off,.p (.arr m f')],some (l',.cells e cs) => some { val := .top,obl := l' = l ∧ off = 0 ∧ m = cs.length ∧ ti.size = m,upd := some (l,.cells e (rowAr m f')) }
 |some ti,[.loc l off,x],some (l',.cells e cs) =>
  (cellsAV x).map fun ys => { val := .top,obl := l' = l ∧ ys.length = ti.size ∧ off + ti.size ≤ cs.length,upd := some (l,.cells e (cs.take off ++ ys ++ cs.drop (off + ti.size))) }
 |some ti,[.loc l off,x],some (l',.arr e n f) =>
  match x with
  | .p (.arr m f') => some { val := .top,obl := l' = l ∧ off = 0 ∧ m = n ∧ ti.size = n,upd := some (l,.arr e n f') }
  | .p (.d d) => some { val := .top,obl := l' = l ∧ ti.size = 1 ∧ off < n,upd := some (l,.arr e n fun j => if j = off then d else f j) }
  | .p (.agg ds) => some { val := .top,obl := l' = l ∧ ds.length = ti.size ∧ off + ti.size ≤ n,upd := some (l,.arr e n fun j => if off ≤ j ∧ j < off + ti.size then ds.getD (j - off) default else f j) }
  | _ => none
 | _,_,_ => none
theorem j50 {o : Oper} {t : TypeId} {x y : Operand} (ho : o.op = .store t x y) (r : Operand → Value) (w w' : World) {a : Value} (ha : r x = a) (hv : (Instr.storeAt t a (r y)).run P w = .ok () w') :
  (execOp r o).run P w = .ok .skip w' := by
 simp [execOp,ho,ha,hv]
theorem z20 {α : Type} (l ys : List α) (off : Nat) (hoff : off + ys.length ≤ l.length) (i : Nat) :
  (l.take off ++ ys ++ l.drop (off + ys.length))[i]? = if off ≤ i ∧ i < off + ys.length then ys[i - off]? else l[i]? := by
 by_cases h1 : i < off
 ·rw [if_neg (by omega),List.append_assoc,List.getElem?_append_left (by simp;omega),List.getElem?_take_of_lt h1]
 ·by_cases h2 : i < off + ys.length
  ·rw [if_pos ⟨by omega,h2⟩,List.getElem?_append_left (by simp;omega),List.getElem?_append_right (by simp;omega)]
   congr 1;simp;omega
  ·rw [if_neg (by omega),List.getElem?_append_right (by simp;omega),List.getElem?_drop]
   congr 1;simp;omega
theorem j35 {o : Oper} {t : TypeId} {x y : Operand} (ho : o.op = .store t x y) {ti : TI} (hti : tiOf P t = some ti) {l off : Nat} {z : AV} {L L' : LV} {obl : Prop}
  (hL0 : ∀ h,inB h l L = (fun b => h.ρ l = b)) (hL1 : ∀ h,inB h l L' = (fun b => h.ρ l = b))
  (H : ∀ (B : Nat → Prop) (w : World) (h : Gh) (v : Value),RelA w h v z → LocOK B w h l L →
   ∃ arr e fz,B (h.ρ l) ∧ w.heap[h.ρ l]? = some (.cells arr e fz) ∧ (fz = (0,0) ∨ arr.size ≤ fz.1) ∧ h.g (h.ρ l) = 0 ∧ v.cells.size = ti.size ∧ off + v.cells.size ≤ arr.size ∧ (∀ u ∈ v.cells.toList,u.oneCell' = true) ∧
    ∀ (w' : World),Keep w h.g w' h.g → w'.heap[h.ρ l]? = some (.cells (arr.toList.take off ++ v.cells.toList ++ arr.toList.drop (off + v.cells.size)).toArray e fz) →
     (∀ u x,RelA w h u x → RelA w' h u x) → LocOK B w' h l L') :
  OpSem P o [.loc l off,z] (some (l,L)) ⟨.top,obl,some (l,L'),false⟩ := by
 intro B w h r hB hz hr hL
 simp only [ho,Op.operands] at hr
 have h0 : r x = _ := hr.2 0 (r x) _ rfl rfl
 have h1 := hr.2 1 (r y) _ rfl rfl
 obtain ⟨arr,e,fz,k1,k2,kz,k3,k4,k5,k6,k7⟩ := H B w h (r y) h1 (hL l L rfl)
 have hst := x49 hti k2 kz k4 k5 k6
 have tr : Trans B w h (w.setRow (h.ρ l) (arr.toList.take off ++ (r y).cells.toList ++ arr.toList.drop (off + (r y).cells.size)).toArray) h (fun k => h.ρ l = k) (some l) false := x35 hz k1 k3 _
 refine ⟨.skip,undef,_,h,j50 ho r w _ h0 hst,.inr ⟨rfl,rfl⟩,trivial,?_,fun l' L2 hl => ?_⟩
 ·have : ownOf h (some (l,L)) ⟨.top,obl,some (l,L'),false⟩ = (fun k => h.ρ l = k) := by simp only [ownOf,hL0]
  rw [this];exact tr
 ·cases hl
  refine ⟨k7 _ tr.keep (setRow_heap w _ arr _ e _ k2) (fun u x hx => RelA.trans tr (fun hf => by cases hf) hx),fun b hb => .inr ⟨rfl,L,rfl,?_⟩⟩
  rw [hL0];rw [hL1] at hb;exact hb
theorem j96 {o : Oper} {t : TypeId} {x y : Operand} (ho : o.op = .store t x y) {xs : List AV} {lL : Option (Nat × LV)} {E : Eff} (hE : effStore P t xs lL = some E) (hobl : E.obl) : OpSem P o xs lL E := by
 unfold effStore at hE
 split at hE
 ·rename_i ti l off m f' l' e cs hti
  cases hE
  obtain ⟨rfl,rfl,hm,hsz⟩ := hobl
  refine j35 ho hti (fun _ => rfl) (fun _ => rfl) fun B w h v hv hL => ?_
  obtain ⟨arr,hB,hh,hs,hg,hrr⟩ := hL
  obtain ⟨e1,e2⟩ := j41 hv
  have hone : ∀ u ∈ v.cells.toList,u.oneCell' = true := by
   intro u hu
   obtain ⟨i,hi,hiu⟩ := Array.getElem_of_mem (Array.mem_toList_iff.1 hu)
   exact (e2 i u (by simp [hi,hiu])).one
  refine ⟨arr,e,(0,0),hB,hh,.inl rfl,hg,by omega,by omega,hone,fun w' k hh' hrel => ⟨_,hB,hh',?_,hg,fun i u d hu hd => ?_⟩⟩
  ·simp [q65];omega
  ·have hi : i < m := by
    have := (List.getElem?_eq_some_iff.1 hd).1
    rwa [q65] at this
   rw [x96 hi] at hd
   cases hd
   have hu' : v.cells[i]? = some u := by
    have : (arr.toList.take 0 ++ v.cells.toList ++ arr.toList.drop (0 + v.cells.size))[i]? = some u := by simpa using hu
    rw [List.take_zero,List.nil_append,List.getElem?_append_left (by simp;omega)] at this
    simpa using this
   have r := e2 i u hu'
   exact ⟨hrel _ _ (show RelA w h u (.p (.d (f' i))) from .d _ _ r),r.one⟩
 ·rename_i ti l off z l' e cs hno hti
  cases hc : cellsAV z with
  | none => simp [hc] at hE
  |some ys =>
   simp [hc] at hE;subst hE
   obtain ⟨rfl,hlen,hoff⟩ := hobl
   refine j35 ho hti (fun _ => rfl) (fun _ => rfl) fun B w h v hv hL => ?_
   obtain ⟨arr,hB,hh,hs,hg,hrr⟩ := hL
   obtain ⟨e1,e2,e3⟩ := q64 hc hv
   refine ⟨arr,e,(0,0),hB,hh,.inl rfl,hg,by omega,by omega,e3,fun w' k hh' hrel => ⟨_,hB,hh',?_,hg,fun i u d hu hd => ?_⟩⟩
   ·simp;omega
   ·have hsz : v.cells.size = ti.size := by omega
    have l1 : off + v.cells.toList.length ≤ arr.toList.length := by simp;omega
    have l2 : off + ys.length ≤ cs.length := by omega
    have g1 := z20 arr.toList v.cells.toList off l1 i
    have g2 := z20 cs ys off l2 i
    simp only [Array.length_toList,hsz] at g1
    rw [hlen] at g2
    simp only [List.getElem?_toArray,hsz] at hu
    rw [g1] at hu
    rw [← List.append_assoc,g2] at hd
    by_cases hi : off ≤ i ∧ i < off + ti.size
    ·rw [if_pos hi] at hu hd
     have hu' : v.cells[i - off]? = some u := by simpa using hu
     exact ⟨hrel _ _ (e2 _ u d hu' hd),e3 u (Array.mem_toList_iff.2 (Array.mem_of_getElem? hu'))⟩
    ·rw [if_neg hi] at hu hd
     obtain ⟨r1,r2⟩ := hrr i u d (by simpa using hu) hd
     exact ⟨hrel _ _ r1,r2⟩
 ·rename_i ti l off z l' e n f hti
  split at hE
  ·rename_i m f'
   cases hE
   obtain ⟨rfl,rfl,rfl,hsz⟩ := hobl
   refine j35 ho hti (fun _ => rfl) (fun _ => rfl) fun B w h v hv hL => ?_
   obtain ⟨arr,fz,hB,hh,hfz,hs,hg,hrr⟩ := hL
   obtain ⟨e1,e2⟩ := j41 hv
   have hone : ∀ u ∈ v.cells.toList,u.oneCell' = true := by
    intro u hu
    obtain ⟨i,hi,hiu⟩ := Array.getElem_of_mem (Array.mem_toList_iff.1 hu)
    exact (e2 i u (by simp [hi,hiu])).one
   refine ⟨arr,e,fz,hB,hh,hfz,hg,by omega,by omega,hone,fun w' k hh' hrel => ⟨_,fz,hB,hh',?_,?_,hg,fun i u hin hu => ?_⟩⟩
   ·rcases hfz with e | e
    ·exact .inl e
    ·right;simp;omega
   ·simp;omega
   ·have hic : i < v.cells.size := by omega
    simp only [List.getElem?_toArray,List.take_zero,List.nil_append] at hu
    rw [List.getElem?_append_left (by simpa using hic)] at hu
    exact (e2 i u (by simpa using hu)).keep k
  ·rename_i d
   cases hE
   obtain ⟨rfl,hsz,hoff⟩ := hobl
   refine j35 ho hti (fun _ => rfl) (fun _ => rfl) fun B w h v hv hL => ?_
   obtain ⟨arr,fz,hB,hh,hfz,hs,hg,hrr⟩ := hL
   obtain ⟨e1,e2,e3⟩ := j24 (x := .p (.d d)) rfl hv
   simp at e1
   refine ⟨arr,e,fz,hB,hh,hfz,hg,by omega,by omega,e3,fun w' k hh' hrel => ⟨_,fz,hB,hh',?_,?_,hg,fun i u hin hu => ?_⟩⟩
   ·rcases hfz with e | e
    ·exact .inl e
    ·right;simp;omega
   ·simp;omega
   ·have g1 := z20 arr.toList v.cells.toList off (by simp;omega) i
    simp only [Array.length_toList] at g1
    simp only [List.getElem?_toArray] at hu
    rw [g1] at hu
    show RelD _ _ _ (if i = off then d else f i)
    by_cases hi : i = off
    ·rw [if_pos (by omega)] at hu
     rw [if_pos hi]
     exact (e2 0 u d (by subst hi;simpa using hu) rfl).keep k
    ·rw [if_neg (by omega)] at hu
     rw [if_neg hi]
     exact (hrr i u hin (by simpa using hu)).keep k
  ·rename_i ds
   cases hE
   obtain ⟨rfl,hsz,hoff⟩ := hobl
   refine j35 ho hti (fun _ => rfl) (fun _ => rfl) fun B w h v hv hL => ?_
   obtain ⟨arr,fz,hB,hh,hfz,hs,hg,hrr⟩ := hL
   obtain ⟨e1,e2,e3⟩ := j24 (x := .p (.agg ds)) rfl hv
   refine ⟨arr,e,fz,hB,hh,hfz,hg,by omega,by omega,e3,fun w' k hh' hrel => ⟨_,fz,hB,hh',?_,?_,hg,fun i u hin hu => ?_⟩⟩
   ·rcases hfz with e | e
    ·exact .inl e
    ·right;simp;omega
   ·simp;omega
   ·have g1 := z20 arr.toList v.cells.toList off (by simp;omega) i
    simp only [Array.length_toList] at g1
    simp only [List.getElem?_toArray] at hu
    rw [g1] at hu
    show RelD _ _ _ (if off ≤ i ∧ i < off + ti.size then ds.getD (i - off) default else f i)
    by_cases hi : off ≤ i ∧ i < off + ti.size
    ·rw [if_pos (by omega)] at hu
     rw [if_pos hi]
     have hj : i - off < ds.length := by omega
     refine (e2 (i - off) u _ (by simpa using hu) ?_).keep k
     simp [List.getD_eq_getElem?_getD,hj]
    ·rw [if_neg (by omega)] at hu
     rw [if_neg hi]
     exact (hrr i u hin (by simpa using hu)).keep k
  ·cases hE
 ·cases hE
def effFieldAddr (P : Program) (t : TypeId) (n : Nat) (xs : List AV) : Option Eff :=
 match tiOf P t with
 |some ti => match ti.k with
  | .struct fs => match fs[n]?,xs with
   | some (off,sz,_),[.p (.d (.bx cs))] => some { val := .p (.d (.bx (cs.drop off))),obl := sz ≠ 0 ∧ off ≤ cs.length }
   | some (off,sz,_),[.loc l o] => some { val := .loc l (o + off),obl := sz ≠ 0 }
   | _,_ => none
  | _ => none
 | none => none
theorem z65 {w : World} {g : Nat → Nat} {b o : Nat} {cs : List Dat} (r : RelD w g (.pointer (some ⟨b,o,none⟩)) (.bx cs)) (k : Nat) (hk : k ≤ cs.length) : RelD w g (.pointer (some ⟨b,o + k,none⟩)) (.bx (cs.drop k)) := by
 cases r with
 |bx _ _ _ u hc hg hr =>
  refine .bx b (o + k) _ (fun j => u (k + j)) (fun j hj => ?_) (by simp;omega) (fun j x hx => ?_)
  ·simp at hj;rw [Nat.add_assoc];exact hc _ (by omega)
  ·rw [List.getElem?_drop] at hx;exact hr _ x hx
theorem q42 {w : World} {g : Nat → Nat} {v : Value} {cs : List Dat} (r : RelD w g v (.bx cs)) : ∃ b o,v = .pointer (some ⟨b,o,none⟩) := by
 cases r with | bx b o => exact ⟨b,o,rfl⟩
theorem q97 {o : Oper} {t : TypeId} {x : Operand} {n : Nat} (ho : o.op = .fieldAddr t x n) {xs : List AV} {lL : Option (Nat × LV)} {E : Eff} (hE : effFieldAddr P t n xs = some E) (hobl : E.obl) : OpSem P o xs lL E := by
 unfold effFieldAddr at hE
 split at hE
 ·rename_i ti hti
  split at hE
  ·rename_i fs hk
   split at hE
   ·rename_i off sz ag cs hn
    cases hE
    obtain ⟨hsz,hoff⟩ := hobl
    refine z12 fun B w h r hr hL => ?_
    simp only [ho,Op.operands] at hr
    have h0 := hr.2 0 (r x) _ rfl rfl
    obtain ⟨v0,hv0⟩ : ∃ v,r x = v := ⟨_,rfl⟩
    rw [hv0] at h0
    cases h0 with
    |d _ _ h0 =>
     obtain ⟨b,q,rfl⟩ := q42 h0
     exact ⟨_,by simp [execOp,ho,hv0,q40 hti hk hn hsz],.d _ _ (z65 h0 off hoff)⟩
   ·rename_i off sz ag l q hn
    cases hE
    refine z12 fun B w h r hr hL => ?_
    simp only [ho,Op.operands] at hr
    have h0 : r x = _ := hr.2 0 (r x) _ rfl rfl
    exact ⟨_,by simp [execOp,ho,h0,q40 hti hk hn hobl],rfl⟩
   ·cases hE
  ·cases hE
 ·cases hE
def intAV : AV → Option (IntKind × Int)
 | .p (.d (.v (.int k i))) => some (k,i)
 | _ => none
theorem q22 {w : World} {h : Gh} {x : AV} {k : IntKind} {i : Int} (hb : intAV x = some (k,i)) {v : Value} (r : RelA w h v x) : v = .int k i := by
 unfold intAV at hb
 split at hb
 ·cases hb;exact q13 r
 ·cases hb
def effIndexAddr (P : Program) (t : TypeId) (xs : List AV) : Option Eff :=
 match tiOf P t,xs with
 |some ti,[x,ix] => match intAV ix with
  |some (_,i) => match ti.k,x with
   | .slice _ sz _,.p (.d (.sl sz' n f)) => some { val := .p (.d (.bx (f i.toNat))),obl := (0 ≤ i ∧ i < n) ∧ sz' = sz }
   | .slice _ sz _,.gr _ _ sz' n f => some { val := .p (.d (.bx (f i.toNat))),obl := (0 ≤ i ∧ i < n) ∧ sz' = sz }
   | .slice _ sz _,.row l sz' off n => some { val := .loc l ((off + i.toNat) * sz),obl := (0 ≤ i ∧ i < n) ∧ sz' = sz }
   | .array n _ sz _,.p (.d (.bx cs)) => some { val := .p (.d (.bx (cs.drop (i.toNat * sz)))),obl := (0 ≤ i ∧ i < n) ∧ n * sz ≤ cs.length }
   | .array n _ sz _,.p (.d (.bf m f)) => some { val := .p (.d (.bf (m - i.toNat * sz) fun j => f (i.toNat * sz + j))),obl := (0 ≤ i ∧ i < n) ∧ n * sz ≤ m }
   | .array n _ sz _,.loc l q => some { val := .loc l (q + i.toNat * sz),obl := 0 ≤ i ∧ i < n }
   | _,_ => none
  | none => none
 | _,_ => none
theorem z97 {w : World} {g : Nat → Nat} {v : Value} {sz n : Nat} {f : Nat → List Dat} (r : RelD w g v (.sl sz n f)) {i : Nat} (hi : i < n) :
  ∃ b o c,v = .slice (some ⟨b,o,none⟩) n c ∧ n ≤ c ∧ RelD w g (.pointer (some ⟨b,o + i * sz,none⟩)) (.bx (f i)) := by
 cases r with
 | sl0 => omega
 |sl b off _ c _ _ u hn hl hc hg hr =>
  refine ⟨b,off,c,rfl,hn,.bx b _ _ (u i) (fun j hj => hc i j hi (by rw [hl i hi] at hj;exact hj)) ?_ (fun j x hx => hr i j x hi hx)⟩
  rw [hl i hi]
  have : (i + 1) * sz ≤ n * sz := Nat.mul_le_mul_right _ hi
  rw [Nat.add_mul,Nat.one_mul] at this
  omega
theorem q51 {i : Int} {n : Nat} (h0 : 0 ≤ i) (h1 : i < n) : i.toNat < n := by omega
theorem z22 {o : Oper} {t : TypeId} {x y : Operand} (ho : o.op = .indexAddr t x y) (r : Operand → Value) (w : World) {a b v : Value} (ha : r x = a) (hb : r y = b) (hv : (Instr.indexAt t a b).run P w = .ok v w) :
  (execOp r o).run P w = .ok (.value v) w := by
 simp [execOp,ho,ha,hb,hv]
theorem x97 {o : Oper} {t : TypeId} {x y : Operand} (ho : o.op = .indexAddr t x y) {xs : List AV} {lL : Option (Nat × LV)} {E : Eff} (hE : effIndexAddr P t xs = some E) (hobl : E.obl) : OpSem P o xs lL E := by
 unfold effIndexAddr at hE
 split at hE
 ·rename_i ti zx zi hti
  split at hE
  ·rename_i k i hi
   have slc : ∀ {e sz by_ sz' n} {f : Nat → List Dat},ti.k = .slice e sz by_ → ((0 ≤ i ∧ i < (n : Nat)) ∧ sz' = sz) → (∀ (w : World) (h : Gh) v,RelA w h v zx → RelD w h.g v (.sl sz' n f)) →
     ∀ obl,OpSem P o [zx,zi] lL ⟨.p (.d (.bx (f i.toNat))),obl,none,false⟩ := by
    intro e sz by_ sz' n f hk hob hrel obl
    obtain ⟨⟨i0,i1⟩,rfl⟩ := hob
    refine z12 fun B w h r hr hL => ?_
    simp only [ho,Op.operands] at hr
    have h0 := hrel w h _ (hr.2 0 (r x) _ rfl rfl)
    have h1 := q22 hi (hr.2 1 (r y) _ rfl rfl)
    obtain ⟨b,q,c,hv,hnc,hbx⟩ := z97 h0 (q51 i0 i1)
    exact ⟨_,z22 ho r w hv h1 (z40 hti hk i0 i1),.d _ _ hbx⟩
   split at hE
   ·rename_i e sz by_ sz' n f hk
    cases hE
    exact slc hk hobl (fun w h v hv => by cases hv with | d _ _ hv => exact hv) _
   ·rename_i e sz by_ l gen sz' n f hk
    cases hE
    exact slc hk hobl (fun w h v hv => hv.1) _
   ·rename_i e sz by_ l sz' off n hk
    cases hE
    obtain ⟨⟨i0,i1⟩,rfl⟩ := hobl
    refine z12 fun B w h r hr hL => ?_
    simp only [ho,Op.operands] at hr
    obtain ⟨c,hv,hnc⟩ := hr.2 0 (r x) _ rfl rfl
    have h1 := q22 hi (hr.2 1 (r y) _ rfl rfl)
    refine ⟨_,z22 ho r w hv h1 (z40 hti hk i0 i1),?_⟩
    simp only [RelA,Nat.add_mul]
   ·rename_i n e sz ag cs hk
    cases hE
    obtain ⟨⟨i0,i1⟩,hle⟩ := hobl
    refine z12 fun B w h r hr hL => ?_
    simp only [ho,Op.operands] at hr
    have h0 := hr.2 0 (r x) _ rfl rfl
    obtain ⟨v0,hv0⟩ : ∃ v,r x = v := ⟨_,rfl⟩
    rw [hv0] at h0
    have h1 := q22 hi (hr.2 1 (r y) _ rfl rfl)
    cases h0 with
    |d _ _ h0 =>
     obtain ⟨b,q,rfl⟩ := q42 h0
     refine ⟨_,z22 ho r w hv0 h1 (j30 hti hk i0 i1),.d _ _ (z65 h0 _ ?_)⟩
     exact Nat.le_trans (Nat.mul_le_mul_right _ (Nat.le_of_lt (q51 i0 i1))) hle
   ·rename_i n e sz ag m f hk
    cases hE
    obtain ⟨⟨i0,i1⟩,hle⟩ := hobl
    refine z12 fun B w h r hr hL => ?_
    simp only [ho,Op.operands] at hr
    have h0 := hr.2 0 (r x) _ rfl rfl
    obtain ⟨v0,hv0⟩ : ∃ v,r x = v := ⟨_,rfl⟩
    rw [hv0] at h0
    have h1 := q22 hi (hr.2 1 (r y) _ rfl rfl)
    have hlm := Nat.le_trans (Nat.mul_le_mul_right sz (Nat.le_of_lt (q51 i0 i1))) hle
    cases h0 with
    |d _ _ h0 =>
     cases h0 with
     |bf b q _ _ u hc hg hrr =>
      refine ⟨_,z22 ho r w hv0 h1 (j30 hti hk i0 i1),.d _ _ (.bf b _ _ _ (fun j => u (i.toNat * sz + j)) (fun j hj => ?_) (by omega) (fun j hj => hrr _ (by omega)))⟩
      rw [Nat.add_assoc];exact hc _ (by omega)
   ·rename_i n e sz ag l q hk
    cases hE
    obtain ⟨i0,i1⟩ := hobl
    refine z12 fun B w h r hr hL => ?_
    simp only [ho,Op.operands] at hr
    have h0 : r x = _ := hr.2 0 (r x) _ rfl rfl
    have h1 := q22 hi (hr.2 1 (r y) _ rfl rfl)
    exact ⟨_,z22 ho r w h0 h1 (j30 hti hk i0 i1),rfl⟩
   ·cases hE
  ·cases hE
 ·cases hE
end Go.Proofs.Ytjfammnjpeeahaa.AL
namespace Go.Proofs.Ytjfammnjpeeahaa.AL
open Go.RowKit
variable {P : Program}
def intsD : List Dat → Option (List IntKind × List Int)
 | [] => some ([],[])
 | .v (.int k a) :: r => match intsD r with
  | some (ks,aq) => some (k :: ks,a :: aq)
  | none => none
 | _ => none
def ints : List IntKind → List Int → List Value
 | k :: ks,a :: aq => .int k a :: ints ks aq
 | _,_ => []
def eqI : List Int → List Int → Bool
 | a :: r,b :: s => (a == b) && eqI r s
 | [],[] => true
 | _,_ => false
def EqTy (P : Program) (t : TypeId) (ks : List IntKind) : Prop :=
 P.eqGuardType P.depth t = false ∧ ∀ (w : World) (xs ys : List Int),xs.length = ks.length → ys.length = ks.length →
  (Op.equal t (.agg (ints ks xs).toArray) (.agg (ints ks ys).toArray)).run P w = .ok (eqI xs ys) w
theorem z42 {w : World} {g : Nat → Nat} : ∀ {cs : List Dat} {ks : List IntKind} {aq : List Int},intsD cs = some (ks,aq) → ∀ {vs : List Value},vs.length = cs.length →
  (∀ (j : Nat) v x,vs[j]? = some v → cs[j]? = some x → RelD w g v x) → vs = ints ks aq ∧ aq.length = ks.length
 | [],ks,aq,h,vs,hl,_ => by
  simp [intsD] at h;obtain ⟨rfl,rfl⟩ := h
  simp at hl;subst hl;exact ⟨rfl,rfl⟩
 |c :: cs,ks,aq,h,vs,hl,hr => by
  unfold intsD at h
  split at h
  ·rename_i e;cases e
  ·rename_i k a rest e
   cases e
   split at h
   ·rename_i ks' as' h'
    cases h
    cases vs with
    | nil => simp at hl
    |cons v vs =>
     obtain ⟨e1,e2⟩ := z42 h' (vs := vs) (by simpa using hl) (fun j v x hv hx => hr (j + 1) v x (by simpa using hv) (by simpa using hx))
     have := hr 0 v _ rfl rfl
     cases this
     exact ⟨by simp [ints,e1],by simp [e2]⟩
   ·cases h
  ·cases h
def effInt (op : BinOp) (k : IntKind) (a b : Int) : Option (Value × Prop) :=
 match op with
 | .add => some (.int k (k.wrap (a + b)),True)
 | .sub => some (.int k (k.wrap (a - b)),True)
 | .mul => some (.int k (k.wrap (a * b)),True)
 | .quo => some (.int k (k.wrap (a.tdiv b)),b ≠ 0)
 | .rem => some (.int k (a.tmod b),b ≠ 0)
 | .and => some (.int k (bits .and k a b),True)
 | .or => some (.int k (bits .or k a b),True)
 | .xor => some (.int k (bits .xor k a b),True)
 | .andNot => some (.int k (bits .andNot k a b),True)
 | .eql => some (.bool (a == b),True)
 | .neq => some (.bool (a != b),True)
 | .lss => some (.bool (decide (a < b)),True)
 | .leq => some (.bool (decide (a ≤ b)),True)
 | .gtr => some (.bool (decide (a > b)),True)
 | .geq => some (.bool (decide (a ≥ b)),True)
 | _ => none
def effBin (P : Program) (op : BinOp) (t : TypeId) (xs : List AV) : Option Eff :=
 match xs with
 | [.p (.d (.v (.int k a))),.p (.d (.v (.int k' b)))] =>
  match op with
  | .shl => some { val := .p (.d (.v (.int k (k.wrap (a * 2 ^ min b.toNat k.bits))))),obl := 0 ≤ b }
  | .shr => some { val := .p (.d (.v (.int k (a / 2 ^ min b.toNat k.bits)))),obl := 0 ≤ b }
  | op => (effInt op k a b).map fun r => { val := .p (.d (.v r.1)),obl := k = k' ∧ r.2 }
 | [.p (.d (.v (.bool a))),.p (.d (.v (.bool b)))] =>
  match op with
  | .eql => some { val := .p (.d (.v (.bool (a == b)))),obl := P.underlying t = some .bool }
  | .neq => some { val := .p (.d (.v (.bool (!(a == b))))),obl := P.underlying t = some .bool }
  | _ => none
 | [.p (.d (.v (.string a))),.p (.d (.v (.string b)))] =>
  match op with
  | .eql => some { val := .p (.d (.v (.bool (a == b)))) }
  | .neq => some { val := .p (.d (.v (.bool (!(a == b))))) }
  | _ => none
 | [.p (.agg c1),.p (.agg c2)] =>
  match intsD c1,intsD c2 with
  |some (k1,a1),some (k2,a2) =>
   match op with
   | .eql => some { val := .p (.d (.v (.bool (eqI a1 a2)))),obl := k1 = k2 ∧ EqTy P t k1 }
   | .neq => some { val := .p (.d (.v (.bool (!(eqI a1 a2))))),obl := k1 = k2 ∧ EqTy P t k1 }
   | _ => none
  | _,_ => none
 | _ => none
theorem q36 {w : World} {h : Gh} {v : Value} {cs : List Dat} (r : RelA w h v (.p (.agg cs))) : ∃ vs : List Value,v = .agg vs.toArray ∧ vs.length = cs.length ∧ ∀ (j : Nat) u x,vs[j]? = some u → cs[j]? = some x → RelD w h.g u x := by
 cases r with
 | agg vs _ hl hr => exact ⟨vs,rfl,hl,hr⟩
theorem x65 {op : BinOp} {k : IntKind} {a b : Int} {v : Value} {q : Prop} (h : effInt op k a b = some (v,q)) (hq : q) (t : TypeId) (w : World) :
  (binOp op t (.int k a) (.int k b)).run P w = .ok v w ∧ v.oneCell' = true := by
 unfold effInt at h
 split at h <;> first | (cases h;done) | (simp only [Option.some.injEq,Prod.mk.injEq] at h;obtain ⟨rfl,rfl⟩ := h;refine ⟨?_,rfl⟩)
 all_goals first
  | (simp [binOp,Op.intArith];done)
  | (simp [binOp,Op.intDiv,hq];done)
  | (simp only [go_sem];rfl)
  | (simp [binOp,Op.intCmp];done)
theorem j97 (op : BinOp) (t : TypeId) (x y : Operand) (k k' : IntKind) (a b : Int) (w : World) : (eqGuard op t x y (.int k a) (.int k' b)).run P w = .ok () w := by
 cases op <;> simp [eqGuard]
theorem z23 {o : Oper} {op : BinOp} {t t' : TypeId} {x y : Operand} (ho : o.op = .binOp op t x y t') (r : Operand → Value) (w : World) {a b v : Value} (ha : r x = a) (hb : r y = b)
  (hg : (eqGuard op t x y a b).run P w = .ok () w) (hv : (binOp op t a b).run P w = .ok v w) : (execOp r o).run P w = .ok (.value v) w := by
 simp [execOp,ho,ha,hb,hg,hv]
theorem sem_bin {o : Oper} {op : BinOp} {t t' : TypeId} {x y : Operand} (ho : o.op = .binOp op t x y t') {xs : List AV} {lL : Option (Nat × LV)} {E : Eff} (hE : effBin P op t xs = some E) (hobl : E.obl) : OpSem P o xs lL E := by
 unfold effBin at hE
 split at hE
 ·rename_i k a k' b
  have pre : ∀ {v : Value} {obl : Prop},v.oneCell' = true → (∀ w,(binOp op t (.int k a) (.int k' b)).run P w = .ok v w) → OpSem P o [.p (.d (.v (.int k a))),.p (.d (.v (.int k' b)))] lL ⟨.p (.d (.v v)),obl,none,false⟩ := by
   intro v obl h1 hrun
   refine z12 fun B w h r hr hL => ?_
   simp only [ho,Op.operands] at hr
   exact ⟨v,z23 ho r w (q13 (hr.2 0 (r x) _ rfl rfl)) (q13 (hr.2 1 (r y) _ rfl rfl)) (j97 _ _ _ _ _ _ _ _ _) (hrun w),q14 h1⟩
  split at hE
  ·cases hE
   exact pre rfl fun w => by
    have hb : (0 : Int) ≤ b := hobl
    simp only [binOp,shift_shl_any k k' a b hb];rfl
  ·cases hE
   exact pre rfl fun w => by
    have hb : (0 : Int) ≤ b := hobl
    simp only [binOp,shift_shr_any k k' a b hb];rfl
  ·cases he : effInt op k a b with
   | none => simp [he] at hE
   |some p =>
    obtain ⟨v,q⟩ := p
    simp [he] at hE
    subst hE
    obtain ⟨rfl,hq⟩ := hobl
    exact pre (x65 (P := P) he hq t default).2 fun w => (x65 he hq t w).1
 ·rename_i a b
  have hg : ∀ w,(eqGuard op t x y (.bool a) (.bool b)).run P w = .ok () w := by intro w;cases op <;> simp [eqGuard]
  have heq : P.underlying t = some .bool → ∀ w,(Op.equal t (.bool a) (.bool b)).run P w = .ok (a == b) w := by
   intro ht w
   exact run_equalIn_bool' (P := P) (w := w) 9999 t a b ht
  split at hE
  ·cases hE
   refine z12 fun B w h r hr hL => ?_
   simp only [ho,Op.operands] at hr
   exact ⟨_,z23 ho r w (q13 (hr.2 0 (r x) _ rfl rfl)) (q13 (hr.2 1 (r y) _ rfl rfl)) (hg w) (by simp [binOp,heq hobl]),q14 rfl⟩
  ·cases hE
   refine z12 fun B w h r hr hL => ?_
   simp only [ho,Op.operands] at hr
   exact ⟨_,z23 ho r w (q13 (hr.2 0 (r x) _ rfl rfl)) (q13 (hr.2 1 (r y) _ rfl rfl)) (hg w) (by simp [binOp,heq hobl]),q14 rfl⟩
  ·cases hE
 ·rename_i a b
  have hg : ∀ w,(eqGuard op t x y (.string a) (.string b)).run P w = .ok () w := by intro w;cases op <;> simp [eqGuard]
  split at hE
  ·cases hE
   refine z12 fun B w h r hr hL => ?_
   simp only [ho,Op.operands] at hr
   exact ⟨_,z23 ho r w (q13 (hr.2 0 (r x) _ rfl rfl)) (q13 (hr.2 1 (r y) _ rfl rfl)) (hg w) (by simp [binOp,Op.stringOp,beq_toListBytes]),q14 rfl⟩
  ·cases hE
   refine z12 fun B w h r hr hL => ?_
   simp only [ho,Op.operands] at hr
   exact ⟨_,z23 ho r w (q13 (hr.2 0 (r x) _ rfl rfl)) (q13 (hr.2 1 (r y) _ rfl rfl)) (hg w) (by simp [binOp,Op.stringOp,beq_toListBytes]),q14 rfl⟩
  ·cases hE
 ·rename_i c1 c2
  split at hE
  ·rename_i k1 a1 k2 a2 e1 e2
   have fin : ∀ {v : Value} {obl : Prop},k1 = k2 → EqTy P t k1 → v.oneCell' = true → (∀ w (x1 x2 : Array Value),(Op.equal t (.agg x1) (.agg x2)).run P w = .ok (eqI a1 a2) w → (binOp op t (.agg x1) (.agg x2)).run P w = .ok v w) →
     OpSem P o [.p (.agg c1),.p (.agg c2)] lL ⟨.p (.d (.v v)),obl,none,false⟩ := by
    intro v obl hk het h1 hrun
    subst hk
    refine z12 fun B w h r hr hL => ?_
    simp only [ho,Op.operands] at hr
    obtain ⟨v1,q1,l1,r1⟩ := q36 (hr.2 0 (r x) _ rfl rfl)
    obtain ⟨v2,q2,l2,r2⟩ := q36 (hr.2 1 (r y) _ rfl rfl)
    obtain ⟨s1,n1⟩ := z42 e1 l1 r1
    obtain ⟨s2,n2⟩ := z42 e2 l2 r2
    subst s1;subst s2
    exact ⟨v,z23 ho r w q1 q2 (run_eqGuard_agg (P := P) w op t x y _ _ het.1) (hrun w _ _ (het.2 w a1 a2 n1 n2)),q14 h1⟩
   split at hE
   ·cases hE
    exact fin hobl.1 hobl.2 rfl fun w x1 x2 he => by simp [binOp,he]
   ·cases hE
    exact fin hobl.1 hobl.2 rfl fun w x1 x2 he => by simp [binOp,he]
   ·cases hE
  ·cases hE
 ·cases hE
def effUn (op : UnOp) (xs : List AV) : Option Eff :=
 match op,xs with
 | .not,[.p (.d (.v (.bool b)))] => some { val := .p (.d (.v (.bool !b))) }
 | .neg,[.p (.d (.v (.int k n)))] => some { val := .p (.d (.v (.int k (k.wrap (0 - n))))) }
 | .xor,[.p (.d (.v (.int k n)))] => some { val := .p (.d (.v (.int k (bits .xor k (if k.signed then -1 else k.max) n)))) }
 | _,_ => none
theorem sem_un {o : Oper} {op : UnOp} {t : TypeId} {x : Operand} (ho : o.op = .unOp op t x) {xs : List AV} {lL : Option (Nat × LV)} {E : Eff} (hE : effUn op xs = some E) : OpSem P o xs lL E := by
 unfold effUn at hE
 split at hE
 all_goals first | (cases hE;done) | skip
 all_goals
  cases hE
  refine z12 fun B w h r hr hL => ?_
  simp only [ho,Op.operands] at hr
  have h0 := q13 (hr.2 0 (r x) _ rfl rfl)
  refine ⟨_,?_,q14 rfl⟩
  simp [execOp,ho,h0,Op.unary,Op.intArith,Op.intBits,bits]
def effConvert (P : Program) (d : TypeId) (xs : List AV) : Option Eff :=
 match tiOf P d,xs with
 |some ti,[.p (.d (.v (.int k n)))] => match ti.k with
  | .int k' => some { val := .p (.d (.v (.int k' (k'.wrap n)))) }
  | _ => none
 | _,_ => none
theorem q98 {o : Oper} {s d : TypeId} {x : Operand} (ho : o.op = .convert s d x) (hs : (tiOf P s).isSome = true) {xs : List AV} {lL : Option (Nat × LV)} {E : Eff} (hE : effConvert P d xs = some E) : OpSem P o xs lL E := by
 unfold effConvert at hE
 split at hE
 ·rename_i ti k n hti
  split at hE
  ·rename_i k' hk
   cases hE
   refine z12 fun B w h r hr hL => ?_
   simp only [ho,Op.operands] at hr
   have h0 := q13 (hr.2 0 (r x) _ rfl rfl)
   obtain ⟨_,dd,_,_,hd,_,hkk,_,_⟩ := j12 hti
   rw [hk] at hkk
   have := q35 hkk
   subst this
   obtain ⟨si,hsi⟩ := Option.isSome_iff_exists.1 hs
   obtain ⟨_,sd,_,_,hsd,_,_,_,_⟩ := j12 hsi
   exact ⟨_,by simp [execOp,ho,h0,convert,run_underlying hd,run_underlying hsd,Conv.intToInt],q14 rfl⟩
  ·cases hE
 ·cases hE
def effExtract (i : Nat) (xs : List AV) : Option Eff :=
 match xs with
 | [.tup ys] => (ys[i]?).map fun y => { val := .p y }
 | _ => none
theorem z98 {o : Oper} {x : Operand} {i : Nat} (ho : o.op = .extract x i) {xs : List AV} {lL : Option (Nat × LV)} {E : Eff} (hE : effExtract i xs = some E) : OpSem P o xs lL E := by
 unfold effExtract at hE
 split at hE
 ·rename_i ys
  cases hy : ys[i]? with
  | none => simp [hy] at hE
  |some y =>
   simp [hy] at hE;subst hE
   refine z12 fun B w h r hr hL => ?_
   simp only [ho,Op.operands] at hr
   obtain ⟨vs,h0,hrr⟩ := hr.2 0 (r x) _ rfl rfl
   have hlt : i < vs.length := by rw [hrr.1];exact (List.getElem?_eq_some_iff.1 hy).1
   exact ⟨vs[i],by simp [execOp,ho,h0,Instr.extract,hlt],hrr.2 i _ y (by simp [hlt]) hy⟩
 ·cases hE
def effIndex (P : Program) (t : TypeId) (xs : List AV) : Option Eff :=
 match tiOf P t,xs with
 |some ti,[.p (.d (.v (.string s))),.p (.d (.v (.int k i)))] => match ti.k with
  | .string => some { val := .p (.d (.v (.int .u8 ((s.data.toList.getD i.toNat 0).toNat : Nat)))),obl := 0 ≤ i ∧ i < s.size }
  | _ => none
 | _,_ => none
theorem x98 {o : Oper} {t : TypeId} {x y : Operand} (ho : o.op = .index t x y) {xs : List AV} {lL : Option (Nat × LV)} {E : Eff} (hE : effIndex P t xs = some E) (hobl : E.obl) : OpSem P o xs lL E := by
 unfold effIndex at hE
 split at hE
 ·rename_i ti s k i hti
  split at hE
  ·rename_i hk
   cases hE
   obtain ⟨i0,i1⟩ := hobl
   refine z12 fun B w h r hr hL => ?_
   simp only [ho,Op.operands] at hr
   have h0 := q13 (hr.2 0 (r x) _ rfl rfl)
   have h1 := q13 (hr.2 1 (r y) _ rfl rfl)
   obtain ⟨_,dd,_,_,hd,_,hkk,_,_⟩ := j12 hti
   rw [hk] at hkk
   have := j39 hkk
   subst this
   have hlt : i.toNat < s.size := by omega
   have hs : s[i.toNat]? = some s[i.toNat] := by simp [hlt]
   have hv : (s.data.toList.getD i.toNat 0) = s[i.toNat] := by
    have : i.toNat < s.data.size := hlt
    rw [List.getD_eq_getElem?_getD,Array.getElem?_toList,Array.getElem?_eq_getElem this];rfl
   refine ⟨.int .u8 (s[i.toNat]).toNat,?_,by rw [hv];exact q14 rfl⟩
   simp [execOp,ho,h0,h1,Instr.index,asIntOf,run_underlying hd,i0,hs]
  ·cases hE
 ·cases hE
end Go.Proofs.Ytjfammnjpeeahaa.AL
namespace Go.Proofs.Ytjfammnjpeeahaa.AL
open Go.RowKit
variable {P : Program}
theorem z51 (off : Nat) : ∀ (l : List Value) (k : Nat) (cells : Array Value),off + k + l.length ≤ cells.size →
  let r := (l.zipIdx k).foldl (fun (cs : Array Value) (x : Value × Nat) => cs.setIfInBounds (off + x.2) x.1) cells
  r.size = cells.size ∧ ∀ i,r[i]? = if off + k ≤ i ∧ i < off + k + l.length then l[i - (off + k)]? else cells[i]?
 | [],k,cells,h => by
  refine ⟨rfl,fun i => ?_⟩
  simp;omega
 |v :: l,k,cells,h => by
  have hk : off + k < cells.size := by simp at h;omega
  obtain ⟨h1,h2⟩ := z51 off l (k + 1) (cells.setIfInBounds (off + k) v) (by simp at h ⊢;omega)
  simp only [List.zipIdx_cons,List.foldl_cons]
  refine ⟨by rw [h1];simp,fun i => ?_⟩
  rw [h2 i]
  by_cases hi : i = off + k
  ·subst hi
   rw [if_neg (by omega),if_pos (by simp)]
   simp [hk]
  ·by_cases hj : off + (k + 1) ≤ i ∧ i < off + (k + 1) + l.length
   ·rw [if_pos hj,if_pos (by simp;omega)]
    have : i - (off + k) = (i - (off + (k + 1))) + 1 := by omega
    rw [this,List.getElem?_cons_succ]
   ·rw [if_neg hj,if_neg (by simp;omega)]
    rw [Array.getElem?_setIfInBounds_ne (by omega)]
def fillD (place : Nat → Option (Nat × Nat)) : List Dat → List (Nat × AV) → Option (List Dat)
 | cells,[] => some cells
 |cells,(i,x) :: rest => match place i,datsAV x with
  | some (off,sz),some ds => bif ds.length == sz && decide (off + ds.length ≤ cells.length) then fillD place (cells.take off ++ ds ++ cells.drop (off + ds.length)) rest else none
  | _,_ => none
def RelC (w : World) (g : Nat → Nat) (vs : List Value) (ds : List Dat) : Prop :=
 vs.length = ds.length ∧ ∀ (j : Nat) u d,vs[j]? = some u → ds[j]? = some d → RelD w g u d
theorem x51 {w : World} {h : Gh} (place : Nat → Option (Nat × Nat)) : ∀ (parts : List (Nat × Value)) (xs : List AV) (cells : Array Value) (ds ds' : List Dat),
  RelAs w h (parts.map (·.2)) xs → RelC w h.g cells.toList ds → fillD place ds ((parts.map (·.1)).zip xs) = some ds' →
  ∃ cells',Instr.fill place cells parts = some cells' ∧ RelC w h.g cells'.toList ds'
 | [],xs,cells,ds,ds',hr,hc,hf => by
  simp [fillD] at hf;subst hf;exact ⟨cells,rfl,hc⟩
 |(i,v) :: rest,xs,cells,ds,ds',hr,hc,hf => by
  cases xs with
  | nil => simp [RelAs] at hr
  |cons x xs =>
   have hx : RelA w h v x := hr.2 0 v x rfl rfl
   have hr' : RelAs w h (rest.map (·.2)) xs := ⟨by simpa using hr.1,fun j u y hu hy => hr.2 (j + 1) u y (by simpa using hu) (by simpa using hy)⟩
   simp only [List.map_cons,List.zip_cons_cons,fillD] at hf
   cases hp : place i with
   | none => simp [hp] at hf
   |some p =>
    obtain ⟨off,sz⟩ := p
    cases hd : datsAV x with
    | none => simp [hp,hd] at hf
    |some es =>
     simp only [hp,hd] at hf
     cases hb : (es.length == sz && decide (off + es.length ≤ ds.length)) with
     | false => rw [hb] at hf;simp at hf
     |true =>
      rw [hb] at hf
      simp only [cond_true] at hf
      simp at hb
      obtain ⟨hb1,hb2⟩ := hb
      obtain ⟨e1,e2,e3⟩ := j24 hd hx
      have hcl := hc.1
      simp at hcl
      obtain ⟨f1,f2⟩ := z51 off v.cells.toList 0 cells (by simp;omega)
      have hfold : (v.cells.zipIdx.foldl (fun (cs : Array Value) (x : Value × Nat) => match x with | (c,j) => cs.setIfInBounds (off + j) c) cells) =
        (v.cells.toList.zipIdx 0).foldl (fun (cs : Array Value) (x : Value × Nat) => cs.setIfInBounds (off + x.2) x.1) cells := by
       rw [← Array.foldl_toList];simp
      have hfill : Instr.fill place cells ((i,v) :: rest) = Instr.fill place ((v.cells.toList.zipIdx 0).foldl (fun (cs : Array Value) (x : Value × Nat) => cs.setIfInBounds (off + x.2) x.1) cells) rest := by
       rw [← hfold]
       simp only [Instr.fill,hp]
       rw [if_neg (by simp;omega)]
      have hC : RelC w h.g ((v.cells.toList.zipIdx 0).foldl (fun (cs : Array Value) (x : Value × Nat) => cs.setIfInBounds (off + x.2) x.1) cells).toList (ds.take off ++ es ++ ds.drop (off + es.length)) := by
       refine ⟨by simp only [Array.length_toList];rw [f1];simp;omega,fun j u d hu hd' => ?_⟩
       rw [Array.getElem?_toList,f2 j] at hu
       rw [z20 ds es off (by omega) j] at hd'
       simp only [Nat.add_zero,Array.length_toList] at hu
       by_cases hj : off ≤ j ∧ j < off + es.length
       ·rw [if_pos (by omega)] at hu
        rw [if_pos hj] at hd'
        exact e2 _ u d (by simpa using hu) hd'
       ·rw [if_neg (by omega)] at hu
        rw [if_neg hj] at hd'
        exact hc.2 j u d (by simpa using hu) hd'
      obtain ⟨cells',g1,g2⟩ := x51 place rest xs _ _ ds' hr' hC hf
      exact ⟨cells',hfill.trans g1,g2⟩
theorem j65 {w : World} {g : Nat → Nat} {zs : List Value} (h : (zs.all (·.oneCell')) = true) : RelC w g zs (zs.map .v) :=
 ⟨by simp,fun j u d hu hd => by
  simp [hu] at hd;subst hd
  exact .v u (List.all_eq_true.1 h u (List.mem_of_getElem? hu))⟩
def effBuild (P : Program) (t : TypeId) (is : List Nat) (xs : List AV) : Option Eff :=
 match tiOf P t with
 |some ti => match ti.k with
  | .struct fs => (fillD (fun i => (fs[i]?).map fun f => (f.1,f.2.1)) (ti.zero.map .v) (is.zip xs)).map fun ds => { val := .p (.agg ds),obl := (ti.zero.all (·.oneCell')) = true }
  | .array n _ sz _ => bif is.isEmpty && decide (8 < n) then
    (match ti.zero with
     | z :: r => some { val := .p (.arr n fun _ => .v z),obl := z :: r = List.replicate n z ∧ z.oneCell' = true }
     | [] => none)
   else (fillD (fun i => some (i * sz,sz)) (ti.zero.map .v) (is.zip xs)).map fun ds => { val := .p (.agg ds),obl := (ti.zero.all (·.oneCell')) = true }
  | _ => none
 | none => none
theorem j51 {o : Oper} {parts : Array (Nat × Operand)} (hop : o.op.operands = (parts.toList.map (·.2)).toArray) (r : Operand → Value) :
  o.op.operands.toList.map r = ((parts.map fun (i,x) => (i,r x)).toList).map (·.2) := by
 rw [hop];simp
theorem q52 (parts : Array (Nat × Operand)) (r : Operand → Value) : ((parts.map fun (i,x) => (i,r x)).toList).map (·.1) = parts.toList.map (·.1) := by
 simp
theorem j98 {o : Oper} {t : TypeId} {parts : Array (Nat × Operand)} (ho : o.op = .build t parts) {xs : List AV} {lL : Option (Nat × LV)} {E : Eff} (hE : effBuild P t (parts.toList.map (·.1)) xs = some E) (hobl : E.obl) : OpSem P o xs lL E := by
 unfold effBuild at hE
 split at hE
 ·rename_i ti hti
  obtain ⟨it,d,z,hit,hd,hz,hkk,hs,hzz⟩ := j12 hti
  have run : ∀ (r : Operand → Value) (w : World) (cells : Array Value),P.built t (parts.map fun (i,x) => (i,r x)).toList = some cells → (execOp r o).run P w = .ok (.value (.agg cells)) w := by
   intro r w cells hb
   simp only [execOp,ho]
   simp [run_build w t _ cells hb]
  have fin : ∀ {ds : List Dat} {place : Nat → Option (Nat × Nat)},fillD place (ti.zero.map .v) ((parts.toList.map (·.1)).zip xs) = some ds → (ti.zero.all (·.oneCell')) = true →
    (∀ ps,P.built t ps = Instr.fill place z.cells ps) → ∀ obl,OpSem P o xs lL ⟨.p (.agg ds),obl,none,false⟩ := by
   intro ds place hf hone hbt obl
   refine z12 fun B w h r hr hL => ?_
   rw [j51 (parts := parts) (by rw [ho];rfl)] at hr
   obtain ⟨cells',g1,g2⟩ := x51 (w := w) (h := h) place ((parts.map fun (i,x) => (i,r x)).toList) xs z.cells (ti.zero.map .v) ds hr (by rw [hzz];exact j65 (hzz ▸ hone)) (by rw [q52];exact hf)
   refine ⟨.agg cells',run r w cells' (by rw [hbt];exact g1),?_⟩
   have := RelP.agg (w := w) (g := h.g) cells'.toList ds g2.1 g2.2
   show RelP _ _ _ _
   simpa using this
  split at hE
  ·rename_i fs hk
   cases hf : fillD (fun i => (fs[i]?).map fun f => (f.1,f.2.1)) (ti.zero.map .v) ((parts.toList.map (·.1)).zip xs) with
   | none => simp [hf] at hE
   |some ds =>
    simp only [hf,Option.map_some,Option.some.injEq] at hE;subst hE
    rw [hk] at hkk
    obtain ⟨fields,rfl,hm⟩ := x34 hkk
    refine fin hf hobl (fun ps => ?_) _
    have hpl : fields.toList.mapM (fun f => (P.info? f.type).map fun i => (f.offset,i.size)) = some (fs.map fun f => (f.1,f.2.1)) := by
     have gen : ∀ (l : List Field) (r : List (Nat × Nat × Bool)),l.mapM (fieldOf P) = some r → l.mapM (fun f => (P.info? f.type).map fun i => (f.offset,i.size)) = some (r.map fun f => (f.1,f.2.1)) := by
      intro l
      induction l with
      | nil => intro r hr;simp at hr;subst hr;rfl
      |cons f l ih =>
       intro r hr
       simp only [List.mapM_cons] at hr
       cases hx : fieldOf P f with
       | none => simp [hx] at hr
       |some q =>
        cases hl : l.mapM (fieldOf P) with
        | none => simp [hx,hl] at hr
        |some r' =>
         simp [hx,hl] at hr
         subst hr
         obtain ⟨fi,fd,e1,e2,rfl⟩ := j34 hx
         simp [List.mapM_cons,e1,ih r' hl]
     exact gen _ _ hm
    simp only [Program.built,hit,hd,hz,hpl]
    congr 1
    funext i
    simp
  ·rename_i n e sz ag hk
   rw [hk] at hkk
   obtain ⟨rfl,ie,de,hie,hde,hsz,_⟩ := j62 hkk
   have hbt : ∀ ps,P.built t ps = Instr.fill (fun i => some (i * sz,sz)) z.cells ps := by
    intro ps;simp only [Program.built,hit,hd,hz,hie,hsz]
   cases hb : ((parts.toList.map (·.1)).isEmpty && decide (8 < n)) with
   |true =>
    rw [hb] at hE
    simp only [cond_true] at hE
    split at hE
    ·rename_i z0 rr hzero
     cases hE
     obtain ⟨h1,h2⟩ := hobl
     simp at hb
     have hnil : (parts.map fun (i,x) => (i,x)).toList = [] := by simp [hb.1]
     refine z12 fun B w h r hr hL => ⟨.agg z.cells,run r w z.cells ?_,?_⟩
     ·rw [hbt]
      have : (parts.map fun (i,x) => (i,r x)).toList = [] := by simp [hb.1]
      rw [this];rfl
     ·have := RelP.arr (w := w) (g := h.g) z.cells.toList n (fun _ => .v z0) (by rw [← hzz,hzero,h1];simp) (fun j v hv => ?_)
      ·show RelP _ _ _ _
       simpa using this
      ·rw [← hzz,hzero,h1] at hv
       simp [List.getElem?_replicate] at hv
       rw [← hv.2];exact .v _ h2
    ·cases hE
   |false =>
    rw [hb] at hE
    simp only [cond_false] at hE
    cases hf : fillD (fun i => some (i * sz,sz)) (ti.zero.map .v) ((parts.toList.map (·.1)).zip xs) with
    | none => simp [hf] at hE
    |some ds =>
     simp only [hf,Option.map_some,Option.some.injEq] at hE;subst hE
     exact fin hf hobl hbt _
  ·cases hE
 ·cases hE
def rowsOf (xs : List AV) : Option (List (List Dat)) := xs.mapM datsAV
theorem q66 (sz : Nat) : ∀ (xs : List AV) (rows : List (List Dat)) (k : Nat) (base : List Dat),rowsOf xs = some rows → (∀ r ∈ rows,r.length = sz) → base.length = (k + rows.length) * sz →
  fillD (fun i => some (i * sz,sz)) base ((List.range' k xs.length).zip xs) = some (base.take (k * sz) ++ rows.flatten)
 | [],rows,k,base,h,hl,hb => by
  simp [rowsOf] at h;subst h
  simp at hb
  simp [fillD,← hb]
 |x :: xs,rows,k,base,h,hl,hb => by
  simp only [rowsOf,List.mapM_cons] at h
  cases hx : datsAV x with
  | none => simp [hx] at h
  |some r =>
   cases hxs : xs.mapM datsAV with
   | none => simp [hx,hxs] at h
   |some rs =>
    simp [hx,hxs] at h
    subst h
    have hr : r.length = sz := hl r (by simp)
    simp only [List.length_cons,Nat.add_mul,Nat.one_mul] at hb
    simp only [List.length_cons,List.range'_succ,List.zip_cons_cons,fillD,hx]
    have e : (r.length == sz && decide (k * sz + r.length ≤ base.length)) = true := by
     simp [hr];omega
    rw [e]
    simp only [cond_true]
    have hlen : (base.take (k * sz) ++ r).length = (k + 1) * sz := by
     simp [hr,Nat.add_mul];omega
    rw [q66 sz xs rs (k + 1) _ hxs (fun q hq => hl q (by simp [hq])) (by simp [hr,Nat.add_mul];omega)]
    rw [List.take_append_of_le_length (by omega),List.take_of_length_le (by omega)]
    simp
theorem z66 {α : Type} (sz : Nat) : ∀ (rows : List (List α)),(∀ r ∈ rows,r.length = sz) → ∀ (i j : Nat),j < sz → rows.flatten[i * sz + j]? = (rows[i]?).bind (·[j]?)
 | [],_,i,j,_ => by simp
 |r :: rows,hl,i,j,hj => by
  have hr : r.length = sz := hl r (by simp)
  cases i with
  | zero => simp [List.getElem?_append_left (by omega : j < r.length)]
  |succ i =>
   simp only [List.flatten_cons,List.getElem?_cons_succ]
   rw [List.getElem?_append_right (by rw [Nat.add_mul];omega)]
   rw [← z66 sz rows (fun q hq => hl q (by simp [hq])) i j hj]
   congr 1
   rw [Nat.add_mul];omega
def effBuildSlice (P : Program) (t : TypeId) (len : Nat) (is : List Nat) (xs : List AV) : Option Eff :=
 match tiOf P t with
 |some ti => match ti.k with
  | .slice e sz _ => match rowsOf xs,tiOf P e with
   | some rows,some te => some { val := .p (.d (.sl sz len fun i => rows.getD i [])),obl := is = List.range' 0 xs.length ∧ xs.length = len ∧ (rows.all fun r => r.length == sz) = true ∧ (te.zero.all (·.oneCell')) = true ∧ te.zero.length = sz ∧ te.size = sz ∧ len * sz ≤ 2 ^ 24 ∧ 0 < len * sz }
   | _,_ => none
  | _ => none
 | none => none
theorem q99 : ∀ {xs : List AV} {rows : List (List Dat)},rowsOf xs = some rows → rows.length = xs.length := by
 intro xs
 induction xs with
 | nil => intro rows h;simp [rowsOf] at h;subst h;rfl
 |cons x xs ih =>
  intro rows h
  simp only [rowsOf,List.mapM_cons] at h
  cases hx : datsAV x with
  | none => simp [hx] at h
  |some r =>
   cases hxs : xs.mapM datsAV with
   | none => simp [hx,hxs] at h
   | some rs => simp [hx,hxs] at h;subst h;simp [ih hxs]
theorem z99 {o : Oper} {t : TypeId} {len : Nat} {parts : Array (Nat × Operand)} (ho : o.op = .buildSlice t len parts) {xs : List AV} {lL : Option (Nat × LV)} {E : Eff} (hE : effBuildSlice P t len (parts.toList.map (·.1)) xs = some E) (hobl : E.obl) : OpSem P o xs lL E := by
 unfold effBuildSlice at hE
 split at hE
 ·rename_i ti hti
  split at hE
  ·rename_i e sz by_ hk
   split at hE
   ·rename_i rows te hrows hte
    cases hE
    obtain ⟨o1,o2,o3,o4,o5,o6,o7,o8⟩ := hobl
    obtain ⟨it,d,z,hit,hd,hz,hkk,hs,hzz⟩ := j12 hti
    rw [hk] at hkk
    obtain ⟨rfl,ie,hie,hsz,_⟩ := z16 hkk
    obtain ⟨ie',de,ze,hie',hde,hze,_,hse,hzze⟩ := j12 hte
    rw [hie] at hie';cases hie'
    have hrl : ∀ r ∈ rows,r.length = sz := fun r hr => by simpa using List.all_eq_true.1 o3 r hr
    have hlen := q99 hrows
    refine x40 fun w h r hz0 hr => ?_
    rw [j51 (parts := parts) (by rw [ho];rfl)] at hr
    have hszp : 0 < sz := by
     cases sz with
     | zero => simp at o8
     | succ n => omega
    have hC : RelC w h.g ((Array.range (len * sz)).map (ze.cells[· % ze.cells.size]!)).toList ((List.range (len * sz)).map fun i => .v (ze.cells[i % ze.cells.size]!)) := by
     refine ⟨by simp,fun j u d hu hd => ?_⟩
     have hj : j < len * sz := by have := (List.getElem?_eq_some_iff.1 hd).1;simpa using this
     simp [List.getElem?_range hj] at hu hd
     subst hu
     subst hd
     refine .v _ ?_
     have hne : 0 < ze.cells.size := by
      have : ze.cells.toList.length = sz := by rw [← hzze];exact o5
      simp at this;omega
     have hlt : j % ze.cells.size < ze.cells.size := Nat.mod_lt _ hne
     rw [getElem!_pos ze.cells _ hlt]
     exact List.all_eq_true.1 o4 _ (by rw [hzze];simp)
    have hF : fillD (fun i => some (i * sz,sz)) ((List.range (len * sz)).map fun i => .v (ze.cells[i % ze.cells.size]!)) ((((parts.map fun (i,x) => (i,r x)).toList).map (·.1)).zip xs) = some rows.flatten := by
     rw [q52,o1]
     have := q66 sz xs rows 0 ((List.range (len * sz)).map fun i => .v (ze.cells[i % ze.cells.size]!)) hrows hrl (by simp;rw [hlen,o2])
     simpa using this
    obtain ⟨cells',g1,g2⟩ := x51 (w := w) (h := h) (fun i => some (i * sz,sz)) ((parts.map fun (i,x) => (i,r x)).toList) xs _ _ rows.flatten hr hC hF
    ·have hrun := run_buildSlice (P := P) w t e len (parts.map fun (i,x) => (i,r x)) cells' ie ze hd hie hze (by rw [hsz];omega) (by rw [hsz];omega) (by rw [hsz];exact g1)
     have hcl : cells'.size = len * sz := by
      have := g2.1
      simp at this
      rw [this]
      have : ∀ (rows : List (List Dat)),(∀ r ∈ rows,r.length = sz) → (rows.map List.length).sum = rows.length * sz := by
       intro rows
       induction rows with
       | nil => simp
       | cons q rows ih => intro hh;simp [hh q (by simp),ih fun r hr => hh r (by simp [hr]),Nat.add_mul];omega
      rw [this rows hrl,hlen,o2]
     refine ⟨.slice (some ⟨w.heap.size,0,none⟩) len len,e,cells',by simp only [execOp,ho];simp [hrun],?_⟩
     refine .d _ _ (.sl _ _ _ _ _ _ (fun i j => cells'.getD (i * sz + j) undef) (Nat.le_refl _) (fun i hi => ?_) (fun i j hi hj => ?_) ?_ (fun i j x hi hx => ?_))
     ·have : i < rows.length := by omega
      simp [List.getD_eq_getElem?_getD,this]
      exact hrl _ (List.getElem_mem _)
     ·have hij : i * sz + j < len * sz := by
       have : (i + 1) * sz ≤ len * sz := Nat.mul_le_mul_right _ hi
       rw [Nat.add_mul] at this;omega
      rw [Nat.zero_add,q50];simp [Array.getD_eq_getD_getElem?,hcl,hij]
     ·simp [setG,hcl]
     ·have hi' : i < rows.length := by omega
      simp [List.getD_eq_getElem?_getD,hi'] at hx
      have hj : j < sz := by have := (List.getElem?_eq_some_iff.1 hx).1;rw [hrl _ (List.getElem_mem _)] at this;exact this
      have hij : i * sz + j < len * sz := by
       have : (i + 1) * sz ≤ len * sz := Nat.mul_le_mul_right _ hi
       rw [Nat.add_mul] at this;omega
      refine (g2.2 (i * sz + j) _ x (by simp [Array.getD_eq_getD_getElem?,hcl,hij]) ?_).keep (x50 hz0 _ _)
      rw [z66 sz rows hrl i j hj]
      simp [hi',hx]
   ·cases hE
  ·cases hE
 ·cases hE
end Go.Proofs.Ytjfammnjpeeahaa.AL
namespace Go.Proofs.Ytjfammnjpeeahaa.AL
open Go.RowKit
variable {P : Program}
theorem z52 (w : World) (t tx ty e : TypeId) (i : TypeInfo) (ht : P.underlying t = some (.slice e)) (hi : P.info? e = some i) (g sLen sCap : Nat) (cur : Array Value) (e' : TypeId) (x : Value) (n : Nat) (news : List Value) (hs : Src P i.size tx x n news w)
  (hroom : sLen + n ≤ sCap) (hg : w.heap[g]? = some (.cells cur e' (0,0))) (hfit : sLen * i.size + news.length ≤ cur.size) :
  (Builtin.append_ #[t,tx] ty #[.slice (some ⟨g,0,none⟩) sLen sCap,x]).run P w =
   .ok (.slice (some ⟨g,0,none⟩) (sLen + n) sCap) (w.setRow g (cur.toList.take (sLen * i.size) ++ news ++ cur.toList.drop (sLen * i.size + news.length)).toArray) := by
 have hst := run_storeCells_at P g (sLen * i.size) e' news 0 cur w hg (by simpa using hfit) hs.one
 simp only [Nat.add_zero] at hst
 rcases hs.kind with ⟨e'',hk⟩ | hk <;> simp [Builtin.append_,run_underlying ht,run_underlying hk,sizeOf,typeInfo,hi,hs.len,hroom,hs.cells,Addr.add_lit,hst]
structure Giv (P : Program) (w : World) (g : Nat → Nat) (sz : Nat) (tx : TypeId) (x : Value) (m : Nat) (f : Nat → List Dat) (news : List Value) : Prop where
 src : Src P sz tx x m news w
 rel : ∀ i j d,i < m → j < sz → (f i)[j]? = some d → ∃ u,news[i * sz + j]? = some u ∧ RelD w g u d
 len : ∀ i,i < m → (f i).length = sz
theorem giv_nil {w : World} {g : Nat → Nat} {sz : Nat} {tx e : TypeId} (hk : P.underlying tx = some (.slice e)) (a : Option Addr) (c : Nat) (f : Nat → List Dat) : Giv P w g sz tx (.slice a 0 c) 0 f [] :=
 ⟨⟨.inl ⟨e,hk⟩,fun _ => rfl,by cases a <;> simp [Builtin.firstCells,loadCells,loadCellsFrom],by cases a <;> simp [Builtin.firstCells,loadCells,loadCellsFrom],by simp,fun _ h => by cases h⟩,fun i _ _ hi => by omega,fun i hi => by omega⟩
theorem x42 {sz k m : Nat} (hk : k < m * sz) : k / sz < m ∧ k % sz < sz ∧ k / sz * sz + k % sz = k := by
 have hsz : 0 < sz := by
  cases sz with
  | zero => simp at hk
  | succ n => omega
 refine ⟨(Nat.div_lt_iff_lt_mul hsz).2 hk,Nat.mod_lt _ hsz,?_⟩
 have := Nat.div_add_mod k sz
 rw [Nat.mul_comm] at this
 exact this
theorem x20 {sz m i j : Nat} (hi : i < m) (hj : j < sz) : i * sz + j < m * sz := by
 have : (i + 1) * sz ≤ m * sz := Nat.mul_le_mul_right _ hi
 rw [Nat.add_mul] at this;omega
theorem x52 {w : World} {g : Nat → Nat} {sz : Nat} {tx e : TypeId} (hk : P.underlying tx = some (.slice e)) {x : Value} {m : Nat} {f : Nat → List Dat} (r : RelD w g x (.sl sz m f)) : ∃ news,Giv P w g sz tx x m f news := by
 cases r with
 | sl0 a c => exact ⟨[],giv_nil hk a c f⟩
 |sl b off _ c _ _ u hn hl hc hg hr =>
  have hone : ∀ i j,i < m → j < sz → (u i j).oneCell' = true := fun i j hi hj =>
   (hr i j _ hi (List.getElem?_eq_getElem (by rw [hl i hi];exact hj))).one
  refine ⟨(List.range (m * sz)).map fun k => u (k / sz) (k % sz),⟨Src.ofSlice w hk ⟨b,off,none⟩ m c _ (by simp) (fun j v hv => ?_) (fun v hv => ?_),fun i j d hi hj hd => ?_,hl⟩⟩
  ·have hlt : j < m * sz := by have := (List.getElem?_eq_some_iff.1 hv).1;simpa using this
   simp [List.getElem?_range hlt] at hv
   subst hv
   obtain ⟨h1,h2,h3⟩ := x42 hlt
   rw [j15,← hc _ _ h1 h2]
   congr 2;omega
  ·obtain ⟨k,hk',rfl⟩ := List.mem_map.1 hv
   obtain ⟨h1,h2,h3⟩ := x42 (List.mem_range.1 hk')
   exact hone _ _ h1 h2
  ·have hlt := x20 hi hj
   refine ⟨u i j,?_,hr i j d hi hd⟩
   have hsz : 0 < sz := by omega
   simp only [List.getElem?_map,List.getElem?_range hlt,Option.map_some,Option.some.injEq]
   have e1 : (i * sz + j) / sz = i := by rw [Nat.mul_comm,Nat.mul_add_div hsz,Nat.div_eq_of_lt hj];omega
   have e2 : (i * sz + j) % sz = j := by rw [Nat.mul_comm,Nat.mul_add_mod,Nat.mod_eq_of_lt hj]
   rw [e1,e2]
def srcAV : AV → Option (Nat × Nat × (Nat → List Dat))
 | .p (.d (.sl sz m f)) => some (sz,m,f)
 | .gr _ _ sz m f => some (sz,m,f)
 | _ => none
theorem j52 {w : World} {h : Gh} {x : AV} {sz m : Nat} {f : Nat → List Dat} (hx : srcAV x = some (sz,m,f)) {v : Value} (r : RelA w h v x) : RelD w h.g v (.sl sz m f) := by
 unfold srcAV at hx
 split at hx
 ·cases hx;cases r with | d _ _ r => exact r
 ·cases hx;exact r.1
 ·cases hx
def catF (n : Nat) (f f' : Nat → List Dat) : Nat → List Dat := fun i => if i < n then f i else f' (i - n)
def effAppend (P : Program) (ts : List TypeId) (xs : List AV) (lL : Option (Nat × LV)) : Option Eff :=
 match ts,xs,lL with
 | [t,t'],[.gr l gen sz n f,x],some (l',.grow e sz' n' gen') =>
  match tiOf P t,srcAV x with
  |some ti,some (szx,m,f') => match ti.k with
   | .slice _ szt by_ => some { val := .gr l (gen + 1) sz (n + m) (catF n f f'),obl := (l' = l ∧ ti.k = .slice e szt by_ ∧ t' = t ∧ szt = sz ∧ sz' = sz ∧ szx = sz ∧ n' = n ∧ gen' = gen ∧ 0 < sz) ∧ (n + m) * by_ ≤ 140737488355328 ∧ n + m ≤ 140737488355328 ∧ (match tiOf P e with | some te => te.zero.length = sz | none => False),upd := some (l,.grow e sz (n + m) (gen + 1)) }
   | _ => none
  | _,_ => none
 | _,_,_ => none
theorem rel_cat {w w' : World} {g g' : Nat → Nat} (k : Keep w g w' g') {sz n m : Nat} {f f' : Nat → List Dat} {b cap : Nat} {cells : List Value} {news : List Value} {tx : TypeId} {x : Value} {olds : List Value}
  (hol : olds.length = n * sz) (hlf : ∀ i,i < n → (f i).length = sz) (hor : ∀ i j d,i < n → j < sz → (f i)[j]? = some d → ∃ u,olds[i * sz + j]? = some u ∧ RelD w g u d)
  (hgiv : Giv P w g sz tx x m f' news) (hcell : ∀ j u,(olds ++ news)[j]? = some u → w'.cell? ⟨b,j,none⟩ = some u) (hg : (n + m) * sz ≤ g' b) (hcap : n + m ≤ cap) :
  RelD w' g' (.slice (some ⟨b,0,none⟩) (n + m) cap) (.sl sz (n + m) (catF n f f')) := by
 have hnl := hgiv.src.newsLen
 have hlc : ∀ i,i < n + m → (catF n f f' i).length = sz := by
  intro i hi
  unfold catF
  split
  ·exact hlf i ‹_›
  ·exact hgiv.len _ (by omega)
 have hall : ∀ i j,i < n + m → j < sz → ∃ u,(olds ++ news)[i * sz + j]? = some u ∧ ∀ d,(catF n f f' i)[j]? = some d → RelD w g u d := by
  intro i j hi hj
  by_cases hin : i < n
  ·have hlt := x20 hin hj
   have hd : j < (f i).length := by rw [hlf i hin];exact hj
   obtain ⟨u,hu,hr⟩ := hor i j _ hin hj (List.getElem?_eq_getElem hd)
   refine ⟨u,by rw [List.getElem?_append_left (by omega)];exact hu,fun d hd' => ?_⟩
   simp only [catF,if_pos hin] at hd'
   rw [List.getElem?_eq_getElem hd] at hd';cases hd';exact hr
  ·have hd : j < (f' (i - n)).length := by rw [hgiv.len _ (by omega)];exact hj
   obtain ⟨u,hu,hr⟩ := hgiv.rel (i - n) j _ (by omega) hj (List.getElem?_eq_getElem hd)
   have e1 : (i - n) * sz = i * sz - n * sz := Nat.sub_mul _ _ _
   have e2 : n * sz ≤ i * sz := Nat.mul_le_mul_right _ (by omega)
   refine ⟨u,?_,fun d hd' => ?_⟩
   ·rw [List.getElem?_append_right (by omega),hol,← hu];congr 1;omega
   ·simp only [catF,if_neg hin] at hd'
    rw [List.getElem?_eq_getElem hd] at hd';cases hd';exact hr
 refine .sl b 0 _ cap sz _ (fun i j => ((olds ++ news)[i * sz + j]?).getD undef) hcap hlc (fun i j hi hj => ?_) (by omega) (fun i j d hi hd => ?_)
 ·obtain ⟨u,hu,_⟩ := hall i j hi hj
  rw [Nat.zero_add,hcell _ u hu,hu];rfl
 ·have hj : j < sz := by have := (List.getElem?_eq_some_iff.1 hd).1;rw [hlc i hi] at this;exact this
  obtain ⟨u,hu,hr⟩ := hall i j hi hj
  rw [hu]
  exact (hr d hd).keep k
theorem z36 {o : Oper} {c : Call} (ho : o.op = .call c) {s x : Operand} {t t' : TypeId} (hc : c = { callee := .builtin .append,args := #[s,x],argTypes := #[t,t'] }) (r : Operand → Value) (w w' : World) {v : Value}
  (hv : (Builtin.append_ #[t,t'] o.type #[r s,r x]).run P w = .ok v w') : (execOp r o).run P w = .ok (.value v) w' := by
 subst hc
 simp [execOp,ho,resolve,invoke,builtin,hv]
def AppGoal (P : Program) (o : Oper) (B : Nat → Prop) (w : World) (h : Gh) (r : Operand → Value) (l : Nat) (e : TypeId) (sz n m gen : Nat) (f f' : Nat → List Dat) : Prop :=
 ∃ nx v w' h',(execOp r o).run P w = .ok nx w' ∧ (nx = .value v ∨ (nx = .skip ∧ v = undef)) ∧ RelA w' h' v (.gr l (gen + 1) sz (n + m) (catF n f f')) ∧
  Trans B w h w' h' (inB h l (.grow e sz n gen)) (some l) false ∧
  (LocOK B w' h' l (.grow e sz (n + m) (gen + 1)) ∧ ∀ b,inB h' l (.grow e sz (n + m) (gen + 1)) b → w.heap.size ≤ b ∨ (false = false ∧ ∃ L,some (l,LV.grow e sz n gen) = some (l,L) ∧ inB h l L b))
theorem x99 {o : Oper} {c : Call} (ho : o.op = .call c) {s y : Operand} {t t' : TypeId} (hc : c = { callee := .builtin .append,args := #[s,y],argTypes := #[t,t'] })
  {xs : List AV} {lL : Option (Nat × LV)} {E : Eff} (hE : effAppend P [t,t'] xs lL = some E) (hobl : E.obl) : OpSem P o xs lL E := by
 unfold effAppend at hE
 split at hE
 ·rename_i ts0 xs0 lL0 t1 t1' l gen sz n f x l' e sz' n' gen' heq
  cases heq
  split at hE
  ·rename_i ti szx m f' hti hsrc
   split at hE
   ·rename_i e1 szt by_ hk
    cases hE
    obtain ⟨⟨rfl,hke,rfl,rfl,rfl,rfl,rfl,rfl,hpos⟩,hby,h63,hte⟩ := hobl
    obtain ⟨it,d,z,hit,hd,hz,hkk,hs,hzz⟩ := j12 hti
    rw [hk] at hke
    cases hke
    rw [hk] at hkk
    obtain ⟨rfl,ie,hie,hsz,hbb⟩ := z16 hkk
    obtain ⟨te,hte,htez⟩ : ∃ te,tiOf P e = some te ∧ te.zero.length = szx := by
     split at hte
     ·rename_i te h1;exact ⟨te,h1,hte⟩
     ·exact hte.elim
    obtain ⟨ie',de,ze,hie',hde,hze,_,hse,hzze⟩ := j12 hte
    rw [hie] at hie';cases hie'
    intro B w h r hB hz0 hr hL
    rw [ho,hc] at hr
    simp only [Op.operands,Call.operands] at hr
    have r0 : RelA w h (r s) (.gr l' gen' szx n' f) := hr.2 0 (r s) _ rfl rfl
    have r1 : RelA w h (r y) x := hr.2 1 (r y) _ rfl rfl
    obtain ⟨hμ,⟨olds0,hown⟩,hgam,hgO⟩ := hL _ _ rfl
    obtain ⟨q1,q2,q3⟩ := r0
    have hv := q3 hμ
    rw [hv] at q1
    obtain ⟨news,hgiv⟩ := x52 (P := P) (tx := t') hd (j52 hsrc r1)
    have hnl := hgiv.src.newsLen
    have hgiv' : Src P ie.size t' (r y) m news w := by rw [hsz];exact hgiv.src
    suffices H : AppGoal P o B w h r l' e szx n' m gen' f f' by
     obtain ⟨nx,v,w',h',a1,a2,a3,a4,a5⟩ := H
     exact ⟨nx,v,w',h',a1,a2,a3,a4,fun l L' hl => by cases hl;exact a5⟩
    have key : ∀ (b cap : Nat) (w' : World) (cur' : Array Value) (olds : List Value),(Builtin.append_ #[t',t'] o.type #[r s,r y]).run P w = .ok (.slice (some ⟨b,0,none⟩) (n' + m) cap) w' →
      w'.heap[b]? = some (.cells cur' e (0,0)) → B b → n' + m ≤ cap → cap ≤ maxLen → cur'.size = cap * szx → cur'.toList.take ((n' + m) * szx) = olds ++ news →
      olds.length = n' * szx → (∀ i j d,i < n' → j < szx → (f i)[j]? = some d → ∃ u,olds[i * szx + j]? = some u ∧ RelD w h.g u d) → (∀ i,i < n' → (f i).length = szx) →
      BelowS B w w' → (∀ k,k < w.heap.size → k ≠ b → w'.heap[k]? = w.heap[k]?) → (∀ o',o' < h.g b → b < w.heap.size → w'.cell? ⟨b,o',none⟩ = w.cell? ⟨b,o',none⟩) → h.g b ≤ (n' + m) * szx →
      (b < w.heap.size → (h.κ l').ownBlock = some b) → b < w'.heap.size →
      AppGoal P o B w h r l' e szx n' m gen' f f' := by
     intro b cap w' cur' olds hrun hheap hBb hcap hml hcs htake hol hor hlf hbel hoth hsame hgle hbo hblt
     have hkeep : Keep w h.g w' (setG h.g b ((n' + m) * szx)) := by
      refine ⟨fun k => ?_,fun k q hq => ?_⟩
      ·simp only [setG];split
       ·rename_i e;rw [e];exact hgle
       ·exact Nat.le_refl _
      ·have hk : k < w.heap.size := by
        by_cases hk : k < w.heap.size
        ·exact hk
        ·rw [hz0 k (by omega)] at hq;omega
       by_cases hkb : k = b
       ·subst hkb;exact hsame q hq hk
       ·exact World.cell?_of_block (w := w) (a := ⟨k,q,none⟩) (hoth k hk hkb)
     refine ⟨_,_,w',{ h with g := setG h.g b ((n' + m) * szx),κ := fun x => if x = l' then .slice (some ⟨b,0,none⟩) (n' + m) cap else h.κ x,μ := fun x => if x = l' then gen' + 1 else h.μ x },z36 ho hc r w w' hrun,.inl rfl,?_,?_,?_,?_⟩
     ·refine ⟨rel_cat (cells := []) hkeep hol hlf hor hgiv (fun j u hu => ?_) (by simp [setG]) hcap,by simp,fun _ => by simp⟩
      rw [← htake] at hu
      have hlt : j < (n' + m) * szx := by have := (List.getElem?_eq_some_iff.1 hu).1;simp at this;omega
      rw [List.getElem?_take_of_lt hlt] at hu
      rw [z15 hheap];simpa using hu
     ·refine ⟨hbel,fun k hk hne => ?_,hkeep,fun k hk => ?_,fun k hk => ?_,fun _ _ => rfl,fun l hl => ?_,fun l hl _ => .inl ?_⟩
      ·have hkb : k ≠ b := by
        intro e;subst e
        exact hne (by simpa [inB] using hbo hk)
       exact ⟨hoth k hk hkb,by simp [setG,hkb]⟩
      ·have hkb : k ≠ b := by omega
       simp only [setG,if_neg hkb]
       exact hz0 k (by have := hbel.size;omega)
      ·have hkb : k ≠ b := fun e => hk (e ▸ hBb)
       simp [setG,hkb]
      ·have : l ≠ l' := fun e => hl (by rw [e])
       simp [this]
      ·cases hl;simp [hμ]
     ·refine ⟨by simp,⟨olds ++ news,by simp [hol,hnl,Nat.add_mul],.inr ⟨b,cap,cur',by simp,Nat.zero_le _,hheap,hcap,hml,hcs,htake⟩⟩,fun b' c' hb' => ?_,fun b' hb' => ?_⟩
      ·simp at hb'
       simp [setG,hb'.1]
      ·simp [Value.ownBlock] at hb'
       exact hb' ▸ hBb
     ·intro b' hb'
      simp [inB,Value.ownBlock] at hb'
      subst hb'
      by_cases hlt : b < w.heap.size
      ·exact .inr ⟨rfl,_,rfl,by simpa [inB] using hbo hlt⟩
      ·exact .inl (by omega)
    have hrange : ∀ {k : Nat},k ≤ 140737488355328 → ((k : Nat) : Int) ≤ 9223372036854775807 := by intro k hk;omega
    have grow : ∀ (base : Option Addr) (cap : Nat) (olds : List Value),h.κ l' = .slice base n' cap → (Builtin.firstCells ie.size n' (.slice base n' cap)).run P w.drew = .ok olds.toArray w.drew → cap < n' + m →
      olds.length = n' * szx → (∀ i j d,i < n' → j < szx → (f i)[j]? = some d → ∃ u,olds[i * szx + j]? = some u ∧ RelD w h.g u d) → (∀ i,i < n' → (f i).length = szx) →
      AppGoal P o B w h r l' e szx n' m gen' f f' := by
     intro base cap olds hκ hold hcap hol hor hlf
     have hrun := run_append_grow_src (P := P) w t' t' o.type e ie ze hd hie hze base n' cap olds hold (r y) m news hgiv' hcap (hrange h63) (growslice_fits (by omega) (by rw [hbb];exact hby))
     have hge := grownCap_ge w (n' + m) cap e
     have hcm := grownCap_le_maxLen w (n' + m) cap e (by unfold maxLen;omega)
     have hzs : ze.cells.size = szx := by rw [← htez,hzze];simp
     have hnew : (w.drew.alloc (.cells ((olds ++ news).toArray ++ Builtin.zeroCells ze.cells (grownCap w (n' + m) cap e - (n' + m))) e)).heap[w.heap.size]? = some (.cells ((olds ++ news).toArray ++ Builtin.zeroCells ze.cells (grownCap w (n' + m) cap e - (n' + m))) e (0,0)) := _root_.Go.heap_alloc_new w.drew _
     refine key w.heap.size _ _ _ olds (by rw [hv,hκ];exact hrun) hnew (hB _ (Nat.le_refl _)) hge hcm ?_ ?_ hol hor hlf (((BelowS.refl B w).drew).alloc _) (fun k hk _ => Below.heap_alloc w.drew _ k hk) (fun o' _ hlt => by omega) ?_ (fun hlt => by omega) (by simp)
     ·simp only [Array.size_append,List.size_toArray,List.length_append,size_zeroCells,hzs,hol,hnl,← Nat.add_mul]
      congr 1;omega
     ·simp only [Array.toList_append]
      have : (n' + m) * szx = (olds ++ news).length := by simp [hol,hnl,Nat.add_mul]
      rw [this];exact List.take_left
     ·rw [hz0 _ (Nat.le_refl _)];exact Nat.zero_le _
    rcases hown.2 with ⟨hnil,hn0⟩ | ⟨g0,cap,cur,hκ,hBg,hheap,hnc,hcm,hcs,htake⟩
    ·subst hn0
     by_cases hm : m = 0
     ·subst hm
      have hrun : (Builtin.append_ #[t',t'] o.type #[r s,r y]).run P w = .ok (.slice none 0 0) w := by
       rw [hv,hnil]
       simp [Builtin.append_,run_underlying hd,sizeOf,typeInfo,hie,hgiv'.len,hgiv'.cells]
      refine ⟨_,_,w,{ h with μ := fun x => if x = l' then gen' + 1 else h.μ x },z36 ho hc r w w hrun,.inl rfl,⟨.sl0 _ _ _ _,by simp,fun _ => hnil.symm⟩,?_,⟨by simp,⟨[],by simpa using hnil ▸ World.ownsRow_nil w 0 e szx⟩,fun b c hb => ?_,fun b hb => ?_⟩,fun b hb => ?_⟩
      ·refine ⟨BelowS.refl _ _,fun _ _ _ => ⟨rfl,rfl⟩,Keep.refl _ _,hz0,fun _ _ => rfl,fun _ _ => rfl,fun l hl => ?_,fun l hl _ => .inl ?_⟩
       ·have : l ≠ l' := fun e => hl (by rw [e])
        simp [this]
       ·cases hl;simp [hμ]
      ·simp [hnil] at hb
      ·simp [hnil,Value.ownBlock] at hb
      ·simp [inB,hnil,Value.ownBlock] at hb
     ·exact grow none 0 [] hnil (by simp [Builtin.firstCells]) (by omega) (by simp) (fun i j d hi => by omega) (fun i hi => by omega)
    ·have hgb : h.g g0 = n' * szx := hgam g0 cap hκ
     have hrel : (∀ i,i < n' → (f i).length = szx) ∧ ∀ i j d,i < n' → j < szx → (f i)[j]? = some d → ∃ u,olds0[i * szx + j]? = some u ∧ RelD w h.g u d := by
      rw [hκ] at q1
      cases q1 with
      | sl0 => exact ⟨fun i hi => by omega,fun i j d hi => by omega⟩
      |sl b off _ c _ _ u hn hl hc hg hrr =>
       refine ⟨hl,fun i j d hi hj hd => ⟨u i j,?_,hrr i j d hi hd⟩⟩
       have := hc i j hi hj
       rw [Nat.zero_add,z15 hheap] at this
       rw [← htake,List.getElem?_take_of_lt (x20 hi hj)]
       simpa using this
     by_cases hroom : n' + m ≤ cap
     ·have hfit : n' * szx + news.length ≤ cur.size := by rw [hnl,hcs,← Nat.add_mul];exact Nat.mul_le_mul_right _ hroom
      have hrun := z52 (P := P) w t' t' o.type e ie hd hie g0 n' cap cur e (r y) m news hgiv' hroom hheap (by rw [hsz];exact hfit)
      rw [hsz] at hrun
      have hg0 : g0 < w.heap.size := (Array.getElem?_eq_some_iff.1 hheap).1
      refine key g0 cap _ _ olds0 (by rw [hv,hκ];exact hrun) (setRow_heap w g0 cur _ e _ hheap) (hgO g0 (by rw [hκ];rfl)) hroom hcm ?_ ?_ hown.1 hrel.2 hrel.1 ⟨rfl,rfl,rfl,by simp,fun k _ hk => setRow_other w g0 k _ (fun e => hk (e ▸ hgO g0 (by rw [hκ];rfl)))⟩ (fun k _ hk => setRow_other w g0 k _ hk) (fun o' ho' _ => ?_) (by rw [hgb];exact Nat.mul_le_mul_right _ (by omega)) (fun _ => by rw [hκ];rfl) (by simpa using hg0)
      ·simp only [List.size_toArray,List.length_append,List.length_take,List.length_drop,Array.length_toList]
       omega
      ·have : (n' + m) * szx = (olds0 ++ news).length := by simp [hown.1,hnl,Nat.add_mul]
       simp only [htake]
       rw [this]
       exact List.take_left
      ·rw [z15 (setRow_heap w g0 cur _ e _ hheap),z15 hheap]
       rw [hgb] at ho'
       simp only [List.getElem?_toArray,List.append_assoc]
       rw [List.getElem?_append_left (by simp;omega),List.getElem?_take_of_lt ho']
       simp
     ·have hfc : (Builtin.firstCells ie.size n' (.slice (some ⟨g0,0,none⟩) n' cap)).run P w.drew = .ok olds0.toArray w.drew := by
       refine run_firstCells_some (P := P) w.drew ie.size n' _ n' cap olds0 (by rw [hsz];exact hown.1) (fun j u hu => ?_)
       rw [j15,Nat.zero_add]
       have : w.drew.cell? ⟨g0,j,none⟩ = w.cell? ⟨g0,j,none⟩ := rfl
       rw [this,z15 hheap]
       rw [← htake] at hu
       have hlt : j < n' * szx := by have := (List.getElem?_eq_some_iff.1 hu).1;simp at this;omega
       rw [List.getElem?_take_of_lt hlt] at hu
       simpa using hu
      exact grow _ cap olds0 hκ hfc (by omega) hown.1 hrel.2 hrel.1
   ·cases hE
  ·cases hE
 ·cases hE
end Go.Proofs.Ytjfammnjpeeahaa.AL
namespace Go.Proofs.Ytjfammnjpeeahaa.AL
open Go.RowKit
variable {P : Program}
def effNil (xs : List AV) : Option Eff :=
 match xs with
 | [.p (.d (.bx cs))] => some { val := .p (.d (.bx cs)) }
 | [.p (.d (.bf n f))] => some { val := .p (.d (.bf n f)) }
 | [.loc l o] => some { val := .loc l o }
 | [.p (.fn (.func f) a b)] => some { val := .p (.fn (.func f) a b) }
 | [.el l gen sz i j] => some { val := .el l gen sz i j }
 | [.cl (.func f) a b] => some { val := .cl (.func f) a b }
 | [.ex b sz i j] => some { val := .ex b sz i j }
 | [.p (.d (.v (.pointer (some a))))] => some { val := .p (.d (.v (.pointer (some a)))) }
 | _ => none
theorem sem_nil {o : Oper} {x : Operand} (ho : o.op = .nilCheck x) {xs : List AV} {lL : Option (Nat × LV)} {E : Eff} (hE : effNil xs = some E) : OpSem P o xs lL E := by
 unfold effNil at hE
 split at hE
 ·rename_i cs
  cases hE
  refine z12 fun B w h r hr hL => ?_
  simp only [ho,Op.operands] at hr
  have h0 := hr.2 0 (r x) _ rfl rfl
  refine ⟨r x,?_,h0⟩
  obtain ⟨v0,hv0⟩ : ∃ v,r x = v := ⟨_,rfl⟩
  rw [hv0] at h0
  cases h0 with | d _ _ h0 => obtain ⟨b,q,rfl⟩ := q42 h0;simp [execOp,ho,hv0]
 ·rename_i n f
  cases hE
  refine z12 fun B w h r hr hL => ?_
  simp only [ho,Op.operands] at hr
  have h0 := hr.2 0 (r x) _ rfl rfl
  refine ⟨r x,?_,h0⟩
  obtain ⟨v0,hv0⟩ : ∃ v,r x = v := ⟨_,rfl⟩
  rw [hv0] at h0
  cases h0 with | d _ _ h0 => cases h0 with | bf => simp [execOp,ho,hv0]
 ·rename_i l q
  cases hE
  refine z12 fun B w h r hr hL => ?_
  simp only [ho,Op.operands] at hr
  have h0 : r x = _ := hr.2 0 (r x) _ rfl rfl
  exact ⟨_,by simp [execOp,ho,h0],rfl⟩
 ·rename_i f a b
  cases hE
  refine z12 fun B w h r hr hL => ?_
  simp only [ho,Op.operands] at hr
  have h0 := hr.2 0 (r x) _ rfl rfl
  refine ⟨r x,?_,h0⟩
  obtain ⟨v0,hv0⟩ : ∃ v,r x = v := ⟨_,rfl⟩
  rw [hv0] at h0
  cases h0 with | fn => simp [execOp,ho,hv0]
 ·rename_i l gen sz i j
  cases hE
  refine z12 fun B w h r hr hL => ?_
  simp only [ho,Op.operands] at hr
  have h0 := hr.2 0 (r x) _ rfl rfl
  obtain ⟨v0,hv0⟩ : ∃ v,r x = v := ⟨_,rfl⟩
  refine ⟨r x,?_,h0⟩
  obtain ⟨_,b,hv,_⟩ := h0
  simp [execOp,ho,hv]
 ·rename_i f a b
  cases hE
  refine z12 fun B w h r hr hL => ?_
  simp only [ho,Op.operands] at hr
  have h0 := hr.2 0 (r x) _ rfl rfl
  refine ⟨r x,?_,h0⟩
  obtain ⟨vs,us,hv,_⟩ := h0
  simp [execOp,ho,hv]
 ·rename_i b sz i j
  cases hE
  refine z12 fun B w h r hr hL => ?_
  simp only [ho,Op.operands] at hr
  have h0 : r x = _ := hr.2 0 (r x) _ rfl rfl
  exact ⟨_,by simp [execOp,ho,h0],rfl⟩
 ·rename_i a
  cases hE
  refine z12 fun B w h r hr hL => ?_
  simp only [ho,Op.operands] at hr
  have h0 := q13 (hr.2 0 (r x) _ rfl rfl)
  exact ⟨_,by simp [execOp,ho,h0],q14 rfl⟩
 ·cases hE
def effField (P : Program) (t : TypeId) (n : Nat) (xs : List AV) : Option Eff :=
 match tiOf P t with
 |some ti => match ti.k with
  | .struct fs => match fs[n]?,xs with
   | some (off,sz,ag),[.p (.agg cs)] => bif ag then some { val := .p (.agg ((cs.drop off).take sz)),obl := off + sz ≤ cs.length }
     else (cs[off]?).map fun d => { val := .p (.d d) }
   | _,_ => none
  | _ => none
 | none => none
theorem j99 {o : Oper} {t : TypeId} {x : Operand} {n : Nat} (ho : o.op = .field t x n) {xs : List AV} {lL : Option (Nat × LV)} {E : Eff} (hE : effField P t n xs = some E) (hobl : E.obl) : OpSem P o xs lL E := by
 unfold effField at hE
 split at hE
 ·rename_i ti hti
  split at hE
  ·rename_i fs hk
   split at hE
   ·rename_i off sz ag cs hn
    obtain ⟨_,d,z,hi,hd,hz,hkk,_,_⟩ := j12 hti
    rw [hk] at hkk
    obtain ⟨fields,rfl,hm⟩ := x34 hkk
    obtain ⟨f,hf,hff⟩ := z34 hm n _ hn
    obtain ⟨fi,fd,hfi,hfd,he⟩ := j34 hff
    simp only [Prod.mk.injEq] at he
    obtain ⟨rfl,rfl,rfl⟩ := he
    have hf' : fields[n]? = some f := by simpa using hf
    cases hag : isAggD fd with
    |true =>
     rw [hag] at hE;simp only [cond_true] at hE;cases hE
     refine z12 fun B w h r hr hL => ?_
     simp only [ho,Op.operands] at hr
     obtain ⟨vs,hv,hl,hrr⟩ := q36 (hr.2 0 (r x) _ rfl rfl)
     have hlen : f.offset + fi.size ≤ cs.length := hobl
     refine ⟨.agg ((vs.drop f.offset).take fi.size).toArray,?_,.agg _ _ (by simp;omega) fun j v d hv' hd' => ?_⟩
     ·simp [execOp,ho,hv,Instr.field,run_underlying hd,hf',asAgg,part,z35 hfd,hag,x26 hfi]
     ·have hlt : j < fi.size := by have := (List.getElem?_eq_some_iff.1 hv').1;simp at this;omega
      rw [List.getElem?_take_of_lt hlt,List.getElem?_drop] at hv' hd'
      exact hrr _ v d hv' hd'
    |false =>
     rw [hag] at hE;simp only [cond_false] at hE
     cases hc : cs[f.offset]? with
     | none => simp [hc] at hE
     |some dd =>
      simp [hc] at hE;subst hE
      refine z12 fun B w h r hr hL => ?_
      simp only [ho,Op.operands] at hr
      obtain ⟨vs,hv,hl,hrr⟩ := q36 (hr.2 0 (r x) _ rfl rfl)
      have hlt : f.offset < vs.length := by rw [hl];exact (List.getElem?_eq_some_iff.1 hc).1
      refine ⟨vs[f.offset],?_,.d _ _ (hrr _ _ dd (by simp [hlt]) hc)⟩
      simp [execOp,ho,hv,Instr.field,run_underlying hd,hf',asAgg,part,z35 hfd,hag,hlt]
   ·cases hE
  ·cases hE
 ·cases hE
def pvAV : AV → Option PV
 | .p x => some x
 | .gr _ _ sz n f => some (.d (.sl sz n f))
 | _ => none
theorem j42 {w : World} {h : Gh} {x : AV} {y : PV} (hx : pvAV x = some y) {v : Value} (r : RelA w h v x) : RelP w h.g v y := by
 unfold pvAV at hx
 split at hx
 ·cases hx;exact r
 ·cases hx;exact .d _ _ r.1
 ·cases hx
theorem q43 {w : World} {h : Gh} : ∀ {xs : List AV} {ys : List PV} {us : List Value},xs.mapM pvAV = some ys → RelAs w h us xs → RelPs w h.g us ys
 | [],ys,us,hm,r => by
  simp at hm;subst hm
  have := r.1;simp at this;subst this;exact RelPs.nil _ _
 |x :: xs,ys,us,hm,r => by
  simp only [List.mapM_cons] at hm
  cases hx : pvAV x with
  | none => simp [hx] at hm
  |some y =>
   cases hxs : xs.mapM pvAV with
   | none => simp [hx,hxs] at hm
   |some ys' =>
    simp [hx,hxs] at hm
    subst hm
    cases us with
    | nil => simp [RelAs] at r
    |cons u us =>
     refine RelPs.cons (j42 hx (r.2 0 u x rfl rfl)) (q43 hxs ⟨by simpa using r.1,fun j v z hv hz => r.2 (j + 1) v z (by simpa using hv) (by simpa using hz)⟩)
def effFunc (fn : Fn) (n : Nat) (xs : List AV) : Option Eff :=
 (xs.mapM pvAV).map fun ys => { val := .p (.fn fn (ys.take n) (ys.drop n)) }
theorem q100 {o : Oper} {fn : Fn} {first caps : Array Operand} (ho : o.op = .makeFunc fn first caps) {xs : List AV} {lL : Option (Nat × LV)} {E : Eff} (hE : effFunc fn first.size xs = some E) : OpSem P o xs lL E := by
 unfold effFunc at hE
 cases hm : xs.mapM pvAV with
 | none => simp [hm] at hE
 |some ys =>
  simp [hm] at hE;subst hE
  refine z12 fun B w h r hr hL => ?_
  have hops : o.op.operands.toList.map r = (first.toList.map r) ++ (caps.toList.map r) := by simp [ho,Op.operands]
  rw [hops] at hr
  have hp := q43 hm hr
  have hlen : first.size ≤ ys.length := by have := hp.1;simp at this;omega
  refine ⟨.func fn (first.toList.map r).toArray (caps.toList.map r).toArray,?_,.fn _ _ _ _ _ (by simp;omega) (by have := hp.1;simp at this ⊢;omega) (fun j v x hv hx => ?_) (fun j v x hv hx => ?_)⟩
  ·have e1 : (first.toList.map r).toArray = first.map r := by apply Array.ext';simp
   have e2 : (caps.toList.map r).toArray = caps.map r := by apply Array.ext';simp
   rw [e1,e2]
   simp only [execOp,ho];simp [Instr.makeFunc]
  ·have hj : j < first.size := by have := (List.getElem?_eq_some_iff.1 hv).1;simpa using this
   rw [List.getElem?_take_of_lt hj] at hx
   exact hp.2 j v x (by rw [List.getElem?_append_left (by simpa using hj)];exact hv) hx
  ·rw [List.getElem?_drop] at hx
   exact hp.2 _ v x (by rw [List.getElem?_append_right (by simp)];simpa using hv) hx
def lenAV : AV → Option Nat
 | .p (.d (.sl _ n _)) => some n
 | .p (.d (.v (.slice _ n _))) => some n
 | .gr _ _ _ n _ => some n
 | .row _ _ _ n => some n
 | .ow _ _ _ n => some n
 | _ => none
def effLen (P : Program) (t : TypeId) (xs : List AV) : Option Eff :=
 match tiOf P t,xs with
 |some ti,[x] => match ti.k,x with
  | .slice _ _ _,x => (lenAV x).map fun (n : Nat) => { val := .p (.d (.v (.int .i64 (n : Int)))) }
  | .string,.p (.d (.v (.string s))) => some { val := .p (.d (.v (.int .i64 s.size))) }
  | _,_ => none
 | _,_ => none
theorem z100 {w : World} {h : Gh} {x : AV} {n : Nat} (hx : lenAV x = some n) {v : Value} (r : RelA w h v x) : ∃ a c,v = .slice a n c := by
 unfold lenAV at hx
 split at hx
 ·cases hx;cases r with | d _ _ r => cases r <;> exact ⟨_,_,rfl⟩
 ·cases hx;exact ⟨_,_,q13 r⟩
 ·cases hx;obtain ⟨r,_⟩ := r;cases r <;> exact ⟨_,_,rfl⟩
 ·cases hx;obtain ⟨c,hv,_⟩ := r;exact ⟨_,c,hv⟩
 ·cases hx;obtain ⟨_,⟨a,c,hv,_⟩,_⟩ := r;exact ⟨a,c,hv⟩
 ·cases hx
theorem q25 {o : Oper} {c : Call} (ho : o.op = .call c) {b : Builtin} (hb : c.callee = .builtin b) (r : Operand → Value) (w w' : World) {n : Next}
  (hv : ∀ consts,(builtin b c.argTypes o.type consts (c.args.map r)).run P w = .ok n w') : (execOp r o).run P w = .ok n w' := by
 simp [execOp,ho,resolve,hb,invoke,hv]
theorem sem_len {o : Oper} {c : Call} (ho : o.op = .call c) {t : TypeId} {x : Operand} (hc : c = { callee := .builtin .len,args := #[x],argTypes := #[t] }) {xs : List AV} {lL : Option (Nat × LV)} {E : Eff} (hE : effLen P t xs = some E) : OpSem P o xs lL E := by
 unfold effLen at hE
 split at hE
 ·rename_i ti y hti
  obtain ⟨_,d,z,hi,hd,hz,hkk,_,_⟩ := j12 hti
  split at hE
  ·rename_i e sz by_ hk
   rename_i y _ _
   cases hl : lenAV y with
   | none => simp only [hl,Option.map_none] at hE;cases hE
   |some n =>
    simp only [hl,Option.map_some,Option.some.injEq] at hE;subst hE
    rw [hk] at hkk
    obtain ⟨rfl,_⟩ := z16 hkk
    refine z12 fun B w h r hr hL => ⟨.int .i64 n,?_,q14 rfl⟩
    rw [ho,hc] at hr
    simp only [Op.operands,Call.operands] at hr
    obtain ⟨a,cc,hv⟩ := z100 hl (hr.2 0 (r x) _ rfl rfl)
    refine q25 ho (b := .len) (by rw [hc]) r w w fun consts => ?_
    rw [hc]
    simp [builtin,hv,Builtin.len_,run_underlying hd,goInt]
  ·rename_i s hk
   cases hE
   rw [hk] at hkk
   have := j39 hkk
   subst this
   refine z12 fun B w h r hr hL => ⟨.int .i64 s.size,?_,q14 rfl⟩
   rw [ho,hc] at hr
   simp only [Op.operands,Call.operands] at hr
   have h0 := q13 (hr.2 0 (r x) _ rfl rfl)
   refine q25 ho (b := .len) (by rw [hc]) r w w fun consts => ?_
   rw [hc]
   simp [builtin,h0,Builtin.len_,run_underlying hd,goInt]
  ·cases hE
 ·cases hE
def bndAV : Option AV → Option (Option Int)
 | none => some none
 | some (.p (.d (.v (.int _ i)))) => some (some i)
 | _ => none
def bnds (lo hi mx : Bool) (xs : List AV) : Option (Option AV × Option AV × Option AV) :=
 match lo,hi,mx,xs with
 | false,false,false,[] => some (none,none,none)
 | true,false,false,[a] => some (some a,none,none)
 | false,true,false,[b] => some (none,some b,none)
 | true,true,false,[a,b] => some (some a,some b,none)
 | false,true,true,[b,c] => some (none,some b,some c)
 | true,true,true,[a,b,c] => some (some a,some b,some c)
 | _,_,_,_ => none
def mxOf (m : Option Int) (cp : Nat) : Nat := match m with
 | some m => m.toNat
 | none => cp
def slX (b off l h m sz : Nat) : Value := sliced (some ⟨b,off,none⟩) l h m sz
theorem slX_0 (b off h m sz : Nat) : slX b off 0 h m sz = .slice (some ⟨b,off,none⟩) h m := by unfold slX sliced;simp [j15]
theorem slX_l {l m : Nat} (hlt : l < m) (b h sz : Nat) : slX b 0 l h m sz = .slice (some ⟨b,l * sz,none⟩) (h - l) (m - l) := by unfold slX sliced;rw [if_neg (by omega)];simp [j15]
def effSlice (P : Program) (t : TypeId) (lo hi mx : Bool) (xs : List AV) : Option Eff :=
 match tiOf P t,xs with
 |some ti,x :: rest => match bnds lo hi mx rest with
  |some (a,b,c) => match bndAV a,bndAV b,bndAV c with
   |some l,some hh,some m => match ti.k,x with
    | .slice _ sz _,.p (.d (.sl sz' n f)) =>
     some { val := .p (.d (.sl sz ((hh.getD n).toNat - (l.getD 0).toNat) fun i => f ((l.getD 0).toNat + i))),obl := sz' = sz ∧ 0 ≤ l.getD 0 ∧ l.getD 0 ≤ hh.getD n ∧ hh.getD n ≤ m.getD n ∧ m.getD n ≤ n }
    | .slice _ sz _,.gr _ _ sz' n f =>
     some { val := .p (.d (.sl sz ((hh.getD n).toNat - (l.getD 0).toNat) fun i => f ((l.getD 0).toNat + i))),obl := sz' = sz ∧ 0 ≤ l.getD 0 ∧ l.getD 0 ≤ hh.getD n ∧ hh.getD n ≤ m.getD n ∧ m.getD n ≤ n }
    | .slice _ sz _,.p (.d (.v (.slice (some ⟨b,off,none⟩) n c))) =>
     some { val := .p (.d (.v (slX b off (l.getD 0).toNat (hh.getD n).toNat (mxOf m c) sz))),obl := (0 ≤ l.getD 0 ∧ l.getD 0 ≤ hh.getD n ∧ hh.getD n ≤ m.getD c ∧ m.getD c ≤ c) ∧ n ≤ c }
    | .slice _ sz _,.p (.d (.v (.slice none n c))) =>
     some { val := .p (.d (.v (.slice none ((hh.getD n).toNat - (l.getD 0).toNat) (mxOf m c - (l.getD 0).toNat)))),obl := (0 ≤ l.getD 0 ∧ l.getD 0 ≤ hh.getD n ∧ hh.getD n ≤ m.getD c ∧ m.getD c ≤ c) ∧ n ≤ c }
    | .slice _ sz _,.row r sz' off n =>
     some { val := .row r sz' (off + (l.getD 0).toNat) ((hh.getD n).toNat - (l.getD 0).toNat),obl := (sz' = sz ∧ 0 ≤ l.getD 0 ∧ l.getD 0 ≤ hh.getD n ∧ hh.getD n ≤ m.getD n ∧ m.getD n ≤ n) ∧ l.getD 0 < m.getD n }
    | _,_ => none
   | _,_,_ => none
  | none => none
 | _,_ => none
theorem x100 (l h m sz : Nat) : sliced none l h m sz = .slice none (h - l) (m - l) := by unfold sliced;split <;> rfl
theorem j100 (a : Option Addr) (l h m sz : Nat) : (sliced a l h m sz).oneCell' = true := by unfold sliced;rfl
theorem q101 {w : World} {g : Nat → Nat} {a : Option Addr} {sz n c : Nat} {f : Nat → List Dat} (r : RelD w g (.slice a n c) (.sl sz n f)) {l hh m : Nat} (h1 : l ≤ hh) (h2 : hh ≤ n) (h3 : hh ≤ m) (h4 : m ≤ c) :
  RelD w g (sliced a l hh m sz) (.sl sz (hh - l) fun i => f (l + i)) := by
 by_cases hz : hh - l = 0
 ·unfold sliced;rw [hz];exact .sl0 _ _ _ _
 ·cases r with
  | sl0 => omega
  |sl b off _ _ _ _ u hn hl hc hg hr =>
   have hml : ¬ m = l := by omega
   have hle : hh * sz ≤ n * sz := Nat.mul_le_mul_right _ h2
   have e1 : (hh - l) * sz = hh * sz - l * sz := Nat.sub_mul _ _ _
   have e2 : l * sz ≤ hh * sz := Nat.mul_le_mul_right _ h1
   simp only [sliced,if_neg hml,Option.map_some,j15]
   refine .sl b (off + l * sz) _ _ sz _ (fun i j => u (l + i) j) (by omega) (fun i hi => hl _ (by omega)) (fun i j hi hj => ?_) (by omega) (fun i j x hi hx => hr _ j x (by omega) hx)
   rw [← hc (l + i) j (by omega) hj]
   congr 2
   rw [Nat.add_mul];omega
theorem z101 {w : World} {g : Nat → Nat} {v : Value} {sz n : Nat} {f : Nat → List Dat} (r : RelD w g v (.sl sz n f)) : ∃ a c,v = .slice a n c ∧ n ≤ c := by
 cases r with
 | sl0 a c => exact ⟨a,c,rfl,Nat.zero_le _⟩
 | sl b off _ c _ _ u hn => exact ⟨_,c,rfl,hn⟩
theorem x101 {o : Oper} {t : TypeId} {x : Operand} {lo hi mx : Option Operand} (ho : o.op = .slice t x lo hi mx) {xs : List AV} {lL : Option (Nat × LV)} {E : Eff} (hE : effSlice P t lo.isSome hi.isSome mx.isSome xs = some E) (hobl : E.obl) : OpSem P o xs lL E := by
 unfold effSlice at hE
 split at hE
 ·rename_i ti y rest hti
  split at hE
  ·rename_i a b c hb
   split at hE
   ·rename_i l hh m ha hb2 hc2
    have main : ∀ {e sz by_ sz' n N},ti.k = .slice e sz by_ → n ≤ N → (sz' = sz ∧ 0 ≤ l.getD 0 ∧ l.getD 0 ≤ hh.getD (n : Nat) ∧ hh.getD n ≤ m.getD (N : Nat) ∧ m.getD N ≤ (N : Int)) →
      ∀ (out : AV),(∀ (w : World) (h : Gh) v,RelA w h v y → ∃ ad cp,v = .slice ad n cp ∧ N ≤ cp ∧ RelA w h (sliced ad (l.getD 0).toNat (hh.getD n).toNat (mxOf m cp) sz') out) → ∀ obl,OpSem P o (y :: rest) lL ⟨out,obl,none,false⟩ := by
     intro e sz by_ sz' n N hk hnN hob out hrel obl
     obtain ⟨rfl,o1,o2,o3,o4⟩ := hob
     obtain ⟨_,d,z,hi',hd,hz,hkk,_,_⟩ := j12 hti
     rw [hk] at hkk
     obtain ⟨rfl,ie,hie,hsz,_⟩ := z16 hkk
     refine z12 fun B w h r hr hL => ?_
     have hops : o.op.operands.toList.map r = r x :: ((lo.toList ++ hi.toList ++ mx.toList).map r) := by simp [ho,Op.operands,Option.toList_toArray]
     rw [hops] at hr
     obtain ⟨ad,cp,hv,hnc,hout⟩ := hrel w h _ (hr.2 0 (r x) y rfl rfl)
     have hr' : RelAs w h ((lo.toList ++ hi.toList ++ mx.toList).map r) rest := ⟨by simpa using hr.1,fun j v z hv hz => hr.2 (j + 1) v z (by simpa using hv) (by simpa using hz)⟩
     have elem : P.elem t = e := by simp [Program.elem,hd]
     have hds : P.underlying t = some (.slice (P.elem t)) := by rw [elem];exact hd
     have bnd : ∀ {q : Option AV} {i : Option Int},bndAV q = some i → ∀ {v z},q = some z → RelA w h v z → ∃ k j,i = some j ∧ v = .int k j := by
      intro q i hq v z hqz hvz
      subst hqz
      unfold bndAV at hq
      split at hq
      ·rename_i e;cases e
      ·rename_i k j e;cases e;cases hq;exact ⟨k,j,rfl,q13 hvz⟩
      ·cases hq
     refine ⟨sliced ad (l.getD 0).toNat (hh.getD n).toNat (mxOf m cp) sz',?_,hout⟩
     ·simp only [execOp,ho]
      simp only [Sem.run_bind,run_sliceAt_slice (P := P) w t _ _ _ _ hds,hv]
      have hsz' : ∀ {q : Int → Result Value},((sizeOf (P.elem t)).run P w) = .ok sz' w := fun {_} => by rw [elem,x26 hie,hsz]
      have hsz2 := hsz' (q := fun _ => .ok undef w)
      clear hsz'
      rcases rest with _ | ⟨r1,_ | ⟨r2,_ | ⟨r3,_ | ⟨r4,r5⟩⟩⟩⟩ <;> cases lo <;> cases hi <;> cases mx <;> simp only [bnds,Option.isSome_none,Option.isSome_some] at hb <;> first | (cases hb;done) | skip
      all_goals cases hb
      ·cases ha;cases hb2;cases hc2
       simp only [Option.map_none]
       rw [run_slice_all (P := P) w t ad n cp hds,hsz2];simp [mxOf]
      ·cases ha;cases hc2
       rename_i bo
       obtain ⟨k1,j1,rfl,q1⟩ := bnd hb2 rfl (hr'.2 0 (r bo) _ rfl rfl)
       simp only [Option.map_none,Option.map_some,q1,Option.getD_some,Option.getD_none] at o1 o2 o3 o4 ⊢
       rw [run_slice_h (P := P) w t ad n cp hds k1 j1 (by omega) (by omega),hsz2];simp [mxOf]
      ·cases hb2;cases hc2
       rename_i ao
       obtain ⟨k1,j1,rfl,q1⟩ := bnd ha rfl (hr'.2 0 (r ao) _ rfl rfl)
       simp only [Option.map_none,Option.map_some,q1,Option.getD_some,Option.getD_none] at o1 o2 o3 o4 ⊢
       rw [run_slice_l (P := P) w t ad n cp hds k1 j1 (by omega) (by omega),hsz2];simp [mxOf]
      ·cases ha
       rename_i bo co
       obtain ⟨k1,j1,rfl,q1⟩ := bnd hb2 rfl (hr'.2 0 (r bo) _ rfl rfl)
       obtain ⟨k2,j2,rfl,q2⟩ := bnd hc2 rfl (hr'.2 1 (r co) _ rfl rfl)
       simp only [Option.map_none,Option.map_some,q1,q2,Option.getD_some,Option.getD_none] at o1 o2 o3 o4 ⊢
       rw [run_slice_hm (P := P) w t ad n cp hds k1 k2 j1 j2 (by omega) (by omega) (by omega),hsz2];simp [mxOf]
      ·cases hc2
       rename_i ao bo
       obtain ⟨k1,j1,rfl,q1⟩ := bnd ha rfl (hr'.2 0 (r ao) _ rfl rfl)
       obtain ⟨k2,j2,rfl,q2⟩ := bnd hb2 rfl (hr'.2 1 (r bo) _ rfl rfl)
       simp only [Option.map_none,Option.map_some,q1,q2,Option.getD_some,Option.getD_none] at o1 o2 o3 o4 ⊢
       rw [run_slice_lh (P := P) w t ad n cp hds k1 k2 j1 j2 (by omega) (by omega) (by omega),hsz2];simp [mxOf]
      ·rename_i ao bo co
       obtain ⟨k1,j1,rfl,q1⟩ := bnd ha rfl (hr'.2 0 (r ao) _ rfl rfl)
       obtain ⟨k2,j2,rfl,q2⟩ := bnd hb2 rfl (hr'.2 1 (r bo) _ rfl rfl)
       obtain ⟨k3,j3,rfl,q3⟩ := bnd hc2 rfl (hr'.2 2 (r co) _ rfl rfl)
       simp only [Option.map_some,q1,q2,q3,Option.getD_some] at o1 o2 o3 o4 ⊢
       rw [run_slice_lhm (P := P) w t ad n cp hds k1 k2 k3 j1 j2 j3 (by omega) (by omega) (by omega) (by omega),hsz2];simp [mxOf]
    have dat : ∀ {sz' n : Nat} {f : Nat → List Dat},(0 ≤ l.getD 0 ∧ l.getD 0 ≤ hh.getD (n : Nat) ∧ hh.getD n ≤ m.getD n ∧ m.getD n ≤ (n : Int)) → (∀ (w : World) (h : Gh) v,RelA w h v y → RelD w h.g v (.sl sz' n f)) → ∀ (w : World) (h : Gh) v,RelA w h v y →
      ∃ ad cp,v = .slice ad n cp ∧ n ≤ cp ∧ RelA w h (sliced ad (l.getD 0).toNat (hh.getD n).toNat (mxOf m cp) sz') (.p (.d (.sl sz' ((hh.getD n).toNat - (l.getD 0).toNat) fun i => f ((l.getD 0).toNat + i)))) := by
     intro sz' n f ⟨o1,o2,o3,o4⟩ hrel w h v hv
     have h0 := hrel w h v hv
     obtain ⟨ad,cp,rfl,hnc⟩ := z101 h0
     refine ⟨ad,cp,rfl,hnc,.d _ _ (q101 h0 (by omega) (by omega) ?_ ?_)⟩
     ·cases m with
      | none => simp [mxOf] at o3 o4 ⊢;omega
      | some m => simp [mxOf] at o3 o4 ⊢;omega
     ·cases m with
      | none => simp [mxOf]
      | some m => simp [mxOf] at o3 o4 ⊢;omega
    split at hE
    ·rename_i e sz by_ sz' n f hk
     cases hE
     have hz := hobl.1
     subst hz
     exact main hk (Nat.le_refl _) hobl _ (dat hobl.2 fun w h v hv => by cases hv with | d _ _ hv => exact hv) _
    ·rename_i e sz by_ lq gen sz' n f hk
     cases hE
     have hz := hobl.1
     subst hz
     exact main hk (Nat.le_refl _) hobl _ (dat hobl.2 fun w h v hv => hv.1) _
    ·rename_i e sz by_ b off n c hk
     cases hE
     obtain ⟨hob,hnc⟩ := hobl
     exact main (by assumption) hnc ⟨rfl,hob⟩ _ (fun w h v hv => ⟨_,c,q13 hv,Nat.le_refl _,q14 (j100 _ _ _ _ _)⟩) _
    ·rename_i e sz by_ n c hk
     cases hE
     obtain ⟨hob,hnc⟩ := hobl
     exact main (by assumption) hnc ⟨rfl,hob⟩ _ (fun w h v hv => ⟨_,c,q13 hv,Nat.le_refl _,by rw [x100];exact q14 rfl⟩) _
    ·rename_i e sz by_ lq sz' off n hk
     cases hE
     obtain ⟨hob,hlt⟩ := hobl
     refine main (by assumption) (Nat.le_refl _) hob _ (fun w h v hv => ?_) _
     obtain ⟨c,hv,hc⟩ := hv
     refine ⟨_,c,hv,hc,?_⟩
     obtain ⟨_,o1,o2,o3,o4⟩ := hob
     cases m with
     |none =>
      simp at o3 o4 hlt
      have hml : ¬ c = (l.getD 0).toNat := by omega
      simp only [mxOf,sliced,if_neg hml,Option.map_some,j15]
      exact ⟨_,by rw [Nat.add_mul],by omega⟩
     |some m =>
      simp at o3 o4 hlt
      have hml : ¬ m.toNat = (l.getD 0).toNat := by omega
      simp only [mxOf,sliced,if_neg hml,Option.map_some,j15]
      exact ⟨_,by rw [Nat.add_mul],by omega⟩
    ·cases hE
   ·cases hE
  ·cases hE
 ·cases hE
end Go.Proofs.Ytjfammnjpeeahaa.AL
namespace Go.Proofs.Ytjfammnjpeeahaa.AL
open Go.RowKit
variable {P : Program}
def ownX : List AV → Bool
 | .el .. :: _ => true
 | .ow .. :: _ => true
 | _ => false
def putEl (f : Nat → List Dat) (i j : Nat) (ys : List Dat) : Nat → List Dat := fun k => if k = i then (f i).take j ++ ys ++ (f i).drop (j + ys.length) else f k
theorem x36 {B : Nat → Prop} {w : World} {h : Gh} {l sz n gen : Nat} {e : TypeId} {f : Nat → List Dat} (hL : LocOK B w h l (.own e sz n gen f)) {b : Nat} (hb : (h.κ l).ownBlock = some b) :
  ∃ cap cur,h.κ l = .slice (some ⟨b,0,none⟩) n cap ∧ w.heap[b]? = some (.cells cur e (0,0)) ∧ n ≤ cap ∧ cap ≤ maxLen ∧ cur.size = cap * sz ∧ h.g b = 0 ∧ B b ∧ RowIs w h.g sz n (cur.toList.take (n * sz)) f := by
 obtain ⟨_,⟨xs,h2,hr⟩,h4⟩ := hL
 obtain ⟨g1,g2⟩ := h4 b hb
 rcases h2 with ⟨a1,⟨a2,_⟩ | ⟨gb,cap,cur,a2,a3,a4,a5,a6,a7,a8⟩⟩
 ·rw [a2] at hb;cases hb
 ·rw [a2] at hb
  simp [Value.ownBlock] at hb
  subst hb
  exact ⟨cap,cur,a2,a4,a5,a6,a7,g1,g2,by rw [a8];exact hr⟩
theorem RowIs.cell {w : World} {g : Nat → Nat} {sz n : Nat} {cur : Array Value} {f : Nat → List Dat} (r : RowIs w g sz n (cur.toList.take (n * sz)) f) {i j : Nat} (hi : i < n) (hj : j < sz) {d : Dat} (hd : (f i)[j]? = some d) :
  ∃ u,cur[i * sz + j]? = some u ∧ RelD w g u d := by
 obtain ⟨u,h1,h2⟩ := r.2 i j d hi hj hd
 rw [List.getElem?_take_of_lt (x20 hi hj)] at h1
 exact ⟨u,by simpa using h1,h2⟩
theorem RowIs.at {w : World} {g : Nat → Nat} {sz n : Nat} {cur : Array Value} {f : Nat → List Dat} (r : RowIs w g sz n (cur.toList.take (n * sz)) f) {i j : Nat} (hi : i < n) (hj : j < sz) : ∃ u d,(f i)[j]? = some d ∧ cur[i * sz + j]? = some u ∧ RelD w g u d := by
 have hl := r.1 i hi
 obtain ⟨u,h1,h2⟩ := r.cell hi hj (List.getElem?_eq_getElem (by omega))
 exact ⟨u,_,List.getElem?_eq_getElem (by omega),h1,h2⟩
def effLoadO (P : Program) (t : TypeId) (xs : List AV) (lL : Option (Nat × LV)) : Option Eff :=
 match tiOf P t,xs,lL with
 |some ti,[.el l gen sz i j],some (l',.own _ sz' n gen' f) =>
  bif ti.k.agg then some { val := .p (.agg (((f i).drop j).take ti.size)),obl := (l' = l ∧ gen' = gen ∧ sz' = sz) ∧ i < n ∧ j + ti.size ≤ sz }
  else ((f i)[j]?).map fun d => { val := .p (.d d),obl := (l' = l ∧ gen' = gen ∧ sz' = sz) ∧ i < n }
 | _,_,_ => none
theorem j101 {o : Oper} {t : TypeId} {x : Operand} (ho : o.op = .load t x) {xs : List AV} {lL : Option (Nat × LV)} {E : Eff} (hE : effLoadO P t xs lL = some E) (hobl : E.obl) : OpSem P o xs lL E := by
 unfold effLoadO at hE
 split at hE
 ·rename_i ti l gen sz i j l' e sz' n gen' f hti
  have blk : ∀ (B : Nat → Prop) (w : World) (h : Gh) (r : Operand → Value),RelAs w h (o.op.operands.toList.map r) [.el l gen sz i j] → LocOK B w h l (.own e sz n gen f) →
    ∃ b cap cur,r x = .pointer (some ⟨b,i * sz + j,none⟩) ∧ w.heap[b]? = some (.cells cur e (0,0)) ∧ RowIs w h.g sz n (cur.toList.take (n * sz)) f ∧ n ≤ cap ∧ cur.size = cap * sz := by
   intro B w h r hr hL
   simp only [ho,Op.operands] at hr
   obtain ⟨q1,b,q2,q3⟩ := hr.2 0 (r x) _ rfl rfl
   obtain ⟨cap,cur,c1,c2,c3,c4,c5,c6,c7,c8⟩ := x36 hL (q3 hL.1)
   exact ⟨b,cap,cur,q2,c2,c8,c3,c5⟩
  cases ha : ti.k.agg with
  |true =>
   rw [ha] at hE
   simp only [cond_true] at hE
   cases hE
   obtain ⟨⟨rfl,rfl,rfl⟩,hi,hj⟩ := hobl
   refine z12 fun B w h r hr hL => ?_
   obtain ⟨b,cap,cur,h1,h2,h3,h4,h5⟩ := blk B w h r hr (hL _ _ rfl)
   have hcs : i * sz' + sz' ≤ cur.size := by
    have : (i + 1) * sz' ≤ cap * sz' := Nat.mul_le_mul_right _ (by omega)
    rw [Nat.add_mul] at this;omega
   have hv : (Instr.loadAt t (.pointer (some ⟨b,i * sz' + j,none⟩))).run P w = .ok (.agg ((cur.toList.drop (i * sz' + j)).take ti.size).toArray) w := by
    refine x30 hti ha (by simp;omega) fun k v hk => ?_
    have hlt : k < ti.size := by have := (List.getElem?_eq_some_iff.1 hk).1;simp at this;omega
    rw [List.getElem?_take_of_lt hlt,List.getElem?_drop] at hk
    rw [z15 h2];simpa [Nat.add_assoc] using hk
   refine ⟨_,q19 ho r w h1 hv,?_⟩
   refine .agg _ _ ?_ fun k v d hk hd => ?_
   ·have := h3.1 i hi;simp;omega
   ·have hlt : k < ti.size := by have := (List.getElem?_eq_some_iff.1 hk).1;simp at this;omega
    rw [List.getElem?_take_of_lt hlt,List.getElem?_drop] at hk hd
    obtain ⟨u,k1,k2⟩ := h3.cell hi (by omega) hd
    have : cur[i * sz' + (j + k)]? = some v := by simpa [Nat.add_assoc] using hk
    rw [k1] at this;cases this;exact k2
  |false =>
   rw [ha] at hE
   simp only [cond_false] at hE
   cases hd : (f i)[j]? with
   | none => rw [hd] at hE;cases hE
   |some d =>
    rw [hd] at hE
    cases hE
    obtain ⟨⟨rfl,rfl,rfl⟩,hi⟩ := hobl
    refine z12 fun B w h r hr hL => ?_
    obtain ⟨b,cap,cur,h1,h2,h3,h4,h5⟩ := blk B w h r hr (hL _ _ rfl)
    have hj : j < sz' := by have := (List.getElem?_eq_some_iff.1 hd).1;rw [h3.1 i hi] at this;exact this
    obtain ⟨u,k1,k2⟩ := h3.cell hi hj hd
    exact ⟨u,q19 ho r w h1 (j26 hti ha (by rw [z15 h2];exact k1)),.d _ _ k2⟩
 ·cases hE
def effStoreO (P : Program) (t : TypeId) (xs : List AV) (lL : Option (Nat × LV)) : Option Eff :=
 match tiOf P t,xs,lL with
 |some ti,[.el l gen sz i j,x],some (l',.own e sz' n gen' f) =>
  (datsAV x).map fun ys => { val := .top,obl := (l' = l ∧ gen' = gen ∧ sz' = sz) ∧ i < n ∧ j + ti.size ≤ sz ∧ ys.length = ti.size,upd := some (l,.own e sz n gen (putEl f i j ys)) }
 | _,_,_ => none
theorem q102 {o : Oper} {t : TypeId} {x y : Operand} (ho : o.op = .store t x y) {xs : List AV} {lL : Option (Nat × LV)} {E : Eff} (hE : effStoreO P t xs lL = some E) (hobl : E.obl) : OpSem P o xs lL E := by
 unfold effStoreO at hE
 split at hE
 ·rename_i ti l gen sz i j z l' e sz' n gen' f hti
  cases hc : datsAV z with
  | none => rw [hc] at hE;cases hE
  |some ys =>
   rw [hc] at hE
   cases hE
   obtain ⟨⟨rfl,rfl,rfl⟩,hi,hj,hyl⟩ := hobl
   intro B w h r hB hz hr hL
   simp only [ho,Op.operands] at hr
   have hL := hL _ _ rfl
   obtain ⟨q1,b,q2,q3⟩ := hr.2 0 (r x) _ rfl rfl
   obtain ⟨cap,cur,c1,c2,c3,c4,c5,c6,c7,c8⟩ := x36 hL (q3 hL.1)
   obtain ⟨y1,y2,y3⟩ := j24 hc (hr.2 1 (r y) _ rfl rfl)
   have hcs : i * sz' + sz' ≤ cur.size := by
    have : (i + 1) * sz' ≤ cap * sz' := Nat.mul_le_mul_right _ (by omega)
    rw [Nat.add_mul] at this;omega
   have hfit : i * sz' + j + (r y).cells.size ≤ cur.size := by omega
   have hst := x49 hti (w := w) c2 (.inl rfl) (by omega) hfit y3
   have tr : Trans B w h (w.setRow b (cur.toList.take (i * sz' + j) ++ (r y).cells.toList ++ cur.toList.drop (i * sz' + j + (r y).cells.size)).toArray) h (fun k => b = k) (some l') false := x35 hz c7 c6 _
   refine ⟨.skip,undef,_,h,j50 ho r w _ q2 hst,.inr ⟨rfl,rfl⟩,trivial,?_,fun l2 L2 hl => ?_⟩
   ·have : ownOf h (some (l',LV.own e sz' n gen' f)) ⟨.top,(l' = l' ∧ gen' = gen' ∧ sz' = sz') ∧ i < n ∧ j + ti.size ≤ sz' ∧ ys.length = ti.size,some (l',.own e sz' n gen' (putEl f i j ys)),false⟩ = (fun k => b = k) := by
     funext k;simp [ownOf,inB,c1,Value.ownBlock]
    rw [this];exact tr
   ·cases hl
    have hh := setRow_heap w b cur (cur.toList.take (i * sz' + j) ++ (r y).cells.toList ++ cur.toList.drop (i * sz' + j + (r y).cells.size)).toArray e _ c2
    refine ⟨⟨hL.1,⟨_,⟨?_,.inr ⟨b,cap,_,c1,Nat.zero_le _,hh,c3,c4,?_,rfl⟩⟩,?_,?_⟩,fun b' hb' => ?_⟩,fun b' hb' => .inr ⟨rfl,_,rfl,hb'⟩⟩
    ·have : n * sz' ≤ cap * sz' := Nat.mul_le_mul_right _ c3
     simp;omega
    ·simp;omega
    ·intro k hk
     unfold putEl
     split
     ·rename_i e;subst e
      have := c8.1 _ hi
      simp;omega
     ·exact c8.1 k hk
    ·intro k q d hk hq hd
     have hkq := x20 hk hq
     have hn : n * sz' ≤ cap * sz' := Nat.mul_le_mul_right _ c3
     have g1 := z20 cur.toList (r y).cells.toList (i * sz' + j) (by simp;omega) (k * sz' + q)
     simp only [Array.length_toList] at g1
     simp only []
     rw [List.getElem?_take_of_lt hkq,g1]
     unfold putEl at hd
     have lt1 := c8.1 i hi
     by_cases hki : k = i
     ·subst hki
      rw [if_pos rfl] at hd
      have g2 := z20 (f k) ys j (by omega) q
      rw [g2] at hd
      by_cases hin : j ≤ q ∧ q < j + ys.length
      ·rw [if_pos hin] at hd
       rw [if_pos (by omega)]
       have : q - j < (r y).cells.size := by omega
       refine ⟨(r y).cells[q - j],?_,(y2 (q - j) _ d (by simp [this]) hd).keep tr.keep⟩
       have e : k * sz' + q - (k * sz' + j) = q - j := by omega
       rw [e];simp [this]
      ·rw [if_neg hin] at hd
       rw [if_neg (by omega)]
       obtain ⟨u,k1,k2⟩ := c8.cell hk hq hd
       exact ⟨u,by simpa using k1,k2.keep tr.keep⟩
     ·rw [if_neg hki] at hd
      have hno : ¬ (i * sz' + j ≤ k * sz' + q ∧ k * sz' + q < i * sz' + j + (r y).cells.size) := by
       intro ⟨h1,h2⟩
       rcases Nat.lt_or_gt_of_ne hki with hlt | hgt
       ·have : (k + 1) * sz' ≤ i * sz' := Nat.mul_le_mul_right _ hlt
        rw [Nat.add_mul] at this;omega
       ·have : (i + 1) * sz' ≤ k * sz' := Nat.mul_le_mul_right _ hgt
        rw [Nat.add_mul] at this;omega
      rw [if_neg hno]
      obtain ⟨u,k1,k2⟩ := c8.cell hk hq hd
      exact ⟨u,by simpa using k1,k2.keep tr.keep⟩
    ·rw [c1] at hb'
     simp [Value.ownBlock] at hb'
     subst hb'
     exact ⟨c6,c7⟩
 ·cases hE
def effIndexAddrO (P : Program) (t : TypeId) (xs : List AV) : Option Eff :=
 match tiOf P t,xs with
 |some ti,[x,ix] => match intAV ix with
  |some (_,i) => match ti.k,x with
   | .slice _ sz _,.ow l gen sz' n => some { val := .el l gen sz' i.toNat 0,obl := (0 ≤ i ∧ i < n) ∧ sz' = sz }
   | .array n _ s _,.el l gen sz k j => some { val := .el l gen sz k (j + i.toNat * s),obl := 0 ≤ i ∧ i < n }
   | _,_ => none
  | none => none
 | _,_ => none
theorem z102 {o : Oper} {t : TypeId} {x y : Operand} (ho : o.op = .indexAddr t x y) {xs : List AV} {lL : Option (Nat × LV)} {E : Eff} (hE : effIndexAddrO P t xs = some E) (hobl : E.obl) : OpSem P o xs lL E := by
 unfold effIndexAddrO at hE
 split at hE
 ·rename_i ti zx zi hti
  split at hE
  ·rename_i k i hi
   split at hE
   ·rename_i e sz by_ l gen sz' n hk
    cases hE
    obtain ⟨⟨i0,i1⟩,rfl⟩ := hobl
    refine z12 fun B w h r hr hL => ?_
    simp only [ho,Op.operands] at hr
    obtain ⟨r1,⟨a,c,hv,ha⟩,r3⟩ := hr.2 0 (r x) _ rfl rfl
    have h1 := q22 hi (hr.2 1 (r y) _ rfl rfl)
    obtain ⟨b,rfl⟩ := ha (by omega)
    refine ⟨_,z22 ho r w hv h1 (z40 hti hk i0 i1),r1,b,by simp,fun he => ?_⟩
    rw [← r3 he,hv];rfl
   ·rename_i n e s ag l gen sz q j hk
    cases hE
    obtain ⟨i0,i1⟩ := hobl
    refine z12 fun B w h r hr hL => ?_
    simp only [ho,Op.operands] at hr
    obtain ⟨r1,b,r2,r3⟩ := hr.2 0 (r x) _ rfl rfl
    have h1 := q22 hi (hr.2 1 (r y) _ rfl rfl)
    exact ⟨_,z22 ho r w r2 h1 (j30 hti hk i0 i1),r1,b,by rw [Nat.add_assoc],r3⟩
   ·cases hE
  ·cases hE
 ·cases hE
def effFieldAddrO (P : Program) (t : TypeId) (n : Nat) (xs : List AV) : Option Eff :=
 match tiOf P t with
 |some ti => match ti.k with
  | .struct fs => match fs[n]?,xs with
   | some (off,sz,_),[.el l gen s i j] => some { val := .el l gen s i (j + off),obl := sz ≠ 0 }
   | _,_ => none
  | _ => none
 | none => none
theorem x102 {o : Oper} {t : TypeId} {x : Operand} {n : Nat} (ho : o.op = .fieldAddr t x n) {xs : List AV} {lL : Option (Nat × LV)} {E : Eff} (hE : effFieldAddrO P t n xs = some E) (hobl : E.obl) : OpSem P o xs lL E := by
 unfold effFieldAddrO at hE
 split at hE
 ·rename_i ti hti
  split at hE
  ·rename_i fs hk
   split at hE
   ·rename_i off sz ag l gen s i j hn
    cases hE
    refine z12 fun B w h r hr hL => ?_
    simp only [ho,Op.operands] at hr
    obtain ⟨r1,b,r2,r3⟩ := hr.2 0 (r x) _ rfl rfl
    exact ⟨.pointer (some ⟨b,i * s + j + off,none⟩),by simp [execOp,ho,r2,q40 hti hk hn hobl],r1,b,by rw [Nat.add_assoc],r3⟩
   ·cases hE
  ·cases hE
 ·cases hE
theorem x66 {o : Oper} {xs : List AV} {lL : Option (Nat × LV)} {l sz n : Nat} {e : TypeId} {f : Nat → List Dat} {obl : Prop}
  (H : ∀ (w : World) (h : Gh) (r : Operand → Value),GZ w h.g → RelAs w h (o.op.operands.toList.map r) xs → ∃ arr : Array Value,(execOp r o).run P w = .ok (.value (.slice (some ⟨w.heap.size,0,none⟩) n n)) (w.alloc (.cells arr e)) ∧ n ≤ maxLen ∧ arr.size = n * sz ∧
   RowIs (w.alloc (.cells arr e)) h.g sz n arr.toList f) :
  OpSem P o xs lL ⟨.ow l 0 sz n,obl,some (l,.own e sz n 0 f),true⟩ := by
 intro B w h r hB hz hr hL
 obtain ⟨arr,h1,h2,h3,h4⟩ := H w h r hz hr
 let v : Value := .slice (some ⟨w.heap.size,0,none⟩) n n
 let h' : Gh := { h with κ := fun k => if k = l then v else h.κ k,μ := fun k => if k = l then 0 else h.μ k }
 have nl : h'.κ l = v := by simp [h']
 refine ⟨_,v,_,h',h1,.inl rfl,⟨by simp [h'],⟨_,_,rfl,fun _ => ⟨_,rfl⟩⟩,fun _ => nl.symm⟩,?_,fun l' L' hl => ?_⟩
 ·have : ownOf h lL ⟨.ow l 0 sz n,obl,some (l,.own e sz n 0 f),true⟩ = (fun _ => False) := rfl
  rw [this]
  have t := q31 hB hz (.cells arr e) l
  refine ⟨t.below,t.blocks,t.keep,t.gz,t.gB,fun _ _ => rfl,fun k hk => ?_,fun _ _ hf => by cases hf⟩
  have : k ≠ l := fun e => hk (by rw [e];rfl)
  simp [h',this]
 ·cases hl
  refine ⟨⟨by simp [h'],⟨arr.toList,?_,h4⟩,fun b hb => ?_⟩,fun b hb => .inl ?_⟩
  ·rw [nl]
   exact ⟨by simp [h3],.inr ⟨w.heap.size,n,arr,rfl,Nat.zero_le _,_root_.Go.heap_alloc_new w _,Nat.le_refl _,h2,h3,by rw [← h3,← Array.length_toList,List.take_length]⟩⟩
  ·rw [nl] at hb
   simp only [v,Value.ownBlock,Option.some.injEq] at hb
   subst hb
   exact ⟨hz _ (Nat.le_refl _),hB _ (Nat.le_refl _)⟩
  ·simp only [inB,nl,v,Value.ownBlock,Option.some.injEq] at hb
   omega
def effMakeO (P : Program) (t : TypeId) (dst : Option Tmp) (xs : List AV) : Option Eff :=
 match tiOf P t,dst,xs with
 |some ti,some d,[.p (.d (.v (.int _ n))),.p (.d (.v (.int _ c)))] => match ti.k with
  | .slice e sz by_ => match tiOf P e with
   | some te => some { val := .ow d 0 sz n.toNat,obl := (0 ≤ n ∧ c = n ∧ by_ * n.toNat ≤ 140737488355328 ∧ n ≤ 140737488355328) ∧ te.zero.length = sz ∧ (te.zero.all (·.oneCell')) = true,upd := some (d,.own e sz n.toNat 0 fun _ => te.zero.map Dat.v),fresh := true }
   | none => none
  | _ => none
 | _,_,_ => none
theorem j102 {o : Oper} {t : TypeId} {x y : Operand} (ho : o.op = .makeSlice t x y) {xs : List AV} {lL : Option (Nat × LV)} {E : Eff} (hE : effMakeO P t o.dst xs = some E) (hobl : E.obl) : OpSem P o xs lL E := by
 unfold effMakeO at hE
 split at hE
 ·rename_i ti d k n k' c hti hd
  split at hE
  ·rename_i e sz by_ hk
   split at hE
   ·rename_i te hte
    cases hE
    obtain ⟨⟨n0,rfl,n1,n2⟩,hz0,hz1⟩ := hobl
    refine x66 fun w h r hz hr => ?_
    simp only [ho,Op.operands] at hr
    have h0 := q13 (hr.2 0 (r x) _ rfl rfl)
    have h1 := q13 (hr.2 1 (r y) _ rfl rfl)
    obtain ⟨_,dd,_,_,hdd,_,hkk,_,_⟩ := j12 hti
    rw [hk] at hkk
    obtain ⟨rfl,ie,hie,hs,hb⟩ := z16 hkk
    obtain ⟨ie',_,z',hie',_,hzz,_,hsz,hzc⟩ := j12 hte
    rw [hie] at hie';cases hie'
    have hbb : (ie.bytes : Int) * ((c.toNat : Nat) : Int) ≤ 281474976710656 := by
     have : ((ie.bytes * c.toNat : Nat) : Int) ≤ 281474976710656 := by rw [hb];omega
     rwa [Int.natCast_mul] at this
    have hrun := run_make (P := P) w t e ie z' hdd hie hzz k k' c.toNat c.toNat (by omega) (Int.le_refl _) hbb (by omega)
    simp only [hs] at hrun
    rw [Int.toNat_of_nonneg n0] at hrun
    have hzl : z'.cells.size = sz := by rw [← hz0,hzc];simp
    refine ⟨madeCells z'.cells (c.toNat * sz),by simp [execOp,ho,h0,h1,hrun],by unfold maxLen;omega,size_madeCells _ _,fun i hi => by simp [hz0],fun i j d hi hj hd => ?_⟩
    have hlt := x20 hi hj
    have hm : (i * sz + j) % z'.cells.size = j := by rw [hzl,Nat.mul_comm,Nat.mul_add_mod,Nat.mod_eq_of_lt hj]
    have hjz : j < z'.cells.size := by omega
    refine ⟨z'.cells[j],by simp [madeCells,hlt,hm,hjz],?_⟩
    simp only [List.getElem?_map,hzc] at hd
    rw [Array.getElem?_toList,Array.getElem?_eq_getElem hjz] at hd
    simp at hd
    subst hd
    refine .v _ (List.all_eq_true.1 hz1 _ ?_)
    rw [hzc];simp
   ·cases hE
  ·cases hE
 ·cases hE
theorem j66 (w : World) (t e : TypeId) (ie : TypeInfo) (hu : P.underlying t = some (.slice e)) (hie : P.info? e = some ie) :
  (Instr.buildSlice t 0 #[]).run P w = .ok (.slice (some ⟨w.heap.size,0,none⟩) 0 0) (w.alloc (.cells #[] e)) := by
 simp [Instr.buildSlice,run_underlying hu,sizeOf,typeInfo,hie,newRow,Instr.fill]
 rw [show Array.range 0 = #[] from by simp];simp
def effBuildSlice0O (P : Program) (t : TypeId) (dst : Option Tmp) (is : List Nat) : Option Eff :=
 match tiOf P t,dst with
 |some ti,some d => match ti.k with
  | .slice e sz _ => match tiOf P e with
   | some te => some { val := .ow d 0 sz 0,obl := is = [],upd := some (d,.own e sz 0 0 fun _ => []),fresh := true }
   | none => none
  | _ => none
 | _,_ => none
theorem q103 {o : Oper} {t : TypeId} {parts : Array (Nat × Operand)} (ho : o.op = .buildSlice t 0 parts) {xs : List AV} {lL : Option (Nat × LV)} {E : Eff} (hE : effBuildSlice0O P t o.dst (parts.toList.map (·.1)) = some E) (hobl : E.obl) : OpSem P o xs lL E := by
 unfold effBuildSlice0O at hE
 split at hE
 ·rename_i ti d hti hd
  split at hE
  ·rename_i e sz by_ hk
   split at hE
   ·rename_i te hte
    cases hE
    obtain ⟨_,dd,_,_,hdd,_,hkk,_,_⟩ := j12 hti
    rw [hk] at hkk
    obtain ⟨rfl,ie,hie,hs,hb⟩ := z16 hkk
    have hp : parts = #[] := by
     have : parts.toList.map (·.1) = [] := hobl
     apply Array.ext';simpa using this
    refine x66 fun w h r hz hr => ⟨#[],?_,by unfold maxLen;omega,by simp,fun i hi => by omega,fun i j d hi => by omega⟩
    have := j66 (P := P) w t e ie hdd hie
    subst hp
    simp [execOp,ho,this]
   ·cases hE
  ·cases hE
 ·cases hE
def effAppendO (P : Program) (ts : List TypeId) (xs : List AV) (lL : Option (Nat × LV)) : Option Eff :=
 match ts,xs,lL with
 | [t,t'],[.ow l gen sz n,x],some (l',.own e sz' n' gen' f) =>
  match tiOf P t,srcAV x with
  |some ti,some (szx,m,f') => match ti.k with
   | .slice _ szt by_ => some { val := .ow l (gen + 1) sz (n + m),obl := (l' = l ∧ ti.k = .slice e szt by_ ∧ t' = t ∧ szt = sz ∧ sz' = sz ∧ szx = sz ∧ n' = n ∧ gen' = gen ∧ 0 < sz) ∧ (n + m) * by_ ≤ 140737488355328 ∧ n + m ≤ 140737488355328 ∧ (match tiOf P e with | some te => te.zero.length = sz | none => False),upd := some (l,.own e sz (n + m) (gen + 1) (catF n f f')) }
   | _ => none
  | _,_ => none
 | _,_,_ => none
theorem q67 {w w' : World} {g g' : Nat → Nat} (k : Keep w g w' g') {sz n m : Nat} {f f' : Nat → List Dat} {news : List Value} {tx : TypeId} {x : Value} {olds : List Value}
  (hol : olds.length = n * sz) (hr : RowIs w g sz n olds f) (hgiv : Giv P w g sz tx x m f' news) : RowIs w' g' sz (n + m) (olds ++ news) (catF n f f') := by
 have hnl := hgiv.src.newsLen
 refine ⟨fun i hi => ?_,fun i j d hi hj hd => ?_⟩
 ·unfold catF
  split
  ·exact hr.1 i ‹_›
  ·exact hgiv.len _ (by omega)
 ·by_cases hin : i < n
  ·simp only [catF,if_pos hin] at hd
   obtain ⟨u,hu,hr⟩ := hr.2 i j d hin hj hd
   have hlt := x20 hin hj
   exact ⟨u,by rw [List.getElem?_append_left (by omega)];exact hu,hr.keep k⟩
  ·simp only [catF,if_neg hin] at hd
   obtain ⟨u,hu,hr⟩ := hgiv.rel (i - n) j d (by omega) hj hd
   have e1 : (i - n) * sz = i * sz - n * sz := Nat.sub_mul _ _ _
   have e2 : n * sz ≤ i * sz := Nat.mul_le_mul_right _ (by omega)
   refine ⟨u,?_,hr.keep k⟩
   rw [List.getElem?_append_right (by omega),hol,← hu];congr 1;omega
def AppGoalO (P : Program) (o : Oper) (B : Nat → Prop) (w : World) (h : Gh) (r : Operand → Value) (l : Nat) (e : TypeId) (sz n m gen : Nat) (f f' : Nat → List Dat) : Prop :=
 ∃ nx v w' h',(execOp r o).run P w = .ok nx w' ∧ (nx = .value v ∨ (nx = .skip ∧ v = undef)) ∧ RelA w' h' v (.ow l (gen + 1) sz (n + m)) ∧
  Trans B w h w' h' (inB h l (.own e sz n gen f)) (some l) false ∧
  (LocOK B w' h' l (.own e sz (n + m) (gen + 1) (catF n f f')) ∧ ∀ b,inB h' l (.own e sz (n + m) (gen + 1) (catF n f f')) b → w.heap.size ≤ b ∨ (false = false ∧ ∃ L,some (l,LV.own e sz n gen f) = some (l,L) ∧ inB h l L b))
theorem z103 {o : Oper} {c : Call} (ho : o.op = .call c) {s y : Operand} {t t' : TypeId} (hc : c = { callee := .builtin .append,args := #[s,y],argTypes := #[t,t'] })
  {xs : List AV} {lL : Option (Nat × LV)} {E : Eff} (hE : effAppendO P [t,t'] xs lL = some E) (hobl : E.obl) : OpSem P o xs lL E := by
 unfold effAppendO at hE
 split at hE
 ·rename_i ts0 xs0 lL0 t1 t1' l gen sz n x l' e sz' n' gen' f heq
  cases heq
  split at hE
  ·rename_i ti szx m f' hti hsrc
   split at hE
   ·rename_i e1 szt by_ hk
    cases hE
    obtain ⟨⟨rfl,hke,rfl,rfl,rfl,rfl,rfl,rfl,hpos⟩,hby,h63,hte⟩ := hobl
    obtain ⟨it,d,z,hit,hd,hz,hkk,hs,hzz⟩ := j12 hti
    rw [hk] at hke
    cases hke
    rw [hk] at hkk
    obtain ⟨rfl,ie,hie,hsz,hbb⟩ := z16 hkk
    obtain ⟨te,hte,htez⟩ : ∃ te,tiOf P e = some te ∧ te.zero.length = szx := by
     split at hte
     ·rename_i te h1;exact ⟨te,h1,hte⟩
     ·exact hte.elim
    obtain ⟨ie',de,ze,hie',hde,hze,_,hse,hzze⟩ := j12 hte
    rw [hie] at hie';cases hie'
    intro B w h r hB hz0 hr hL
    rw [ho,hc] at hr
    simp only [Op.operands,Call.operands] at hr
    have r0 : RelA w h (r s) (.ow l' gen' szx n') := hr.2 0 (r s) _ rfl rfl
    have r1 : RelA w h (r y) x := hr.2 1 (r y) _ rfl rfl
    obtain ⟨hμ,⟨olds,hown,hri⟩,hgO⟩ := hL _ _ rfl
    obtain ⟨q1,q2,q3⟩ := r0
    have hv := q3 hμ
    obtain ⟨news,hgiv⟩ := x52 (P := P) (tx := t') hd (j52 hsrc r1)
    have hnl := hgiv.src.newsLen
    have hol := hown.1
    have hgiv' : Src P ie.size t' (r y) m news w := by rw [hsz];exact hgiv.src
    suffices H : AppGoalO P o B w h r l' e szx n' m gen' f f' by
     obtain ⟨nx,v,w',h',a1,a2,a3,a4,a5⟩ := H
     exact ⟨nx,v,w',h',a1,a2,a3,a4,fun l L' hl => by cases hl;exact a5⟩
    have key : ∀ (b cap : Nat) (w' : World) (cur' : Array Value),(Builtin.append_ #[t',t'] o.type #[r s,r y]).run P w = .ok (.slice (some ⟨b,0,none⟩) (n' + m) cap) w' →
      w'.heap[b]? = some (.cells cur' e (0,0)) → B b → h.g b = 0 → n' + m ≤ cap → cap ≤ maxLen → cur'.size = cap * szx → cur'.toList.take ((n' + m) * szx) = olds ++ news →
      BelowS B w w' → (∀ k,k < w.heap.size → k ≠ b → w'.heap[k]? = w.heap[k]?) →
      (b < w.heap.size → (h.κ l').ownBlock = some b) → b < w'.heap.size →
      AppGoalO P o B w h r l' e szx n' m gen' f f' := by
     intro b cap w' cur' hrun hheap hBb hg0 hcap hml hcs htake hbel hoth hbo hblt
     have hkeep : Keep w h.g w' h.g := by
      refine ⟨fun k => Nat.le_refl _,fun k q hq => ?_⟩
      have hk : k < w.heap.size := by
       by_cases hk : k < w.heap.size
       ·exact hk
       ·rw [hz0 k (by omega)] at hq;omega
      by_cases hkb : k = b
      ·subst hkb;omega
      ·exact World.cell?_of_block (w := w) (a := ⟨k,q,none⟩) (hoth k hk hkb)
     refine ⟨_,_,w',{ h with κ := fun x => if x = l' then .slice (some ⟨b,0,none⟩) (n' + m) cap else h.κ x,μ := fun x => if x = l' then gen' + 1 else h.μ x },z36 ho hc r w w' hrun,.inl rfl,?_,?_,?_,?_⟩
     ·exact ⟨by simp,⟨_,_,rfl,fun _ => ⟨_,rfl⟩⟩,fun _ => by simp⟩
     ·refine ⟨hbel,fun k hk hne => ?_,hkeep,fun k hk => hz0 k (by have := hbel.size;omega),fun k hk => rfl,fun _ _ => rfl,fun l hl => ?_,fun l hl _ => .inl ?_⟩
      ·have hkb : k ≠ b := by
        intro e;subst e
        exact hne (by simpa [inB] using hbo hk)
       exact ⟨hoth k hk hkb,rfl⟩
      ·have : l ≠ l' := fun e => hl (by rw [e])
       simp [this]
      ·cases hl;simp [hμ]
     ·refine ⟨by simp,⟨olds ++ news,⟨by simp [hol,hnl,Nat.add_mul],.inr ⟨b,cap,cur',by simp,Nat.zero_le _,hheap,hcap,hml,hcs,htake⟩⟩,q67 hkeep hol hri hgiv⟩,fun b' hb' => ?_⟩
      simp [Value.ownBlock] at hb'
      subst hb'
      exact ⟨hg0,hBb⟩
     ·intro b' hb'
      simp [inB,Value.ownBlock] at hb'
      subst hb'
      by_cases hlt : b < w.heap.size
      ·exact .inr ⟨rfl,_,rfl,by simpa [inB] using hbo hlt⟩
      ·exact .inl (by omega)
    have hrange : ∀ {k : Nat},k ≤ 140737488355328 → ((k : Nat) : Int) ≤ 9223372036854775807 := by intro k hk;omega
    have grow : ∀ (base : Option Addr) (cap : Nat),h.κ l' = .slice base n' cap → (Builtin.firstCells ie.size n' (.slice base n' cap)).run P w.drew = .ok olds.toArray w.drew → cap < n' + m →
      AppGoalO P o B w h r l' e szx n' m gen' f f' := by
     intro base cap hκ hold hcap
     have hrun := run_append_grow_src (P := P) w t' t' o.type e ie ze hd hie hze base n' cap olds hold (r y) m news hgiv' hcap (hrange h63) (growslice_fits (by omega) (by rw [hbb];exact hby))
     have hge := grownCap_ge w (n' + m) cap e
     have hcm := grownCap_le_maxLen w (n' + m) cap e (by unfold maxLen;omega)
     have hzs : ze.cells.size = szx := by rw [← htez,hzze];simp
     have hnew : (w.drew.alloc (.cells ((olds ++ news).toArray ++ Builtin.zeroCells ze.cells (grownCap w (n' + m) cap e - (n' + m))) e)).heap[w.heap.size]? = some (.cells ((olds ++ news).toArray ++ Builtin.zeroCells ze.cells (grownCap w (n' + m) cap e - (n' + m))) e (0,0)) := _root_.Go.heap_alloc_new w.drew _
     refine key w.heap.size _ _ _ (by rw [hv,hκ];exact hrun) hnew (hB _ (Nat.le_refl _)) (hz0 _ (Nat.le_refl _)) hge hcm ?_ ?_ (((BelowS.refl B w).drew).alloc _) (fun k hk _ => Below.heap_alloc w.drew _ k hk) (fun hlt => by omega) (by simp)
     ·simp only [Array.size_append,List.size_toArray,List.length_append,size_zeroCells,hzs,hol,hnl,← Nat.add_mul]
      congr 1;omega
     ·simp only [Array.toList_append]
      have : (n' + m) * szx = (olds ++ news).length := by simp [hol,hnl,Nat.add_mul]
      rw [this];exact List.take_left
    rcases hown.2 with ⟨hnil,hn0⟩ | ⟨g0,cap,cur,hκ,hBg,hheap,hnc,hcm,hcs,htake⟩
    ·subst hn0
     have ho0 : olds = [] := by simpa using hol
     subst ho0
     by_cases hm : m = 0
     ·subst hm
      have hrun : (Builtin.append_ #[t',t'] o.type #[r s,r y]).run P w = .ok (.slice none 0 0) w := by
       rw [hv,hnil]
       simp [Builtin.append_,run_underlying hd,sizeOf,typeInfo,hie,hgiv'.len,hgiv'.cells]
      refine ⟨_,_,w,{ h with μ := fun x => if x = l' then gen' + 1 else h.μ x },z36 ho hc r w w hrun,.inl rfl,⟨by simp,⟨_,_,rfl,fun hh => by omega⟩,fun _ => hnil.symm⟩,?_,⟨by simp,⟨[],by simpa using hnil ▸ World.ownsRow_nil w 0 e szx,fun i hi => by omega,fun i j d hi => by omega⟩,fun b hb => ?_⟩,fun b hb => ?_⟩
      ·refine ⟨BelowS.refl _ _,fun _ _ _ => ⟨rfl,rfl⟩,Keep.refl _ _,hz0,fun _ _ => rfl,fun _ _ => rfl,fun l hl => ?_,fun l hl _ => .inl ?_⟩
       ·have : l ≠ l' := fun e => hl (by rw [e])
        simp [this]
       ·cases hl;simp [hμ]
      ·simp [hnil,Value.ownBlock] at hb
      ·simp [inB,hnil,Value.ownBlock] at hb
     ·exact grow none 0 hnil (by simp [Builtin.firstCells]) (by omega)
    ·obtain ⟨hg0,hB0⟩ := hgO g0 (by rw [hκ];rfl)
     by_cases hroom : n' + m ≤ cap
     ·have hfit : n' * szx + news.length ≤ cur.size := by rw [hnl,hcs,← Nat.add_mul];exact Nat.mul_le_mul_right _ hroom
      have hrun := z52 (P := P) w t' t' o.type e ie hd hie g0 n' cap cur e (r y) m news hgiv' hroom hheap (by rw [hsz];exact hfit)
      rw [hsz] at hrun
      have hlt0 : g0 < w.heap.size := (Array.getElem?_eq_some_iff.1 hheap).1
      refine key g0 cap _ _ (by rw [hv,hκ];exact hrun) (setRow_heap w g0 cur _ e _ hheap) hB0 hg0 hroom hcm ?_ ?_ ⟨rfl,rfl,rfl,by simp,fun k _ hk => setRow_other w g0 k _ (fun e => hk (e ▸ hB0))⟩ (fun k _ hk => setRow_other w g0 k _ hk) (fun _ => by rw [hκ];rfl) (by simpa using hlt0)
      ·simp only [List.size_toArray,List.length_append,List.length_take,List.length_drop,Array.length_toList]
       omega
      ·have : (n' + m) * szx = (olds ++ news).length := by simp [hol,hnl,Nat.add_mul]
       simp only [htake]
       rw [this]
       exact List.take_left
     ·have hfc : (Builtin.firstCells ie.size n' (.slice (some ⟨g0,0,none⟩) n' cap)).run P w.drew = .ok olds.toArray w.drew := by
       refine run_firstCells_some (P := P) w.drew ie.size n' _ n' cap olds (by rw [hsz];exact hol) (fun j u hu => ?_)
       rw [j15,Nat.zero_add]
       have : w.drew.cell? ⟨g0,j,none⟩ = w.cell? ⟨g0,j,none⟩ := rfl
       rw [this,z15 hheap]
       rw [← htake] at hu
       have hlt : j < n' * szx := by have := (List.getElem?_eq_some_iff.1 hu).1;simp at this;omega
       rw [List.getElem?_take_of_lt hlt] at hu
       simpa using hu
      exact grow _ cap hκ hfc (by omega)
   ·cases hE
  ·cases hE
 ·cases hE
def cvAV : AV → Option CV
 | .p x => some (.p x)
 | .gr _ _ sz n f => some (.p (.d (.sl sz n f)))
 | .loc l off => some (.loc l off)
 | .ow l gen sz n => some (.ow l gen sz n)
 | .mp l => some (.mp l)
 | .ag [.loc l off] => some (.a1 l off)
 | _ => none
theorem x103 {w : World} {h : Gh} {x : AV} {c : CV} (hx : cvAV x = some c) {v : Value} (r : RelA w h v x) : RelCV w h v c := by
 unfold cvAV at hx
 split at hx
 ·cases hx;exact r
 ·cases hx;exact .d _ _ r.1
 ·cases hx;exact r
 ·cases hx;exact r
 ·cases hx;exact r
 ·cases hx;exact (q41 (.a1 _ _)).2 r
 ·cases hx
theorem z67 {w : World} {h : Gh} : ∀ {xs : List AV} {ys : List CV} {us : List Value},xs.mapM cvAV = some ys → RelAs w h us xs → RelCs w h us ys
 | [],ys,us,hm,r => by
  simp at hm
  subst hm
  have : us = [] := List.eq_nil_of_length_eq_zero (by simpa using r.1)
  subst this
  exact ⟨rfl,fun j v c hv => by simp at hv⟩
 |x :: xs,ys,us,hm,r => by
  simp only [List.mapM_cons] at hm
  cases hx : cvAV x with
  | none => simp [hx] at hm
  |some y =>
   cases hxs : xs.mapM cvAV with
   | none => simp [hx,hxs] at hm
   |some ys' =>
    simp [hx,hxs] at hm
    subst hm
    cases us with
    | nil => simp [RelAs] at r
    |cons u us =>
     have ih := z67 hxs ⟨by simpa using r.1,fun j v z hv hz => r.2 (j + 1) v z (by simpa using hv) (by simpa using hz)⟩
     refine ⟨by simp [ih.1],fun j v c hv hc => ?_⟩
     cases j with
     | zero => simp at hv hc;subst hv;subst hc;exact x103 hx (r.2 0 _ x rfl rfl)
     | succ j => exact ih.2 j v c (by simpa using hv) (by simpa using hc)
def effFuncO (fn : Fn) (n : Nat) (xs : List AV) : Option Eff :=
 (xs.mapM cvAV).map fun ys => { val := .cl fn (ys.take n) (ys.drop n) }
theorem j103 {o : Oper} {fn : Fn} {first caps : Array Operand} (ho : o.op = .makeFunc fn first caps) {xs : List AV} {lL : Option (Nat × LV)} {E : Eff} (hE : effFuncO fn first.size xs = some E) : OpSem P o xs lL E := by
 unfold effFuncO at hE
 cases hm : xs.mapM cvAV with
 | none => simp [hm] at hE
 |some ys =>
  simp [hm] at hE;subst hE
  refine z12 fun B w h r hr hL => ?_
  have hops : o.op.operands.toList.map r = (first.toList.map r) ++ (caps.toList.map r) := by simp [ho,Op.operands]
  rw [hops] at hr
  have hp := z67 hm hr
  have hlen : first.size ≤ ys.length := by have := hp.1;simp at this;omega
  refine ⟨.func fn (first.toList.map r).toArray (caps.toList.map r).toArray,?_,_,_,rfl,⟨by simp;omega,fun j v x hv hx => ?_⟩,⟨by have := hp.1;simp at this ⊢;omega,fun j v x hv hx => ?_⟩⟩
  ·have e1 : (first.toList.map r).toArray = first.map r := by apply Array.ext';simp
   have e2 : (caps.toList.map r).toArray = caps.map r := by apply Array.ext';simp
   rw [e1,e2]
   simp only [execOp,ho];simp [Instr.makeFunc]
  ·have hj : j < first.size := by have := (List.getElem?_eq_some_iff.1 hv).1;simpa using this
   rw [List.getElem?_take_of_lt hj] at hx
   exact hp.2 j v x (by rw [List.getElem?_append_left (by simpa using hj)];exact hv) hx
  ·rw [List.getElem?_drop] at hx
   exact hp.2 _ v x (by rw [List.getElem?_append_right (by simp)];simpa using hv) hx
end Go.Proofs.Ytjfammnjpeeahaa.AL
namespace Go.Proofs.Ytjfammnjpeeahaa.AL
open Go.RowKit
variable {P : Program}
def exX : List AV → Bool
 | .ex .. :: _ => true
 | .p (.d (.v (.pointer (some _)))) :: _ => true
 | .p (.d (.v (.slice (some _) _ _))) :: _ => true
 | _ => false
def setM (M : Nat → Option Ent) (b : Nat) (E : Option Ent) : Nat → Option Ent := fun k => if k = b then E else M k
theorem x21 (M : Nat → Option Ent) (b : Nat) (E : Option Ent) : setM M b E b = E := by simp [setM]
theorem j36 (M : Nat → Option Ent) {b c : Nat} (E : Option Ent) (h : c ≠ b) : setM M b E c = M c := by simp [setM,h]
def exAt (ti : TI) : AV → Option (Nat × Nat × Nat × Nat)
 | .ex b sz i j => some (b,sz,i,j)
 | .p (.d (.v (.pointer (some ⟨b,0,none⟩)))) => some (b,ti.size,0,0)
 | _ => none
theorem q53 {ti : TI} {x : AV} {b sz i j : Nat} (hx : exAt ti x = some (b,sz,i,j)) {w : World} {h : Gh} {v : Value} (r : RelA w h v x) : v = .pointer (some ⟨b,i * sz + j,none⟩) := by
 unfold exAt at hx
 split at hx
 ·cases hx;exact r
 ·cases hx;simpa using q13 r
 ·cases hx
def effLoadX (P : Program) (t : TypeId) (xs : List AV) (lL : Option (Nat × LV)) : Option Eff :=
 match tiOf P t,xs,lL with
 |some ti,[x],some (_,.raw M) =>
  match exAt ti x with
  |some (b,sz,i,j) => match M b with
   |some E => bif ti.k.agg then some { val := .p (.agg (((E.f i).drop j).take ti.size)),obl := E.sz = sz ∧ i < E.n ∧ j + ti.size ≤ sz }
    else ((E.f i)[j]?).map fun d => { val := .p (.d d),obl := E.sz = sz ∧ i < E.n }
   | none => none
  | none => none
 | _,_,_ => none
theorem q104 {o : Oper} {t : TypeId} {x : Operand} (ho : o.op = .load t x) {xs : List AV} {lL : Option (Nat × LV)} {E : Eff} (hE : effLoadX P t xs lL = some E) (hobl : E.obl) : OpSem P o xs lL E := by
 unfold effLoadX at hE
 split at hE
 ·rename_i ti y l M hti
  split at hE
  ·rename_i b sz i j hex
   split at hE
   ·rename_i N hM
    have blk : ∀ (B : Nat → Prop) (w : World) (h : Gh) (r : Operand → Value),RelAs w h (o.op.operands.toList.map r) [y] → LocOK B w h l (.raw M) → N.sz = sz →
      ∃ cur,r x = .pointer (some ⟨b,i * sz + j,none⟩) ∧ w.heap[b]? = some (.cells cur N.e (0,0)) ∧ RowIs w h.g sz N.n (cur.toList.take (N.n * sz)) N.f ∧ N.n ≤ N.cap ∧ cur.size = N.cap * sz := by
     intro B w h r hr hL hsz
     subst hsz
     simp only [ho,Op.operands] at hr
     obtain ⟨q1,⟨cur,q2,q3,q4,q5,q6⟩,q7⟩ := hL b N hM
     exact ⟨cur,q53 hex (hr.2 0 (r x) _ rfl rfl),q2,q6,q4,q3⟩
    cases ha : ti.k.agg with
    |true =>
     rw [ha] at hE
     simp only [cond_true] at hE
     cases hE
     obtain ⟨rfl,hi,hj⟩ := hobl
     refine z12 fun B w h r hr hL => ?_
     obtain ⟨cur,h1,h2,h3,h4,h5⟩ := blk B w h r hr (hL _ _ rfl) rfl
     have hcs : i * N.sz + N.sz ≤ cur.size := by
      have : (i + 1) * N.sz ≤ N.cap * N.sz := Nat.mul_le_mul_right _ (by omega)
      rw [Nat.add_mul] at this;omega
     have hv : (Instr.loadAt t (.pointer (some ⟨b,i * N.sz + j,none⟩))).run P w = .ok (.agg ((cur.toList.drop (i * N.sz + j)).take ti.size).toArray) w := by
      refine x30 hti ha (by simp;omega) fun k v hk => ?_
      have hlt : k < ti.size := by have := (List.getElem?_eq_some_iff.1 hk).1;simp at this;omega
      rw [List.getElem?_take_of_lt hlt,List.getElem?_drop] at hk
      rw [z15 h2];simpa [Nat.add_assoc] using hk
     refine ⟨_,q19 ho r w h1 hv,?_⟩
     refine .agg _ _ ?_ fun k v d hk hd => ?_
     ·have := h3.1 i hi;simp;omega
     ·have hlt : k < ti.size := by have := (List.getElem?_eq_some_iff.1 hk).1;simp at this;omega
      rw [List.getElem?_take_of_lt hlt,List.getElem?_drop] at hk hd
      obtain ⟨u,k1,k2⟩ := h3.cell hi (by omega) hd
      have : cur[i * N.sz + (j + k)]? = some v := by simpa [Nat.add_assoc] using hk
      rw [k1] at this;cases this;exact k2
    |false =>
     rw [ha] at hE
     simp only [cond_false] at hE
     cases hd : (N.f i)[j]? with
     | none => rw [hd] at hE;cases hE
     |some d =>
      rw [hd] at hE
      cases hE
      obtain ⟨rfl,hi⟩ := hobl
      refine z12 fun B w h r hr hL => ?_
      obtain ⟨cur,h1,h2,h3,h4,h5⟩ := blk B w h r hr (hL _ _ rfl) rfl
      have hj : j < N.sz := by have := (List.getElem?_eq_some_iff.1 hd).1;rw [h3.1 i hi] at this;exact this
      obtain ⟨u,k1,k2⟩ := h3.cell hi hj hd
      exact ⟨u,q19 ho r w h1 (j26 hti ha (by rw [z15 h2];exact k1)),.d _ _ k2⟩
   ·cases hE
  ·cases hE
 ·cases hE
def effStoreX (P : Program) (t : TypeId) (xs : List AV) (lL : Option (Nat × LV)) : Option Eff :=
 match tiOf P t,xs,lL with
 |some ti,[x,z],some (l,.raw M) =>
  match exAt ti x with
  |some (b,sz,i,j) => match M b with
   | some E => (datsAV z).map fun ys => { val := .top,obl := E.sz = sz ∧ i < E.n ∧ j + ti.size ≤ sz ∧ ys.length = ti.size,upd := some (l,.raw (setM M b (some { E with f := putEl E.f i j ys }))) }
   | none => none
  | none => none
 | _,_,_ => none
theorem z104 {o : Oper} {t : TypeId} {x y : Operand} (ho : o.op = .store t x y) {xs : List AV} {lL : Option (Nat × LV)} {E : Eff} (hE : effStoreX P t xs lL = some E) (hobl : E.obl) : OpSem P o xs lL E := by
 unfold effStoreX at hE
 split at hE
 ·rename_i ti px z l M hti
  split at hE
  ·rename_i b sz i j hex
   split at hE
   ·rename_i N hM
    cases hc : datsAV z with
    | none => rw [hc] at hE;cases hE
    |some ys =>
     rw [hc] at hE
     cases hE
     obtain ⟨rfl,hi,hj,hyl⟩ := hobl
     intro B w h r hB hz hr hL
     simp only [ho,Op.operands] at hr
     have hL := hL _ _ rfl
     have q2 := q53 hex (hr.2 0 (r x) _ rfl rfl)
     obtain ⟨c7,⟨cur,c2,c5,c3,c4,c8⟩,c6⟩ := hL b N hM
     obtain ⟨y1,y2,y3⟩ := j24 hc (hr.2 1 (r y) _ rfl rfl)
     have hcs : i * N.sz + N.sz ≤ cur.size := by
      have : (i + 1) * N.sz ≤ N.cap * N.sz := Nat.mul_le_mul_right _ (by omega)
      rw [Nat.add_mul] at this;omega
     have hfit : i * N.sz + j + (r y).cells.size ≤ cur.size := by omega
     have hst := x49 hti (w := w) c2 (.inl rfl) (by omega) hfit y3
     have tr : Trans B w h (w.setRow b (cur.toList.take (i * N.sz + j) ++ (r y).cells.toList ++ cur.toList.drop (i * N.sz + j + (r y).cells.size)).toArray) h (fun k => b = k) (some l) false := x35 hz c7 c6 _
     have tr2 : Trans B w h (w.setRow b (cur.toList.take (i * N.sz + j) ++ (r y).cells.toList ++ cur.toList.drop (i * N.sz + j + (r y).cells.size)).toArray) h (inB h l (.raw M)) (some l) false :=
      ⟨tr.below,fun k hk hno => tr.blocks k hk fun e => hno (by subst e;simp [inB,hM]),tr.keep,tr.gz,tr.gB,tr.ρ,tr.κ,tr.up⟩
     refine ⟨.skip,undef,_,h,j50 ho r w _ q2 hst,.inr ⟨rfl,rfl⟩,trivial,?_,fun l2 L2 hl => ?_⟩
     ·exact tr2
     ·cases hl
      have hh := setRow_heap w b cur (cur.toList.take (i * N.sz + j) ++ (r y).cells.toList ++ cur.toList.drop (i * N.sz + j + (r y).cells.size)).toArray N.e _ c2
      have hin : ∀ b',inB h l (.raw (setM M b (some { N with f := putEl N.f i j ys }))) b' → inB h l (.raw M) b' := by
       intro b' hb'
       simp only [inB,setM] at hb' ⊢
       split at hb'
       ·rename_i e;subst e;simp [hM]
       ·exact hb'
      refine ⟨fun k K hK => ?_,fun b' hb' => .inr ⟨rfl,_,rfl,hin b' hb'⟩⟩
      by_cases hkb : k = b
      ·subst hkb
       rw [x21] at hK
       cases hK
       refine ⟨c7,⟨_,hh,?_,c3,c4,?_,?_⟩,c6⟩
       ·simp;omega
       ·intro k hk
        dsimp only at hk ⊢
        unfold putEl
        split
        ·rename_i e;subst e
         have := c8.1 _ hi
         simp;omega
        ·exact c8.1 k hk
       ·intro k q d hk hq hd
        dsimp only at hk hq hd ⊢
        have hkq := x20 hk hq
        have hn : N.n * N.sz ≤ N.cap * N.sz := Nat.mul_le_mul_right _ c3
        have g1 := z20 cur.toList (r y).cells.toList (i * N.sz + j) (by simp;omega) (k * N.sz + q)
        simp only [Array.length_toList] at g1
        rw [List.getElem?_take_of_lt hkq,g1]
        unfold putEl at hd
        have lt1 := c8.1 i hi
        by_cases hki : k = i
        ·subst hki
         rw [if_pos rfl] at hd
         have g2 := z20 (N.f k) ys j (by omega) q
         rw [g2] at hd
         by_cases hin : j ≤ q ∧ q < j + ys.length
         ·rw [if_pos hin] at hd
          rw [if_pos (by omega)]
          have : q - j < (r y).cells.size := by omega
          refine ⟨(r y).cells[q - j],?_,(y2 (q - j) _ d (by simp [this]) hd).keep tr.keep⟩
          have e : k * N.sz + q - (k * N.sz + j) = q - j := by omega
          rw [e];simp [this]
         ·rw [if_neg hin] at hd
          rw [if_neg (by omega)]
          obtain ⟨u,k1,k2⟩ := c8.cell hk hq hd
          exact ⟨u,by simpa using k1,k2.keep tr.keep⟩
        ·rw [if_neg hki] at hd
         have hno : ¬ (i * N.sz + j ≤ k * N.sz + q ∧ k * N.sz + q < i * N.sz + j + (r y).cells.size) := by
          intro ⟨h1,h2⟩
          rcases Nat.lt_or_gt_of_ne hki with hlt | hgt
          ·have : (k + 1) * N.sz ≤ i * N.sz := Nat.mul_le_mul_right _ hlt
           rw [Nat.add_mul] at this;omega
          ·have : (i + 1) * N.sz ≤ k * N.sz := Nat.mul_le_mul_right _ hgt
           rw [Nat.add_mul] at this;omega
         rw [if_neg hno]
         obtain ⟨u,k1,k2⟩ := c8.cell hk hq hd
         exact ⟨u,by simpa using k1,k2.keep tr.keep⟩
      ·rw [j36 _ _ hkb] at hK
       obtain ⟨d1,d2,d3⟩ := hL k K hK
       have hlt : k < w.heap.size := by obtain ⟨_,hh,_⟩ := d2;exact (Array.getElem?_eq_some_iff.1 hh).1
       exact ⟨d1,d2.keep tr.keep (tr.blocks k hlt fun e => hkb e.symm).1,d3⟩
   ·cases hE
  ·cases hE
 ·cases hE
def effIndexAddrX (P : Program) (t : TypeId) (xs : List AV) : Option Eff :=
 match tiOf P t,xs with
 |some ti,[x,ix] => match intAV ix with
  |some (_,i) => match ti.k,x with
   | .slice _ sz _,.p (.d (.v (.slice (some ⟨b,0,none⟩) n _))) => some { val := .ex b sz i.toNat 0,obl := 0 ≤ i ∧ i < n }
   | .array n _ s _,.ex b sz k j => some { val := .ex b sz k (j + i.toNat * s),obl := 0 ≤ i ∧ i < n }
   | .array n _ s _,.p (.d (.v (.pointer (some ⟨b,0,none⟩)))) => some { val := .ex b ti.size 0 (i.toNat * s),obl := 0 ≤ i ∧ i < n }
   | _,_ => none
  | none => none
 | _,_ => none
theorem x104 {o : Oper} {t : TypeId} {x y : Operand} (ho : o.op = .indexAddr t x y) {xs : List AV} {lL : Option (Nat × LV)} {E : Eff} (hE : effIndexAddrX P t xs = some E) (hobl : E.obl) : OpSem P o xs lL E := by
 unfold effIndexAddrX at hE
 split at hE
 ·rename_i ti zx zi hti
  split at hE
  ·rename_i k i hi
   split at hE
   ·rename_i e sz by_ b n c hk
    cases hE
    obtain ⟨i0,i1⟩ := hobl
    refine z12 fun B w h r hr hL => ?_
    simp only [ho,Op.operands] at hr
    have h0 := q13 (hr.2 0 (r x) _ rfl rfl)
    have h1 := q22 hi (hr.2 1 (r y) _ rfl rfl)
    exact ⟨_,z22 ho r w h0 h1 (z40 hti hk i0 i1),by simp [RelA]⟩
   ·rename_i n e s ag b sz q j hk
    cases hE
    obtain ⟨i0,i1⟩ := hobl
    refine z12 fun B w h r hr hL => ?_
    simp only [ho,Op.operands] at hr
    have r2 : r x = _ := hr.2 0 (r x) _ rfl rfl
    have h1 := q22 hi (hr.2 1 (r y) _ rfl rfl)
    exact ⟨_,z22 ho r w r2 h1 (j30 hti hk i0 i1),by simp [RelA,Nat.add_assoc]⟩
   ·rename_i n e s ag b hk
    cases hE
    obtain ⟨i0,i1⟩ := hobl
    refine z12 fun B w h r hr hL => ?_
    simp only [ho,Op.operands] at hr
    have r2 := q13 (hr.2 0 (r x) _ rfl rfl)
    have h1 := q22 hi (hr.2 1 (r y) _ rfl rfl)
    exact ⟨_,z22 ho r w r2 h1 (j30 hti hk i0 i1),by simp [RelA]⟩
   ·cases hE
  ·cases hE
 ·cases hE
def effFieldAddrX (P : Program) (t : TypeId) (n : Nat) (xs : List AV) : Option Eff :=
 match tiOf P t with
 |some ti => match ti.k with
  | .struct fs => match fs[n]?,xs with
   |some (off,sz,_),[x] => match exAt ti x with
    | some (b,s,i,j) => some { val := .ex b s i (j + off),obl := sz ≠ 0 }
    | none => none
   | _,_ => none
  | _ => none
 | none => none
theorem j104 {o : Oper} {t : TypeId} {x : Operand} {n : Nat} (ho : o.op = .fieldAddr t x n) {xs : List AV} {lL : Option (Nat × LV)} {E : Eff} (hE : effFieldAddrX P t n xs = some E) (hobl : E.obl) : OpSem P o xs lL E := by
 unfold effFieldAddrX at hE
 split at hE
 ·rename_i ti hti
  split at hE
  ·rename_i fs hk
   split at hE
   ·rename_i off sz ag y hn
    split at hE
    ·rename_i b s i j hex
     cases hE
     refine z12 fun B w h r hr hL => ?_
     simp only [ho,Op.operands] at hr
     have r2 := q53 hex (hr.2 0 (r x) _ rfl rfl)
     exact ⟨.pointer (some ⟨b,i * s + j + off,none⟩),by simp [execOp,ho,r2,q40 hti hk hn hobl],by simp [RelA,Nat.add_assoc]⟩
    ·cases hE
   ·cases hE
  ·cases hE
 ·cases hE
end Go.Proofs.Ytjfammnjpeeahaa.AL
