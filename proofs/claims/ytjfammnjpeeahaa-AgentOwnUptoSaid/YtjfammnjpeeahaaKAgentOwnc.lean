/- Part 3 of a proof: lemmas beneath the theorem that the last text bears. Conditions: none. -/
import Derived.Test.YtjfammnjpeeahaaKAgentOwnb
import Derived.Shelf.SlIterI.Sorted
import Derived.Ground.GgzProg
import Derived.Shelf.Sort.Plain
import Derived.Shelf.Slices.CompactI
import Derived.Shelf.Slices.In.SortNone
import Derived.Shelf.Spec.SlicesGrow
set_option linter.unusedSimpArgs false
set_option linter.unusedVariables false
namespace Go.Proofs.Ytjfammnjpeeahaa.AL
open Go.RowKit
variable {P : Program}
def LocsOK (O : Nat → Prop) (w : World) (h : Gh) (L : List (Nat × LV)) : Prop :=
  (∀ l X, look L l = some X → LocOK O w h l X) ∧ ∀ l l' X X' b, l ≠ l' → look L l = some X → look L l' = some X' → inB h l X b → ¬ inB h l' X' b
def ownB (h : Gh) (L : List (Nat × LV)) (b : Nat) : Prop := ∃ l X, look L l = some X ∧ inB h l X b
def RelRA (w : World) (h : Gh) (v : Value) : List AV → Prop
  | [x] => RelA w h v x
  | xs => ∃ vs : List Value, v = .tuple vs.toArray ∧ RelAs w h vs xs
structure Chg (L L' : List (Nat × LV)) (w : World) (h : Gh) (w' : World) (h' : Gh) : Prop where
  below : BelowS (ownB h L) w w'
  gam : ∀ b, b < w.heap.size → ¬ ownB h L b → h'.g b = h.g b
  gz : GZ w' h'.g
  keep : Keep w h.g w' h'.g
  ρ : ∀ l X, look L l = some X → h'.ρ l = h.ρ l
  up : ∀ l X, look L l = some X → h.μ l < h'.μ l ∨ (h'.κ l = h.κ l ∧ h'.μ l = h.μ l)
  own : ∀ b, ownB h' L' b → w.heap.size ≤ b ∨ ownB h L b
def MCalls (P : Program) (f : FuncId) (xs : List AV) (L : List (Nat × LV)) (Q : List AV → List (Nat × LV) → Prop) : Prop :=
  ∀ (w : World) (h : Gh) (vs : List Value), GZ w h.g → RelAs w h vs xs → LocsOK (fun _ => True) w h L →
    CallRes P (fun v w' => ∃ h' rs L', Q rs L' ∧ RelRA w' h' v rs ∧ LocsOK (fun _ => True) w' h' L' ∧ Chg L L' w h w' h') ((callFunc f vs.toArray).run P w)
theorem MCalls.mono {P : Program} {f : FuncId} {xs : List AV} {L : List (Nat × LV)} {Q Q' : List AV → List (Nat × LV) → Prop} (h : MCalls P f xs L Q) (hq : ∀ rs M, Q rs M → Q' rs M) : MCalls P f xs L Q' := by
  intro w g vs hz hr hl
  have key := h w g vs hz hr hl
  unfold CallRes at *
  split at key
  · exact key.mono fun e w' ⟨v, he, h', rs, L', h1, h2⟩ => ⟨v, he, h', rs, L', hq _ _ h1, h2⟩
  · obtain ⟨h', rs, L', h1, h2⟩ := key; exact ⟨h', rs, L', hq _ _ h1, h2⟩
  · exact key.elim
theorem locOK_O {O O' : Nat → Prop} {w : World} {h : Gh} {l : Nat} {X : LV} (k : LocOK O w h l X) (hO : ∀ b, inB h l X b → O' b) : LocOK O' w h l X := by
  cases X with
  | cells e cs => obtain ⟨arr, h1, h2⟩ := k; exact ⟨arr, hO _ rfl, h2⟩
  | arr e n f => obtain ⟨arr, fz, h1, h2⟩ := k; exact ⟨arr, fz, hO _ rfl, h2⟩
  | grow e sz n gen => obtain ⟨h1, h2, h3, h4⟩ := k; exact ⟨h1, h2, h3, fun b hb => hO b (by simpa [inB] using hb)⟩
  | own e sz n gen f => obtain ⟨h1, h2, h4⟩ := k; exact ⟨h1, h2, fun b hb => ⟨(h4 b hb).1, hO b (by simpa [inB] using hb)⟩⟩
  | fz e cs => obtain ⟨arr, h1, h2⟩ := k; exact ⟨arr, hO _ rfl, h2⟩
  | map ks es => obtain ⟨arr, c, h1, h2⟩ := k; exact ⟨arr, c, hO _ rfl, h2⟩
  | raw M => intro b o hb; exact ⟨hO b (by simp [inB, hb]), (k b o hb).2⟩
  | obj o => exact ⟨hO _ rfl, k.2⟩
theorem inB_O {O : Nat → Prop} {w : World} {h : Gh} {l : Nat} {X : LV} (k : LocOK O w h l X) {b : Nat} (hb : inB h l X b) : O b := by
  cases X with
  | cells e cs => obtain ⟨arr, h1, h2⟩ := k; simp [inB] at hb; subst hb; exact h1
  | arr e n f => obtain ⟨arr, fz, h1, h2⟩ := k; simp [inB] at hb; subst hb; exact h1
  | grow e sz n gen => obtain ⟨h1, h2, h3, h4⟩ := k; exact h4 b (by simpa [inB] using hb)
  | own e sz n gen f => obtain ⟨h1, h2, h4⟩ := k; exact (h4 b (by simpa [inB] using hb)).2
  | fz e cs => obtain ⟨arr, h1, h2⟩ := k; simp [inB] at hb; subst hb; exact h1
  | map ks es => obtain ⟨arr, c, h1, h2⟩ := k; simp [inB] at hb; subst hb; exact h1
  | raw M =>
    simp only [inB] at hb
    cases hM : M b with
    | none => exact absurd hM hb
    | some o => exact (k b o hM).1
  | obj o => simp [inB] at hb; subst hb; exact k.1
def frA : Nat → List AV → List (Nat × AV)
  | _, [] => []
  | k, x :: xs => (k, x) :: frA (k + 1) xs
theorem look_frA : ∀ (xs : List AV) (k t : Nat) (y : AV), look (frA k xs) t = some y → ∃ x, k ≤ t ∧ xs[t - k]? = some x ∧ y = x
  | [], k, t, y, h => by cases h
  | x :: r, k, t, y, h => by
    simp only [frA, look] at h
    split at h
    · rename_i e; subst e; cases h; exact ⟨x, Nat.le_refl _, by simp, rfl⟩
    · obtain ⟨z, h1, h2, h3⟩ := look_frA r (k + 1) t y h
      refine ⟨z, by omega, ?_, h3⟩
      have : t - k = (t - (k + 1)) + 1 := by omega
      rw [this]; simpa using h2
def ResVarA (P : Program) (A : ASt) (v : ResultVar) (x : AV) : Prop := match v with
  | .tmp t => look A.fr t = some x
  | v => ∃ y, ResVar P A v y ∧ x = .p y
def ResVarsA (P : Program) (A : ASt) : List ResultVar → List AV → Prop
  | [], [] => True
  | v :: vs, x :: xs => ResVarA P A v x ∧ ResVarsA P A vs xs
  | _, _ => False
def retM (P : Program) (fn : Func) (Q : List AV → List (Nat × LV) → Prop) : Exit → ASt → Prop
  | .normal, A => ∃ rs L', ResVarsA P A fn.results.toList rs ∧ (∀ l X, look L' l = some X → look A.locs l = some X) ∧ Q rs L'
  | .ret, A => ∃ rs L', ResVarsA P A fn.results.toList rs ∧ (∀ l X, look L' l = some X → look A.locs l = some X) ∧ Q rs L'
  | _, _ => False
section
variable {w0 : Base} {g0 : Nat → Nat} {nt : Nat} {A : ASt} {h : Gh} {a : Act} {w : World}
theorem resVarA_spec (r : Rel w0 g0 nt A h a w) {v : ResultVar} {x : AV} (hv : ResVarA P A v x) : ∃ u, (oneResult a.tmps v).run P w = .ok u w ∧ RelA w h u x := by
  cases v with
  | tmp t => exact ⟨a.tmps.getD t undef, rfl, r.fr t x hv⟩
  | _ =>
    obtain ⟨y, h1, rfl⟩ := hv
    exact resVar_spec r h1
theorem resVarsA_run (r : Rel w0 g0 nt A h a w) : ∀ {vs : List ResultVar} {rs : List AV}, ResVarsA P A vs rs → ∃ us, (vs.mapM (oneResult a.tmps)).run P w = .ok us w ∧ RelAs w h us rs
  | [], [], _ => ⟨[], rfl, rfl, fun j v x hv => by simp at hv⟩
  | v :: vs, x :: xs, hh => by
    obtain ⟨u, h1, h2⟩ := resVarA_spec r hh.1
    obtain ⟨us, h3, h4⟩ := resVarsA_run r hh.2
    refine ⟨u :: us, by simp [List.mapM_cons, h1, h3], by simp [h4.1], fun j v' x' hv hx => ?_⟩
    cases j with
    | zero => simp at hv hx; subst hv; subst hx; exact h2
    | succ j => exact h4.2 j v' x' (by simpa using hv) (by simpa using hx)
  | [], _ :: _, hh => hh.elim
  | _ :: _, [], hh => hh.elim
theorem resultsA_spec (r : Rel w0 g0 nt A h a w) {fn : Func} {rs : List AV} (hv : ResVarsA P A fn.results.toList rs) : ∃ v, (results fn a.tmps).run P w = .ok v w ∧ RelRA w h v rs := by
  obtain ⟨us, h1, h2⟩ := resVarsA_run r hv
  have e : (fn.results.mapM (oneResult a.tmps)).run P w = .ok us.toArray w := by
    rw [Array.mapM_eq_mapM_toList]
    simp [h1]
  have e' : results fn a.tmps = (do let vs ← fn.results.mapM (oneResult a.tmps); pure (if h : vs.size = 1 then vs[0] else .tuple vs)) := by
    unfold results
    congr 1
  rw [e']
  simp only [Sem.run_bind, e, Result.andThen_ok, Sem.run_pure]
  refine ⟨_, rfl, ?_⟩
  match us, rs, h2 with
  | [u], [x], h2 => exact h2.2 0 u x rfl rfl
  | [], [], h2 => exact ⟨[], rfl, h2⟩
  | u :: u' :: us, x :: x' :: rs, h2 => exact ⟨_, by simp, h2⟩
  | [], _ :: _, h2 => simp [RelAs] at h2
  | _ :: _, [], h2 => simp [RelAs] at h2
  | [_], _ :: _ :: _, h2 => simp [RelAs] at h2
  | _ :: _ :: _, [_], h2 => simp [RelAs] at h2
end
theorem mcalls_of_awp {f : FuncId} {fn : Func} {c : Code} {xs : List AV} {L : List (Nat × LV)} {Q : List AV → List (Nat × LV) → Prop} (hf : P.funcs[f]? = some fn) (hb : fn.body = some c) (hname : (fn.name == "runtime.NumGoroutine") = false) (hn : xs.length ≤ fn.ntmps)
    (hL : ∀ l X, look L l = some X → 1000 ≤ l) (H : AWP P fn.ntmps c (retM P fn Q) ⟨frA 0 xs, L⟩) : MCalls P f xs L Q := by
  intro w h vs hz hr hl
  have hrun : (callFunc f vs.toArray).run P w = .ok (.enter f vs.toArray) w := by
    simp only [callFunc, program, Sem.run, Bind.bind, Sem.bind, hf, hname, hb]; rfl
  rw [hrun]
  show Calls P f vs.toArray w _
  refine calls_of_wp hf hb ?_
  let w0 : Base := ⟨w, fun b => w.heap.size ≤ b ∨ ownB h L b, fun b hb => .inl hb, h.ρ, h.κ, h.μ⟩
  have hlt : ∀ b, ownB h L b → b < w.heap.size := fun b ⟨l, X, h1, h2⟩ => inB_lt (hl.1 l X h1) h2
  have hrel : Rel w0 h.g fn.ntmps ⟨frA 0 xs, L⟩ h { tmps := vs.toArray ++ Array.replicate (fn.ntmps - vs.toArray.size) undef, defers := [] } w := by
    refine ⟨by have := hr.1; simp; omega, rfl, fun t y hy => ?_, fun l X hX => locOK_O (hl.1 l X hX) fun b hb => .inr ⟨l, X, hX, hb⟩, hl.2, ExtS.refl w0 hz, fun l _ => ⟨rfl, .inr ⟨rfl, rfl⟩⟩⟩
    obtain ⟨x, _, hx, rfl⟩ := look_frA xs 0 t y hy
    have hlt : t < vs.length := by rw [hr.1]; have := (List.getElem?_eq_some_iff.1 hx).1; simpa using this
    have hv : (vs.toArray ++ Array.replicate (fn.ntmps - vs.toArray.size) undef).getD t undef = vs[t] := by
      rw [Array.getD_eq_getD_getElem?, Array.getElem?_append_left (by simpa using hlt)]
      simp [hlt]
    rw [hv]
    exact hr.2 t _ y (by simp [hlt]) (by simpa using hx)
  refine Go.wp_mono (acalls_awp.1 H w0 h.g _ _ w hrel) fun e a' w' ⟨A', h', q, rr⟩ => ?_
  have fin : (∃ rs L', ResVarsA P A' fn.results.toList rs ∧ (∀ l X, look L' l = some X → look A'.locs l = some X) ∧ Q rs L') → a'.defers = [] ∧ ∃ v, (results fn a'.tmps).run P w' = .ok v w' ∧
      ∃ u, Ending.returned v = .returned u ∧ ∃ h' rs L', Q rs L' ∧ RelRA w' h' u rs ∧ LocsOK (fun _ => True) w' h' L' ∧ Chg L L' w h w' h' := by
    rintro ⟨rs, L', hv, hL', hq⟩
    obtain ⟨v, h1, h2⟩ := resultsA_spec rr hv
    refine ⟨rr.defers, v, h1, v, rfl, h', rs, L', hq, h2, ⟨fun l X hX => locOK_O (rr.locs l X (hL' l X hX)) fun _ _ => trivial, fun l l' X X' b hne h1 h2 => rr.sep l l' X X' b hne (hL' l X h1) (hL' l' X' h2)⟩, ?_⟩
    refine ⟨⟨rr.ext.below.os, rr.ext.below.tape, rr.ext.below.output, rr.ext.below.size, fun k hk hno => rr.ext.below.block k hk ?_⟩, fun b hb hno => rr.ext.gam b ?_, rr.ext.gz, rr.ext.keep, fun l X hX => (rr.pin l (hL l X hX)).1, fun l X hX => (rr.pin l (hL l X hX)).2, fun b ⟨l, X, h1, h2⟩ => inB_O (rr.locs l X (hL' l X h1)) h2⟩
    · rintro (hge | ho)
      · have hk : k < w.heap.size := hk
        omega
      · exact hno ho
    · rintro (hge | ho)
      · omega
      · exact hno ho
  cases e with
  | normal => exact fin q
  | ret => exact fin q
  | exit id => exact q.elim
  | goto l => exact q.elim
  | panic ch => exact q.elim
  | outgrown => exact q.elim
def sub (sg : List (Nat × Nat)) (l : Nat) : Nat := (look sg l).getD l
def back : List (Nat × Nat) → Nat → Option Nat
  | [], _ => none
  | (l, m) :: r, u => if m = u then some l else back r u
def CV.ren (s : Nat → Nat) : CV → CV
  | .p x => .p x
  | .loc l off => .loc (s l) off
  | .ow l gen sz n => .ow (s l) gen sz n
  | .mp l => .mp (s l)
  | .a1 l off => .a1 (s l) off
def AV.ren (s : Nat → Nat) : AV → AV
  | .ow l gen sz n => .ow (s l) gen sz n
  | .el l gen sz i j => .el (s l) gen sz i j
  | .cl f a b => .cl f (a.map (CV.ren s)) (b.map (CV.ren s))
  | .loc l off => .loc (s l) off
  | .gr l gen sz n f => .gr (s l) gen sz n f
  | .row l sz off n => .row (s l) sz off n
  | .mp l => .mp (s l)
  | .ag cs => .ag (cs.map (CV.ren s))
  | x => x
def LV.ren (s : Nat → Nat) : LV → LV
  | .cells e cs => .cells e (cs.map (AV.ren s))
  | .fz e cs => .fz e (cs.map (AV.ren s))
  | X => X
def Gh.ren (h : Gh) (s : Nat → Nat) : Gh := ⟨h.g, fun l => h.ρ (s l), fun l => h.κ (s l), fun l => h.μ (s l)⟩
theorem relA_ren {w : World} {h : Gh} {s : Nat → Nat} {v : Value} {x : AV} : RelA w h v (x.ren s) ↔ RelA w (h.ren s) v x := by
  have hc : ∀ (vs : List Value) (cs : List CV), RelCs w h vs (cs.map (CV.ren s)) ↔ RelCs w (h.ren s) vs cs := by
    intro vs cs
    have one : ∀ v (c : CV), RelCV w h v (c.ren s) ↔ RelCV w (h.ren s) v c := fun v c => by cases c <;> exact Iff.rfl
    constructor
    · rintro ⟨h1, h2⟩
      exact ⟨by simpa using h1, fun j v c hv hc => (one v c).1 (h2 j v _ hv (by rw [List.getElem?_map, hc]; rfl))⟩
    · rintro ⟨h1, h2⟩
      refine ⟨by simpa using h1, fun j v c hv hc => ?_⟩
      rw [List.getElem?_map] at hc
      cases hj : cs[j]? with
      | none => rw [hj] at hc; cases hc
      | some y => rw [hj] at hc; cases hc; exact (one v y).2 (h2 j v y hv hj)
  cases x with
  | cl f a b =>
    constructor
    · rintro ⟨vs, us, h1, h2, h3⟩; exact ⟨vs, us, h1, (hc _ _).1 h2, (hc _ _).1 h3⟩
    · rintro ⟨vs, us, h1, h2, h3⟩; exact ⟨vs, us, h1, (hc _ _).2 h2, (hc _ _).2 h3⟩
  | ag cs =>
    constructor
    · rintro ⟨vs, h1, h2, h3⟩; exact ⟨vs, h1, (hc _ _).1 h2, h3⟩
    · rintro ⟨vs, h1, h2, h3⟩; exact ⟨vs, h1, (hc _ _).2 h2, h3⟩
  | _ => exact Iff.rfl
theorem locOK_ren {O : Nat → Prop} {w : World} {h : Gh} {s : Nat → Nat} {l : Nat} {X : LV} : LocOK O w h (s l) (X.ren s) ↔ LocOK O w (h.ren s) l X := by
  cases X with
  | cells e cs =>
    simp only [LV.ren, LocOK]
    constructor
    · rintro ⟨arr, h1, h2, h3, h4, h5⟩
      refine ⟨arr, h1, h2, by simpa using h3, h4, fun i v x hv hx => ?_⟩
      have := h5 i v (x.ren s) hv (by rw [List.getElem?_map, hx]; rfl)
      exact ⟨relA_ren.1 this.1, this.2⟩
    · rintro ⟨arr, h1, h2, h3, h4, h5⟩
      refine ⟨arr, h1, h2, by simpa using h3, h4, fun i v x hv hx => ?_⟩
      rw [List.getElem?_map] at hx
      cases hc : cs[i]? with
      | none => rw [hc] at hx; cases hx
      | some y =>
        rw [hc] at hx; cases hx
        exact ⟨relA_ren.2 (h5 i v y hv hc).1, (h5 i v y hv hc).2⟩
  | fz e cs =>
    simp only [LV.ren, LocOK]
    constructor
    · rintro ⟨arr, h1, h2, h3, h4, h5⟩
      refine ⟨arr, h1, h2, by simpa using h3, h4, fun i v x hv hx => ?_⟩
      have := h5 i v (x.ren s) hv (by rw [List.getElem?_map, hx]; rfl)
      exact ⟨relA_ren.1 this.1, this.2⟩
    · rintro ⟨arr, h1, h2, h3, h4, h5⟩
      refine ⟨arr, h1, h2, by simpa using h3, h4, fun i v x hv hx => ?_⟩
      rw [List.getElem?_map] at hx
      cases hc : cs[i]? with
      | none => rw [hc] at hx; cases hx
      | some y =>
        rw [hc] at hx; cases hx
        exact ⟨relA_ren.2 (h5 i v y hv hc).1, (h5 i v y hv hc).2⟩
  | arr e n f => exact Iff.rfl
  | grow e sz n gen => exact Iff.rfl
  | own e sz n gen f => exact Iff.rfl
  | map ks es => exact Iff.rfl
  | raw M => exact Iff.rfl
  | obj o => exact Iff.rfl
theorem inB_ren {h : Gh} {s : Nat → Nat} {l : Nat} {X : LV} : inB h (s l) (X.ren s) = inB (h.ren s) l X := by cases X <;> rfl
theorem relA_congr {w : World} {h k : Gh} {v : Value} {x : AV} (hg : h.g = k.g) (hm : ∀ l ∈ x.mentions, h.ρ l = k.ρ l ∧ h.κ l = k.κ l ∧ h.μ l = k.μ l) (r : RelA w h v x) : RelA w k v x := by
  have hc : ∀ (vs : List Value) (cs : List CV), (∀ l ∈ cs.flatMap CV.mentions, h.ρ l = k.ρ l ∧ h.κ l = k.κ l ∧ h.μ l = k.μ l) → RelCs w h vs cs → RelCs w k vs cs := by
    intro vs cs hm r
    refine ⟨r.1, fun j v c hv hc => ?_⟩
    have r := r.2 j v c hv hc
    have hm := fun l hl => hm l (List.mem_flatMap.2 ⟨c, List.mem_of_getElem? hc, hl⟩)
    cases c with
    | p x => simp only [RelCV] at *; rw [← hg]; exact r
    | loc l off => simp only [RelCV] at *; rw [← (hm l (by simp [CV.mentions])).1]; exact r
    | ow l gen sz n =>
      obtain ⟨h1, h2, h3⟩ := hm l (by simp [CV.mentions])
      simp only [RelCV, RelOw] at *; rw [← h2, ← h3]; exact r
    | mp l => simp only [RelCV] at *; rw [← (hm l (by simp [CV.mentions])).1]; exact r
    | a1 l off => simp only [RelCV] at *; rw [← (hm l (by simp [CV.mentions])).1]; exact r
  cases x with
  | ow l gen sz n =>
    obtain ⟨h1, h2, h3⟩ := hm l (by simp [AV.mentions])
    simp only [RelA, RelOw] at *; rw [← h2, ← h3]; exact r
  | el l gen sz i j =>
    obtain ⟨h1, h2, h3⟩ := hm l (by simp [AV.mentions])
    simp only [RelA] at *; rw [← h2, ← h3]; exact r
  | cl f a b =>
    obtain ⟨vs, us, e, h1, h2⟩ := r
    simp only [AV.mentions, List.flatMap_append] at hm
    exact ⟨vs, us, e, hc _ _ (fun l hl => hm l (List.mem_append_left _ hl)) h1, hc _ _ (fun l hl => hm l (List.mem_append_right _ hl)) h2⟩
  | top => trivial
  | undef => exact r
  | p x => simp only [RelA] at *; rw [← hg]; exact r
  | loc l off => simp only [RelA] at *; rw [← (hm l (by simp [AV.mentions])).1]; exact r
  | gr l gen sz n f =>
    obtain ⟨h1, h2, h3⟩ := hm l (by simp [AV.mentions])
    simp only [RelA] at *; rw [← hg, ← h2, ← h3]; exact r
  | row l sz off n => simp only [RelA] at *; rw [← (hm l (by simp [AV.mentions])).1]; exact r
  | tup xs => simp only [RelA] at *; rw [← hg]; exact r
  | mp l => simp only [RelA] at *; rw [← (hm l (by simp [AV.mentions])).1]; exact r
  | ag cs => obtain ⟨vs, h1, h2, h3⟩ := r; exact ⟨vs, h1, hc _ _ hm h2, h3⟩
  | is q => exact r
  | ex b sz i j => exact r
theorem locOK_congr {O : Nat → Prop} {w : World} {h k : Gh} {l : Nat} {X : LV} (hg : h.g = k.g) (hl : h.ρ l = k.ρ l ∧ h.κ l = k.κ l ∧ h.μ l = k.μ l) (hm : ∀ l ∈ X.mentions, h.ρ l = k.ρ l ∧ h.κ l = k.κ l ∧ h.μ l = k.μ l)
    (r : LocOK O w h l X) : LocOK O w k l X := by
  obtain ⟨e1, e2, e3⟩ := hl
  cases X with
  | cells e cs =>
    obtain ⟨arr, h1, h2, h3, h4, h5⟩ := r
    refine ⟨arr, by rw [← e1]; exact h1, by rw [← e1]; exact h2, h3, by rw [← hg, ← e1]; exact h4, fun i v x hv hx => ⟨relA_congr hg (fun l hl => hm l (List.mem_flatMap.2 ⟨x, List.mem_of_getElem? hx, hl⟩)) (h5 i v x hv hx).1, (h5 i v x hv hx).2⟩⟩
  | arr e n f =>
    obtain ⟨arr, fz, h1, h2, h3, h4, h5, h6⟩ := r
    exact ⟨arr, fz, by rw [← e1]; exact h1, by rw [← e1]; exact h2, h3, h4, by rw [← hg, ← e1]; exact h5, by rw [← hg]; exact h6⟩
  | grow e sz n gen =>
    obtain ⟨h1, h2, h3, h4⟩ := r
    exact ⟨by rw [← e3]; exact h1, by rw [← e2]; exact h2, by rw [← e2, ← hg]; exact h3, by rw [← e2]; exact h4⟩
  | own e sz n gen f =>
    obtain ⟨h1, h2, h4⟩ := r
    exact ⟨by rw [← e3]; exact h1, by rw [← e2, ← hg]; exact h2, by rw [← e2, ← hg]; exact h4⟩
  | fz e cs =>
    obtain ⟨arr, h1, h2, h3, h4, h5⟩ := r
    refine ⟨arr, by rw [← e1]; exact h1, by rw [← e1]; exact h2, h3, by rw [← hg, ← e1]; exact h4, fun i v x hv hx => ⟨relA_congr hg (fun l hl => hm l (List.mem_flatMap.2 ⟨x, List.mem_of_getElem? hx, hl⟩)) (h5 i v x hv hx).1, (h5 i v x hv hx).2⟩⟩
  | map ks es =>
    obtain ⟨arr, c, h1, h2, h3, h4⟩ := r
    exact ⟨arr, c, by rw [← e1]; exact h1, by rw [← e1]; exact h2, by rw [← hg, ← e1]; exact h3, by rw [← hg]; exact h4⟩
  | raw M => intro b o hb; obtain ⟨h1, h2, h3⟩ := r b o hb; exact ⟨h1, by rw [← hg]; exact h2, by rw [← hg]; exact h3⟩
  | obj o => obtain ⟨h1, h2, h3⟩ := r; exact ⟨by rw [← e1]; exact h1, by rw [← e1]; exact h2, by rw [← hg, ← e1]; exact h3⟩
theorem inB_congr {h k : Gh} {l : Nat} {X : LV} (hl : h.ρ l = k.ρ l ∧ h.κ l = k.κ l ∧ h.μ l = k.μ l) : inB h l X = inB k l X := by
  cases X <;> simp [inB, hl.1, hl.2.1]
def AV.clean (t : Nat → Option Nat) : AV → AV
  | .gr l gen sz n f => match t l with
    | some _ => .p (.d (.sl sz n f))
    | none => .gr l gen sz n f
  | x => x
def LV.clean (t : Nat → Option Nat) : LV → LV
  | .cells e cs => .cells e (cs.map (AV.clean t))
  | .fz e cs => .fz e (cs.map (AV.clean t))
  | X => X
theorem locOK_carry {O : Nat → Prop} {w w' : World} {h h' : Gh} {t : Nat → Option Nat} {l : Nat} {X : LV} (hρ : h'.ρ l = h.ρ l) (hκ : h'.κ l = h.κ l) (hμ : h'.μ l = h.μ l) (hk : Keep w h.g w' h'.g)
    (hb : ∀ b, inB h l X b → w'.heap[b]? = w.heap[b]? ∧ h'.g b = h.g b) (hc : ∀ v x, (∀ l ∈ x.mentions, l ∈ X.mentions) → RelA w h v x → RelA w' h' v (x.clean t)) (k : LocOK O w h l X) :
    LocOK O w' h' l (X.clean t) ∧ inB h' l (X.clean t) = inB h l X := by
  cases X with
  | cells e cs =>
    obtain ⟨arr, h1, h2, h3, h4, h5⟩ := k
    obtain ⟨e1, e2⟩ := hb (h.ρ l) rfl
    refine ⟨⟨arr, by rw [hρ]; exact h1, by rw [hρ, e1]; exact h2, by simpa using h3, by rw [hρ, e2]; exact h4, fun i v x hv hx => ?_⟩, by simp [inB, LV.clean, hρ]⟩
    rw [List.getElem?_map] at hx
    cases hci : cs[i]? with
    | none => rw [hci] at hx; cases hx
    | some y =>
      rw [hci] at hx; cases hx
      exact ⟨hc v y (fun l hl => List.mem_flatMap.2 ⟨y, List.mem_of_getElem? hci, hl⟩) (h5 i v y hv hci).1, (h5 i v y hv hci).2⟩
  | fz e cs =>
    obtain ⟨arr, h1, h2, h3, h4, h5⟩ := k
    obtain ⟨e1, e2⟩ := hb (h.ρ l) rfl
    refine ⟨⟨arr, by rw [hρ]; exact h1, by rw [hρ, e1]; exact h2, by simpa using h3, by rw [hρ, e2]; exact h4, fun i v x hv hx => ?_⟩, by simp [inB, LV.clean, hρ]⟩
    rw [List.getElem?_map] at hx
    cases hci : cs[i]? with
    | none => rw [hci] at hx; cases hx
    | some y =>
      rw [hci] at hx; cases hx
      exact ⟨hc v y (fun l hl => List.mem_flatMap.2 ⟨y, List.mem_of_getElem? hci, hl⟩) (h5 i v y hv hci).1, (h5 i v y hv hci).2⟩
  | arr e n f =>
    obtain ⟨arr, fz, h1, h2, hfz, h3, h4, h5⟩ := k
    obtain ⟨e1, e2⟩ := hb (h.ρ l) rfl
    exact ⟨⟨arr, fz, by rw [hρ]; exact h1, by rw [hρ, e1]; exact h2, hfz, h3, by rw [hρ, e2]; exact h4, fun i v hi hv => (h5 i v hi hv).keep hk⟩, by simp [inB, LV.clean, hρ]⟩
  | grow e sz n gen =>
    obtain ⟨h1, ⟨xs, h2⟩, h3, h4⟩ := k
    refine ⟨⟨by rw [hμ]; exact h1, ⟨xs, ?_⟩, fun b c hb' => ?_, fun b hb' => h4 b (by rw [← hκ]; exact hb')⟩, by simp [inB, LV.clean, hκ]⟩
    · rw [hκ]
      rcases h2 with ⟨a1, a2 | ⟨gb, cap, cur, a2, a3, a4, a5⟩⟩
      · exact ⟨a1, .inl a2⟩
      · have hb' : inB h l (.grow e sz n gen) gb := by simp [inB, a2, Value.ownBlock]
        exact ⟨a1, .inr ⟨gb, cap, cur, a2, a3, by rw [(hb gb hb').1]; exact a4, a5⟩⟩
    · rw [hκ] at hb'
      have hb2 : inB h l (.grow e sz n gen) b := by simp [inB, hb', Value.ownBlock]
      rw [(hb b hb2).2]
      exact h3 b c hb'
  | own e sz n gen f =>
    obtain ⟨h1, ⟨xs, h2, h3⟩, h4⟩ := k
    refine ⟨⟨by rw [hμ]; exact h1, ⟨xs, ?_, h3.keep hk⟩, fun b hb' => ?_⟩, by simp [inB, LV.clean, hκ]⟩
    · rw [hκ]
      exact ownsRow_same h2 fun b hb' => (hb b (by simpa [inB] using hb')).1
    · rw [hκ] at hb'
      rw [(hb b (by simpa [inB] using hb')).2]
      exact h4 b hb'
  | map ks es =>
    obtain ⟨arr, c, h1, h2, h3, h4⟩ := k
    obtain ⟨e1, e2⟩ := hb (h.ρ l) rfl
    exact ⟨⟨arr, c, by rw [hρ]; exact h1, by rw [hρ, e1]; exact h2, by rw [hρ, e2]; exact h3, h4.keep hk⟩, by simp [inB, LV.clean, hρ]⟩
  | raw M =>
    refine ⟨fun b o hM => ?_, rfl⟩
    obtain ⟨h1, h2, h3⟩ := k b o hM
    obtain ⟨e1, e2⟩ := hb b (by simp [inB, hM])
    exact ⟨h1, h2.keep hk e1, by rw [e2]; exact h3⟩
  | obj o =>
    obtain ⟨h1, h2, h3⟩ := k
    obtain ⟨e1, e2⟩ := hb (h.ρ l) rfl
    exact ⟨⟨by rw [hρ]; exact h1, by rw [hρ, e1]; exact h2, by rw [hρ, e2]; exact h3⟩, by simp [inB, LV.clean, hρ]⟩
theorem look_append {α : Type} (L M : List (Nat × α)) (k : Nat) : look (L ++ M) k = match look L k with
    | some x => some x
    | none => look M k := by
  induction L with
  | nil => rfl
  | cons p L ih =>
    obtain ⟨t, x⟩ := p
    simp only [List.cons_append, look]
    split
    · rfl
    · exact ih
theorem look_mapv {α β : Type} (f : α → β) (L : List (Nat × α)) (k : Nat) : look (L.map fun p => (p.1, f p.2)) k = (look L k).map f := by
  induction L with
  | nil => rfl
  | cons p L ih =>
    obtain ⟨t, x⟩ := p
    simp only [List.map_cons, look]
    split
    · rfl
    · exact ih
theorem look_filter {α : Type} (q : Nat → Bool) (L : List (Nat × α)) (k : Nat) : look (L.filter fun p => q p.1) k = if q k then look L k else none := by
  induction L with
  | nil => simp [look]
  | cons p L ih =>
    obtain ⟨t, x⟩ := p
    simp only [List.filter_cons]
    by_cases ht : t = k
    · subst ht
      cases hq : q t
      · simp only [Bool.false_eq_true, if_false]; rw [ih, hq]; rfl
      · simp [look]
    · cases hq : q t
      · simp only [Bool.false_eq_true, if_false, look, if_neg ht]; exact ih
      · simp only [if_true, look, if_neg ht]; exact ih
def keysOK {α : Type} : List (Nat × α) → Bool
  | [] => true
  | (t, _) :: r => (look r t).isNone && keysOK r
theorem look_sub {α β : Type} (s : Nat → Nat) (f : α → β) : ∀ (L : List (Nat × α)) (m : Nat) (y : β), keysOK L = true → look (L.map fun p => (s p.1, f p.2)) m = some y → ∃ l x, look L l = some x ∧ s l = m ∧ y = f x
  | [], m, y, _, h => by cases h
  | (t, x) :: L, m, y, hk, h => by
    simp only [keysOK, Bool.and_eq_true] at hk
    simp only [List.map_cons, look] at h
    split at h
    · rename_i e; cases h; exact ⟨t, x, by simp [look], e, rfl⟩
    · obtain ⟨l, x', h1, h2, h3⟩ := look_sub s f L m y hk.2 h
      refine ⟨l, x', ?_, h2, h3⟩
      simp only [look]
      rw [if_neg (fun e => by subst e; rw [h1] at hk; simp at hk)]
      exact h1
def afterCall (sg : List (Nat × Nat)) (A : ASt) (dst : Option Tmp) (res : AV) (L' : List (Nat × LV)) : ASt :=
  ⟨(match dst with
    | some d => [(d, res.ren (sub sg))]
    | none => []) ++ A.fr.map fun p => (p.1, p.2.clean (back sg)),
   (L'.map fun p => (sub sg p.1, p.2.ren (sub sg))) ++ (A.locs.filter fun p => (back sg p.1).isNone).map fun p => (p.1, p.2.clean (back sg))⟩
def resM : List AV → Option AV
  | [x] => some x
  | xs => (xs.mapM pvAV).map .tup
theorem relA_resM {w : World} {h : Gh} {v : Value} {rs : List AV} {x : AV} (hx : resM rs = some x) (r : RelRA w h v rs) : RelA w h v x := by
  match rs, hx, r with
  | [y], hx, r => cases hx; exact r
  | [], hx, ⟨vs, hv, hr⟩ => cases hx; exact ⟨vs, hv, by have := hr.1; simp at this; subst this; exact RelPs.nil _ _⟩
  | a :: b :: r', hx, ⟨vs, hv, hr⟩ =>
    simp only [resM, Option.map_eq_some_iff] at hx
    obtain ⟨ys, hy, rfl⟩ := hx
    exact ⟨vs, hv, pvs_spec hy hr⟩
theorem RelAs.append {w : World} {h : Gh} {vs us : List Value} {xs ys : List AV} (r : RelAs w h vs xs) (t : RelAs w h us ys) : RelAs w h (vs ++ us) (xs ++ ys) := by
  refine ⟨by simp [r.1, t.1], fun j v x hv hx => ?_⟩
  by_cases hj : j < vs.length
  · rw [List.getElem?_append_left hj] at hv
    rw [List.getElem?_append_left (r.1 ▸ hj)] at hx
    exact r.2 j v x hv hx
  · rw [List.getElem?_append_right (by omega)] at hv
    rw [List.getElem?_append_right (by have := r.1; omega), ← r.1] at hx
    exact t.2 _ v x hv hx
def calleeC : AV → Option (FuncId × List CV × List CV)
  | .p (.fn (.func f) a b) => some (f, a.map .p, b.map .p)
  | .cl (.func f) a b => some (f, a, b)
  | _ => none
theorem relAs_cv {w : World} {h : Gh} {vs : List Value} {xs : List CV} (r : RelCs w h vs xs) : RelAs w h vs (xs.map CV.av) := by
  refine ⟨by simp [r.1], fun j v x hv hx => ?_⟩
  rw [List.getElem?_map] at hx
  cases hj : xs[j]? with
  | none => rw [hj] at hx; cases hx
  | some y => rw [hj] at hx; cases hx; exact (relC_av y).1 (r.2 j v y hv hj)
theorem relCs_pv {w : World} {h : Gh} {vs : List Value} {xs : List PV} (r : RelPs w h.g vs xs) : RelCs w h vs (xs.map .p) := by
  refine ⟨by simp [r.1], fun j v x hv hx => ?_⟩
  rw [List.getElem?_map] at hx
  cases hj : xs[j]? with
  | none => rw [hj] at hx; cases hx
  | some y => rw [hj] at hx; cases hx; exact r.2 j v y hv hj
theorem callee_val {w : World} {h : Gh} {x : AV} {g : FuncId} {pre post : List CV} (hx : calleeC x = some (g, pre, post)) {v : Value} (hf : RelA w h v x) :
    ∃ us vs : List Value, v = .func (.func g) us.toArray vs.toArray ∧ RelCs w h us pre ∧ RelCs w h vs post := by
  unfold calleeC at hx
  split at hx
  · cases hx
    cases hf with
    | fn _ us vs _ _ hl hm hr hs => exact ⟨us, vs, rfl, relCs_pv ⟨hl, hr⟩, relCs_pv ⟨hm, hs⟩⟩
  · cases hx
    obtain ⟨us, vs, e, h1, h2⟩ := hf
    exact ⟨us, vs, e, h1, h2⟩
  · cases hx
theorem call_runA {o : Oper} {c : Call} {f : Operand} (ho : o.op = .call c) (hc : c.callee = .value f) {x : AV} {g : FuncId} {pre post : List CV} (hx : calleeC x = some (g, pre, post)) {ys : List AV}
    {w : World} {h : Gh} {a : Act} (hf : RelA w h (a.eval f) x) (hargs : RelAs w h (c.args.toList.map a.eval) ys) :
    ∃ vs : List Value, RelAs w h vs (pre.map CV.av ++ ys ++ post.map CV.av) ∧ (execOp a.eval o).run P w = (callFunc g vs.toArray).run P w := by
  obtain ⟨us, vs, hv0, h1, h2⟩ := callee_val hx hf
  refine ⟨us ++ c.args.toList.map a.eval ++ vs, RelAs.append (RelAs.append (relAs_cv h1) hargs) (relAs_cv h2), ?_⟩
  have : (us ++ c.args.toList.map a.eval ++ vs).toArray = us.toArray ++ c.args.map a.eval ++ vs.toArray := by
    apply Array.ext'; simp
  rw [this]
  simp [execOp, ho, resolve, hc, hv0, Deferred.ofValue, invoke]
structure NamesOK (sg : List (Nat × Nat)) (A : ASt) (L L' : List (Nat × LV)) (res : AV) : Prop where
  keys : keysOK L' = true
  locs : ∀ l X, look L l = some X → look A.locs (sub sg l) = some (X.ren (sub sg))
  dom : ∀ l X, look L l = some X → back sg (sub sg l) = some l
  dom' : ∀ l X, look L' l = some X → back sg (sub sg l) = some l ∧ ∀ k ∈ X.mentions, back sg (sub sg k) = some k
  res : ∀ k ∈ res.mentions, back sg (sub sg k) = some k
  inv : ∀ m l, back sg m = some l → sub sg l = m
  fresh : ∀ m l, back sg m = some l → (∃ X, look L l = some X) ∨ A.unused m
theorem step_mcallX {ι : Type} {nt : Nat} {ops : Array Oper} {o : Oper} {A : ASt} {c : Call} {f : Operand} {g : FuncId} {pre post : List CV} {xs : List AV} {rsI : ι → List AV} {L : List (Nat × LV)} {LI : ι → List (Nat × LV)} {resI : ι → AV} (sg : List (Nat × Nat))
    (hw : wantedA ops o A = some true) (hd : dstOK nt o = true) (ho : o.op = .call c) (hc : c.callee = .value f) (hx : calleeC (A.eval f) = some (g, pre, post))
    (hargs : pre.map CV.av ++ c.args.toList.map A.eval ++ post.map CV.av = xs.map (AV.ren (sub sg))) (hcall : MCalls P g xs L (fun r M => ∃ i, r = rsI i ∧ M = LI i)) (hres : ∀ i, resM (rsI i) = some (resI i)) (hN : NamesOK sg A L [] .top) (hNI : ∀ i, NamesOK sg A L (LI i) (resI i)) :
    StepX P nt ops o A (fun A' => ∃ i, A' = afterCall sg A o.dst (resI i) (LI i)) := by
  intro w0 g0 h a w r K Q hn
  rw [wantedA_spec r hw]
  simp only [if_true]
  left
  have hev := r.evals c.args.toList
  obtain ⟨vs, hvs, hrun⟩ := call_runA (P := P) ho hc hx (r.eval f) hev
  rw [hargs] at hvs
  let hσ := h.ren (sub sg)
  have hvs' : RelAs w hσ vs xs := by
    refine ⟨by have := hvs.1; simpa using this, fun j v x hv hxj => ?_⟩
    exact relA_ren.1 (hvs.2 j v _ hv (by rw [List.getElem?_map, hxj]; rfl))
  have hlocs : LocsOK (fun _ => True) w hσ L := by
    refine ⟨fun l X hX => locOK_O (locOK_ren.1 (r.locs _ _ (hN.locs l X hX))) fun _ _ => trivial, fun l l' X X' b hne h1 h2 hb hb' => ?_⟩
    rw [← inB_ren] at hb hb'
    exact r.sep _ _ _ _ b (fun e => hne (by have e1 := hN.dom l X h1; have e2 := hN.dom l' X' h2; rw [e, e2] at e1; cases e1; rfl)) (hN.locs l X h1) (hN.locs l' X' h2) hb hb'
  have key := hcall w hσ vs r.gz hvs' hlocs
  have fin : ∀ v w', (∃ h1 r1 L1, (∃ i, r1 = rsI i ∧ L1 = LI i) ∧ RelRA w' h1 v r1 ∧ LocsOK (fun _ => True) w' h1 L1 ∧ Chg L L1 w hσ w' h1) → K (a.put o.dst v) w' := by
    rintro v w' ⟨h1, r1, L1, ⟨i, e1, e2⟩, hR, hL, hC⟩
    rw [e1] at hR
    rw [e2] at hL hC
    clear e1 e2 r1 L1
    have hN := hNI i
    have hres := hres i
    have hn := fun a' w' h'' hr => hn (afterCall sg A o.dst (resI i) (LI i)) a' w' h'' ⟨i, rfl⟩ hr
    clear hNI
    generalize hrs : rsI i = rs at hR hres
    generalize hLi : LI i = L' at *
    generalize hri : resI i = res at *
    let h' : Gh := ⟨h1.g, fun m => match back sg m with | some l => h1.ρ l | none => h.ρ m, fun m => match back sg m with | some l => h1.κ l | none => h.κ m, fun m => match back sg m with | some l => h1.μ l | none => h.μ m⟩
    have hname : ∀ l, back sg (sub sg l) = some l → h1.ρ l = (h'.ren (sub sg)).ρ l ∧ h1.κ l = (h'.ren (sub sg)).κ l ∧ h1.μ l = (h'.ren (sub sg)).μ l := by
      intro l hl
      simp [Gh.ren, h', hl]
    have hout : ∀ m, back sg m = none → h'.ρ m = h.ρ m ∧ h'.κ m = h.κ m ∧ h'.μ m = h.μ m := by
      intro m hm
      simp [h', hm]
    have hownO : ∀ b, ownB hσ L b → w0.O b ∧ b < w.heap.size := by
      rintro b ⟨l, X, hX, hb⟩
      rw [← inB_ren] at hb
      have := r.locs _ _ (hN.locs l X hX)
      exact ⟨inB_O this hb, inB_lt this hb⟩
    have hotherB : ∀ m Y b, look A.locs m = some Y → back sg m = none → inB h m Y b → ¬ ownB hσ L b := by
      rintro m Y b hY hm hb ⟨l, X, hX, hb2⟩
      rw [← inB_ren] at hb2
      refine r.sep m (sub sg l) Y _ b (fun e => ?_) hY (hN.locs l X hX) hb hb2
      rw [e, hN.dom l X hX] at hm; cases hm
    have hclean : ∀ v x, (∀ m ∈ x.mentions, ∀ l, back sg m = some l → ∃ X, look L l = some X) → RelA w h v x → RelA w' h' v (x.clean (back sg)) := by
      intro v x hm rx
      have hρ : ∀ l, l ∈ x.mentions → h'.ρ l = h.ρ l := by
        intro m hmm
        cases hb : back sg m with
        | none => exact (hout m hb).1
        | some l =>
          obtain ⟨X, hX⟩ := hm m hmm l hb
          have e1 := hC.ρ l X hX
          have e2 := hN.inv m l hb
          show (match back sg m with | some l => h1.ρ l | none => h.ρ m) = h.ρ m
          rw [hb]
          show h1.ρ l = h.ρ m
          rw [e1]
          show h.ρ (sub sg l) = h.ρ m
          rw [e2]
      have hup : ∀ l, l ∈ x.mentions → h.μ l < h'.μ l ∨ (h'.κ l = h.κ l ∧ h'.μ l = h.μ l) := by
        intro m hmm
        cases hb : back sg m with
        | none => exact .inr (hout m hb).2
        | some l =>
          obtain ⟨X, hX⟩ := hm m hmm l hb
          have e2 := hN.inv m l hb
          have e1 := hC.up l X hX
          simp only [hσ, Gh.ren, e2] at e1
          simp only [h', hb]
          exact e1
      have hgen : ∀ l gen, l ∈ x.mentions → gen ≤ h.μ l → gen ≤ h'.μ l ∧ (h'.μ l = gen → h.μ l = gen ∧ h'.κ l = h.κ l) := by
        intro l gen hl hg
        rcases hup l hl with hlt | ⟨e1, e2⟩
        · exact ⟨by omega, fun he => by omega⟩
        · rw [e1, e2]; exact ⟨hg, fun e => ⟨e, rfl⟩⟩
      have how : ∀ v l gen n, l ∈ x.mentions → RelOw h v l gen n → RelOw h' v l gen n := by
        rintro v l gen n hl ⟨r1, r2, r3⟩
        obtain ⟨g1, g2⟩ := hgen l gen hl r1
        exact ⟨g1, r2, fun he => by obtain ⟨e1, e2⟩ := g2 he; rw [e2]; exact r3 e1⟩
      have hcs : ∀ (vs : List Value) (cs : List CV), (∀ l ∈ cs.flatMap CV.mentions, l ∈ x.mentions) → RelCs w h vs cs → RelCs w' h' vs cs := by
        intro vs cs hmx r
        refine ⟨r.1, fun j v c hv hc => ?_⟩
        have r := r.2 j v c hv hc
        have hmx := fun l hl => hmx l (List.mem_flatMap.2 ⟨c, List.mem_of_getElem? hc, hl⟩)
        cases c with
        | p x => exact RelP.keep hC.keep r
        | loc l off => simp only [RelCV] at *; rw [hρ l (hmx l (by simp [CV.mentions]))]; exact r
        | ow l gen sz n => exact how v l gen n (hmx l (by simp [CV.mentions])) r
        | mp l => simp only [RelCV] at *; rw [hρ l (hmx l (by simp [CV.mentions]))]; exact r
        | a1 l off => simp only [RelCV] at *; rw [hρ l (hmx l (by simp [CV.mentions]))]; exact r
      cases x with
      | ow l gen sz n => exact how v l gen n (by simp [AV.mentions]) rx
      | el l gen sz i j =>
        obtain ⟨r1, b, r2, r3⟩ := rx
        obtain ⟨g1, g2⟩ := hgen l gen (by simp [AV.mentions]) r1
        exact ⟨g1, b, r2, fun he => by obtain ⟨e1, e2⟩ := g2 he; rw [e2]; exact r3 e1⟩
      | cl f a b =>
        obtain ⟨vs, us, e, h1, h2⟩ := rx
        exact ⟨vs, us, e, hcs _ _ (fun l hl => by simp only [AV.mentions, List.flatMap_append]; exact List.mem_append_left _ hl) h1, hcs _ _ (fun l hl => by simp only [AV.mentions, List.flatMap_append]; exact List.mem_append_right _ hl) h2⟩
      | top => trivial
      | undef => exact rx
      | p x => exact RelP.keep hC.keep rx
      | loc l off => simp only [AV.clean, RelA] at *; rw [hρ l (by simp [AV.mentions])]; exact rx
      | row l sz off n => simp only [AV.clean, RelA] at *; rw [hρ l (by simp [AV.mentions])]; exact rx
      | tup xs => obtain ⟨us, hv, hr⟩ := rx; exact ⟨us, hv, hr.keep hC.keep⟩
      | mp l => simp only [AV.clean, RelA] at *; rw [hρ l (by simp [AV.mentions])]; exact rx
      | ag cs => obtain ⟨vs, h1, h2, h3⟩ := rx; exact ⟨vs, h1, hcs _ _ (fun l hl => hl) h2, h3⟩
      | is q => exact rx
      | ex b sz i j => exact rx
      | gr l gen sz n f =>
        obtain ⟨r1, r2, r3⟩ := rx
        simp only [AV.clean]
        cases hb : back sg l with
        | some k => exact .d _ _ (r1.keep hC.keep)
        | none =>
          obtain ⟨_, e2, e3⟩ := hout l hb
          exact ⟨r1.keep hC.keep, by rw [e3]; exact r2, fun he => by rw [e2]; exact r3 (by rw [← e3]; exact he)⟩
    have hlookL : ∀ m Y, look (afterCall sg A o.dst res L').locs m = some Y → (∃ l X, look L' l = some X ∧ sub sg l = m ∧ Y = X.ren (sub sg)) ∨ (back sg m = none ∧ ∃ X, look A.locs m = some X ∧ Y = X.clean (back sg)) := by
      intro m Y hY
      simp only [afterCall, look_append] at hY
      split at hY
      · rename_i y hy
        cases hY
        obtain ⟨l, X, q1, q2, q3⟩ := look_sub (sub sg) (LV.ren (sub sg)) L' m _ hN.keys hy
        exact .inl ⟨l, X, q1, q2, q3⟩
      · rw [look_mapv, look_filter (fun m => (back sg m).isNone)] at hY
        split at hY
        · rename_i hq
          cases hX : look A.locs m with
          | none => rw [hX] at hY; cases hY
          | some X =>
            rw [hX] at hY; cases hY
            exact .inr ⟨by simpa using hq, X, rfl, rfl⟩
        · cases hY
    have hmenF : ∀ t x, look A.fr t = some x → ∀ m ∈ x.mentions, ∀ l, back sg m = some l → ∃ X, look L l = some X := by
      intro t x hx m hm l hb
      rcases hN.fresh m l hb with h | h
      · exact h
      · exact absurd hm (h.1 t x hx)
    have hmenL : ∀ k X, look A.locs k = some X → ∀ m ∈ X.mentions, ∀ l, back sg m = some l → ∃ X, look L l = some X := by
      intro k X hX m hm l hb
      rcases hN.fresh m l hb with h | h
      · exact h
      · exact absurd hm (h.2.1 k X hX)
    have hloc1 : ∀ l X, look L' l = some X → LocOK w0.O w' h' (sub sg l) (X.ren (sub sg)) ∧ (∀ b, inB h' (sub sg l) (X.ren (sub sg)) b → w.heap.size ≤ b ∨ ownB hσ L b) ∧ inB h' (sub sg l) (X.ren (sub sg)) = inB h1 l X := by
      intro l X hX
      obtain ⟨d1, d2⟩ := hN.dom' l X hX
      have hbk : inB h' (sub sg l) (X.ren (sub sg)) = inB h1 l X := by rw [inB_ren, ← inB_congr (hname l d1)]
      have hown : ∀ b, inB h1 l X b → w.heap.size ≤ b ∨ ownB hσ L b := fun b hb => hC.own b ⟨l, X, hX, hb⟩
      refine ⟨locOK_ren.2 (locOK_congr (h := h1) (k := h'.ren (sub sg)) rfl (hname l d1) (fun k hk => hname k (d2 k hk)) (locOK_O (hL.1 l X hX) fun b hb => ?_)), fun b hb => hown b (by rw [← hbk]; exact hb), hbk⟩
      rcases hown b hb with hge | ho
      · exact r.base b hge
      · exact (hownO b ho).1
    have hloc2 : ∀ m X, look A.locs m = some X → back sg m = none → LocOK w0.O w' h' m (X.clean (back sg)) ∧ inB h' m (X.clean (back sg)) = inB h m X := by
      intro m X hX hm
      obtain ⟨e1, e2, e3⟩ := hout m hm
      refine locOK_carry e1 e2 e3 hC.keep (fun b hb => ?_) (fun v x hsub rx => hclean v x (fun k hk => hmenL m X hX k (hsub k hk)) rx) (r.locs m X hX)
      have hlt := inB_lt (r.locs m X hX) hb
      have hno := hotherB m X b hX hm hb
      exact ⟨hC.below.block b hlt hno, hC.gam b hlt hno⟩
    refine hn _ _ h' ⟨?_, by cases o.dst <;> exact r.defers, fun t x hx => ?_, fun m Y hY => ?_, fun m m' Y Y' b hne hY hY' hb hb' => ?_, ?_, fun l hl => ?_⟩
    · simpa [Act.put] using (by cases o.dst <;> simpa [Act.put] using r.size)
    · simp only [afterCall, look_append] at hx
      have hdt := dstOK_spec hd
      cases hod : o.dst with
      | none =>
        rw [hod] at hx
        simp only [look, look_mapv] at hx
        cases hy : look A.fr t with
        | none => rw [hy] at hx; cases hx
        | some y =>
          rw [hy] at hx; cases hx
          simp only [Act.put]
          exact hclean _ y (hmenF t y hy) (r.fr t y hy)
      | some d =>
        rw [hod] at hx
        rw [getD_put a d t v (by rw [r.size]; exact hdt d hod)]
        simp only [look] at hx
        by_cases hdt' : d = t
        · subst hdt'
          rw [if_pos rfl] at hx ⊢
          cases hx
          refine relA_ren.2 (relA_congr (h := h1) rfl (fun k hk => hname k (hN.res k hk)) (relA_resM hres hR))
        · rw [if_neg hdt'] at hx ⊢
          simp only [look_mapv] at hx
          cases hy : look A.fr t with
          | none => rw [hy] at hx; cases hx
          | some y =>
            rw [hy] at hx; cases hx
            exact hclean _ y (hmenF t y hy) (r.fr t y hy)
    · rcases hlookL m Y hY with ⟨l, X, hX, rfl, rfl⟩ | ⟨hm, X, hX, rfl⟩
      · exact (hloc1 l X hX).1
      · exact (hloc2 m X hX hm).1
    · rcases hlookL m Y hY with ⟨l, X, hX, rfl, rfl⟩ | ⟨hm, X, hX, rfl⟩ <;> rcases hlookL m' Y' hY' with ⟨l', X', hX', rfl, rfl⟩ | ⟨hm', X', hX', rfl⟩
      · rw [(hloc1 l X hX).2.2] at hb
        rw [(hloc1 l' X' hX').2.2] at hb'
        exact hL.2 l l' X X' b (fun e => hne (by rw [e])) hX hX' hb hb'
      · rw [(hloc2 m' X' hX' hm').2] at hb'
        have hlt := inB_lt (r.locs m' X' hX') hb'
        rcases (hloc1 l X hX).2.1 b hb with hge | ho
        · omega
        · exact hotherB m' X' b hX' hm' hb' ho
      · rw [(hloc2 m X hX hm).2] at hb
        have hlt := inB_lt (r.locs m X hX) hb
        rcases (hloc1 l' X' hX').2.1 b hb' with hge | ho
        · omega
        · exact hotherB m X b hX hm hb ho
      · rw [(hloc2 m X hX hm).2] at hb
        rw [(hloc2 m' X' hX' hm').2] at hb'
        exact r.sep m m' X X' b hne hX hX' hb hb'
    · refine ⟨r.ext.below.trans ⟨hC.below.os, hC.below.tape, hC.below.output, hC.below.size, fun k hk hO => hC.below.block k hk fun ho => hO (hownO k ho).1⟩, fun b hO => ?_, hC.gz, r.ext.keep.trans hC.keep⟩
      exact (hC.gam b (r.base.lt hO) fun ho => hO (hownO b ho).1).trans (r.ext.gam b hO)
    · obtain ⟨p1, p2⟩ := r.pin l hl
      cases hb : back sg l with
      | none => obtain ⟨o1, o2, o3⟩ := hout l hb; rw [o1, o2, o3]; exact ⟨p1, p2⟩
      | some k =>
        rcases hN.fresh l k hb with ⟨X, hX⟩ | hu
        · have e1 := hC.ρ k X hX
          have e2 := hN.inv l k hb
          have e3 := hC.up k X hX
          simp only [hσ, Gh.ren, e2] at e1 e3
          simp only [h', hb]
          refine ⟨by rw [e1]; exact p1, ?_⟩
          rcases e3 with e3 | ⟨e3, e4⟩
          · rcases p2 with p2 | ⟨p2, p3⟩
            · exact .inl (by omega)
            · exact .inl (by omega)
          · rw [e3, e4]; exact p2
        · have := hu.2.2; omega
  unfold Oper.wp
  rw [hrun]
  unfold CallRes at key
  split at key
  · rename_i f' args w1 hrr
    rw [hrr]
    show Calls P f' args w1 _
    refine key.mono fun e w' ⟨v, he, hR⟩ => ?_
    subst he
    exact fin v w' hR
  · rename_i v w1 hrr
    rw [hrr]
    exact fin v w1 key
  · exact key.elim
theorem step_mcall {nt : Nat} {ops : Array Oper} {o : Oper} {A : ASt} {c : Call} {f : Operand} {g : FuncId} {pre post : List CV} {xs rs : List AV} {L L' : List (Nat × LV)} {res : AV} (sg : List (Nat × Nat))
    (hw : wantedA ops o A = some true) (hd : dstOK nt o = true) (ho : o.op = .call c) (hc : c.callee = .value f) (hx : calleeC (A.eval f) = some (g, pre, post))
    (hargs : pre.map CV.av ++ c.args.toList.map A.eval ++ post.map CV.av = xs.map (AV.ren (sub sg))) (hcall : MCalls P g xs L (fun r M => r = rs ∧ M = L')) (hres : resM rs = some res) (hN : NamesOK sg A L L' res) :
    StepS P nt ops o A (afterCall sg A o.dst res L') := by
  have h := step_mcallX (ι := Unit) (rsI := fun _ => rs) (LI := fun _ => L') (resI := fun _ => res) sg hw hd ho hc hx hargs (hcall.mono fun r M h => ⟨(), h⟩) (fun _ => hres)
    ⟨rfl, hN.locs, hN.dom, fun l X hX => (by cases hX), fun k hk => (by cases hk), hN.inv, hN.fresh⟩ (fun _ => hN)
  exact StepX.s fun w0 g0 h' a w r K Q hn => h w0 g0 h' a w r K Q fun A1 a' w' h'' ⟨_, e⟩ hr => hn A1 a' w' h'' e hr
theorem optA_none : (none : Option Operand).toArray.toList = [] := rfl
theorem optA_some (x : Operand) : (some x).toArray.toList = [x] := rfl
attribute [go_sem] optA_none optA_some
attribute [go_sem] afterCall AV.clean LV.clean AV.ren LV.ren CV.ren CV.av sub back List.filter_cons List.filter_nil Option.isNone_some Option.isNone_none
def LocsAt (A : ASt) (s : Nat → Nat) : List (Nat × LV) → Prop
  | [] => True
  | p :: r => look A.locs (s p.1) = some (p.2.ren s) ∧ LocsAt A s r
def namesB (sg : List (Nat × Nat)) (A : ASt) (L L' : List (Nat × LV)) (res : AV) : Bool :=
  keysOK L' && L.all (fun p => back sg (sub sg p.1) == some p.1) && L'.all (fun p => (back sg (sub sg p.1) == some p.1) && p.2.mentions.all fun k => back sg (sub sg k) == some k) &&
    res.mentions.all (fun k => back sg (sub sg k) == some k) && sg.all (fun p => sub sg p.1 == p.2) && sg.all fun p => (look L p.1).isSome || unusedB A p.2
theorem back_mem : ∀ {sg : List (Nat × Nat)} {m l : Nat}, back sg m = some l → (l, m) ∈ sg
  | (l, m) :: r, u, k, h => by
    simp only [back] at h
    split at h
    · rename_i e; cases h; subst e; simp
    · exact List.mem_cons_of_mem _ (back_mem h)
theorem look_mem' {α : Type} : ∀ {L : List (Nat × α)} {l : Nat} {x : α}, look L l = some x → (l, x) ∈ L
  | (t, y) :: r, l, x, h => by
    simp only [look] at h
    split at h
    · rename_i e; cases h; subst e; simp
    · exact List.mem_cons_of_mem _ (look_mem' h)
theorem namesOK_of {sg : List (Nat × Nat)} {A : ASt} {L L' : List (Nat × LV)} {res : AV} (hl : LocsAt A (sub sg) L) (hb : namesB sg A L L' res = true) : NamesOK sg A L L' res := by
  unfold namesB at hb
  simp only [Bool.and_eq_true, List.all_eq_true, beq_iff_eq, Bool.or_eq_true] at hb
  obtain ⟨⟨⟨⟨⟨h1, h2⟩, h3⟩, h4⟩, h5⟩, h6⟩ := hb
  refine ⟨h1, fun l X hX => ?_, fun l X hX => h2 (l, X) (look_mem' hX), fun l X hX => h3 (l, X) (look_mem' hX), h4, fun m l h => h5 (l, m) (back_mem h), fun m l h => ?_⟩
  · have key : ∀ (L : List (Nat × LV)), LocsAt A (sub sg) L → ∀ p ∈ L, look A.locs (sub sg p.1) = some (p.2.ren (sub sg)) := by
      intro L
      induction L with
      | nil => intro _ p hp; cases hp
      | cons q L ih =>
        intro hl p hp
        rcases List.mem_cons.1 hp with rfl | hp
        · exact hl.1
        · exact ih hl.2 p hp
    exact key L hl (l, X) (look_mem' hX)
  · rcases h6 (l, m) (back_mem h) with h | h
    · exact .inl (Option.isSome_iff_exists.1 h)
    · exact .inr (unusedB_spec h)
end Go.Proofs.Ytjfammnjpeeahaa.AL
set_option linter.unusedSimpArgs false
set_option linter.unusedVariables false
namespace Go.Proofs.Ytjfammnjpeeahaa
open Go.Proofs.Ytjfammnjpeeahaa.AL
theorem getD_in {α : Type} {L : List α} {i : Nat} (h : i < L.length) (z : α) : L.getD i z ∈ L := by
  rw [List.getD_eq_getElem?_getD, List.getElem?_eq_getElem h]; exact List.getElem_mem h
def PLe (x y : PV) : Prop := ∀ (w : World) (g : Nat → Nat) (v : Value), RelP w g v x → RelP w g v y
inductive PLes : List PV → List PV → Prop
  | nil : PLes [] []
  | cons {x y : PV} {xs ys : List PV} (h : PLe x y) (t : PLes xs ys) : PLes (x :: xs) (y :: ys)
theorem PLes.rel {xs ys : List PV} (h : PLes xs ys) {w : World} {g : Nat → Nat} {vs : List Value} (r : RelPs w g vs xs) : RelPs w g vs ys := by
  induction h generalizing vs with
  | nil => exact r
  | cons h t ih =>
    obtain ⟨v, vs', rfl, h1, h2⟩ := r.cons_inv
    exact RelPs.cons (h _ _ _ h1) (ih h2)
theorem hi0 : hi 0#128 = 0 := by decide
theorem lo0 : lo 0#128 = 0 := by decide
theorem hi1 : hi 1#128 = 0 := by decide
theorem callFunc_enter {P : Program} {f : FuncId} {fn : Func} {c : Code} (args : Array Value) (w : World) (hf : P.funcs[f]? = some fn) (hb : fn.body = some c) (hname : (fn.name == "runtime.NumGoroutine") = false) :
    (callFunc f args).run P w = .ok (.enter f args) w := by
  simp only [callFunc, program, Sem.run, Bind.bind, Sem.bind, hf, hname, hb]; rfl
theorem ieq_ff {a b : Int} (h : a ≠ b) : (a == b) = false := by simpa using h
theorem ieq_tt {a b : Int} (h : a = b) : (a == b) = true := by simpa using h
theorem ine_ff {a b : Int} (h : a = b) : (a != b) = false := by simpa using h
theorem ine_tt {a b : Int} (h : a ≠ b) : (a != b) = true := by simpa using h
end Go.Proofs.Ytjfammnjpeeahaa
set_option linter.unusedSimpArgs false
set_option linter.unusedVariables false
namespace Go.Proofs.Ytjfammnjpeeahaa
open Go.Proofs.Ytjfammnjpeeahaa.AL
end Go.Proofs.Ytjfammnjpeeahaa
set_option linter.unusedSimpArgs false
set_option linter.unusedVariables false
namespace Go.Proofs.Ytjfammnjpeeahaa
open Go.Proofs.Ytjfammnjpeeahaa.AL
end Go.Proofs.Ytjfammnjpeeahaa
set_option linter.unusedSimpArgs false
set_option linter.unusedVariables false
namespace Go.Proofs.Ytjfammnjpeeahaa
open Go.Proofs.Ytjfammnjpeeahaa.AL
structure Rule where
  pr : Int
  mt : Cube
  kd : Int
  pt : Int
  tb : Int
  st : Cube
deriving DecidableEq
structure Port where
  kd : Int
  tn : Int
  pe : Int
  at' : Int
  co : Int
deriving DecidableEq
def ruleD (r : Rule) : List Dat := [.v (.int .i64 r.pr), .v (.int .u64 (hi r.mt.v)), .v (.int .u64 (lo r.mt.v)), .v (.int .u64 (hi r.mt.c)), .v (.int .u64 (lo r.mt.c)), .v (.int .i64 r.kd), .v (.int .i64 r.pt), .v (.int .i64 r.tb),
  .v (.int .u64 (hi r.st.v)), .v (.int .u64 (lo r.st.v)), .v (.int .u64 (hi r.st.c)), .v (.int .u64 (lo r.st.c))]
def r0 : Rule := ⟨0, ⟨0, 0⟩, 0, 0, 0, ⟨0, 0⟩⟩
def rowR (l : List Rule) : Nat → List Dat := fun i => ruleD (l.getD i r0)
theorem rowR_at (l : List Rule) (i : Nat) : rowR l i = ruleD (l.getD i r0) := rfl
theorem eqI_rule (a b : Rule) : eqI [a.pr, hi a.mt.v, lo a.mt.v, hi a.mt.c, lo a.mt.c, a.kd, a.pt, a.tb, hi a.st.v, lo a.st.v, hi a.st.c, lo a.st.c] [b.pr, hi b.mt.v, lo b.mt.v, hi b.mt.c, lo b.mt.c, b.kd, b.pt, b.tb, hi b.st.v, lo b.st.v, hi b.st.c, lo b.st.c] = (a == b) := by
  obtain ⟨a1, ⟨a2, a3⟩, a4, a5, a6, ⟨a7, a8⟩⟩ := a
  obtain ⟨b1, ⟨b2, b3⟩, b4, b5, b6, ⟨b7, b8⟩⟩ := b
  rw [Bool.eq_iff_iff]
  have e : ∀ x y : BitVec 128, ((hi x == hi y) && (lo x == lo y)) = true ↔ x = y := fun x y => by rw [hi_lo_eq]; exact beq_iff_eq
  simp only [Bool.and_eq_true, beq_iff_eq] at e
  simp only [eqI, Bool.and_eq_true, beq_iff_eq, Bool.and_true, Rule.mk.injEq, Cube.mk.injEq]
  rw [← e a2 b2, ← e a3 b3, ← e a7 b7, ← e a8 b8]
  constructor
  · rintro ⟨h1, h2, h3, h4, h5, h6, h7, h8, h9, h10, h11, h12⟩; exact ⟨h1, ⟨⟨h2, h3⟩, h4, h5⟩, h6, h7, h8, ⟨h9, h10⟩, h11, h12⟩
  · rintro ⟨h1, ⟨⟨h2, h3⟩, h4, h5⟩, h6, h7, h8, ⟨h9, h10⟩, h11, h12⟩; exact ⟨h1, h2, h3, h4, h5, h6, h7, h8, h9, h10, h11, h12⟩
end Go.Proofs.Ytjfammnjpeeahaa
set_option linter.unusedSimpArgs false
set_option linter.unusedVariables false
namespace Go.Proofs.Ytjfammnjpeeahaa
open Go.Proofs.Ytjfammnjpeeahaa.AL
def ruleSh : Sh := .pair (.int .i64) (.pair cubeSh (.pair (.pair (.int .i64) (.pair (.int .i64) (.pair (.int .i64) (.pair cubeSh .unit)))) .unit))
def in64 (n : Int) : Prop := -9223372036854775808 ≤ n ∧ n < 9223372036854775808
def Rule.ok (r : Rule) : Prop := in64 r.pr ∧ in64 r.kd ∧ in64 r.pt ∧ in64 r.tb
def Port.ok (p : Port) : Prop := in64 p.kd ∧ in64 p.tn ∧ in64 p.pe ∧ in64 p.at' ∧ in64 p.co
theorem is_rule {N : Nat} {ds : List Dat} (h : Is N ruleSh ds) : ∃ r : Rule, ds = ruleD r ∧ r.ok := by
  obtain ⟨_, _, rfl, ⟨a, rfl, wa⟩, _, _, rfl, hb, _, _, rfl, ⟨_, _, rfl, ⟨c, rfl, wc⟩, _, _, rfl, ⟨d, rfl, wd⟩, _, _, rfl, ⟨e, rfl, we⟩, _, _, rfl, hf, rfl⟩, rfl⟩ := h
  obtain ⟨x, rfl⟩ := is_cb hb
  obtain ⟨y, rfl⟩ := is_cb hf
  exact ⟨⟨a, x, c, d, e, y⟩, rfl, wf_i64 wa, wf_i64 wc, wf_i64 wd, wf_i64 we⟩
theorem is_rules' {N : Nat} {ds : List Dat} (h : Is N (.slice ruleSh) ds) : ∃ l : List Rule, ds = [.sl 12 l.length (rowR l)] ∧ l.length ≤ N ∧ ∀ r ∈ l, r.ok :=
  is_list ruleD r0 ruleSh (by simp only [ruleD, r0, hi_zero, lo_zero]; rfl) (fun ds hd => is_rule hd) h
theorem is_rules {N : Nat} {ds : List Dat} (h : Is N (.slice ruleSh) ds) : ∃ l : List Rule, ds = [.sl 12 l.length (rowR l)] ∧ l.length ≤ N := by
  obtain ⟨l, h1, h2, _⟩ := is_rules' h; exact ⟨l, h1, h2⟩
end Go.Proofs.Ytjfammnjpeeahaa
set_option linter.unusedSimpArgs false
set_option linter.unusedVariables false
namespace Go.Proofs.Ytjfammnjpeeahaa
open Go.Shelf Go.Proofs
def keysZ_ren : Go.Shelf.Ren := ⟨fun | 6 => 42 | 7 => 43 | 8 => 69 | 9 => 70 | 10 => 71 | 11 => 82 | n => n, fun | 0 => 0 | 3 => 34 | 4 => 4 | 23 => 95 | 24 => 65 | 26 => 3 | 27 => 102 | 28 => 103 | 33 => 125 | n => n, fun n => n⟩
theorem sortedZ_lay : SlLaysZI.n6 Try.prog keysZ_ren where
  mixed := by kernel_rfl
  f6 := ⟨Try.f42.name, by kernel_rfl, Try.func42.trans (congrArg some (by kernel_rfl))⟩
  f8 := ⟨Try.f69.name, by kernel_rfl, Try.func69.trans (congrArg some (by kernel_rfl))⟩
  f11 := ⟨Try.f82.name, by kernel_rfl, Try.func82.trans (congrArg some (by kernel_rfl))⟩
  t0 := Try.underlying0
  a0 := Try.isAgg0
  z0 := Try.sizeOf0
  v0 := Try.zeroValue0
  t24 := Try.underlying65
  a24 := Try.isAgg65
  z24 := Try.sizeOf65
  v24 := Try.zeroValue65
  t26 := Try.underlying3
  a26 := Try.isAgg3
  z26 := Try.sizeOf3
  v26 := Try.zeroValue3
  t28 := Try.underlying103
  a28 := Try.isAgg103
  z28 := Try.sizeOf103
  v28 := Try.zeroValue103
  i26 := by kernel_rfl
theorem keysZ_lay : SlLaysZI.n7 Try.prog keysZ_ren where
  mixed := by kernel_rfl
  f7 := ⟨Try.f43.name, by kernel_rfl, Try.func43.trans (congrArg some (by kernel_rfl))⟩
  f10 := ⟨Try.f71.name, by kernel_rfl, Try.func71.trans (congrArg some (by kernel_rfl))⟩
  t0 := Try.underlying0
  a0 := Try.isAgg0
  z0 := Try.sizeOf0
  v0 := Try.zeroValue0
  t4 := Try.underlying4
  a4 := Try.isAgg4
  z4 := Try.sizeOf4
  v4 := Try.zeroValue4
  t23 := Try.underlying95
  a23 := Try.isAgg95
  z23 := Try.sizeOf95
  v23 := Try.zeroValue95
  t26 := Try.underlying3
  a26 := Try.isAgg3
  z26 := Try.sizeOf3
  v26 := Try.zeroValue3
  t27 := Try.underlying102
  a27 := Try.isAgg102
  z27 := Try.sizeOf102
  v27 := Try.zeroValue102
  t28 := Try.underlying103
  a28 := Try.isAgg103
  z28 := Try.sizeOf103
  v28 := Try.zeroValue103
  t33 := Try.underlying125
  a33 := Try.isAgg125
  z33 := Try.sizeOf125
  v33 := Try.zeroValue125
end Go.Proofs.Ytjfammnjpeeahaa
set_option linter.unusedSimpArgs false
set_option linter.unusedVariables false
namespace Go.Proofs.Ytjfammnjpeeahaa
open Go.Proofs.Ytjfammnjpeeahaa.AL
def small (t : List (List Port)) : Prop := t.length ≤ 1048576 ∧ ∀ l ∈ t, l.length ≤ 1048576
end Go.Proofs.Ytjfammnjpeeahaa
set_option linter.unusedSimpArgs false
set_option linter.unusedVariables false
namespace Go.Proofs.Ytjfammnjpeeahaa
open Go.Proofs.Ytjfammnjpeeahaa.AL
end Go.Proofs.Ytjfammnjpeeahaa
set_option linter.unusedSimpArgs false
set_option linter.unusedVariables false
namespace Go.Proofs.Ytjfammnjpeeahaa
open Go.Proofs.Ytjfammnjpeeahaa.AL
end Go.Proofs.Ytjfammnjpeeahaa
set_option linter.unusedSimpArgs false
set_option linter.unusedVariables false
namespace Go.Proofs.Ytjfammnjpeeahaa
open Go.Proofs.Ytjfammnjpeeahaa.AL
end Go.Proofs.Ytjfammnjpeeahaa
set_option linter.unusedSimpArgs false
set_option linter.unusedVariables false
namespace Go.Proofs.Ytjfammnjpeeahaa
open Go.Proofs.Ytjfammnjpeeahaa.AL
end Go.Proofs.Ytjfammnjpeeahaa
set_option linter.unusedSimpArgs false
set_option linter.unusedVariables false
namespace Go.Proofs.Ytjfammnjpeeahaa
open Go.Proofs.Ytjfammnjpeeahaa.AL
end Go.Proofs.Ytjfammnjpeeahaa
set_option linter.unusedSimpArgs false
set_option linter.unusedVariables false
namespace Go.Proofs.Ytjfammnjpeeahaa
open Go.Proofs.Ytjfammnjpeeahaa.AL
def rowRR (l : List (List Rule)) : Nat → List Dat := fun i => [.sl 12 (l.getD i []).length (rowR (l.getD i []))]
theorem rowRR_at (l : List (List Rule)) (i : Nat) : rowRR l i = [.sl 12 (l.getD i []).length (rowR (l.getD i []))] := rfl
def smallR (t : List (List Rule)) : Prop := t.length ≤ 1048576 ∧ ∀ l ∈ t, l.length ≤ 1048576
theorem smallR_at {t : List (List Rule)} (h : smallR t) (i : Nat) : (t.getD i []).length ≤ 1048576 := by
  by_cases hi : i < t.length
  · exact h.2 _ (getD_in hi [])
  · rw [List.getD_eq_getElem?_getD, List.getElem?_eq_none (by omega)]; simp
end Go.Proofs.Ytjfammnjpeeahaa
set_option linter.unusedSimpArgs false
set_option linter.unusedVariables false
namespace Go.Proofs.Ytjfammnjpeeahaa
open Go Go.Proofs.Ytjfammnjpeeahaa.AL
def DLe (x y : Dat) : Prop := ∀ (w : World) (g : Nat → Nat) (v : Value), RelD w g v x → RelD w g v y
inductive DLes : List Dat → List Dat → Prop
  | nil : DLes [] []
  | cons {x y : Dat} {xs ys : List Dat} (h : DLe x y) (t : DLes xs ys) : DLes (x :: xs) (y :: ys)
theorem dle_refl (x : Dat) : DLe x x := fun _ _ _ h => h
theorem DLes.refl : ∀ xs : List Dat, DLes xs xs
  | [] => .nil
  | x :: xs => .cons (dle_refl x) (DLes.refl xs)
theorem DLes.of_eq {xs ys : List Dat} (h : xs = ys) : DLes xs ys := h ▸ DLes.refl xs
theorem DLes.length {xs ys : List Dat} (h : DLes xs ys) : xs.length = ys.length := by
  induction h with
  | nil => rfl
  | cons _ _ ih => simp [ih]
theorem DLes.at {xs ys : List Dat} (h : DLes xs ys) : ∀ {j : Nat} {y : Dat}, ys[j]? = some y → ∃ x, xs[j]? = some x ∧ DLe x y := by
  induction h with
  | nil => intro j y h; simp at h
  | cons h t ih =>
    intro j y hy
    cases j with
    | zero => simp at hy; subst hy; exact ⟨_, by simp, h⟩
    | succ j => simp at hy; obtain ⟨x, h1, h2⟩ := ih hy; exact ⟨x, by simpa using h1, h2⟩
theorem dle_sl {sz n n' : Nat} {f f' : Nat → List Dat} (hn : n = n') (hf : ∀ i, i < n → DLes (f i) (f' i)) : DLe (.sl sz n f) (.sl sz n' f') := by
  subst hn
  intro w g v r
  cases r with
  | sl0 a c sz f => exact .sl0 _ _ _ _
  | sl b off n c sz f u h1 h2 h3 h4 h5 =>
    refine .sl b off n c sz f' u h1 (fun i hi => by rw [← (hf i hi).length]; exact h2 i hi) h3 h4 (fun i j y hi hy => ?_)
    obtain ⟨x, k1, k2⟩ := (hf i hi).at hy
    exact k2 _ _ _ (h5 i j x hi k1)
theorem dle_emp {a : Option Addr} {c sz : Nat} {f : Nat → List Dat} : DLe (.v (.slice a 0 c)) (.sl sz 0 f) := by
  intro w g v r
  cases r
  exact .sl0 _ _ _ _
theorem ple_d {x y : Dat} (h : DLe x y) : PLe (.d x) (.d y) := by
  intro w g v r
  cases r with
  | d _ _ r => exact .d _ _ (h _ _ _ r)
theorem ple_agg {xs ys : List Dat} (h : DLes xs ys) : PLe (.agg xs) (.agg ys) := by
  intro w g v r
  cases r with
  | agg vs _ h1 h2 =>
    refine .agg vs ys (by rw [h1, h.length]) (fun j v y hv hy => ?_)
    obtain ⟨x, k1, k2⟩ := h.at hy
    exact k2 _ _ _ (h2 j v x hv k1)
end Go.Proofs.Ytjfammnjpeeahaa
set_option linter.unusedSimpArgs false
set_option linter.unusedVariables false
namespace Go.Proofs.Ytjfammnjpeeahaa
open Go Go.Proofs.Ytjfammnjpeeahaa.AL
theorem look_all {A : ASt} : ∀ {L : List (Nat × LV)}, (∀ p ∈ L, AL.look A.locs p.1 = some p.2) → ∀ l X, AL.look L l = some X → AL.look A.locs l = some X
  | L, h, l, X, hX => h (l, X) (look_mem hX)
theorem retM_list {P : Program} {fn : Func} {Q : List AV → List (Nat × LV) → Prop} {A : ASt} {rs : List AV} {L : List (Nat × LV)} (hq : Q rs L) (hr : ResVarsA P A fn.results.toList rs) (hl : ∀ p ∈ L, AL.look A.locs p.1 = some p.2) : retM P fn Q .ret A ∧ retM P fn Q .normal A :=
  ⟨⟨rs, L, hr, look_all hl, hq⟩, ⟨rs, L, hr, look_all hl, hq⟩⟩
theorem ClipAg_c (n : Nat) (f : Nat → List Dat) (hn : n ≤ 1099511627776) : ACalls Try.prog 49 [.d (.sl 1 n f)] (· = [.d (.sl 1 n f)]) := by
  refine acalls_of_awp Try.func49 rfl (by decide +kernel) (by rw [Try.ntmps49]; simp) ?_; rw [Try.ntmps49]; simp only [frOf]
  (repeat (first | refine j4 ?_ | refine x6 rfl ?_ | refine awp_no rfl ?_ | refine j5 ?_ | (refine q0 fun K hK => ?_) | (refine z6 (by kernel_rfl) (by kernel_rfl) fun K hK => ?_) | ((first | refine j0 ?_ | refine z1 ?_ | ((first | refine x3 (hK _ ?_) | refine x4 (hK _ _ (z2 (by kernel_rfl)) ?_)); clear hK K)); (first | show AWP _ _ _ _ _ | ((try simp only [x5]); first | show loopQ _ _ _ _ _ _ | show cutQ _ _ _ _ | show AWP _ _ _ _ _))) | ((first | refine j6 [] rfl ?_ | refine z7 [] rfl ?_); simp (maxSteps := 2000000) (disch := omega) only [go_sem, seval]; (repeat (first | refine ⟨by omega, ?_⟩ | refine ⟨True.intro, ?_⟩)))))
  refine awp_ret ⟨_, ?_, rfl⟩; rw [Try.results49]; simp (disch := omega) only [ResVars, ResVar, ptrLoc, go_sem, seval]
  rfl
theorem rowRR_snoc (l : List (List Rule)) (i : Nat) (hi : i < l.length) (k : Nat) (hk : k < i + 1) : catF i (rowRR l) (fun j => [[Dat.sl 12 (l.getD i []).length (rowR (l.getD i []))]].getD j []) k = rowRR l k := by
  unfold catF
  split
  · rfl
  · have : k = i := by omega
    subst this
    rw [Nat.sub_self]; rfl
def deepAI (l : List (List Rule)) (i : Fin (l.length + 1)) : ASt :=
  ⟨[(9, .p (.d (.v (.int .i64 (i.val : Int))))), (8, .p (.d (.v (.int .i64 (l.length : Int))))), (7, .p (.d (.sl 1 l.length (rowRR l)))), (3, .gr 3 i.val 1 i.val (rowRR l))], [(3, .grow 35 1 i.val i.val)]⟩
set_option maxRecDepth 100000 in
set_option maxHeartbeats 1000000 in
theorem deepA_c (l : List (List Rule)) (hs : smallR l) : ACalls Try.prog 39 [.d (.sl 1 l.length (rowRR l))] (· = [.d (.sl 1 l.length (rowRR l))]) := by
  have hs1 := hs.1
  have cl := ClipAg_c l.length (rowRR l) (by omega)
  refine acalls_of_awp Try.func39 rfl (by decide +kernel) (by rw [Try.ntmps39]; simp) ?_; rw [Try.ntmps39]; simp only [frOf]
  (repeat ((fail_if_success (show AWP _ _ (.region 2 _ _) _ _)); first | refine j4 ?_ | refine x6 rfl ?_ | refine awp_no rfl ?_ | refine j5 ?_ | (refine q0 fun K hK => ?_) | (refine z6 (by kernel_rfl) (by kernel_rfl) fun K hK => ?_) | ((first | refine j0 ?_ | refine z1 ?_ | ((first | refine x3 (hK _ ?_) | refine x4 (hK _ _ (z2 (by kernel_rfl)) ?_)); clear hK K)); (first | show AWP _ _ _ _ _ | ((try simp only [x5]); first | show loopQ _ _ _ _ _ _ | show cutQ _ _ _ _ | show AWP _ _ _ _ _))) | ((first | refine j6 [10015] rfl ?_ | refine z7 [10015] rfl ?_); simp (maxSteps := 2000000) (disch := omega) only [go_sem, seval]; (repeat (first | refine ⟨by omega, ?_⟩ | refine ⟨True.intro, ?_⟩)))))
  refine awp_grow 3 3 1 35 (rowRR l) rfl (by kernel_rfl) rfl ?_
  (repeat (first | refine j4 ?_ | refine x6 rfl ?_ | refine awp_no rfl ?_ | refine j5 ?_ | (refine q0 fun K hK => ?_) | (refine z6 (by kernel_rfl) (by kernel_rfl) fun K hK => ?_) | ((first | refine j0 ?_ | refine z1 ?_ | ((first | refine x3 (hK _ ?_) | refine x4 (hK _ _ (z2 (by kernel_rfl)) ?_)); clear hK K)); (first | show AWP _ _ _ _ _ | ((try simp only [x5]); first | show loopQ _ _ _ _ _ _ | show cutQ _ _ _ _ | show AWP _ _ _ _ _))) | ((first | refine j6 [10015] rfl ?_ | refine z7 [10015] rfl ?_); simp (maxSteps := 2000000) (disch := omega) only [go_sem, seval]; (repeat (first | refine ⟨by omega, ?_⟩ | refine ⟨True.intro, ?_⟩)))))
  refine awp_loop (deepAI l) (fun s => l.length - s.val) ⟨0, by omega⟩ ?_ (fun s => ?_)
  · unfold deepAI
    refine Weak.list ?_ ?_; (all_goals simp (disch := omega) only [AllF, AllL, le_self, le_top, lle_self, exists_eq_left', Option.some.injEq, go_sem, seval]); (all_goals (repeat' (with_reducible apply And.intro))); (all_goals try (first | exact le_eq rfl | (refine le_int ?_; omega) | (refine le_eq ?_; simp; done)))
  obtain ⟨i, hi⟩ := s
  unfold deepAI
  by_cases h : i < l.length
  · have r1 := rowRR_at l i
    have hb := smallR_at hs i
    have pt := rowRR_snoc l i h
    generalize l.getD i [] = x at r1 hb pt
    (repeat ((fail_if_success (show AWP _ _ (.region 7 _ _) _ _)); first | refine j4 ?_ | refine x6 rfl ?_ | refine awp_no rfl ?_ | refine j5 ?_ | (refine q0 fun K hK => ?_) | (refine z6 (by kernel_rfl) (by kernel_rfl) fun K hK => ?_) | ((first | refine j0 ?_ | refine z1 ?_ | ((first | refine x3 (hK _ ?_) | refine x4 (hK _ _ (z2 (by kernel_rfl)) ?_)); clear hK K)); (first | show AWP _ _ _ _ _ | ((try simp only [x5]); first | show loopQ _ _ _ _ _ _ | show cutQ _ _ _ _ | show AWP _ _ _ _ _))) | ((first | refine j6 [10015] rfl ?_ | refine z7 [10015] rfl ?_); simp (maxSteps := 2000000) (disch := omega) only [go_sem, seval, r1]; (repeat (first | refine ⟨by omega, ?_⟩ | refine ⟨True.intro, ?_⟩)))))
    refine awp_freeze 6 15 0 12 x.length 44 (rowR x) rfl rfl ?_
    (repeat (first | refine j4 ?_ | refine x6 rfl ?_ | refine awp_no rfl ?_ | refine j5 ?_ | (refine q0 fun K hK => ?_) | (refine z6 (by kernel_rfl) (by kernel_rfl) fun K hK => ?_) | ((first | refine j0 ?_ | refine z1 ?_ | ((first | refine x3 (hK _ ?_) | refine x4 (hK _ _ (z2 (by kernel_rfl)) ?_)); clear hK K)); (first | show AWP _ _ _ _ _ | ((try simp only [x5]); first | show loopQ _ _ _ _ _ _ | show cutQ _ _ _ _ | show AWP _ _ _ _ _))) | ((first | refine j6 [10015] rfl ?_ | refine z7 [10015] rfl ?_); simp (maxSteps := 2000000) (disch := omega) only [go_sem, seval, r1, look_dropL]; (repeat (first | refine ⟨by omega, ?_⟩ | refine ⟨True.intro, ?_⟩)))))
    refine ⟨⟨i + 1, by omega⟩, by simp only []; omega, ?_⟩
    refine Weak.list ?_ ?_; (all_goals simp (disch := omega) only [AllF, AllL, le_self, le_top, lle_self, exists_eq_left', Option.some.injEq, go_sem, seval, r1, look_dropL]); (all_goals (repeat' (with_reducible apply And.intro))); (all_goals try (first | exact le_eq rfl | (refine le_int ?_; omega) | (refine le_eq ?_; simp; done)))
    · exact le_grgr rfl rfl (fun k hk => pt k hk)
  · have : i = l.length := by omega
    subst this
    (repeat (first | refine j4 ?_ | refine x6 rfl ?_ | refine awp_no rfl ?_ | refine j5 ?_ | (refine q0 fun K hK => ?_) | (refine z6 (by kernel_rfl) (by kernel_rfl) fun K hK => ?_) | ((first | refine j0 ?_ | refine z1 ?_ | ((first | refine x3 (hK _ ?_) | refine x4 (hK _ _ (z2 (by kernel_rfl)) ?_)); clear hK K)); (first | show AWP _ _ _ _ _ | ((try simp only [x5]); first | show loopQ _ _ _ _ _ _ | show cutQ _ _ _ _ | show AWP _ _ _ _ _))) | ((first | refine walkS_call3 rfl rfl rfl ?_ | refine walkD_call3 rfl rfl rfl ?_); simp (maxSteps := 2000000) (disch := omega) only [go_sem, seval]; (first | refine ⟨_, cl, ?_⟩)) | ((first | refine j6 [10015] rfl ?_ | refine z7 [10015] rfl ?_); simp (maxSteps := 2000000) (disch := omega) only [go_sem, seval]; (repeat (first | refine ⟨by omega, ?_⟩ | refine ⟨True.intro, ?_⟩)))))
    refine awp_ret ⟨_, ?_, rfl⟩; rw [Try.results39]; simp (disch := omega) only [ResVars, ResVar, ptrLoc, go_sem, seval]
structure Ag where
  n : Int
  cur : Int
  ser : Int
  es : List (Int × List (List Rule))
def tabPV (t : List (List Rule)) : PV := .d (.sl 1 t.length (rowRR t))
def agE (es : List (Int × List (List Rule))) : List (List Int × PV) := es.map fun e => ([e.1], tabPV e.2)
def agC (l m : Nat) (a : Ag) : LV := .cells 97 [.p (.d (.v (.int .i64 a.n))), .p (.d (.v (.int .i64 a.cur))), .p (.d (.v (.int .i64 a.ser))), .mp m]
def agL (a : Ag) : List (Nat × LV) := [(1000, agC 1000 1001 a), (1001, .map [.i64] (agE a.es))]
def getA (v : Int) : List (Int × List (List Rule)) → Option (List (List Rule))
  | [] => none
  | e :: r => if e.1 = v then some e.2 else getA v r
def putA (v : Int) (t : List (List Rule)) : List (Int × List (List Rule)) → List (Int × List (List Rule))
  | [] => [(v, t)]
  | e :: r => if e.1 = v then (v, t) :: r else e :: putA v t r
def delA (v : Int) : List (Int × List (List Rule)) → List (Int × List (List Rule))
  | [] => []
  | e :: r => if e.1 = v then r else e :: delA v r
theorem one_iff (a b : Int) : ([a] = [b]) ↔ a = b := by simp
theorem findM_ag (v : Int) : ∀ es, findM [v] (agE es) = (getA v es).map tabPV
  | [] => rfl
  | e :: r => by
    have ih := findM_ag v r
    unfold agE at ih ⊢
    simp only [List.map_cons, findM, getA, one_iff]
    split
    · rfl
    · exact ih
theorem putM_ag (v : Int) (t : List (List Rule)) : ∀ es, putM [v] (tabPV t) (agE es) = agE (putA v t es)
  | [] => rfl
  | e :: r => by
    have ih := putM_ag v t r
    unfold agE at ih ⊢
    simp only [List.map_cons, putM, putA, one_iff]
    split
    · rfl
    · simp only [List.map_cons, ih]
theorem delM_ag (v : Int) : ∀ es, delM [v] (agE es) = agE (delA v es)
  | [] => rfl
  | e :: r => by
    have ih := delM_ag v r
    unfold agE at ih ⊢
    simp only [List.map_cons, delM, delA, one_iff]
    split
    · rfl
    · simp only [List.map_cons, ih]
set_option maxRecDepth 100000 in
theorem New_c (n v s : Int) (t : List (List Rule)) (ht : smallR t) : MCalls Try.prog 11 [.p (.d (.v (.int .i64 n))), .p (.d (.v (.int .i64 v))), .p (.d (.v (.int .i64 s))), .p (.d (.sl 1 t.length (rowRR t)))] []
    (fun rs M => rs = [.loc 18 0] ∧ M = [(18, agC 18 12 ⟨n, v, s, [(v, t)]⟩), (12, .map [.i64] (agE [(v, t)]))]) := by
  refine mcalls_of_awp Try.func11 rfl (by decide +kernel) (by rw [Try.ntmps11]; simp) (fun l X h => by simp only [AL.look] at h; (repeat' split at h); all_goals first | omega | cases h) ?_; rw [Try.ntmps11]; simp only [frA]
  (repeat (first | refine j4 ?_ | refine x6 rfl ?_ | refine awp_no rfl ?_ | refine j5 ?_ | (refine q0 fun K hK => ?_) | (refine z6 (by kernel_rfl) (by kernel_rfl) fun K hK => ?_) | ((first | refine j0 ?_ | refine z1 ?_ | ((first | refine x3 (hK _ ?_) | refine x4 (hK _ _ (z2 (by kernel_rfl)) ?_)); clear hK K)); (first | show AWP _ _ _ _ _ | ((try simp only [x5]); first | show loopQ _ _ _ _ _ _ | show cutQ _ _ _ _ | show AWP _ _ _ _ _))) | ((first | refine walkS_call3 rfl rfl rfl ?_ | refine walkD_call3 rfl rfl rfl ?_); simp (maxSteps := 2000000) (disch := omega) only [go_sem, seval, agC, agE, tabPV, putM, agL]; (first | refine ⟨_, deepA_c t ht, ?_⟩)) | ((first | refine j6 [12, 18] rfl ?_ | refine z7 [12, 18] rfl ?_); simp (maxSteps := 2000000) (disch := omega) only [go_sem, seval, agC, agE, tabPV, putM, agL]; (repeat (first | refine ⟨by omega, ?_⟩ | refine ⟨True.intro, ?_⟩)))))
  refine awp_ret ?_
  refine (retM_list ⟨rfl, rfl⟩ ?_ ?_).1
  · exact ⟨rfl, trivial⟩
  · simp [AL.look, agC, agE, tabPV, putM]
def intP (x : Int) : AV := .p (.d (.v (.int .i64 x)))
structure Ltr where
  kd : Int
  fr : Int
  to : Int
  ve : Int
  se : Int
  ts : List (List Rule)
def letD (l : Ltr) : List Dat := [.v (.int .i64 l.kd), .v (.int .i64 l.fr), .v (.int .i64 l.to), .v (.int .i64 l.ve), .v (.int .i64 l.se), .sl 1 l.ts.length (rowRR l.ts)]
set_option maxRecDepth 100000 in
theorem Current_c (a : Ag) : MCalls Try.prog 18 [.loc 1000 0] (agL a) (fun rs M => rs = [intP a.cur] ∧ M = agL a) := by
  unfold agL
  refine mcalls_of_awp Try.func18 rfl (by decide +kernel) (by rw [Try.ntmps18]; simp) (fun l X h => by simp only [AL.look] at h; (repeat' split at h); all_goals first | omega | cases h) ?_; rw [Try.ntmps18]; simp only [frA]
  (repeat (first | refine j4 ?_ | refine x6 rfl ?_ | refine awp_no rfl ?_ | refine j5 ?_ | (refine q0 fun K hK => ?_) | (refine z6 (by kernel_rfl) (by kernel_rfl) fun K hK => ?_) | ((first | refine j0 ?_ | refine z1 ?_ | ((first | refine x3 (hK _ ?_) | refine x4 (hK _ _ (z2 (by kernel_rfl)) ?_)); clear hK K)); (first | show AWP _ _ _ _ _ | ((try simp only [x5]); first | show loopQ _ _ _ _ _ _ | show cutQ _ _ _ _ | show AWP _ _ _ _ _))) | ((first | refine j6 [] rfl ?_ | refine z7 [] rfl ?_); simp (maxSteps := 2000000) (disch := omega) only [go_sem, seval, agL, agC, intP]; (repeat (first | refine ⟨by omega, ?_⟩ | refine ⟨True.intro, ?_⟩)))))
  refine awp_ret ?_
  refine (retM_list ⟨rfl, rfl⟩ ?_ ?_).1
  · exact ⟨rfl, trivial⟩
  · simp [AL.look, agC, agL]
set_option maxRecDepth 100000 in
theorem Tables_some (a : Ag) (v : Int) (t : List (List Rule)) (h : getA v a.es = some t) (ht : smallR t) : MCalls Try.prog 15 [.loc 1000 0, intP v] (agL a) (fun rs M => rs = [.p (tabPV t), .p (.d (.v (.bool true)))] ∧ M = agL a) := by
  have hf : findM [v] (agE a.es) = some (tabPV t) := by rw [findM_ag, h]; rfl
  unfold agL
  refine mcalls_of_awp Try.func15 rfl (by decide +kernel) (by rw [Try.ntmps15]; simp) (fun l X h => by simp only [AL.look] at h; (repeat' split at h); all_goals first | omega | cases h) ?_; rw [Try.ntmps15]; simp only [frA]
  (repeat (first | refine j4 ?_ | refine x6 rfl ?_ | refine awp_no rfl ?_ | refine j5 ?_ | (refine q0 fun K hK => ?_) | (refine z6 (by kernel_rfl) (by kernel_rfl) fun K hK => ?_) | ((first | refine j0 ?_ | refine z1 ?_ | ((first | refine x3 (hK _ ?_) | refine x4 (hK _ _ (z2 (by kernel_rfl)) ?_)); clear hK K)); (first | show AWP _ _ _ _ _ | ((try simp only [x5]); first | show loopQ _ _ _ _ _ _ | show cutQ _ _ _ _ | show AWP _ _ _ _ _))) | ((first | refine walkS_call3 rfl rfl rfl ?_ | refine walkD_call3 rfl rfl rfl ?_); simp (maxSteps := 2000000) (disch := omega) only [go_sem, seval, agL, agC, intP, hf, tabPV]; (first | refine ⟨_, deepA_c t ht, ?_⟩)) | ((first | refine j6 [] rfl ?_ | refine z7 [] rfl ?_); simp (maxSteps := 2000000) (disch := omega) only [go_sem, seval, agL, agC, intP, hf, tabPV]; (repeat (first | refine ⟨by omega, ?_⟩ | refine ⟨True.intro, ?_⟩)))))
  refine awp_ret ?_
  refine (retM_list ⟨rfl, rfl⟩ ?_ ?_).1
  · exact ⟨rfl, rfl, trivial⟩
  · simp [AL.look, agC, agL]
set_option maxRecDepth 100000 in
theorem install_c (a : Ag) (l : Ltr) (ht : smallR l.ts) : MCalls Try.prog 66 [.loc 1000 0, .p (.agg (letD l))] (agL a) (fun rs M => rs = [intP 2] ∧ M = agL { a with es := putA l.ve l.ts a.es }) := by
  have hp := putM_ag l.ve l.ts a.es
  unfold tabPV at hp
  unfold agL
  refine mcalls_of_awp Try.func66 rfl (by decide +kernel) (by rw [Try.ntmps66]; simp) (fun l X h => by simp only [AL.look] at h; (repeat' split at h); all_goals first | omega | cases h) ?_; rw [Try.ntmps66]; simp only [frA]
  (repeat (first | refine j4 ?_ | refine x6 rfl ?_ | refine awp_no rfl ?_ | refine j5 ?_ | (refine q0 fun K hK => ?_) | (refine z6 (by kernel_rfl) (by kernel_rfl) fun K hK => ?_) | ((first | refine j0 ?_ | refine z1 ?_ | ((first | refine x3 (hK _ ?_) | refine x4 (hK _ _ (z2 (by kernel_rfl)) ?_)); clear hK K)); (first | show AWP _ _ _ _ _ | ((try simp only [x5]); first | show loopQ _ _ _ _ _ _ | show cutQ _ _ _ _ | show AWP _ _ _ _ _))) | ((first | refine walkS_call3 rfl rfl rfl ?_ | refine walkD_call3 rfl rfl rfl ?_); simp (maxSteps := 2000000) (disch := omega) only [go_sem, seval, agL, agC, intP, letD, hp]; (first | refine ⟨_, deepA_c l.ts ht, ?_⟩)) | ((first | refine j6 [] rfl ?_ | refine z7 [] rfl ?_); simp (maxSteps := 2000000) (disch := omega) only [go_sem, seval, agL, agC, intP, letD, hp]; (repeat (first | refine ⟨by omega, ?_⟩ | refine ⟨True.intro, ?_⟩)))))
  refine awp_ret ?_
  refine (retM_list ⟨rfl, rfl⟩ ?_ ?_).1
  · exact ⟨rfl, trivial⟩
  · simp [AL.look, agC, agL]
set_option maxRecDepth 100000 in
theorem flip_some (a : Ag) (l : Ltr) (t : List (List Rule)) (h : getA l.ve a.es = some t) : MCalls Try.prog 67 [.loc 1000 0, .p (.agg (letD l))] (agL a) (fun rs M => rs = [intP 4] ∧ M = agL { a with cur := l.ve }) := by
  have hf : findM [l.ve] (agE a.es) = some (tabPV t) := by rw [findM_ag, h]; rfl
  unfold agL
  refine mcalls_of_awp Try.func67 rfl (by decide +kernel) (by rw [Try.ntmps67]; simp) (fun l X h => by simp only [AL.look] at h; (repeat' split at h); all_goals first | omega | cases h) ?_; rw [Try.ntmps67]; simp only [frA]
  (repeat (first | refine j4 ?_ | refine x6 rfl ?_ | refine awp_no rfl ?_ | refine j5 ?_ | (refine q0 fun K hK => ?_) | (refine z6 (by kernel_rfl) (by kernel_rfl) fun K hK => ?_) | ((first | refine j0 ?_ | refine z1 ?_ | ((first | refine x3 (hK _ ?_) | refine x4 (hK _ _ (z2 (by kernel_rfl)) ?_)); clear hK K)); (first | show AWP _ _ _ _ _ | ((try simp only [x5]); first | show loopQ _ _ _ _ _ _ | show cutQ _ _ _ _ | show AWP _ _ _ _ _))) | ((first | refine j6 [] rfl ?_ | refine z7 [] rfl ?_); simp (maxSteps := 2000000) (disch := omega) only [go_sem, seval, agL, agC, intP, letD, hf, tabPV]; (repeat (first | refine ⟨by omega, ?_⟩ | refine ⟨True.intro, ?_⟩)))))
  refine awp_ret ?_
  refine (retM_list ⟨rfl, rfl⟩ ?_ ?_).1
  · exact ⟨rfl, trivial⟩
  · simp [AL.look, agC, agL]
set_option maxRecDepth 100000 in
theorem flip_none (a : Ag) (l : Ltr) (h : getA l.ve a.es = none) : MCalls Try.prog 67 [.loc 1000 0, .p (.agg (letD l))] (agL a) (fun rs M => rs = [intP 0] ∧ M = agL a) := by
  have hf : findM [l.ve] (agE a.es) = none := by rw [findM_ag, h]; rfl
  unfold agL
  refine mcalls_of_awp Try.func67 rfl (by decide +kernel) (by rw [Try.ntmps67]; simp) (fun l X h => by simp only [AL.look] at h; (repeat' split at h); all_goals first | omega | cases h) ?_; rw [Try.ntmps67]; simp only [frA]
  (repeat (first | refine j4 ?_ | refine x6 rfl ?_ | refine awp_no rfl ?_ | refine j5 ?_ | (refine q0 fun K hK => ?_) | (refine z6 (by kernel_rfl) (by kernel_rfl) fun K hK => ?_) | ((first | refine j0 ?_ | refine z1 ?_ | ((first | refine x3 (hK _ ?_) | refine x4 (hK _ _ (z2 (by kernel_rfl)) ?_)); clear hK K)); (first | show AWP _ _ _ _ _ | ((try simp only [x5]); first | show loopQ _ _ _ _ _ _ | show cutQ _ _ _ _ | show AWP _ _ _ _ _))) | ((first | refine j6 [] rfl ?_ | refine z7 [] rfl ?_); simp (maxSteps := 2000000) (disch := omega) only [go_sem, seval, agL, agC, intP, letD, hf, tabPV]; (repeat (first | refine ⟨by omega, ?_⟩ | refine ⟨True.intro, ?_⟩)))))
  refine awp_ret ?_
  refine (retM_list ⟨rfl, rfl⟩ ?_ ?_).1
  · exact ⟨rfl, trivial⟩
  · simp [AL.look, agC, agL]
set_option maxRecDepth 100000 in
theorem forget_same (a : Ag) (l : Ltr) (h : l.ve = a.cur) : MCalls Try.prog 68 [.loc 1000 0, .p (.agg (letD l))] (agL a) (fun rs M => rs = [intP 0] ∧ M = agL a) := by
  have q : (l.ve == a.cur) = true := ieq_tt h
  unfold agL
  refine mcalls_of_awp Try.func68 rfl (by decide +kernel) (by rw [Try.ntmps68]; simp) (fun l X h => by simp only [AL.look] at h; (repeat' split at h); all_goals first | omega | cases h) ?_; rw [Try.ntmps68]; simp only [frA]
  (repeat (first | refine j4 ?_ | refine x6 rfl ?_ | refine awp_no rfl ?_ | refine j5 ?_ | (refine q0 fun K hK => ?_) | (refine z6 (by kernel_rfl) (by kernel_rfl) fun K hK => ?_) | ((first | refine j0 ?_ | refine z1 ?_ | ((first | refine x3 (hK _ ?_) | refine x4 (hK _ _ (z2 (by kernel_rfl)) ?_)); clear hK K)); (first | show AWP _ _ _ _ _ | ((try simp only [x5]); first | show loopQ _ _ _ _ _ _ | show cutQ _ _ _ _ | show AWP _ _ _ _ _))) | ((first | refine j6 [] rfl ?_ | refine z7 [] rfl ?_); simp (maxSteps := 2000000) (disch := omega) only [go_sem, seval, agL, agC, intP, letD, q]; (repeat (first | refine ⟨by omega, ?_⟩ | refine ⟨True.intro, ?_⟩)))))
  refine awp_ret ?_
  refine (retM_list ⟨rfl, rfl⟩ ?_ ?_).1
  · exact ⟨rfl, trivial⟩
  · simp [AL.look, agC, agL]
set_option maxRecDepth 100000 in
theorem forget_other (a : Ag) (l : Ltr) (h : l.ve ≠ a.cur) : MCalls Try.prog 68 [.loc 1000 0, .p (.agg (letD l))] (agL a) (fun rs M => rs = [intP 6] ∧ M = agL { a with es := delA l.ve a.es }) := by
  have q : (l.ve == a.cur) = false := ieq_ff h
  have hd := delM_ag l.ve a.es
  unfold agL
  refine mcalls_of_awp Try.func68 rfl (by decide +kernel) (by rw [Try.ntmps68]; simp) (fun l X h => by simp only [AL.look] at h; (repeat' split at h); all_goals first | omega | cases h) ?_; rw [Try.ntmps68]; simp only [frA]
  (repeat (first | refine j4 ?_ | refine x6 rfl ?_ | refine awp_no rfl ?_ | refine j5 ?_ | (refine q0 fun K hK => ?_) | (refine z6 (by kernel_rfl) (by kernel_rfl) fun K hK => ?_) | ((first | refine j0 ?_ | refine z1 ?_ | ((first | refine x3 (hK _ ?_) | refine x4 (hK _ _ (z2 (by kernel_rfl)) ?_)); clear hK K)); (first | show AWP _ _ _ _ _ | ((try simp only [x5]); first | show loopQ _ _ _ _ _ _ | show cutQ _ _ _ _ | show AWP _ _ _ _ _))) | ((first | refine j6 [] rfl ?_ | refine z7 [] rfl ?_); simp (maxSteps := 2000000) (disch := omega) only [go_sem, seval, agL, agC, intP, letD, q, hd]; (repeat (first | refine ⟨by omega, ?_⟩ | refine ⟨True.intro, ?_⟩)))))
  refine awp_ret ?_
  refine (retM_list ⟨rfl, rfl⟩ ?_ ?_).1
  · exact ⟨rfl, trivial⟩
  · simp [AL.look, agC, agL]
theorem does_1 : ACalls Try.prog 40 [.d (.v (.int .i64 1))] (· = [.fn (.func 66) [] []]) := by
  refine acalls_of_awp Try.func40 rfl (by decide +kernel) (by rw [Try.ntmps40]; simp) ?_; rw [Try.ntmps40]; simp only [frOf]
  (repeat (first | refine j4 ?_ | refine x6 rfl ?_ | refine awp_no rfl ?_ | refine j5 ?_ | (refine q0 fun K hK => ?_) | (refine z6 (by kernel_rfl) (by kernel_rfl) fun K hK => ?_) | ((first | refine j0 ?_ | refine z1 ?_ | ((first | refine x3 (hK _ ?_) | refine x4 (hK _ _ (z2 (by kernel_rfl)) ?_)); clear hK K)); (first | show AWP _ _ _ _ _ | ((try simp only [x5]); first | show loopQ _ _ _ _ _ _ | show cutQ _ _ _ _ | show AWP _ _ _ _ _))) | ((first | refine j6 [] rfl ?_ | refine z7 [] rfl ?_); simp (maxSteps := 2000000) (disch := omega) only [go_sem, seval]; (repeat (first | refine ⟨by omega, ?_⟩ | refine ⟨True.intro, ?_⟩)))))
  refine awp_ret ⟨_, ?_, rfl⟩; rw [Try.results40]; simp (disch := omega) only [ResVars, ResVar, ptrLoc, go_sem, seval]
theorem does_3 : ACalls Try.prog 40 [.d (.v (.int .i64 3))] (· = [.fn (.func 67) [] []]) := by
  refine acalls_of_awp Try.func40 rfl (by decide +kernel) (by rw [Try.ntmps40]; simp) ?_; rw [Try.ntmps40]; simp only [frOf]
  (repeat (first | refine j4 ?_ | refine x6 rfl ?_ | refine awp_no rfl ?_ | refine j5 ?_ | (refine q0 fun K hK => ?_) | (refine z6 (by kernel_rfl) (by kernel_rfl) fun K hK => ?_) | ((first | refine j0 ?_ | refine z1 ?_ | ((first | refine x3 (hK _ ?_) | refine x4 (hK _ _ (z2 (by kernel_rfl)) ?_)); clear hK K)); (first | show AWP _ _ _ _ _ | ((try simp only [x5]); first | show loopQ _ _ _ _ _ _ | show cutQ _ _ _ _ | show AWP _ _ _ _ _))) | ((first | refine j6 [] rfl ?_ | refine z7 [] rfl ?_); simp (maxSteps := 2000000) (disch := omega) only [go_sem, seval]; (repeat (first | refine ⟨by omega, ?_⟩ | refine ⟨True.intro, ?_⟩)))))
  refine awp_ret ⟨_, ?_, rfl⟩; rw [Try.results40]; simp (disch := omega) only [ResVars, ResVar, ptrLoc, go_sem, seval]
theorem does_5 : ACalls Try.prog 40 [.d (.v (.int .i64 5))] (· = [.fn (.func 68) [] []]) := by
  refine acalls_of_awp Try.func40 rfl (by decide +kernel) (by rw [Try.ntmps40]; simp) ?_; rw [Try.ntmps40]; simp only [frOf]
  (repeat (first | refine j4 ?_ | refine x6 rfl ?_ | refine awp_no rfl ?_ | refine j5 ?_ | (refine q0 fun K hK => ?_) | (refine z6 (by kernel_rfl) (by kernel_rfl) fun K hK => ?_) | ((first | refine j0 ?_ | refine z1 ?_ | ((first | refine x3 (hK _ ?_) | refine x4 (hK _ _ (z2 (by kernel_rfl)) ?_)); clear hK K)); (first | show AWP _ _ _ _ _ | ((try simp only [x5]); first | show loopQ _ _ _ _ _ _ | show cutQ _ _ _ _ | show AWP _ _ _ _ _))) | ((first | refine j6 [] rfl ?_ | refine z7 [] rfl ?_); simp (maxSteps := 2000000) (disch := omega) only [go_sem, seval]; (repeat (first | refine ⟨by omega, ?_⟩ | refine ⟨True.intro, ?_⟩)))))
  refine awp_ret ⟨_, ?_, rfl⟩; rw [Try.results40]; simp (disch := omega) only [ResVars, ResVar, ptrLoc, go_sem, seval]
theorem does_no (k : Int) (h1 : k ≠ 1) (h3 : k ≠ 3) (h5 : k ≠ 5) : ACalls Try.prog 40 [.d (.v (.int .i64 k))] (· = [.d (.v .nilFunc)]) := by
  have q1 : (k == 1) = false := ieq_ff h1
  have q3 : (k == 3) = false := ieq_ff h3
  have q5 : (k == 5) = false := ieq_ff h5
  refine acalls_of_awp Try.func40 rfl (by decide +kernel) (by rw [Try.ntmps40]; simp) ?_; rw [Try.ntmps40]; simp only [frOf]
  (repeat (first | refine j4 ?_ | refine x6 rfl ?_ | refine awp_no rfl ?_ | refine j5 ?_ | (refine q0 fun K hK => ?_) | (refine z6 (by kernel_rfl) (by kernel_rfl) fun K hK => ?_) | ((first | refine j0 ?_ | refine z1 ?_ | ((first | refine x3 (hK _ ?_) | refine x4 (hK _ _ (z2 (by kernel_rfl)) ?_)); clear hK K)); (first | show AWP _ _ _ _ _ | ((try simp only [x5]); first | show loopQ _ _ _ _ _ _ | show cutQ _ _ _ _ | show AWP _ _ _ _ _))) | ((first | refine j6 [] rfl ?_ | refine z7 [] rfl ?_); simp (maxSteps := 2000000) (disch := omega) only [go_sem, seval, q1, q3, q5]; (repeat (first | refine ⟨by omega, ?_⟩ | refine ⟨True.intro, ?_⟩)))))
  refine awp_ret ⟨_, ?_, rfl⟩; rw [Try.results40]; simp (disch := omega) only [ResVars, ResVar, ptrLoc, go_sem, seval, q1, q3, q5]
end Go.Proofs.Ytjfammnjpeeahaa
set_option linter.unusedSimpArgs false
set_option linter.unusedVariables false
namespace Go.Proofs.Ytjfammnjpeeahaa
open Go Go.Proofs.Ytjfammnjpeeahaa.AL
def nilA : AV := .p (.d (.v (.slice none 0 0)))
set_option maxRecDepth 100000 in
theorem Letter_late (a : Ag) (l : Ltr) (h : l.fr ≠ -1 ∨ l.to ≠ a.n ∨ l.se < a.ser) : MCalls Try.prog 13 [.loc 1000 0, .p (.agg (letD l))] (agL a) (fun rs M => rs = [nilA] ∧ M = agL a) := by
  have fin : ∀ {A : ASt}, AL.look A.fr 4 = some nilA → (∀ p ∈ agL a, AL.look A.locs p.1 = some p.2) → retM Try.prog Try.f13 (fun rs M => rs = [nilA] ∧ M = agL a) .ret A := fun {A} h1 h2 => (retM_list (A := A) (rs := [nilA]) (L := agL a) ⟨rfl, rfl⟩ (show ResVarsA Try.prog A [.tmp 4] [nilA] from ⟨h1, trivial⟩) h2).1
  by_cases h1 : l.fr = -1
  · have q1 : (l.fr != -1) = false := ine_ff h1
    by_cases h2 : l.to = a.n
    · have q2 : (l.to != a.n) = false := ine_ff h2
      have h3 : l.se < a.ser := by
        rcases h with h | h | h
        · exact absurd h1 h
        · exact absurd h2 h
        · exact h
      unfold agL at *
      refine mcalls_of_awp Try.func13 rfl (by decide +kernel) (by rw [Try.ntmps13]; simp) (fun l X h => by simp only [AL.look] at h; (repeat' split at h); all_goals first | omega | cases h) ?_; rw [Try.ntmps13]; simp only [frA]
      (repeat (first | refine j4 ?_ | refine x6 rfl ?_ | refine awp_no rfl ?_ | refine j5 ?_ | (refine q0 fun K hK => ?_) | (refine z6 (by kernel_rfl) (by kernel_rfl) fun K hK => ?_) | ((first | refine j0 ?_ | refine z1 ?_ | ((first | refine x3 (hK _ ?_) | refine x4 (hK _ _ (z2 (by kernel_rfl)) ?_)); clear hK K)); (first | show AWP _ _ _ _ _ | ((try simp only [x5]); first | show loopQ _ _ _ _ _ _ | show cutQ _ _ _ _ | show AWP _ _ _ _ _))) | ((first | refine j6 [] rfl ?_ | refine z7 [] rfl ?_); simp (maxSteps := 2000000) (disch := omega) only [go_sem, seval, agL, agC, letD, q1, q2]; (repeat (first | refine ⟨by omega, ?_⟩ | refine ⟨True.intro, ?_⟩)))))
      refine awp_ret (fin rfl ?_)
      simp [AL.look, agC]
    · have q2 : (l.to != a.n) = true := ine_tt h2
      unfold agL at *
      refine mcalls_of_awp Try.func13 rfl (by decide +kernel) (by rw [Try.ntmps13]; simp) (fun l X h => by simp only [AL.look] at h; (repeat' split at h); all_goals first | omega | cases h) ?_; rw [Try.ntmps13]; simp only [frA]
      (repeat (first | refine j4 ?_ | refine x6 rfl ?_ | refine awp_no rfl ?_ | refine j5 ?_ | (refine q0 fun K hK => ?_) | (refine z6 (by kernel_rfl) (by kernel_rfl) fun K hK => ?_) | ((first | refine j0 ?_ | refine z1 ?_ | ((first | refine x3 (hK _ ?_) | refine x4 (hK _ _ (z2 (by kernel_rfl)) ?_)); clear hK K)); (first | show AWP _ _ _ _ _ | ((try simp only [x5]); first | show loopQ _ _ _ _ _ _ | show cutQ _ _ _ _ | show AWP _ _ _ _ _))) | ((first | refine j6 [] rfl ?_ | refine z7 [] rfl ?_); simp (maxSteps := 2000000) (disch := omega) only [go_sem, seval, agL, agC, letD, q1, q2]; (repeat (first | refine ⟨by omega, ?_⟩ | refine ⟨True.intro, ?_⟩)))))
      refine awp_ret (fin rfl ?_)
      simp [AL.look, agC]
  · have q1 : (l.fr != -1) = true := ine_tt h1
    unfold agL at *
    refine mcalls_of_awp Try.func13 rfl (by decide +kernel) (by rw [Try.ntmps13]; simp) (fun l X h => by simp only [AL.look] at h; (repeat' split at h); all_goals first | omega | cases h) ?_; rw [Try.ntmps13]; simp only [frA]
    (repeat (first | refine j4 ?_ | refine x6 rfl ?_ | refine awp_no rfl ?_ | refine j5 ?_ | (refine q0 fun K hK => ?_) | (refine z6 (by kernel_rfl) (by kernel_rfl) fun K hK => ?_) | ((first | refine j0 ?_ | refine z1 ?_ | ((first | refine x3 (hK _ ?_) | refine x4 (hK _ _ (z2 (by kernel_rfl)) ?_)); clear hK K)); (first | show AWP _ _ _ _ _ | ((try simp only [x5]); first | show loopQ _ _ _ _ _ _ | show cutQ _ _ _ _ | show AWP _ _ _ _ _))) | ((first | refine j6 [] rfl ?_ | refine z7 [] rfl ?_); simp (maxSteps := 2000000) (disch := omega) only [go_sem, seval, agL, agC, letD, q1]; (repeat (first | refine ⟨by omega, ?_⟩ | refine ⟨True.intro, ?_⟩)))))
    refine awp_ret (fin rfl ?_)
    simp [AL.look, agC]
set_option maxRecDepth 100000 in
theorem Letter_none (a : Ag) (l : Ltr) (h1 : l.fr = -1) (h2 : l.to = a.n) (h3 : ¬ l.se < a.ser) (k1 : l.kd ≠ 1) (k3 : l.kd ≠ 3) (k5 : l.kd ≠ 5) :
    MCalls Try.prog 13 [.loc 1000 0, .p (.agg (letD l))] (agL a) (fun rs M => rs = [nilA] ∧ M = agL { a with ser := l.se }) := by
  have q1 : (l.fr != -1) = false := ine_ff h1
  have q2 : (l.to != a.n) = false := ine_ff h2
  unfold agL
  refine mcalls_of_awp Try.func13 rfl (by decide +kernel) (by rw [Try.ntmps13]; simp) (fun l X h => by simp only [AL.look] at h; (repeat' split at h); all_goals first | omega | cases h) ?_; rw [Try.ntmps13]; simp only [frA]
  (repeat (first | refine j4 ?_ | refine x6 rfl ?_ | refine awp_no rfl ?_ | refine j5 ?_ | (refine q0 fun K hK => ?_) | (refine z6 (by kernel_rfl) (by kernel_rfl) fun K hK => ?_) | ((first | refine j0 ?_ | refine z1 ?_ | ((first | refine x3 (hK _ ?_) | refine x4 (hK _ _ (z2 (by kernel_rfl)) ?_)); clear hK K)); (first | show AWP _ _ _ _ _ | ((try simp only [x5]); first | show loopQ _ _ _ _ _ _ | show cutQ _ _ _ _ | show AWP _ _ _ _ _))) | ((first | refine walkS_call3 rfl rfl rfl ?_ | refine walkD_call3 rfl rfl rfl ?_); simp (maxSteps := 2000000) (disch := omega) only [go_sem, seval, agL, agC, letD, q1, q2]; (first | refine ⟨_, does_no l.kd k1 k3 k5, ?_⟩)) | ((first | refine j6 [] rfl ?_ | refine z7 [] rfl ?_); simp (maxSteps := 2000000) (disch := omega) only [go_sem, seval, agL, agC, letD, q1, q2]; (repeat (first | refine ⟨by omega, ?_⟩ | refine ⟨True.intro, ?_⟩)))))
  refine awp_ret ?_
  refine (retM_list ⟨rfl, rfl⟩ ?_ ?_).1
  · exact ⟨rfl, trivial⟩
  · simp [AL.look, agC]
def ansD (k n ve se : Int) : Nat → List Dat := fun i => [[Dat.v (.int .i64 k), Dat.v (.int .i64 n), Dat.v (.int .i64 (-1)), Dat.v (.int .i64 ve), Dat.v (.int .i64 se), Dat.v (.slice none 0 0)]].getD i []
set_option maxRecDepth 100000 in
theorem Letter_do (a a2 : Ag) (l : Ltr) (g : FuncId) (k : Int) (h1 : l.fr = -1) (h2 : l.to = a.n) (h3 : ¬ l.se < a.ser) (hd : ACalls Try.prog 40 [.d (.v (.int .i64 l.kd))] (· = [.fn (.func g) [] []]))
    (hm : MCalls Try.prog g [.loc 1000 0, .p (.agg (letD l))] (agL { a with ser := l.se }) (fun rs M => rs = [intP k] ∧ M = agL a2)) (hk : k ≠ 0) :
    MCalls Try.prog 13 [.loc 1000 0, .p (.agg (letD l))] (agL a) (fun rs M => rs = [.p (.d (.sl 6 1 (ansD k a2.n l.ve l.se)))] ∧ M = agL a2) := by
  have q1 : (l.fr != -1) = false := ine_ff h1
  have q2 : (l.to != a.n) = false := ine_ff h2
  have q3 : (k == 0) = false := ieq_ff hk
  unfold agL
  refine mcalls_of_awp Try.func13 rfl (by decide +kernel) (by rw [Try.ntmps13]; simp) (fun l X h => by simp only [AL.look] at h; (repeat' split at h); all_goals first | omega | cases h) ?_; rw [Try.ntmps13]; simp only [frA]
  (repeat (first | refine j4 ?_ | refine x6 rfl ?_ | refine awp_no rfl ?_ | refine j5 ?_ | (refine q0 fun K hK => ?_) | (refine z6 (by kernel_rfl) (by kernel_rfl) fun K hK => ?_) | ((first | refine j0 ?_ | refine z1 ?_ | ((first | refine x3 (hK _ ?_) | refine x4 (hK _ _ (z2 (by kernel_rfl)) ?_)); clear hK K)); (first | show AWP _ _ _ _ _ | ((try simp only [x5]); first | show loopQ _ _ _ _ _ _ | show cutQ _ _ _ _ | show AWP _ _ _ _ _))) | ((first | refine walkS_call3 rfl rfl rfl ?_ | refine walkD_call3 rfl rfl rfl ?_); simp (maxSteps := 2000000) (disch := omega) only [go_sem, seval, agL, agC, letD, q1, q2, q3, intP]; (first | refine ⟨_, hd, ?_⟩)) | ((first | refine j6 [] rfl ?_ | refine z7 [] rfl ?_); simp (maxSteps := 2000000) (disch := omega) only [go_sem, seval, agL, agC, letD, q1, q2, q3, intP]; (repeat (first | refine ⟨by omega, ?_⟩ | refine ⟨True.intro, ?_⟩)))))
  unfold agL letD at hm
  (refine walkS_cons _ (step_mcall [(1000, 1000), (1001, 1001)] rfl rfl rfl rfl rfl rfl (hm) rfl (namesOK_of (by repeat (first | exact trivial | refine ⟨rfl, ?_⟩)) (by kernel_rfl))) ?_); simp (maxSteps := 2000000) (disch := omega) only [go_sem, seval, agL, agC, letD, q1, q2, q3, intP]
  (repeat (first | refine j4 ?_ | refine x6 rfl ?_ | refine awp_no rfl ?_ | refine j5 ?_ | (refine q0 fun K hK => ?_) | (refine z6 (by kernel_rfl) (by kernel_rfl) fun K hK => ?_) | ((first | refine j0 ?_ | refine z1 ?_ | ((first | refine x3 (hK _ ?_) | refine x4 (hK _ _ (z2 (by kernel_rfl)) ?_)); clear hK K)); (first | show AWP _ _ _ _ _ | ((try simp only [x5]); first | show loopQ _ _ _ _ _ _ | show cutQ _ _ _ _ | show AWP _ _ _ _ _))) | ((first | refine j6 [] rfl ?_ | refine z7 [] rfl ?_); simp (maxSteps := 2000000) (disch := omega) only [go_sem, seval, agL, agC, letD, q1, q2, q3, intP]; (repeat (first | refine ⟨by omega, ?_⟩ | refine ⟨True.intro, ?_⟩)))))
  refine awp_ret ?_
  refine (retM_list ⟨rfl, rfl⟩ ?_ ?_).1
  · exact ⟨rfl, trivial⟩
  · simp [AL.look, agC]
set_option maxRecDepth 100000 in
theorem Letter_nil (a a2 : Ag) (l : Ltr) (g : FuncId) (h1 : l.fr = -1) (h2 : l.to = a.n) (h3 : ¬ l.se < a.ser) (hd : ACalls Try.prog 40 [.d (.v (.int .i64 l.kd))] (· = [.fn (.func g) [] []]))
    (hm : MCalls Try.prog g [.loc 1000 0, .p (.agg (letD l))] (agL { a with ser := l.se }) (fun rs M => rs = [intP 0] ∧ M = agL a2)) :
    MCalls Try.prog 13 [.loc 1000 0, .p (.agg (letD l))] (agL a) (fun rs M => rs = [nilA] ∧ M = agL a2) := by
  have q1 : (l.fr != -1) = false := ine_ff h1
  have q2 : (l.to != a.n) = false := ine_ff h2
  unfold agL
  refine mcalls_of_awp Try.func13 rfl (by decide +kernel) (by rw [Try.ntmps13]; simp) (fun l X h => by simp only [AL.look] at h; (repeat' split at h); all_goals first | omega | cases h) ?_; rw [Try.ntmps13]; simp only [frA]
  (repeat (first | refine j4 ?_ | refine x6 rfl ?_ | refine awp_no rfl ?_ | refine j5 ?_ | (refine q0 fun K hK => ?_) | (refine z6 (by kernel_rfl) (by kernel_rfl) fun K hK => ?_) | ((first | refine j0 ?_ | refine z1 ?_ | ((first | refine x3 (hK _ ?_) | refine x4 (hK _ _ (z2 (by kernel_rfl)) ?_)); clear hK K)); (first | show AWP _ _ _ _ _ | ((try simp only [x5]); first | show loopQ _ _ _ _ _ _ | show cutQ _ _ _ _ | show AWP _ _ _ _ _))) | ((first | refine walkS_call3 rfl rfl rfl ?_ | refine walkD_call3 rfl rfl rfl ?_); simp (maxSteps := 2000000) (disch := omega) only [go_sem, seval, agL, agC, letD, q1, q2, intP]; (first | refine ⟨_, hd, ?_⟩)) | ((first | refine j6 [] rfl ?_ | refine z7 [] rfl ?_); simp (maxSteps := 2000000) (disch := omega) only [go_sem, seval, agL, agC, letD, q1, q2, intP]; (repeat (first | refine ⟨by omega, ?_⟩ | refine ⟨True.intro, ?_⟩)))))
  unfold agL letD at hm
  (refine walkS_cons _ (step_mcall [(1000, 1000), (1001, 1001)] rfl rfl rfl rfl rfl rfl (hm) rfl (namesOK_of (by repeat (first | exact trivial | refine ⟨rfl, ?_⟩)) (by kernel_rfl))) ?_); simp (maxSteps := 2000000) (disch := omega) only [go_sem, seval, agL, agC, letD, q1, q2, intP]
  (repeat (first | refine j4 ?_ | refine x6 rfl ?_ | refine awp_no rfl ?_ | refine j5 ?_ | (refine q0 fun K hK => ?_) | (refine z6 (by kernel_rfl) (by kernel_rfl) fun K hK => ?_) | ((first | refine j0 ?_ | refine z1 ?_ | ((first | refine x3 (hK _ ?_) | refine x4 (hK _ _ (z2 (by kernel_rfl)) ?_)); clear hK K)); (first | show AWP _ _ _ _ _ | ((try simp only [x5]); first | show loopQ _ _ _ _ _ _ | show cutQ _ _ _ _ | show AWP _ _ _ _ _))) | ((first | refine j6 [] rfl ?_ | refine z7 [] rfl ?_); simp (maxSteps := 2000000) (disch := omega) only [go_sem, seval, agL, agC, letD, q1, q2, intP]; (repeat (first | refine ⟨by omega, ?_⟩ | refine ⟨True.intro, ?_⟩)))))
  refine awp_ret ?_
  refine (retM_list ⟨rfl, rfl⟩ ?_ ?_).1
  · exact ⟨rfl, trivial⟩
  · simp [AL.look, agC]
def Ag.step (a : Ag) (l : Ltr) : Ag × Int :=
  if l.fr ≠ -1 ∨ l.to ≠ a.n ∨ l.se < a.ser then (a, 0) else
  if l.kd = 1 then ({ a with ser := l.se, es := putA l.ve l.ts a.es }, 2) else
  if l.kd = 3 then (if (getA l.ve a.es).isSome then ({ a with ser := l.se, cur := l.ve }, 4) else ({ a with ser := l.se }, 0)) else
  if l.kd = 5 then (if l.ve = a.cur then ({ a with ser := l.se }, 0) else ({ a with ser := l.se, es := delA l.ve a.es }, 6)) else
  ({ a with ser := l.se }, 0)
def ansA (k n ve se : Int) : AV := if k = 0 then nilA else .p (.d (.sl 6 1 (ansD k n ve se)))
set_option maxRecDepth 100000 in
theorem Letter_c (a : Ag) (l : Ltr) (hs : smallR l.ts) : MCalls Try.prog 13 [.loc 1000 0, .p (.agg (letD l))] (agL a) (fun rs M => rs = [ansA (a.step l).2 a.n l.ve l.se] ∧ M = agL (a.step l).1) := by
  unfold Ag.step
  by_cases h : l.fr ≠ -1 ∨ l.to ≠ a.n ∨ l.se < a.ser
  · rw [if_pos h]; exact Letter_late a l h
  · rw [if_neg h]
    have h1 : l.fr = -1 := Classical.byContradiction fun e => h (.inl e)
    have h2 : l.to = a.n := Classical.byContradiction fun e => h (.inr (.inl e))
    have h3 : ¬ l.se < a.ser := fun e => h (.inr (.inr e))
    by_cases k1 : l.kd = 1
    · rw [if_pos k1]
      exact Letter_do a { a with ser := l.se, es := putA l.ve l.ts a.es } l _ 2 h1 h2 h3 (by rw [k1]; exact does_1) (install_c { a with ser := l.se } l hs) (by decide)
    · rw [if_neg k1]
      by_cases k3 : l.kd = 3
      · rw [if_pos k3]
        cases hg : getA l.ve a.es with
        | some t => exact Letter_do a { a with ser := l.se, cur := l.ve } l _ 4 h1 h2 h3 (by rw [k3]; exact does_3) (flip_some { a with ser := l.se } l t hg) (by decide)
        | none => exact Letter_nil a { a with ser := l.se } l _ h1 h2 h3 (by rw [k3]; exact does_3) (flip_none { a with ser := l.se } l hg)
      · rw [if_neg k3]
        by_cases k5 : l.kd = 5
        · rw [if_pos k5]
          by_cases hv : l.ve = a.cur
          · rw [if_pos hv]
            exact Letter_nil a { a with ser := l.se } l _ h1 h2 h3 (by rw [k5]; exact does_5) (forget_same { a with ser := l.se } l hv)
          · rw [if_neg hv]
            exact Letter_do a { a with ser := l.se, es := delA l.ve a.es } l _ 6 h1 h2 h3 (by rw [k5]; exact does_5) (forget_other { a with ser := l.se } l hv) (by decide)
        · rw [if_neg k5]
          exact Letter_none a l h1 h2 h3 k1 k3 k5
end Go.Proofs.Ytjfammnjpeeahaa
set_option linter.unusedSimpArgs false
set_option linter.unusedVariables false
namespace Go.Proofs.Ytjfammnjpeeahaa.AL
open Go.RowKit
variable {P : Program}
def RCalls (P : Program) (f : FuncId) (xs : List AV) (L : List (Nat × LV)) (x : AV) : Prop :=
  ∀ (w : World) (h : Gh) (vs : List Value), GZ w h.g → RelAs w h vs xs → LocsOK (fun _ => True) w h L →
    CallRes P (fun v w' => ∃ g', Ext w h.g w' g' ∧ RelA w' { h with g := g' } v x) ((callFunc f vs.toArray).run P w)
theorem ext_trans {w w' : World} {h : Gh} {g' : Nat → Nat} {B : Nat → Prop} (hz : GZ w h.g) (hB : NewIn B w) (he : Ext w h.g w' g') (own : Nat → Prop) : Trans B w h w' { h with g := g' } own none false :=
  Trans.same he.belowS (fun b hb => ⟨he.below.block b hb, he.gam b hb⟩) hz he.gz hB _
inductive XAV : AV → Prop
  | is (u : Value) : XAV (.is (· = u))
  | mp (l : Nat) : XAV (.mp l)
theorem XAV.same {x : AV} (hx : XAV x) {w w' : World} {h h' : Gh} (hρ : ∀ l ∈ x.mentions, h'.ρ l = h.ρ l) {v v' : Value} (r : RelA w h v x) (r' : RelA w' h' v' x) : v' = v := by
  cases hx with
  | is u => exact (show v' = u from r').trans (show v = u from r).symm
  | mp l =>
    have e1 : v = .map (some (h.ρ l)) := r
    have e2 : v' = .map (some (h'.ρ l)) := r'
    rw [e1, e2, hρ l (by simp [AV.mentions])]
inductive XLV : LV → Prop
  | cells (e : TypeId) (cs : List AV) (h : ∀ c ∈ cs, XAV c) : XLV (.cells e cs)
  | obj (o : Obj) : XLV (.obj o)
theorem XLV.same {X : LV} (hx : XLV X) {O : Nat → Prop} {w w' : World} {h h' : Gh} {l : Nat} (hρl : h'.ρ l = h.ρ l) (hρ : ∀ k ∈ X.mentions, h'.ρ k = h.ρ k) (r : LocOK O w h l X) (r' : LocOK O w' h' l X) {b : Nat} (hb : inB h l X b) :
    w'.heap[b]? = w.heap[b]? ∧ h'.g b = h.g b := by
  cases hx with
  | cells e cs hcs =>
    obtain ⟨arr, _, h2, h3, h4, h5⟩ := r
    obtain ⟨arr', _, k2, k3, k4, k5⟩ := r'
    simp [inB] at hb
    subst hb
    rw [hρl] at k2 k4
    refine ⟨?_, by rw [h4, k4]⟩
    rw [h2, k2]
    congr 2
    apply Array.ext
    · rw [h3, k3]
    · intro i hi1 hi2
      have hic : i < cs.length := by omega
      have e1 := (h5 i arr[i] cs[i] (by simp [hi2]) (List.getElem?_eq_getElem hic)).1
      have e2 := (k5 i arr'[i] cs[i] (by simp [hi1]) (List.getElem?_eq_getElem hic)).1
      exact (hcs _ (List.getElem_mem hic)).same (fun k hk => hρ k (List.mem_flatMap.2 ⟨_, List.getElem_mem hic, hk⟩)) e1 e2
  | obj o =>
    obtain ⟨_, h2, h4⟩ := r
    obtain ⟨_, k2, k4⟩ := r'
    simp [inB] at hb
    subst hb
    rw [hρl] at k2 k4
    exact ⟨by rw [h2, k2], by rw [h4, k4]⟩
theorem mcalls_of_rcalls {f : FuncId} {xs : List AV} {L : List (Nat × LV)} {x : AV} (hc : RCalls P f xs L x) : MCalls P f xs L (fun rs M => rs = [x] ∧ M = L) := by
  intro w h vs hz hr hl
  have key := hc w h vs hz hr hl
  have fin : ∀ v w', (∃ g', Ext w h.g w' g' ∧ RelA w' { h with g := g' } v x) → ∃ h1 r1 L1, (r1 = [x] ∧ L1 = L) ∧ RelRA w' h1 v r1 ∧ LocsOK (fun _ => True) w' h1 L1 ∧ Chg L L1 w h w' h1 := by
    rintro v w' ⟨g', he, hR⟩
    have tr := ext_trans (B := fun _ => True) hz (fun _ _ => trivial) he (fun _ => False)
    have hlok : ∀ l X, look L l = some X → LocOK (fun _ => True) w' { h with g := g' } l X ∧ inB { h with g := g' } l X = inB h l X := fun l X hX =>
      LocOK.trans tr (by simp) (fun hf => by cases hf) (fun b _ hno => hno) (hl.1 l X hX)
    refine ⟨{ h with g := g' }, _, _, ⟨rfl, rfl⟩, hR, ⟨fun l X hX => (hlok l X hX).1, fun l l' X X' b hne h1 h2 => ?_⟩, ⟨he.belowS, fun b hlt _ => he.gam b hlt, he.gz, he.keep hz, fun _ _ _ => rfl, fun _ _ _ => .inr ⟨rfl, rfl⟩, fun b ⟨l, X, h1, h2⟩ => .inr ⟨l, X, h1, ?_⟩⟩⟩
    · rw [(hlok l X h1).2, (hlok l' X' h2).2]
      exact hl.2 l l' X X' b hne h1 h2
    · rw [(hlok l X h1).2] at h2; exact h2
  unfold CallRes at *
  split at key
  · exact key.mono fun e w' ⟨v, he, hR⟩ => ⟨v, he, fin v w' hR⟩
  · exact fin _ _ key
  · exact key.elim
end Go.Proofs.Ytjfammnjpeeahaa.AL
set_option linter.unusedSimpArgs false
set_option linter.unusedVariables false
namespace Go.Proofs.Ytjfammnjpeeahaa
open Go.Proofs.Ytjfammnjpeeahaa.AL
def rowZ (l : List Int) : Nat → List Dat := fun i => [.v (.int .i64 (l.getD i 0))]
theorem ClipZ_c (n : Nat) (f : Nat → List Dat) (hn : n ≤ 140737488355328) : ACalls Try.prog 41 [.d (.sl 1 n f)] (· = [.d (.sl 1 n f)]) := by
  refine acalls_of_awp Try.func41 rfl (by decide +kernel) (by rw [Try.ntmps41]; simp) ?_; rw [Try.ntmps41]; simp only [frOf]
  (repeat (first | refine j4 ?_ | refine x6 rfl ?_ | refine awp_no rfl ?_ | refine j5 ?_ | (refine q0 fun K hK => ?_) | (refine z6 (by kernel_rfl) (by kernel_rfl) fun K hK => ?_) | ((first | refine j0 ?_ | refine z1 ?_ | ((first | refine x3 (hK _ ?_) | refine x4 (hK _ _ (z2 (by kernel_rfl)) ?_)); clear hK K)); (first | show AWP _ _ _ _ _ | ((try simp only [x5]); first | show loopQ _ _ _ _ _ _ | show cutQ _ _ _ _ | show AWP _ _ _ _ _))) | ((first | refine j6 [] rfl ?_ | refine z7 [] rfl ?_); simp (maxSteps := 2000000) (disch := omega) only [go_sem, seval]; (repeat (first | refine ⟨by omega, ?_⟩ | refine ⟨True.intro, ?_⟩)))))
  refine awp_ret ⟨_, ?_, rfl⟩; rw [Try.results41]; simp (disch := omega) only [ResVars, ResVar, ptrLoc, go_sem, seval]
  rfl
end Go.Proofs.Ytjfammnjpeeahaa
set_option linter.unusedSimpArgs false
set_option linter.unusedVariables false
namespace Go.Proofs.Ytjfammnjpeeahaa
open Go.Shelf Go.Proofs
def sortZ_ren : Go.Shelf.Ren := ⟨fun | 125 => 84 | 128 => 99 | 129 => 100 | 189 => 70 | 215 => 109 | 216 => 96 | 257 => 83 | 294 => 90 | 295 => 91 | 296 => 92 | 297 => 93 | 298 => 94 | 299 => 95 | 300 => 97 | 301 => 98 | 328 => 104 | 329 => 105 | 330 => 106 | 331 => 107 | 332 => 108 | 343 => 110 | n => n, fun | 0 => 0 | 3 => 3 | 4 => 4 | 5 => 5 | 9 => 9 | 28 => 65 | 46 => 138 | 51 => 155 | 53 => 36 | 131 => 69 | 182 => 147 | 183 => 148 | 218 => 158 | 222 => 162 | 228 => 164 | 229 => 165 | n => n, fun n => n⟩
theorem sortZ_lay : Lays.n189 Try.prog sortZ_ren where
  mixed := by kernel_rfl
  f125 := Try.func84.trans (congrArg some (by kernel_rfl))
  f128 := Try.func99.trans (congrArg some (by kernel_rfl))
  f129 := Try.func100.trans (congrArg some (by kernel_rfl))
  f189 := Try.func70.trans (congrArg some (by kernel_rfl))
  f215 := Try.func109.trans (congrArg some (by kernel_rfl))
  f216 := Try.func96.trans (congrArg some (by kernel_rfl))
  f257 := Try.func83.trans (congrArg some (by kernel_rfl))
  f294 := Try.func90.trans (congrArg some (by kernel_rfl))
  f295 := Try.func91.trans (congrArg some (by kernel_rfl))
  f296 := Try.func92.trans (congrArg some (by kernel_rfl))
  f297 := Try.func93.trans (congrArg some (by kernel_rfl))
  f298 := Try.func94.trans (congrArg some (by kernel_rfl))
  f299 := Try.func95.trans (congrArg some (by kernel_rfl))
  f300 := Try.func97.trans (congrArg some (by kernel_rfl))
  f301 := Try.func98.trans (congrArg some (by kernel_rfl))
  f328 := Try.func104.trans (congrArg some (by kernel_rfl))
  f329 := Try.func105.trans (congrArg some (by kernel_rfl))
  f330 := Try.func106.trans (congrArg some (by kernel_rfl))
  f331 := Try.func107.trans (congrArg some (by kernel_rfl))
  f332 := Try.func108.trans (congrArg some (by kernel_rfl))
  f343 := Try.func110.trans (congrArg some (by kernel_rfl))
  t0 := Try.underlying0
  a0 := Try.isAgg0
  z0 := Try.sizeOf0
  v0 := Try.zeroValue0
  t3 := Try.underlying3
  a3 := Try.isAgg3
  z3 := Try.sizeOf3
  v3 := Try.zeroValue3
  t4 := Try.underlying4
  a4 := Try.isAgg4
  z4 := Try.sizeOf4
  v4 := Try.zeroValue4
  t5 := Try.underlying5
  a5 := Try.isAgg5
  z5 := Try.sizeOf5
  v5 := Try.zeroValue5
  t9 := Try.underlying9
  a9 := Try.isAgg9
  z9 := Try.sizeOf9
  v9 := Try.zeroValue9
  t28 := Try.underlying65
  a28 := Try.isAgg65
  z28 := Try.sizeOf65
  v28 := Try.zeroValue65
  t46 := Try.underlying138
  a46 := Try.isAgg138
  z46 := Try.sizeOf138
  v46 := Try.zeroValue138
  t51 := Try.underlying155
  a51 := Try.isAgg155
  z51 := Try.sizeOf155
  v51 := Try.zeroValue155
  t53 := Try.underlying36
  a53 := Try.isAgg36
  z53 := Try.sizeOf36
  v53 := Try.zeroValue36
  t131 := Try.underlying69
  a131 := Try.isAgg69
  z131 := Try.sizeOf69
  v131 := Try.zeroValue69
  t182 := Try.underlying147
  a182 := Try.isAgg147
  z182 := Try.sizeOf147
  v182 := Try.zeroValue147
  t183 := Try.underlying148
  a183 := Try.isAgg148
  z183 := Try.sizeOf148
  v183 := Try.zeroValue148
  t218 := Try.underlying158
  a218 := Try.isAgg158
  z218 := Try.sizeOf158
  v218 := Try.zeroValue158
  t222 := Try.underlying162
  a222 := Try.isAgg162
  z222 := Try.sizeOf162
  v222 := Try.zeroValue162
  t228 := Try.underlying164
  a228 := Try.isAgg164
  z228 := Try.sizeOf164
  v228 := Try.zeroValue164
  t229 := Try.underlying165
  a229 := Try.isAgg165
  z229 := Try.sizeOf165
  v229 := Try.zeroValue165
end Go.Proofs.Ytjfammnjpeeahaa
set_option linter.unusedSimpArgs false
set_option linter.unusedVariables false
namespace Go.Proofs.Ytjfammnjpeeahaa
open Go.Proofs.Ytjfammnjpeeahaa.AL Go.RowKit Go.Sort
def srtZ (l : List Int) : List Int := l.mergeSort fun x y => decide (x ≤ y)
end Go.Proofs.Ytjfammnjpeeahaa
set_option linter.unusedSimpArgs false
set_option linter.unusedVariables false
namespace Go.Proofs.Ytjfammnjpeeahaa
open Go Go.Proofs.Ytjfammnjpeeahaa.AL Go.RowKit Go.Sort Go.Maps Go.Shelf
set_option maxRecDepth 100000 in
theorem insert_perm {H : Type} (x : Lit × DataW H) : ∀ l : List (Lit × DataW H), (DataW.insert x l).Perm (x :: l)
  | [] => List.Perm.refl _
  | y :: r => by
    unfold DataW.insert
    split
    · exact List.Perm.refl _
    · exact ((insert_perm x r).cons y).trans (List.Perm.swap x y r)
set_option maxRecDepth 100000 in
theorem sorted_perm {H : Type} : ∀ l : List (Lit × DataW H), (l.foldr DataW.insert []).Perm l
  | [] => List.Perm.refl _
  | x :: r => (insert_perm x _).trans ((sorted_perm r).cons x)
def inI64 (z : Int) : Prop := -9223372036854775808 ≤ z ∧ z ≤ 9223372036854775807
def keyR' : Value → Option (DataW Unit × List MemPlace) := fun _ => some (.nil, [])
set_option maxRecDepth 100000 in
theorem keyOf_z {z : Int} (hz : inI64 z) : keyOf Try.prog 3 (.int .i64 z) = some (.int .i64 z) := by
  have hu : Try.prog.underlying 3 = some (.int .i64) := Try.underlying3
  unfold keyOf
  rw [hu]
  unfold mapKey
  rw [hu]
  have hw : (Lit.int .i64 z).wf = true := by
    obtain ⟨h1, h2⟩ := hz
    simp [Lit.wf, IntKind.min, IntKind.max, IntKind.signed, IntKind.bits]
    omega
  simp [hw]
structure KeysIs (arr : Array MapEntry) (clock : Nat) (zs : List Int) : Prop where
  size : arr.size = zs.length
  key : ∀ (i : Nat) e, arr[i]? = some e → ∃ z, zs[i]? = some z ∧ e.key = .int .i64 z
  born : ∀ (i : Nat) e, arr[i]? = some e → e.born < clock
  inj : ∀ (i j : Nat) e e', arr[i]? = some e → arr[j]? = some e' → e.born = e'.born → i = j
set_option maxRecDepth 100000 in
theorem mapIs_keys {w : World} {g : Nat → Nat} {arr : Array MapEntry} {clock : Nat} {es : List (List Int × PV)} {zs : List Int} (hM : MapIs w g [.i64] arr clock es) (hes : es.map (·.1) = zs.map fun z => [z]) : KeysIs arr clock zs := by
  refine ⟨by rw [hM.size]; have := congrArg List.length hes; simpa using this, fun i e he => ?_, hM.born, hM.inj⟩
  have hi : i < es.length := by rw [← hM.size]; exact (Array.getElem?_eq_some_iff.1 he).1
  obtain ⟨h1, _, _⟩ := hM.at' i e es[i] he (List.getElem?_eq_getElem hi)
  have h2 : (es.map (·.1))[i]? = some es[i].1 := by rw [List.getElem?_map, List.getElem?_eq_getElem hi]; rfl
  rw [hes, List.getElem?_map] at h2
  cases hz : zs[i]? with
  | none => rw [hz] at h2; cases h2
  | some z =>
    rw [hz] at h2
    simp only [Option.map_some, Option.some.injEq] at h2
    rw [← h2] at h1
    exact ⟨z, rfl, h1⟩
set_option maxRecDepth 100000 in
theorem owns_keys {w : World} {b : Nat} {arr : Array MapEntry} {clock : Nat} {zs : List Int} (hb : w.heap[b]? = some (.map arr clock)) (hM : KeysIs arr clock zs)
    (hnd : zs.Nodup) (hwf : ∀ z ∈ zs, inI64 z) (hl : zs.length ≤ 1099511627776) :
    ∃ D0 : DataW Unit, w.ownsMap Try.prog 3 keyR' b arr.size D0 ∧ (intKeys D0).Perm zs ∧ Maps.size D0 = zs.length := by
  have hlen : arr.size = zs.length := hM.size
  have hkey := hM.key
  have hrd : ∀ x ∈ arr.toList, ∃ z, z ∈ zs ∧ x.key = .int .i64 z ∧ WideElems.rd Try.prog 3 keyR' x = some (.int .i64 z, .nil) := by
    intro x hx
    obtain ⟨i, hi⟩ := List.getElem?_of_mem hx
    obtain ⟨z, h1, h2⟩ := hkey i x (by simpa using hi)
    have hzm := List.mem_of_getElem? h1
    refine ⟨z, hzm, h2, ?_⟩
    unfold WideElems.rd
    rw [h2, keyOf_z (hwf z hzm)]
    rfl
  have hmap : arr.toList.map (WideElems.rg Try.prog 3 keyR') = zs.map fun z => (Lit.int .i64 z, DataW.nil) := by
    apply List.ext_getElem?
    intro i
    simp only [List.getElem?_map, Array.getElem?_toList]
    cases he : arr[i]? with
    | none =>
      have : arr.size ≤ i := by
        rw [Array.getElem?_eq_none_iff] at he; exact he
      rw [List.getElem?_eq_none (by omega)]; rfl
    | some e =>
      obtain ⟨z, h1, h2⟩ := hkey i e he
      rw [h1]
      simp only [Option.map_some, Option.some.injEq]
      unfold WideElems.rg WideElems.rd
      rw [h2, keyOf_z (hwf z (List.mem_of_getElem? h1))]
      rfl
  refine ⟨_, ⟨arr, clock, hb, ⟨by rw [hlen]; unfold maxLen; omega, ⟨fun x hx => ?_, ?_, ?_⟩, fun x hx => ?_⟩, Nat.le_refl _, rfl⟩, ?_, ?_⟩
  · obtain ⟨i, hi⟩ := List.getElem?_of_mem hx
    exact hM.born i x (by simpa using hi)
  · rw [List.Nodup, List.pairwise_iff_getElem]
    intro i j hi hj hij he
    simp only [List.length_map, Array.length_toList] at hi hj
    simp only [List.getElem_map, Array.getElem_toList] at he
    have := hM.inj i j _ _ (by simp [hi]) (by simp [hj]) he
    omega
  · have : arr.toList.map (·.key) = zs.map (Value.int .i64) := by
      apply List.ext_getElem?
      intro i
      simp only [List.getElem?_map, Array.getElem?_toList]
      cases he : arr[i]? with
      | none =>
        have : arr.size ≤ i := by rw [Array.getElem?_eq_none_iff] at he; exact he
        rw [List.getElem?_eq_none (by omega)]; rfl
      | some e =>
        obtain ⟨z, h1, h2⟩ := hkey i e he
        rw [h1]; simp [h2]
    rw [this]
    exact List.Pairwise.map _ (fun a b hab e => hab (by cases e; rfl)) hnd
  · obtain ⟨z, _, _, h⟩ := hrd x hx
    exact ⟨_, h⟩
  · rw [hmap]
    show ((List.foldr DataW.insert [] (zs.map fun z => (Lit.int .i64 z, (DataW.nil : DataW Unit)))).map fun p => _root_.Go.intOf p.1).Perm zs
    have := (sorted_perm (zs.map fun z => (Lit.int .i64 z, (DataW.nil : DataW Unit)))).map fun p => _root_.Go.intOf p.1
    rw [List.map_map] at this
    have e : (fun p : Lit × DataW Unit => _root_.Go.intOf p.1) ∘ (fun z => (Lit.int .i64 z, DataW.nil)) = id := by funext z; rfl
    rw [e, List.map_id] at this
    exact this
  · rw [hmap]
    show (List.foldr DataW.insert [] _).length = _
    rw [(sorted_perm _).length_eq, List.length_map]
set_option maxRecDepth 100000 in
theorem mergeSort_srtZ {ss zs : List Int} (h : ss.Perm zs) : (ss.mergeSort fun x y => decide (x ≤ y)) = srtZ zs := mergeSort_of_perm_i h
set_option maxRecDepth 100000 in
theorem sortsZ (m : Nat) : AnyZI.SortsIn Try.prog keysZ_ren Fence.wide m :=
  ⟨fun blk off cap ss W hH hblk hsz => callsIn_wide.2 (Any.slices_Sort_int sortZ_lay blk off cap ss W hH hblk hsz),
   fun p cap W => callsIn_wide.2 (Any.slices_Sort_int_none sortZ_lay p cap W)⟩
set_option maxRecDepth 100000 in
theorem sorted_core {zs : List Int} (hnd : zs.Nodup) (hwf : ∀ z ∈ zs, inI64 z) (hl : zs.length ≤ 1099511627776) {w : World} {g : Nat → Nat} (hz : GZ w g) {bc bm : Nat} {carr : Array Value} {e : TypeId} {marr : Array MapEntry} {clock : Nat}
    (hh : w.heap[bc]? = some (.cells carr e (0, 0))) (hc0 : carr[0]? = some (.map (some bm))) (m2 : w.heap[bm]? = some (.map marr clock)) (hK : KeysIs marr clock zs) :
    CallRes Try.prog (fun v w' => ∃ g', Ext w g w' g' ∧ RelD w' g' v (.sl 1 zs.length (rowZ (srtZ zs)))) ((callFunc 42 #[.func (.func 71) #[] #[.pointer (some ⟨bc, 0, none⟩)]]).run Try.prog w) := by
  have hm : w.cell? ⟨bc, 0, none⟩ = some (.map (some bm)) := by rw [heap_cell hh]; exact hc0
  obtain ⟨D0, hown, hperm, hsize⟩ := owns_keys m2 hK hnd hwf hl
  have hbl : bc < w.heap.size := (Array.getElem?_eq_some_iff.1 hh).1
  have hseq : SeqGives Fence.wide 2 Try.prog 71 #[.pointer (some ⟨bc, 0, none⟩)] encZ (fun ss => ss.Perm (intKeys D0)) (Maps.size D0) w :=
    AnyZI.keys_gives (ρ := keysZ_ren) { keysZ_lay with } Fence.wide _ trivial rfl (by omega) bc bm _ D0 w hbl hm hown
  have cS := AnyZI.sorted_in sortedZ_lay Fence.wide 5 trivial trivial trivial trivial rfl (by omega) (sortsZ _) (enters_of Try.func70 (by kernel_rfl) rfl) 71 #[.pointer (some ⟨bc, 0, none⟩)] trivial (enters_of Try.func71 (by kernel_rfl) rfl) _ _ (by rw [hsize]; unfold maxLen; omega) (by rw [hsize]; omega) w hseq
  change CallsIn _ _ Try.prog 42 _ _ _ at cS
  have cS' := (callsIn_wide (n := 5)).1 cS
  rw [callFunc_enter _ w Try.func42 rfl (by kernel_rfl)]
  show Calls Try.prog 42 _ w _
  refine cS'.mono fun e w' ⟨v, ss, he, hS, hrow, hnil, hb⟩ => ⟨v, he, ?_⟩
  have hsrt : (ss.mergeSort fun x y => decide (x ≤ y)) = srtZ zs := mergeSort_srtZ (hS.trans hperm)
  have hlen : ss.length = zs.length := (hS.trans hperm).length_eq
  rw [hsrt, hlen] at hrow
  have hsl : (srtZ zs).length = zs.length := by unfold srtZ; simp
  rcases hrow with ⟨hlx, ⟨hvn, hn0⟩ | ⟨gb, cap, cur, hvs, hgb, hheap, hnc, hcm, hcs, htake⟩⟩
  · refine ⟨g, ⟨hb, fun _ _ => rfl, fun b hb' => hz b (Nat.le_trans hb.size hb')⟩, ?_⟩
    rw [hvn, hn0]
    exact .sl0 _ _ _ _
  · have hlt : gb < w'.heap.size := (Array.getElem?_eq_some_iff.1 hheap).1
    refine ⟨setG g gb zs.length, ⟨hb, fun b hb' => ?_, fun b hb' => ?_⟩, ?_⟩
    · simp only [setG]; rw [if_neg (by omega)]
    · simp only [setG]; rw [if_neg (by omega)]; exact hz b (Nat.le_trans hb.size hb')
    · rw [hvs]
      refine .sl gb 0 zs.length cap 1 _ (fun i j => (cur[i + j]?).getD _root_.Go.undef) hnc (fun i hi => rfl) (fun i j hi hj => ?_) (by simp [setG]) (fun i j d hi hd => ?_)
      · have hj0 : j = 0 := by omega
        subst hj0
        rw [heap_cell hheap]
        have : i < cur.size := by rw [hcs]; omega
        simp [this]
      · have hj0 : j = 0 := by
          have := (List.getElem?_eq_some_iff.1 hd).1
          simp [rowZ] at this; omega
        subst hj0
        simp only [rowZ, List.getElem?_cons_zero, Option.some.injEq] at hd
        subst hd
        have hi2 : i < (srtZ zs).length := by omega
        have h1 : (cur.toList.take (zs.length * 1))[i]? = ((srtZ zs).map encZ)[i]? := by rw [htake]
        rw [List.getElem?_take_of_lt (by omega), List.getElem?_map, List.getElem?_eq_getElem hi2] at h1
        have h2 : cur[i]? = some (.int .i64 (srtZ zs)[i]) := by simpa using h1
        simp only [Nat.add_zero, h2]
        rw [List.getD_eq_getElem?_getD, List.getElem?_eq_getElem hi2]
        exact .v _ rfl
def keyL (X : LV) : List (Nat × LV) := [(1002, .cells 95 [.mp 1001]), (1001, X)]
def HasKeys (X : LV) (zs : List Int) : Prop := ∀ (w : World) (h : Gh), LocOK (fun _ => True) w h 1001 X → ∃ arr clock, w.heap[h.ρ 1001]? = some (.map arr clock) ∧ KeysIs arr clock zs
set_option maxRecDepth 100000 in
theorem Sorted_r (X : LV) (zs : List Int) (hX : HasKeys X zs) (hnd : zs.Nodup) (hwf : ∀ z ∈ zs, inI64 z) (hl : zs.length ≤ 1099511627776) :
    RCalls Try.prog 42 [.cl (.func 71) [] [.loc 1002 0]] (keyL X) (.p (.d (.sl 1 zs.length (rowZ (srtZ zs))))) := by
  intro w h vs hz hr hL
  obtain ⟨carr, b1, hh, hs, hg, hcell⟩ := hL.1 1002 _ rfl
  obtain ⟨marr, clock, m2, m4⟩ := hX w h (hL.1 1001 X rfl)
  have hv : vs = [.func (.func 71) #[] #[.pointer (some ⟨h.ρ 1002, 0, none⟩)]] := by
    match vs, hr with
    | [v], hr =>
      obtain ⟨us, cs, hv, h1, h2⟩ := hr.2 0 v _ rfl rfl
      have e1 : us = [] := List.eq_nil_of_length_eq_zero h1.1
      match cs, h2 with
      | [c], h2 =>
        have : c = .pointer (some ⟨h.ρ 1002, 0, none⟩) := h2.2 0 c _ rfl rfl
        rw [hv, e1, this]
      | [], h2 => exact absurd h2.1 (by simp)
      | _ :: _ :: _, h2 => exact absurd h2.1 (by simp)
    | [], hr => exact absurd hr.1 (by simp)
    | _ :: _ :: _, hr => exact absurd hr.1 (by simp)
  subst hv
  have hlt0 : 0 < carr.size := by rw [hs]; simp
  have h0 : carr[0]? = some (carr[0]'hlt0) := by simp [hlt0]
  have hc : carr[0]? = some (.map (some (h.ρ 1001))) := by
    have := (hcell 0 (carr[0]'hlt0) (.mp 1001) h0 rfl).1
    rw [h0]
    exact congrArg some this
  have := sorted_core hnd hwf hl hz hh hc m2 m4
  unfold CallRes at *
  split at this
  · exact this.mono fun e w' ⟨v, he, g', h1, h2⟩ => ⟨v, he, g', h1, .d _ _ h2⟩
  · obtain ⟨g', h1, h2⟩ := this; exact ⟨g', h1, .d _ _ h2⟩
  · exact this.elim
set_option maxRecDepth 100000 in
theorem Sorted_c (X : LV) (zs : List Int) (hX : HasKeys X zs) (hnd : zs.Nodup) (hwf : ∀ z ∈ zs, inI64 z) (hl : zs.length ≤ 1099511627776) :
    MCalls Try.prog 42 [.cl (.func 71) [] [.loc 1002 0]] (keyL X) (fun rs M => rs = [.p (.d (.sl 1 zs.length (rowZ (srtZ zs))))] ∧ M = keyL X) :=
  mcalls_of_rcalls (Sorted_r X zs hX hnd hwf hl)
set_option maxRecDepth 100000 in
theorem hasKeys_map {es : List (List Int × PV)} {zs : List Int} (hes : es.map (·.1) = zs.map fun z => [z]) : HasKeys (.map [.i64] es) zs := by
  rintro w h ⟨marr, clock, m1, m2, m3, m4⟩
  exact ⟨marr, clock, m2, mapIs_keys m4 hes⟩
end Go.Proofs.Ytjfammnjpeeahaa
set_option linter.unusedSimpArgs false
set_option linter.unusedVariables false
namespace Go.Proofs.Ytjfammnjpeeahaa
open Go.Proofs.Ytjfammnjpeeahaa.AL
def tabsASh : Sh := .slice (.slice ruleSh)
def tabsN (N : Nat) (l : List (List Rule)) : Prop := l.length ≤ N ∧ ∀ r ∈ l, r.length ≤ N
theorem is_tabsA {N : Nat} {ds : List Dat} (h : Is N tabsASh ds) : ∃ l : List (List Rule), ds = [.sl 1 l.length (rowRR l)] ∧ tabsN N l :=
  is_list (fun r : List Rule => [Dat.sl 12 r.length (rowR r)]) [] (.slice ruleSh) (by
    have : rowR [] = fun _ => zeroSh ruleSh := by
      funext i
      show ruleD r0 = _
      simp only [ruleD, r0, hi_zero, lo_zero]; rfl
    show [Dat.sl 12 0 (rowR [])] = _
    rw [this]; rfl) (fun ds hd => is_rules hd) h
end Go.Proofs.Ytjfammnjpeeahaa
set_option linter.unusedSimpArgs false
set_option linter.unusedVariables false
namespace Go.Proofs.Ytjfammnjpeeahaa
open Go Go.Proofs.Ytjfammnjpeeahaa.AL
set_option maxRecDepth 100000 in
theorem Keys_c (es : List (List Int × PV)) : MCalls Try.prog 43 [.mp 1001] [(1001, .map [.i64] es)]
    (fun rs M => rs = [.cl (.func 71) [] [.loc 1 0]] ∧ M = [(1, .cells 95 [.mp 1001]), (1001, .map [.i64] es)]) := by
  refine mcalls_of_awp Try.func43 rfl (by decide +kernel) (by rw [Try.ntmps43]; simp) (fun l X h => by simp only [AL.look] at h; (repeat' split at h); all_goals first | omega | cases h) ?_; rw [Try.ntmps43]; simp only [frA]
  (repeat (first | refine j4 ?_ | refine x6 rfl ?_ | refine awp_no rfl ?_ | refine j5 ?_ | (refine q0 fun K hK => ?_) | (refine z6 (by kernel_rfl) (by kernel_rfl) fun K hK => ?_) | ((first | refine j0 ?_ | refine z1 ?_ | ((first | refine x3 (hK _ ?_) | refine x4 (hK _ _ (z2 (by kernel_rfl)) ?_)); clear hK K)); (first | show AWP _ _ _ _ _ | ((try simp only [x5]); first | show loopQ _ _ _ _ _ _ | show cutQ _ _ _ _ | show AWP _ _ _ _ _))) | ((first | refine j6 [1] rfl ?_ | refine z7 [1] rfl ?_); simp (maxSteps := 2000000) (disch := omega) only [go_sem, seval]; (repeat (first | refine ⟨by omega, ?_⟩ | refine ⟨True.intro, ?_⟩)))))
  refine awp_ret ?_
  refine (retM_list ⟨rfl, rfl⟩ ?_ ?_).1
  · exact ⟨rfl, trivial⟩
  · simp [AL.look]
def verZ (a : Ag) : List Int := srtZ (a.es.map (·.1))
structure AgOk (a : Ag) : Prop where
  nd : (a.es.map (·.1)).Nodup
  wf : ∀ z ∈ a.es.map (·.1), inI64 z
  len : a.es.length ≤ 1099511627776
  small : ∀ e ∈ a.es, smallR e.2
set_option maxRecDepth 100000 in
theorem Versions_c (a : Ag) (ok : AgOk a) : MCalls Try.prog 20 [.loc 1000 0] (agL a) (fun rs M => rs = [.p (.d (.sl 1 (verZ a).length (rowZ (verZ a))))] ∧ M = agL a) := by
  have hl := ok.len
  have hlen : (verZ a).length = a.es.length := by unfold verZ srtZ; simp
  have k1 := Keys_c (agE a.es)
  have k2 := Sorted_c (.map [.i64] (agE a.es)) (a.es.map (·.1)) (hasKeys_map (by unfold agE; rw [List.map_map, List.map_map]; rfl)) ok.nd ok.wf (by simpa using hl)
  rw [List.length_map, ← hlen] at k2
  have e : srtZ (a.es.map (·.1)) = verZ a := rfl
  rw [e] at k2
  have k3 := ClipZ_c (verZ a).length (rowZ (verZ a)) (by omega)
  unfold agL
  refine mcalls_of_awp Try.func20 rfl (by decide +kernel) (by rw [Try.ntmps20]; simp) (fun l X h => by simp only [AL.look] at h; (repeat' split at h); all_goals first | omega | cases h) ?_; rw [Try.ntmps20]; simp only [frA]
  (repeat (first | refine j4 ?_ | refine x6 rfl ?_ | refine awp_no rfl ?_ | refine j5 ?_ | (refine q0 fun K hK => ?_) | (refine z6 (by kernel_rfl) (by kernel_rfl) fun K hK => ?_) | ((first | refine j0 ?_ | refine z1 ?_ | ((first | refine x3 (hK _ ?_) | refine x4 (hK _ _ (z2 (by kernel_rfl)) ?_)); clear hK K)); (first | show AWP _ _ _ _ _ | ((try simp only [x5]); first | show loopQ _ _ _ _ _ _ | show cutQ _ _ _ _ | show AWP _ _ _ _ _))) | ((first | refine j6 [] rfl ?_ | refine z7 [] rfl ?_); simp (maxSteps := 2000000) (disch := omega) only [go_sem, seval, agL, agC, keyL]; (repeat (first | refine ⟨by omega, ?_⟩ | refine ⟨True.intro, ?_⟩)))))
  (refine walkS_cons _ (step_mcall [(1001, 1001), (1, 501)] rfl rfl rfl rfl rfl rfl (k1) rfl (namesOK_of (by repeat (first | exact trivial | refine ⟨rfl, ?_⟩)) (by kernel_rfl))) ?_); simp (maxSteps := 2000000) (disch := omega) only [go_sem, seval, agL, agC, keyL]
  unfold keyL at k2
  (refine walkS_cons _ (step_mcall [(1001, 1001), (1002, 501)] rfl rfl rfl rfl rfl rfl (k2) rfl (namesOK_of (by repeat (first | exact trivial | refine ⟨rfl, ?_⟩)) (by kernel_rfl))) ?_); simp (maxSteps := 2000000) (disch := omega) only [go_sem, seval, agL, agC, keyL]
  (repeat (first | refine j4 ?_ | refine x6 rfl ?_ | refine awp_no rfl ?_ | refine j5 ?_ | (refine q0 fun K hK => ?_) | (refine z6 (by kernel_rfl) (by kernel_rfl) fun K hK => ?_) | ((first | refine j0 ?_ | refine z1 ?_ | ((first | refine x3 (hK _ ?_) | refine x4 (hK _ _ (z2 (by kernel_rfl)) ?_)); clear hK K)); (first | show AWP _ _ _ _ _ | ((try simp only [x5]); first | show loopQ _ _ _ _ _ _ | show cutQ _ _ _ _ | show AWP _ _ _ _ _))) | ((first | refine walkS_call3 rfl rfl rfl ?_ | refine walkD_call3 rfl rfl rfl ?_); simp (maxSteps := 2000000) (disch := omega) only [go_sem, seval, agL, agC, keyL]; (first | refine ⟨_, k3, ?_⟩)) | ((first | refine j6 [] rfl ?_ | refine z7 [] rfl ?_); simp (maxSteps := 2000000) (disch := omega) only [go_sem, seval, agL, agC, keyL]; (repeat (first | refine ⟨by omega, ?_⟩ | refine ⟨True.intro, ?_⟩)))))
  refine awp_ret ?_
  refine (retM_list ⟨rfl, rfl⟩ ?_ ?_).1
  · exact ⟨rfl, trivial⟩
  · simp [AL.look, agC]
end Go.Proofs.Ytjfammnjpeeahaa
set_option linter.unusedSimpArgs false
set_option linter.unusedVariables false
namespace Go.Proofs.Ytjfammnjpeeahaa
open Go Go.Proofs.Ytjfammnjpeeahaa.AL Go.RowKit Go.Sort Go.Maps Go.Shelf
end Go.Proofs.Ytjfammnjpeeahaa
set_option linter.unusedSimpArgs false
set_option linter.unusedVariables false
namespace Go.Proofs.Ytjfammnjpeeahaa
open Go.Proofs.Ytjfammnjpeeahaa.AL Go.RowKit
end Go.Proofs.Ytjfammnjpeeahaa
set_option linter.unusedSimpArgs false
set_option linter.unusedVariables false
namespace Go.Proofs.Ytjfammnjpeeahaa
open Go.Proofs.Ytjfammnjpeeahaa.AL
end Go.Proofs.Ytjfammnjpeeahaa
set_option linter.unusedSimpArgs false
set_option linter.unusedVariables false
namespace Go.Proofs.Ytjfammnjpeeahaa
open Go.Proofs.Ytjfammnjpeeahaa.AL
end Go.Proofs.Ytjfammnjpeeahaa
set_option linter.unusedSimpArgs false
set_option linter.unusedVariables false
namespace Go.Proofs.Ytjfammnjpeeahaa
open Go Go.Proofs.Ytjfammnjpeeahaa.AL
set_option maxRecDepth 100000 in
theorem mcalls_le1 {P : Program} {f : FuncId} {x y y' : AV} {L : List (Nat × LV)} {Q : List AV → List (Nat × LV) → Prop} (hle : Le y' y) (h : MCalls P f [x, y] L Q) : MCalls P f [x, y'] L Q := by
  intro w g vs hz hr hl
  refine h w g vs hz ⟨hr.1, fun j v z hv hx => ?_⟩ hl
  match j with
  | 0 => exact hr.2 0 v z hv hx
  | 1 =>
    simp only [List.getElem?_cons_succ, List.getElem?_cons_zero, Option.some.injEq] at hx
    subst hx
    exact hle w g v (hr.2 1 v y' hv rfl)
  | j + 2 => simp at hx
set_option maxRecDepth 100000 in
theorem le_p {x y : PV} (h : PLe x y) : Le (.p x) (.p y) := fun w g v r => h w g.g v r
def rule5 : Rule := { r0 with pr := 5 }
def tab5 : List (List Rule) := [[rule5]]
set_option maxRecDepth 100000 in
theorem rule5_d : ruleD rule5 = [.v (.int .i64 5), .v (.int .u64 0), .v (.int .u64 0), .v (.int .u64 0), .v (.int .u64 0), .v (.int .i64 0), .v (.int .i64 0), .v (.int .i64 0), .v (.int .u64 0), .v (.int .u64 0), .v (.int .u64 0), .v (.int .u64 0)] := by
  simp [ruleD, rule5, r0, hi0, lo0]
set_option maxRecDepth 100000 in
theorem tab5_le : Le (.p (.d (.sl 1 1 fun i => [[Dat.sl 12 1 fun i => [[Dat.v (.int .i64 5), Dat.v (.int .u64 0), Dat.v (.int .u64 0), Dat.v (.int .u64 0), Dat.v (.int .u64 0), Dat.v (.int .i64 0), Dat.v (.int .i64 0), Dat.v (.int .i64 0), Dat.v (.int .u64 0), Dat.v (.int .u64 0), Dat.v (.int .u64 0), Dat.v (.int .u64 0)]].getD i []]].getD i [])))
    (.p (.d (.sl 1 1 (rowRR tab5)))) := by
  refine le_p (ple_d (dle_sl rfl fun i hi => ?_))
  have : i = 0 := by omega
  subst this
  refine .cons (dle_sl rfl fun j hj => ?_) .nil
  have : j = 0 := by
    have : j < 1 := hj
    omega
  subst this
  exact DLes.of_eq rule5_d.symm
set_option maxRecDepth 100000 in
theorem small5 : smallR tab5 := ⟨by simp [tab5], fun l hl => by simp [tab5] at hl; subst hl; simp⟩
set_option maxRecDepth 100000 in
theorem nilL_le (l : Ltr) (h : l.ts = []) : Le (.p (.agg [.v (.int .i64 l.kd), .v (.int .i64 l.fr), .v (.int .i64 l.to), .v (.int .i64 l.ve), .v (.int .i64 l.se), .v (.slice none 0 0)])) (.p (.agg (letD l))) := by
  unfold letD
  rw [h]
  exact le_p (ple_agg (.cons (dle_refl _) (.cons (dle_refl _) (.cons (dle_refl _) (.cons (dle_refl _) (.cons (dle_refl _) (.cons dle_emp .nil)))))))
set_option maxRecDepth 100000 in
theorem srtZ_one (z : Int) : srtZ [z] = [z] := by simp [srtZ]
set_option maxRecDepth 100000 in
set_option maxHeartbeats 2000000 in
theorem awake23_c : ACalls Try.prog 12 [] (· = [.d (.v (.bool true))]) := by
  have n1 := New_c 2 1 1 tab5 small5
  have l1 := Letter_c ⟨2, 1, 1, [(1, tab5)]⟩ ⟨1, -1, 2, 2, 2, tab5⟩ small5
  rw [show Ag.step ⟨2, 1, 1, [(1, tab5)]⟩ ⟨1, -1, 2, 2, 2, tab5⟩ = (⟨2, 1, 2, [(1, tab5), (2, tab5)]⟩, 2) from rfl] at l1
  have l2 := mcalls_le1 (nilL_le ⟨3, -1, 2, 2, 2, []⟩ rfl) (Letter_c ⟨2, 1, 2, [(1, tab5), (2, tab5)]⟩ ⟨3, -1, 2, 2, 2, []⟩ ⟨by simp, by simp⟩)
  rw [show Ag.step ⟨2, 1, 2, [(1, tab5), (2, tab5)]⟩ ⟨3, -1, 2, 2, 2, []⟩ = (⟨2, 2, 2, [(1, tab5), (2, tab5)]⟩, 4) from rfl] at l2
  have l3 := mcalls_le1 (nilL_le ⟨5, -1, 2, 1, 2, []⟩ rfl) (Letter_c ⟨2, 2, 2, [(1, tab5), (2, tab5)]⟩ ⟨5, -1, 2, 1, 2, []⟩ ⟨by simp, by simp⟩)
  rw [show Ag.step ⟨2, 2, 2, [(1, tab5), (2, tab5)]⟩ ⟨5, -1, 2, 1, 2, []⟩ = (⟨2, 2, 2, [(2, tab5)]⟩, 6) from rfl] at l3
  have c1 := Current_c ⟨2, 2, 2, [(2, tab5)]⟩
  have v1 := Versions_c ⟨2, 2, 2, [(2, tab5)]⟩ ⟨by simp, by simp [inI64], by simp, by simp; exact small5⟩
  have ev : verZ ⟨2, 2, 2, [(2, tab5)]⟩ = [2] := srtZ_one 2
  rw [ev] at v1
  have r1 : ansD 2 2 2 2 0 = [Dat.v (.int .i64 2), Dat.v (.int .i64 2), Dat.v (.int .i64 (-1)), Dat.v (.int .i64 2), Dat.v (.int .i64 2), Dat.v (.slice none 0 0)] := rfl
  have r2 : ansD 4 2 2 2 0 = [Dat.v (.int .i64 4), Dat.v (.int .i64 2), Dat.v (.int .i64 (-1)), Dat.v (.int .i64 2), Dat.v (.int .i64 2), Dat.v (.slice none 0 0)] := rfl
  have r3 : ansD 6 2 1 2 0 = [Dat.v (.int .i64 6), Dat.v (.int .i64 2), Dat.v (.int .i64 (-1)), Dat.v (.int .i64 1), Dat.v (.int .i64 2), Dat.v (.slice none 0 0)] := rfl
  have a1 : ansA 2 2 2 2 = .p (.d (.sl 6 1 (ansD 2 2 2 2))) := rfl
  have a2 : ansA 4 2 2 2 = .p (.d (.sl 6 1 (ansD 4 2 2 2))) := rfl
  have a3 : ansA 6 2 1 2 = .p (.d (.sl 6 1 (ansD 6 2 1 2))) := rfl
  have tl : tab5.length = 1 := rfl
  simp only [letD, tl, a1, a2, a3, intP, agL, agC, agE, List.map_cons, List.map_nil, tabPV, List.length_cons, List.length_nil, Nat.zero_add] at n1 l1 l2 l3 c1 v1
  generalize ansD 2 2 2 2 = R1 at l1 r1
  generalize ansD 4 2 2 2 = R2 at l2 r2
  generalize ansD 6 2 1 2 = R3 at l3 r3
  generalize rowZ [2] = RZ at v1
  have t5 := tab5_le
  generalize rowRR tab5 = RT at n1 l1 l2 l3 c1 v1 t5
  refine acalls_of_awp Try.func12 rfl (by decide +kernel) (by rw [Try.ntmps12]; simp) ?_; rw [Try.ntmps12]; simp only [frOf]
  (repeat ((fail_if_success (show AWP _ _ (.region 2 _ _) _ _)); first | refine j4 ?_ | refine x6 rfl ?_ | refine awp_no rfl ?_ | refine j5 ?_ | (refine q0 fun K hK => ?_) | (refine z6 (by kernel_rfl) (by kernel_rfl) fun K hK => ?_) | ((first | refine j0 ?_ | refine z1 ?_ | ((first | refine x3 (hK _ ?_) | refine x4 (hK _ _ (z2 (by kernel_rfl)) ?_)); clear hK K)); (first | show AWP _ _ _ _ _ | ((try simp only [x5]); first | show loopQ _ _ _ _ _ _ | show cutQ _ _ _ _ | show AWP _ _ _ _ _))) | ((first | refine j6 [] rfl ?_ | refine z7 [] rfl ?_); simp (maxSteps := 2000000) (disch := omega) only [go_sem, seval, r1, r2, r3]; (repeat (first | refine ⟨by omega, ?_⟩ | refine ⟨True.intro, ?_⟩)))))
  refine awp_slot 1 _ _ rfl t5 ?_
  (repeat (first | refine j4 ?_ | refine x6 rfl ?_ | refine awp_no rfl ?_ | refine j5 ?_ | (refine q0 fun K hK => ?_) | (refine z6 (by kernel_rfl) (by kernel_rfl) fun K hK => ?_) | ((first | refine j0 ?_ | refine z1 ?_ | ((first | refine x3 (hK _ ?_) | refine x4 (hK _ _ (z2 (by kernel_rfl)) ?_)); clear hK K)); (first | show AWP _ _ _ _ _ | ((try simp only [x5]); first | show loopQ _ _ _ _ _ _ | show cutQ _ _ _ _ | show AWP _ _ _ _ _))) | ((first | refine j6 [] rfl ?_ | refine z7 [] rfl ?_); simp (maxSteps := 2000000) (disch := omega) only [go_sem, seval, r1, r2, r3]; (repeat (first | refine ⟨by omega, ?_⟩ | refine ⟨True.intro, ?_⟩)))))
  (refine walkS_cons _ (step_mcall [(18, 601), (12, 602)] rfl rfl rfl rfl rfl rfl (n1) rfl (namesOK_of (by repeat (first | exact trivial | refine ⟨rfl, ?_⟩)) (by kernel_rfl))) ?_); simp (maxSteps := 2000000) (disch := omega) only [go_sem, seval, r1, r2, r3]
  (repeat (first | refine j4 ?_ | refine x6 rfl ?_ | refine awp_no rfl ?_ | refine j5 ?_ | (refine q0 fun K hK => ?_) | (refine z6 (by kernel_rfl) (by kernel_rfl) fun K hK => ?_) | ((first | refine j0 ?_ | refine z1 ?_ | ((first | refine x3 (hK _ ?_) | refine x4 (hK _ _ (z2 (by kernel_rfl)) ?_)); clear hK K)); (first | show AWP _ _ _ _ _ | ((try simp only [x5]); first | show loopQ _ _ _ _ _ _ | show cutQ _ _ _ _ | show AWP _ _ _ _ _))) | ((first | refine j6 [] rfl ?_ | refine z7 [] rfl ?_); simp (maxSteps := 2000000) (disch := omega) only [go_sem, seval, r1, r2, r3]; (repeat (first | refine ⟨by omega, ?_⟩ | refine ⟨True.intro, ?_⟩)))))
  (refine walkS_cons _ (step_mcall [(1000, 601), (1001, 602)] rfl rfl rfl rfl rfl rfl (l1) rfl (namesOK_of (by repeat (first | exact trivial | refine ⟨rfl, ?_⟩)) (by kernel_rfl))) ?_); simp (maxSteps := 2000000) (disch := omega) only [go_sem, seval, r1, r2, r3]
  (repeat (first | refine j4 ?_ | refine x6 rfl ?_ | refine awp_no rfl ?_ | refine j5 ?_ | (refine q0 fun K hK => ?_) | (refine z6 (by kernel_rfl) (by kernel_rfl) fun K hK => ?_) | ((first | refine j0 ?_ | refine z1 ?_ | ((first | refine x3 (hK _ ?_) | refine x4 (hK _ _ (z2 (by kernel_rfl)) ?_)); clear hK K)); (first | show AWP _ _ _ _ _ | ((try simp only [x5]); first | show loopQ _ _ _ _ _ _ | show cutQ _ _ _ _ | show AWP _ _ _ _ _))) | ((first | refine j6 [] rfl ?_ | refine z7 [] rfl ?_); simp (maxSteps := 2000000) (disch := omega) only [go_sem, seval, r1, r2, r3]; (repeat (first | refine ⟨by omega, ?_⟩ | refine ⟨True.intro, ?_⟩)))))
  (refine walkS_cons _ (step_mcall [(1000, 601), (1001, 602)] rfl rfl rfl rfl rfl rfl (l2) rfl (namesOK_of (by repeat (first | exact trivial | refine ⟨rfl, ?_⟩)) (by kernel_rfl))) ?_); simp (maxSteps := 2000000) (disch := omega) only [go_sem, seval, r1, r2, r3]
  (repeat (first | refine j4 ?_ | refine x6 rfl ?_ | refine awp_no rfl ?_ | refine j5 ?_ | (refine q0 fun K hK => ?_) | (refine z6 (by kernel_rfl) (by kernel_rfl) fun K hK => ?_) | ((first | refine j0 ?_ | refine z1 ?_ | ((first | refine x3 (hK _ ?_) | refine x4 (hK _ _ (z2 (by kernel_rfl)) ?_)); clear hK K)); (first | show AWP _ _ _ _ _ | ((try simp only [x5]); first | show loopQ _ _ _ _ _ _ | show cutQ _ _ _ _ | show AWP _ _ _ _ _))) | ((first | refine j6 [] rfl ?_ | refine z7 [] rfl ?_); simp (maxSteps := 2000000) (disch := omega) only [go_sem, seval, r1, r2, r3]; (repeat (first | refine ⟨by omega, ?_⟩ | refine ⟨True.intro, ?_⟩)))))
  (refine walkS_cons _ (step_mcall [(1000, 601), (1001, 602)] rfl rfl rfl rfl rfl rfl (l3) rfl (namesOK_of (by repeat (first | exact trivial | refine ⟨rfl, ?_⟩)) (by kernel_rfl))) ?_); simp (maxSteps := 2000000) (disch := omega) only [go_sem, seval, r1, r2, r3]
  (repeat (first | refine j4 ?_ | refine x6 rfl ?_ | refine awp_no rfl ?_ | refine j5 ?_ | (refine q0 fun K hK => ?_) | (refine z6 (by kernel_rfl) (by kernel_rfl) fun K hK => ?_) | ((first | refine j0 ?_ | refine z1 ?_ | ((first | refine x3 (hK _ ?_) | refine x4 (hK _ _ (z2 (by kernel_rfl)) ?_)); clear hK K)); (first | show AWP _ _ _ _ _ | ((try simp only [x5]); first | show loopQ _ _ _ _ _ _ | show cutQ _ _ _ _ | show AWP _ _ _ _ _))) | ((first | refine j6 [] rfl ?_ | refine z7 [] rfl ?_); simp (maxSteps := 2000000) (disch := omega) only [go_sem, seval, r1, r2, r3]; (repeat (first | refine ⟨by omega, ?_⟩ | refine ⟨True.intro, ?_⟩)))))
  (refine walkS_cons _ (step_mcall [(1000, 601), (1001, 602)] rfl rfl rfl rfl rfl rfl (c1) rfl (namesOK_of (by repeat (first | exact trivial | refine ⟨rfl, ?_⟩)) (by kernel_rfl))) ?_); simp (maxSteps := 2000000) (disch := omega) only [go_sem, seval, r1, r2, r3]
  (repeat (first | refine j4 ?_ | refine x6 rfl ?_ | refine awp_no rfl ?_ | refine j5 ?_ | (refine q0 fun K hK => ?_) | (refine z6 (by kernel_rfl) (by kernel_rfl) fun K hK => ?_) | ((first | refine j0 ?_ | refine z1 ?_ | ((first | refine x3 (hK _ ?_) | refine x4 (hK _ _ (z2 (by kernel_rfl)) ?_)); clear hK K)); (first | show AWP _ _ _ _ _ | ((try simp only [x5]); first | show loopQ _ _ _ _ _ _ | show cutQ _ _ _ _ | show AWP _ _ _ _ _))) | ((first | refine j6 [] rfl ?_ | refine z7 [] rfl ?_); simp (maxSteps := 2000000) (disch := omega) only [go_sem, seval, r1, r2, r3]; (repeat (first | refine ⟨by omega, ?_⟩ | refine ⟨True.intro, ?_⟩)))))
  (refine walkS_cons _ (step_mcall [(1000, 601), (1001, 602)] rfl rfl rfl rfl rfl rfl (v1) rfl (namesOK_of (by repeat (first | exact trivial | refine ⟨rfl, ?_⟩)) (by kernel_rfl))) ?_); simp (maxSteps := 2000000) (disch := omega) only [go_sem, seval, r1, r2, r3]
  (repeat (first | refine j4 ?_ | refine x6 rfl ?_ | refine awp_no rfl ?_ | refine j5 ?_ | (refine q0 fun K hK => ?_) | (refine z6 (by kernel_rfl) (by kernel_rfl) fun K hK => ?_) | ((first | refine j0 ?_ | refine z1 ?_ | ((first | refine x3 (hK _ ?_) | refine x4 (hK _ _ (z2 (by kernel_rfl)) ?_)); clear hK K)); (first | show AWP _ _ _ _ _ | ((try simp only [x5]); first | show loopQ _ _ _ _ _ _ | show cutQ _ _ _ _ | show AWP _ _ _ _ _))) | ((first | refine j6 [] rfl ?_ | refine z7 [] rfl ?_); simp (maxSteps := 2000000) (disch := omega) only [go_sem, seval, r1, r2, r3]; (repeat (first | refine ⟨by omega, ?_⟩ | refine ⟨True.intro, ?_⟩)))))
  refine awp_ret ⟨_, ?_, rfl⟩; rw [Try.results12]; simp (disch := omega) only [ResVars, ResVar, ptrLoc, go_sem, seval, r1, r2, r3]
end Go.Proofs.Ytjfammnjpeeahaa
set_option linter.unusedSimpArgs false
set_option linter.unusedVariables false
namespace Go.Proofs.Ytjfammnjpeeahaa
open Go Go.Proofs.Ytjfammnjpeeahaa.AL
structure AgB (a : Ag) (k : Nat) : Prop where
  nd : (a.es.map (·.1)).Nodup
  wf : ∀ z ∈ a.es.map (·.1), inI64 z
  len : a.es.length ≤ k
  small : ∀ e ∈ a.es, smallR e.2
set_option maxRecDepth 100000 in
theorem AgB.ok {a : Ag} {k : Nat} (h : AgB a k) (hk : k ≤ 1099511627776) : AgOk a := ⟨h.nd, h.wf, by have := h.len; omega, h.small⟩
set_option maxRecDepth 100000 in
theorem putA_keys (v : Int) (t : List (List Rule)) : ∀ es : List (Int × List (List Rule)), (putA v t es).map (·.1) = if v ∈ es.map (·.1) then es.map (·.1) else es.map (·.1) ++ [v]
  | [] => by simp [putA]
  | e :: r => by
    have ih := putA_keys v t r
    unfold putA
    by_cases h : e.1 = v
    · rw [if_pos h]; simp [h]
    · rw [if_neg h, List.map_cons, ih]
      by_cases h2 : v ∈ r.map (·.1)
      · rw [if_pos h2, if_pos (by simp only [List.map_cons, List.mem_cons]; exact .inr h2)]; rfl
      · rw [if_neg h2, if_neg (by simp only [List.map_cons, List.mem_cons]; rintro (e | e); exact h e.symm; exact h2 e)]; rfl
set_option maxRecDepth 100000 in
theorem putA_mem {v : Int} {t : List (List Rule)} : ∀ {es : List (Int × List (List Rule))} {e}, e ∈ putA v t es → e = (v, t) ∨ e ∈ es
  | [], e, h => by simp [putA] at h; exact .inl h
  | x :: r, e, h => by
    unfold putA at h
    split at h
    · rcases List.mem_cons.1 h with h | h
      · exact .inl h
      · exact .inr (by simp [h])
    · rcases List.mem_cons.1 h with h | h
      · exact .inr (by simp [h])
      · rcases putA_mem h with h | h
        · exact .inl h
        · exact .inr (by simp [h])
set_option maxRecDepth 100000 in
theorem delA_sub (v : Int) : ∀ es : List (Int × List (List Rule)), (delA v es).Sublist es
  | [] => List.Sublist.refl _
  | e :: r => by
    unfold delA
    split
    · exact List.sublist_cons_self _ _
    · exact (delA_sub v r).cons_cons _
set_option maxRecDepth 100000 in
theorem AgB.step {a : Ag} {k : Nat} (h : AgB a k) (l : Ltr) (hs : smallR l.ts) (hv : inI64 l.ve) : AgB (a.step l).1 (k + 1) := by
  have same : ∀ {b : Ag}, b.es = a.es → AgB b (k + 1) := fun {b} e => ⟨by rw [e]; exact h.nd, by rw [e]; exact h.wf, by rw [e]; have := h.len; omega, by rw [e]; exact h.small⟩
  unfold Ag.step
  split
  · exact same rfl
  · split
    · refine ⟨?_, fun z hz => ?_, ?_, fun e he => ?_⟩
      · simp only [putA_keys]
        split
        · exact h.nd
        · rename_i hn
          refine List.nodup_append.2 ⟨h.nd, by simp, fun x hx y hy e => ?_⟩
          simp only [List.mem_singleton] at hy
          subst hy; subst e; exact hn hx
      · simp only [putA_keys] at hz
        split at hz
        · exact h.wf z hz
        · rcases List.mem_append.1 hz with hz | hz
          · exact h.wf z hz
          · simp only [List.mem_singleton] at hz; subst hz; exact hv
      · have := congrArg List.length (putA_keys l.ve l.ts a.es)
        have hl := h.len
        rw [List.length_map] at this
        simp only []
        rw [this]
        split <;> simp <;> omega
      · rcases putA_mem he with rfl | he
        · exact hs
        · exact h.small e he
    · split
      · split
        · exact same rfl
        · exact same rfl
      · split
        · split
          · exact same rfl
          · have hsub := delA_sub l.ve a.es
            exact ⟨(hsub.map _).nodup h.nd, fun z hz => h.wf z ((hsub.map _).subset hz), by have := hsub.length_le; have := h.len; simp only []; omega, fun e he => h.small e (hsub.subset he)⟩
        · exact same rfl
set_option maxRecDepth 100000 in
theorem getA_putA (v : Int) (t : List (List Rule)) : ∀ es, getA v (putA v t es) = some t
  | [] => by simp [putA, getA]
  | e :: r => by
    unfold putA
    split
    · simp [getA]
    · rename_i h; simp [getA, h, getA_putA v t r]
def late (a : Ag) (l : Ltr) : Prop := l.fr ≠ -1 ∨ l.to ≠ a.n ∨ l.se < a.ser
set_option maxRecDepth 100000 in
theorem step_late {a : Ag} {l : Ltr} (h : late a l) : a.step l = (a, 0) := by unfold Ag.step; exact if_pos h
set_option maxRecDepth 100000 in
theorem step_1 {a : Ag} {l : Ltr} (h : ¬ late a l) (k1 : l.kd = 1) : a.step l = ({ a with ser := l.se, es := putA l.ve l.ts a.es }, 2) := by unfold late at h; unfold Ag.step; rw [if_neg h, if_pos k1]
set_option maxRecDepth 100000 in
theorem step_3y {a : Ag} {l : Ltr} (h : ¬ late a l) (k3 : l.kd = 3) (hg : (getA l.ve a.es).isSome = true) : a.step l = ({ a with ser := l.se, cur := l.ve }, 4) := by unfold late at h; unfold Ag.step; rw [if_neg h, if_neg (by omega), if_pos k3, if_pos hg]
set_option maxRecDepth 100000 in
theorem step_3n {a : Ag} {l : Ltr} (h : ¬ late a l) (k3 : l.kd = 3) (hg : (getA l.ve a.es).isSome = false) : a.step l = ({ a with ser := l.se }, 0) := by unfold late at h; unfold Ag.step; rw [if_neg h, if_neg (by omega), if_pos k3, if_neg (by rw [hg]; simp)]
set_option maxRecDepth 100000 in
theorem step_5s {a : Ag} {l : Ltr} (h : ¬ late a l) (k5 : l.kd = 5) (hv : l.ve = a.cur) : a.step l = ({ a with ser := l.se }, 0) := by unfold late at h; unfold Ag.step; rw [if_neg h, if_neg (by omega), if_neg (by omega), if_pos k5, if_pos hv]
set_option maxRecDepth 100000 in
theorem step_5o {a : Ag} {l : Ltr} (h : ¬ late a l) (k5 : l.kd = 5) (hv : l.ve ≠ a.cur) : a.step l = ({ a with ser := l.se, es := delA l.ve a.es }, 6) := by unfold late at h; unfold Ag.step; rw [if_neg h, if_neg (by omega), if_neg (by omega), if_pos k5, if_neg hv]
set_option maxRecDepth 100000 in
theorem step_o {a : Ag} {l : Ltr} (h : ¬ late a l) (k1 : l.kd ≠ 1) (k3 : l.kd ≠ 3) (k5 : l.kd ≠ 5) : a.step l = ({ a with ser := l.se }, 0) := by unfold late at h; unfold Ag.step; rw [if_neg h, if_neg k1, if_neg k3, if_neg k5]
end Go.Proofs.Ytjfammnjpeeahaa
set_option linter.unusedSimpArgs false
set_option linter.unusedVariables false
namespace Go.Proofs.Ytjfammnjpeeahaa
open Go Go.Proofs.Ytjfammnjpeeahaa.AL
set_option maxRecDepth 100000 in
theorem getA_put_ne {v u : Int} {t : List (List Rule)} (h : v ≠ u) : ∀ es, getA u (putA v t es) = getA u es
  | [] => by simp [putA, getA, h]
  | e :: r => by
    unfold putA
    split
    · rename_i e1; simp [getA, h, e1]
    · unfold getA; rw [getA_put_ne h r]
set_option maxRecDepth 100000 in
theorem getA_del_ne {v u : Int} (h : v ≠ u) : ∀ es, getA u (delA v es) = getA u es
  | [] => rfl
  | e :: r => by
    unfold delA
    split
    · rename_i e1
      have : e.1 ≠ u := fun e2 => h (e1.symm.trans e2)
      simp [getA, this]
    · unfold getA; rw [getA_del_ne h r]
end Go.Proofs.Ytjfammnjpeeahaa
set_option linter.unusedSimpArgs false
set_option linter.unusedVariables false
namespace Go.Proofs.Ytjfammnjpeeahaa.AL
open Go
def LLes (M M2 : List (Nat × LV)) : Prop := ∀ l X2, look M2 l = some X2 → ∃ X, look M l = some X ∧ LLe X X2
theorem LLes.nil (M : List (Nat × LV)) : LLes M [] := fun l X2 h => by simp [look] at h
theorem LLes.cons {M M2 : List (Nat × LV)} {l : Nat} {X X2 : LV} (h : look M l = some X) (hl : LLe X X2) (t : LLes M M2) : LLes M ((l, X2) :: M2) := fun k Y hk => by
  simp only [look] at hk
  split at hk
  · rename_i e; subst e; cases hk; exact ⟨X, h, hl⟩
  · exact t k Y hk
theorem LLe.refl (X : LV) : LLe X X := of_eq_true (lle_self X)
end Go.Proofs.Ytjfammnjpeeahaa.AL
set_option linter.unusedSimpArgs false
set_option linter.unusedVariables false
namespace Go.Proofs.Ytjfammnjpeeahaa.AL
variable {P : Program} {nt : Nat} {Q : Exit → ASt → Prop} {A : ASt}
def cutQ {ι : Type} (I : ι → ASt) (Q : Exit → ASt → Prop) : Exit → ASt → Prop
  | .normal, A => ∃ i, Weak A (I i)
  | e, A => Q e A
attribute [irreducible] cutQ
theorem look_of_all {α : Type} {M : List (Nat × α)} : ∀ {L : List (Nat × α)}, (∀ p ∈ L, look M p.1 = some p.2) → ∀ l X, look L l = some X → look M l = some X
  | [], _, l, X, h => by cases h
  | p :: r, hl, l, X, h => by
    simp only [look] at h
    split at h
    · rename_i e; subst e; cases h; exact hl p (by simp)
    · exact look_of_all (fun q hq => hl q (by simp [hq])) l X h
theorem retM_of' {fn : Func} {Q : List AV → List (Nat × LV) → Prop} (rs : List AV) (L : List (Nat × LV)) (hr : ResVarsA P A fn.results.toList rs) (hl : ∀ p ∈ L, look A.locs p.1 = some p.2) (hq : Q rs L) : retM P fn Q .normal A :=
  ⟨rs, L, hr, look_of_all hl, hq⟩
inductive LesD : List AV → List AV → Prop
  | nil : LesD [] []
  | cons {x y : AV} {xs ys : List AV} (h : Le x y) (t : LesD xs ys) : LesD (x :: xs) (y :: ys)
theorem lle_cellsD {e : TypeId} {cs cs' : List AV} (h : LesD cs cs') : LLe (.cells e cs) (.cells e cs') := by
  refine ⟨rfl, ?_, ?_⟩
  · induction h with
    | nil => rfl
    | cons _ _ ih => simp [ih]
  · induction h with
    | nil => intro i x y h1; simp at h1
    | cons h t ih =>
      intro i x y h1 h2
      cases i with
      | zero => simp at h1 h2; subst h1; subst h2; exact h
      | succ i => exact ih i x y (by simpa using h1) (by simpa using h2)
end Go.Proofs.Ytjfammnjpeeahaa.AL
set_option linter.unusedSimpArgs false
set_option linter.unusedVariables false
namespace Go.Proofs.Ytjfammnjpeeahaa.AL
open Go.RowKit
variable {P : Program}
def WeakX (A : ASt) (S : ASt → Prop) : Prop := ∀ (w0 : Base) (g0 : Nat → Nat) (nt : Nat) (h : Gh) (a : Act) (w : World), Rel w0 g0 nt A h a w → ∃ A' h', S A' ∧ Rel w0 g0 nt A' h' a w
theorem awp_weakX {nt : Nat} {c : Code} {Q : Exit → ASt → Prop} {A : ASt} {S : ASt → Prop} (hw : WeakX A S) (h : ∀ A', S A' → AWP P nt c Q A') : AWP P nt c Q A := by
  rw [acalls_awp]
  intro w0 g0 h' a w r
  obtain ⟨A', h2, hs, r'⟩ := hw w0 g0 nt h' a w r
  exact acalls_awp.1 (h A' hs) w0 g0 h2 a w r'
theorem walkS_weakX {nt : Nat} {ops : Array Oper} {o : Oper} {rest : List Oper} {A : ASt} {K : ASt → Prop} {S : ASt → Prop} (hw : WeakX A S) (h : ∀ A', S A' → walkS P nt ops (o :: rest) A' K) : walkS P nt ops (o :: rest) A K := by
  rw [walkS_iff]
  refine ⟨fun B => walkS P nt ops rest B K, fun w0 g0 h' a w r K' Q hn => ?_, fun _ hk => hk⟩
  obtain ⟨A', h2, hs, r'⟩ := hw w0 g0 nt h' a w r
  obtain ⟨S1, hd, hk⟩ := walkS_iff.1 (h A' hs)
  exact hd w0 g0 h2 a w r' K' Q fun A1 a' w' h3 e hr => hn A1 a' w' h3 (hk A1 e) hr
def noM : Nat → Option Ent := fun _ => none
theorem Weak.arena (A : ASt) (hn : look A.locs 1999 = none) : Weak A ⟨A.fr, (1999, .raw noM) :: A.locs⟩ := by
  intro w0 g0 nt h a w r
  have hin : ∀ b, ¬ inB h 1999 (.raw noM) b := fun b hb => hb rfl
  refine ⟨h, r.size, r.defers, r.fr, fun l L hL => ?_, fun l l' L L' b hne hL hL' hb hb' => ?_, r.ext, r.pin⟩
  · simp only [look] at hL
    split at hL
    · rename_i e; subst e; cases hL; intro b E hb; cases hb
    · exact r.locs l L hL
  · simp only [look] at hL hL'
    split at hL
    · rename_i e; subst e; cases hL; exact hin b hb
    · split at hL'
      · rename_i e; subst e; cases hL'; exact hin b hb'
      · exact r.sep l l' L L' b hne hL hL' hb hb'
theorem awp_arena {nt : Nat} {c : Code} {Q : Exit → ASt → Prop} {A : ASt} (hn : look A.locs 1999 = none) (h : AWP P nt c Q ⟨A.fr, (1999, .raw noM) :: A.locs⟩) : AWP P nt c Q A := awp_weak (Weak.arena A hn) h
def PackR (M : Nat → Option Ent) (e : TypeId) (sz n : Nat) (f : Nat → List Dat) (v : Value) (M' : Nat → Option Ent) : Prop :=
  (n = 0 ∧ v = .slice none 0 0 ∧ M' = M) ∨ ∃ b c, n ≤ c ∧ M b = none ∧ v = .slice (some ⟨b, 0, none⟩) n c ∧ M' = setM M b (some ⟨e, sz, c, n, f⟩)
theorem look_drop_ne {l : Nat} {L : List (Nat × LV)} {k : Nat} {X : LV} (h : look (dropL l L) k = some X) : k ≠ l ∧ look L k = some X := by
  rw [look_dropL] at h
  split at h
  · cases h
  · exact ⟨‹_›, h⟩
theorem Rel.into {w0 : Base} {g0 : Nat → Nat} {nt : Nat} {A : ASt} {h : Gh} {a : Act} {w : World} (r : Rel w0 g0 nt A h a w) {l b : Nat} {X : LV} {M : Nat → Option Ent} {E : Ent} {fr : List (Nat × AV)}
    (hl : look A.locs l = some X) (hM : look A.locs 1999 = some (.raw M)) (hne : l ≠ 1999) (hb : inB h l X b) (hO : w0.O b) (hE : EntOK w h.g b E) (hg : h.g b = 0)
    (hfr : ∀ t x, look fr t = some x → RelA w h (a.tmps.getD t undef) x) : M b = none ∧ Rel w0 g0 nt ⟨fr, (1999, .raw (setM M b (some E))) :: dropL l A.locs⟩ h a w := by
  have hMb : M b = none := by
    have := r.sep l 1999 X _ b hne hl hM hb
    simp only [inB] at this
    exact Classical.byContradiction fun e => this e
  have old : ∀ k L, look ((1999, LV.raw (setM M b (some E))) :: dropL l A.locs) k = some L → (k = 1999 ∧ L = .raw (setM M b (some E))) ∨ (k ≠ 1999 ∧ k ≠ l ∧ look A.locs k = some L) := by
    intro k L hk
    simp only [look] at hk
    split at hk
    · rename_i e; cases hk; exact .inl ⟨e.symm, rfl⟩
    · rename_i e
      obtain ⟨k1, k2⟩ := look_drop_ne hk
      exact .inr ⟨fun e' => e e'.symm, k1, k2⟩
  have hin : ∀ b', inB h 1999 (.raw (setM M b (some E))) b' → b' = b ∨ inB h 1999 (.raw M) b' := by
    intro b' hb'
    simp only [inB, setM] at hb' ⊢
    split at hb'
    · exact .inl ‹_›
    · exact .inr hb'
  refine ⟨hMb, r.size, r.defers, hfr, fun k L hk => ?_, fun k k' L L' b' hkk hk hk' hb1 hb2 => ?_, r.ext, r.pin⟩
  · rcases old k L hk with ⟨rfl, rfl⟩ | ⟨_, _, h3⟩
    · intro b' E' hE'
      simp only [setM] at hE'
      split at hE'
      · rename_i e; subst e; cases hE'; exact ⟨hO, hE, hg⟩
      · exact r.locs 1999 _ hM b' E' hE'
    · exact r.locs k L h3
  · rcases old k L hk with ⟨rfl, rfl⟩ | ⟨n1, n2, h3⟩ <;> rcases old k' L' hk' with ⟨rfl, rfl⟩ | ⟨n1', n2', h3'⟩
    · exact hkk rfl
    · rcases hin b' hb1 with rfl | hb1
      · exact r.sep l k' X L' b' (fun e => n2' e.symm) hl h3' hb hb2
      · exact r.sep 1999 k' _ L' b' (fun e => n1' e.symm) hM h3' hb1 hb2
    · rcases hin b' hb2 with rfl | hb2
      · exact r.sep l k X L b' (fun e => n2 e.symm) hl h3 hb hb1
      · exact r.sep 1999 k _ L b' (fun e => n1 e.symm) hM h3 hb2 hb1
    · exact r.sep k k' L L' b' hkk h3 h3' hb1 hb2
theorem WeakX.packRow (A : ASt) (t l gen sz n : Nat) (e : TypeId) (f : Nat → List Dat) (M : Nat → Option Ent) (ht : look A.fr t = some (.ow l gen sz n)) (hl : look A.locs l = some (.own e sz n gen f)) (hM : look A.locs 1999 = some (.raw M)) (hne : l ≠ 1999) :
    WeakX A (fun A' => ∃ v M', PackR M e sz n f v M' ∧ A' = ⟨(t, .p (.d (.v v))) :: A.fr, (1999, .raw M') :: dropL l A.locs⟩) := by
  intro w0 g0 nt h a w r
  have hL := r.locs l _ hl
  obtain ⟨q1, ⟨va, vc, q2, q2'⟩, q3⟩ := r.fr t _ ht
  have hv := q3 hL.1
  have hfr : ∀ v, a.tmps.getD t undef = v → v.oneCell' = true → ∀ u y, look ((t, AV.p (.d (.v v))) :: A.fr) u = some y → RelA w h (a.tmps.getD u undef) y := by
    intro v hv h1 u y hy
    simp only [look] at hy
    split at hy
    · rename_i e; subst e; cases hy; rw [hv]; exact relA_mk h1
    · exact r.fr u y hy
  by_cases hn : (h.κ l).ownBlock = none
  · obtain ⟨n0, hk⟩ : n = 0 ∧ h.κ l = .slice none 0 0 := by
      obtain ⟨_, ⟨xs, ⟨_, ⟨h0, h1⟩ | ⟨gb, cap, cur, h0, _⟩⟩, _⟩, _⟩ := hL
      · exact ⟨h1, h0⟩
      · rw [h0] at hn; simp [Value.ownBlock] at hn
    subst n0
    refine ⟨_, h, ⟨.slice none 0 0, M, .inl ⟨rfl, rfl, rfl⟩, rfl⟩, r.size, r.defers, hfr _ (hv.trans hk) rfl, fun k L hk => ?_, fun k k' L L' b' hkk hk hk' => ?_, r.ext, r.pin⟩
    · simp only [look] at hk
      split at hk
      · rename_i e; subst e; cases hk; exact r.locs 1999 _ hM
      · exact r.locs k L (look_drop_ne hk).2
    · have old : ∀ k L, look ((1999, LV.raw M) :: dropL l A.locs) k = some L → look A.locs k = some L := by
        intro k L hk
        simp only [look] at hk
        split at hk
        · rename_i e; subst e; cases hk; exact hM
        · exact (look_drop_ne hk).2
      exact r.sep k k' L L' b' hkk (old k L hk) (old k' L' hk')
  · obtain ⟨b, hb⟩ := Option.ne_none_iff_exists'.1 hn
    obtain ⟨cap, cur, c1, c2, c3, c4, c5, c6, c7, c8⟩ := own_block hL hb
    obtain ⟨m1, m2⟩ := r.into hl hM hne (E := ⟨e, sz, cap, n, f⟩) (b := b) (by simp [inB, hb]) c7 ⟨cur, c2, c5, c3, c4, c8⟩ c6 (hfr _ (hv.trans c1) rfl)
    exact ⟨_, h, ⟨_, _, .inr ⟨b, cap, c3, m1, rfl, rfl⟩, rfl⟩, m2⟩
end Go.Proofs.Ytjfammnjpeeahaa.AL
set_option linter.unusedSimpArgs false
set_option linter.unusedVariables false
namespace Go.Proofs.Ytjfammnjpeeahaa.AL
open Go.RowKit
variable {P : Program}
inductive RdD (M : Nat → Option Ent) : Dat → Dat → Prop
  | refl (d : Dat) : RdD M d d
  | sl (sz n : Nat) (f f' : Nat → List Dat) (hl : ∀ i, i < n → (f' i).length = (f i).length) (hr : ∀ (i j : Nat) (x y : Dat), i < n → (f i)[j]? = some x → (f' i)[j]? = some y → RdD M x y) : RdD M (.sl sz n f) (.sl sz n f')
  | row (b n c : Nat) (E : Ent) (f' : Nat → List Dat) (hM : M b = some E) (hn : n ≤ E.n) (hc : n ≤ c) (hl : ∀ i, i < n → (f' i).length = (E.f i).length)
      (hr : ∀ (i j : Nat) (x y : Dat), i < n → (E.f i)[j]? = some x → (f' i)[j]? = some y → RdD M x y) : RdD M (.v (.slice (some ⟨b, 0, none⟩) n c)) (.sl E.sz n f')
  | nil (sz : Nat) (f : Nat → List Dat) : RdD M (.v (.slice none 0 0)) (.sl sz 0 f)
  | box (b : Nat) (E : Ent) (ds : List Dat) (hM : M b = some E) (hn : 0 < E.n) (hl : ds.length = E.sz)
      (hr : ∀ (j : Nat) (x y : Dat), (E.f 0)[j]? = some x → ds[j]? = some y → RdD M x y) : RdD M (.v (.pointer (some ⟨b, 0, none⟩))) (.bx ds)
inductive RdP (M : Nat → Option Ent) : PV → PV → Prop
  | refl (x : PV) : RdP M x x
  | d {x y : Dat} (h : RdD M x y) : RdP M (.d x) (.d y)
  | agg (cs ds : List Dat) (hl : cs.length = ds.length) (hr : ∀ (j : Nat) x y, cs[j]? = some x → ds[j]? = some y → RdD M x y) : RdP M (.agg cs) (.agg ds)
def iced (g : Nat → Nat) (M : Nat → Option Ent) (b : Nat) : Nat := match M b with
  | some E => E.cap * E.sz
  | none => g b
def lowered (g : Nat → Nat) (M : Nat → Option Ent) (b : Nat) : Nat := match M b with
  | some _ => 0
  | none => g b
structure Arena (w : World) (g : Nat → Nat) (M : Nat → Option Ent) : Prop where
  ok : ∀ b E, M b = some E → EntOK w g b E
  g0 : ∀ b E, M b = some E → g b = 0
section
variable {w : World} {g : Nat → Nat} {M : Nat → Option Ent}
theorem iced_keep (hA : Arena w g M) : Keep w g w (iced g M) := by
  refine ⟨fun b => ?_, fun b o _ => rfl⟩
  unfold iced
  split
  · rename_i E hE; rw [hA.g0 b E hE]; exact Nat.zero_le _
  · exact Nat.le_refl _
theorem Arena.lt (hA : Arena w g M) {b : Nat} {E : Ent} (h : M b = some E) : b < w.heap.size := by
  obtain ⟨cur, hh, _⟩ := hA.ok b E h; exact (Array.getElem?_eq_some_iff.1 hh).1
theorem iced_gz (hA : Arena w g M) (hz : GZ w g) : GZ w (iced g M) := by
  intro b hb
  unfold iced
  split
  · rename_i E hE; have := hA.lt hE; omega
  · exact hz b hb
theorem rdD_spec (hA : Arena w g M) {x y : Dat} (h : RdD M x y) : ∀ {v : Value}, RelD w g v x → RelD w (iced g M) v y := by
  induction h with
  | refl d => intro v r; exact r.keep (iced_keep hA)
  | sl sz n f f' hl hr ih =>
    intro v r
    cases r with
    | sl0 a c => exact .sl0 _ _ _ _
    | sl b off _ c _ _ u hn hl2 hc hg hr2 =>
      refine .sl b off n c sz f' u hn (fun i hi => (hl i hi).trans (hl2 i hi)) hc (Nat.le_trans hg ((iced_keep hA).gam b)) (fun i j y hi hy => ?_)
      have hj : j < (f i).length := by rw [← hl i hi]; exact (List.getElem?_eq_some_iff.1 hy).1
      exact ih i j _ y hi (List.getElem?_eq_getElem hj) hy (hr2 i j _ hi (List.getElem?_eq_getElem hj))
  | row b n c E f' hM hn hc hl hr ih =>
    intro v r
    cases r
    obtain ⟨cur, q1, q2, q3, q4, q5⟩ := hA.ok b E hM
    have hnE : n * E.sz ≤ E.n * E.sz := Nat.mul_le_mul_right _ hn
    have hcE : E.n * E.sz ≤ E.cap * E.sz := Nat.mul_le_mul_right _ q3
    refine .sl b 0 n c E.sz f' (fun i j => (cur[i * E.sz + j]?).getD undef) hc (fun i hi => (hl i hi).trans (q5.1 i (by omega))) (fun i j hi hj => ?_) ?_ (fun i j y hi hy => ?_)
    · obtain ⟨u, d, k1, k2, k3⟩ := q5.at (i := i) (j := j) (by omega) hj
      rw [Nat.zero_add, heap_cell q1, k2]; rfl
    · simp only [iced, hM]; omega
    · have hj : j < (E.f i).length := by rw [← hl i hi]; exact (List.getElem?_eq_some_iff.1 hy).1
      obtain ⟨u, k1, k2⟩ := q5.cell (i := i) (j := j) (by omega) (by rw [← q5.1 i (by omega)]; exact hj) (List.getElem?_eq_getElem hj)
      rw [k1]
      exact ih i j _ y hi (List.getElem?_eq_getElem hj) hy k2
  | nil sz f => intro v r; exact (r.nil sz f).keep (iced_keep hA)
  | box b E ds hM hn hl hr ih =>
    intro v r
    cases r
    obtain ⟨cur, q1, q2, q3, q4, q5⟩ := hA.ok b E hM
    have hcE : 1 * E.sz ≤ E.cap * E.sz := Nat.mul_le_mul_right _ (by omega)
    have hf := q5.1 0 hn
    refine .bx b 0 ds (fun j => (cur[j]?).getD undef) (fun j hj => ?_) ?_ (fun j y hy => ?_)
    · obtain ⟨u, d, k1, k2, k3⟩ := q5.at (i := 0) (j := j) hn (by omega)
      rw [Nat.zero_mul, Nat.zero_add] at k2
      rw [Nat.zero_add, heap_cell q1, k2]; rfl
    · simp only [iced, hM]; omega
    · have hj : j < (E.f 0).length := by rw [hf, ← hl]; exact (List.getElem?_eq_some_iff.1 hy).1
      obtain ⟨u, k1, k2⟩ := q5.cell (i := 0) (j := j) hn (by rw [← hf]; exact hj) (List.getElem?_eq_getElem hj)
      rw [Nat.zero_mul, Nat.zero_add] at k1
      rw [k1]
      exact ih j _ y (List.getElem?_eq_getElem hj) hy k2
theorem rdP_spec (hA : Arena w g M) {x y : PV} (h : RdP M x y) {v : Value} (r : RelP w g v x) : RelP w (iced g M) v y := by
  cases h with
  | refl x => exact r.keep (iced_keep hA)
  | d h => cases r with | d _ _ r => exact .d _ _ (rdD_spec hA h r)
  | agg cs ds hl hr =>
    cases r with
    | agg vs _ hl2 hr2 =>
      refine .agg vs ds (hl2.trans hl) fun j v y hv hy => ?_
      have hj : j < cs.length := by rw [hl]; exact (List.getElem?_eq_some_iff.1 hy).1
      exact rdD_spec hA (hr j _ y (List.getElem?_eq_getElem hj) hy) (hr2 j v _ hv (List.getElem?_eq_getElem hj))
end
def Dat.flat : Dat → Prop
  | .v _ => True
  | _ => False
def PV.flat : PV → Prop
  | .d x => x.flat
  | .agg cs => ∀ c ∈ cs, c.flat
  | _ => False
def AV.flat : AV → Prop
  | .p x => x.flat
  | .gr .. => False
  | .tup xs => ∀ x ∈ xs, x.flat
  | .cl .. => False
  | .ag _ => False
  | _ => True
def LV.flat : LV → Prop
  | .cells _ cs => ∀ c ∈ cs, c.flat
  | .own _ _ n _ f => ∀ i, i < n → ∀ d ∈ f i, d.flat
  | _ => False
theorem relD_flat {w w' : World} {g g' : Nat → Nat} {v : Value} {d : Dat} (hd : d.flat) (r : RelD w g v d) : RelD w' g' v d := by
  cases r with
  | v _ h => exact .v _ h
  | _ => exact hd.elim
theorem relP_flat {w w' : World} {g g' : Nat → Nat} {v : Value} {x : PV} (hx : x.flat) (r : RelP w g v x) : RelP w' g' v x := by
  cases r with
  | d _ _ r => exact .d _ _ (relD_flat hx r)
  | agg vs cs hl hr => exact .agg vs cs hl fun j v x hv hc => relD_flat ((show ∀ c ∈ cs, c.flat from hx) x (List.mem_of_getElem? hc)) (hr j v x hv hc)
  | _ => exact hx.elim
theorem relA_flat {w w' : World} {h h' : Gh} {v : Value} {x : AV} (hx : x.flat) (e1 : h'.ρ = h.ρ) (e2 : h'.κ = h.κ) (e3 : h'.μ = h.μ) (r : RelA w h v x) : RelA w' h' v x := by
  cases x with
  | p x => exact relP_flat hx r
  | gr => exact hx.elim
  | cl => exact hx.elim
  | ag => exact hx.elim
  | tup xs =>
    obtain ⟨vs, hv, hl, hr⟩ := r
    exact ⟨vs, hv, hl, fun j v x hv hc => relP_flat ((show ∀ x ∈ xs, x.flat from hx) x (List.mem_of_getElem? hc)) (hr j v x hv hc)⟩
  | _ => first | exact r | (simp only [RelA, RelOw, e1, e2, e3] at *; exact r)
theorem locOK_flat {O : Nat → Prop} {w : World} {h h' : Gh} {l : Nat} {X : LV} (hX : X.flat) (e1 : h'.ρ = h.ρ) (e2 : h'.κ = h.κ) (e3 : h'.μ = h.μ) (hg : ∀ b, inB h l X b → h'.g b = h.g b) (r : LocOK O w h l X) : LocOK O w h' l X := by
  cases X with
  | cells e cs =>
    obtain ⟨arr, h1, h2, h3, h4, h5⟩ := r
    refine ⟨arr, by rw [e1]; exact h1, by rw [e1]; exact h2, h3, by rw [e1, hg _ rfl]; exact h4, fun i v x hv hx => ⟨relA_flat ((show ∀ c ∈ cs, c.flat from hX) x (List.mem_of_getElem? hx)) e1 e2 e3 (h5 i v x hv hx).1, (h5 i v x hv hx).2⟩⟩
  | own e sz n gen f =>
    obtain ⟨h1, ⟨xs, h2, h3⟩, h4⟩ := r
    refine ⟨by rw [e3]; exact h1, ⟨xs, by rw [e2]; exact h2, h3.1, fun i j d hi hj hd => ?_⟩, fun b hb => ?_⟩
    · obtain ⟨u, k1, k2⟩ := h3.2 i j d hi hj hd
      exact ⟨u, k1, relD_flat ((show ∀ i, i < n → ∀ d ∈ f i, d.flat from hX) i hi d (List.mem_of_getElem? hd)) k2⟩
    · rw [e2] at hb
      rw [hg b (by simpa [inB] using hb)]
      exact h4 b hb
  | _ => exact hX.elim
def RdA (M : Nat → Option Ent) : AV → AV → Prop
  | .p x, .p y => RdP M x y
  | x, y => x = y
theorem RdA.refl (M : Nat → Option Ent) (x : AV) : RdA M x x := by cases x <;> first | rfl | exact RdP.refl _
theorem RdA.p {M : Nat → Option Ent} {x y : PV} (h : RdP M x y) : RdA M (.p x) (.p y) := h
inductive RdAs (M : Nat → Option Ent) : List AV → List AV → Prop
  | nil : RdAs M [] []
  | cons {x y : AV} {xs ys : List AV} (h : RdA M x y) (t : RdAs M xs ys) : RdAs M (x :: xs) (y :: ys)
theorem RdAs.refl (M : Nat → Option Ent) : ∀ xs, RdAs M xs xs
  | [] => .nil
  | x :: xs => .cons (RdA.refl M x) (RdAs.refl M xs)
theorem relA_iced {w : World} {h : Gh} {M : Nat → Option Ent} (hA : Arena w h.g M) {v : Value} {x : AV} (r : RelA w h v x) : RelA w { h with g := iced h.g M } v x := by
  have k := iced_keep hA
  have kc : ∀ (vs : List Value) (cs : List CV), RelCs w h vs cs → RelCs w { h with g := iced h.g M } vs cs := by
    intro vs cs r
    refine ⟨r.1, fun j v c hv hc => ?_⟩
    have r := r.2 j v c hv hc
    cases c with
    | p x => exact RelP.keep k r
    | _ => exact r
  cases x with
  | p x => exact RelP.keep k r
  | gr l gen sz n f => exact ⟨r.1.keep k, r.2⟩
  | cl f a b => obtain ⟨vs, us, e, h1, h2⟩ := r; exact ⟨vs, us, e, kc _ _ h1, kc _ _ h2⟩
  | ag cs => obtain ⟨vs, h1, h2, h3⟩ := r; exact ⟨vs, h1, kc _ _ h2, h3⟩
  | tup xs => obtain ⟨vs, hv, hr⟩ := r; exact ⟨vs, hv, hr.keep k⟩
  | _ => exact r
theorem rdA_spec {w : World} {h : Gh} {M : Nat → Option Ent} (hA : Arena w h.g M) {x y : AV} (hx : RdA M x y) {v : Value} (r : RelA w h v x) : RelA w { h with g := iced h.g M } v y := by
  cases x with
  | p x =>
    cases y with
    | p y => exact rdP_spec hA hx r
    | _ => cases hx
  | _ =>
    unfold RdA at hx
    subst hx
    exact relA_iced hA r
theorem rdAs_spec {w : World} {h : Gh} {M : Nat → Option Ent} (hA : Arena w h.g M) {xs ys : List AV} (hx : RdAs M xs ys) : ∀ {vs : List Value}, RelAs w h vs xs → RelAs w { h with g := iced h.g M } vs ys := by
  induction hx with
  | nil => intro vs r; exact ⟨r.1, fun j v x hv hx => by simp at hx⟩
  | cons hx t ih =>
    intro vs r
    cases vs with
    | nil => simp [RelAs] at r
    | cons v vs =>
      have r2 := ih r.tail
      refine ⟨by simpa using r2.1, fun j u z hu hz => ?_⟩
      cases j with
      | zero => simp at hu hz; subst hu; subst hz; exact rdA_spec hA hx (r.2 0 v _ rfl rfl)
      | succ j => exact r2.2 j u z (by simpa using hu) (by simpa using hz)
theorem arena_of {O : Nat → Prop} {w : World} {h : Gh} {l : Nat} {M : Nat → Option Ent} (k : LocOK O w h l (.raw M)) : Arena w h.g M := ⟨fun b E hb => (k b E hb).2.1, fun b E hb => (k b E hb).2.2⟩
theorem trans_iced {B : Nat → Prop} {w : World} {h : Gh} {M : Nat → Option Ent} (hA : Arena w h.g M) (hz : GZ w h.g) (hO : ∀ b E, M b = some E → B b) : Trans B w h w { h with g := iced h.g M } (fun b => M b ≠ none) none false := by
  refine ⟨BelowS.refl _ _, fun b _ hb => ⟨rfl, ?_⟩, iced_keep hA, iced_gz hA hz, fun b hb => ?_, fun _ _ => rfl, fun _ _ => ⟨rfl, rfl⟩, fun l hl => by cases hl⟩
  · have : M b = none := Classical.byContradiction hb
    simp [iced, this]
  · have : M b = none := by
      cases hM : M b with
      | none => rfl
      | some E => exact absurd (hO b E hM) hb
    simp [iced, this]
theorem LocOK.iced {B : Nat → Prop} {w : World} {h : Gh} {M : Nat → Option Ent} (hA : Arena w h.g M) (hz : GZ w h.g) (hO : ∀ b E, M b = some E → B b) {l : Nat} {X : LV} (hX : ∀ b, inB h l X b → M b = none) (k : LocOK B w h l X) : LocOK B w { h with g := iced h.g M } l X :=
  (LocOK.trans (trans_iced hA hz hO) (by simp) (fun hf => by cases hf) (fun b hb => by simp [hX b hb]) k).1
theorem lowered_none {g : Nat → Nat} {M : Nat → Option Ent} {b : Nat} (h : M b = none) : lowered g M b = g b := by simp [lowered, h]
theorem inB_g {h : Gh} {g : Nat → Nat} {l : Nat} {X : LV} : inB { h with g := g } l X = inB h l X := by cases X <;> rfl
theorem MCalls.borrow {f : FuncId} {xs ys : List AV} {L : List (Nat × LV)} {Q : List AV → List (Nat × LV) → Prop} {M : Nat → Option Ent} (hc : MCalls P f ys L Q) (hx : RdAs M xs ys) (hL9 : look L 1999 = none)
    (hQ : ∀ rs L', Q rs L' → (∀ x ∈ rs, x.flat ∧ 1999 ∉ x.mentions) ∧ look L' 1999 = none ∧ ∀ l X, look L' l = some X → X.flat ∧ 1999 ∉ X.mentions) :
    MCalls P f xs ((1999, .raw M) :: L) (fun rs L2 => ∃ L', Q rs L' ∧ L2 = (1999, .raw M) :: L') := by
  intro w h vs hz hr hl
  have hA := arena_of (hl.1 1999 (.raw M) (by simp [look]))
  let h2 : Gh := { h with g := iced h.g M }
  have hsub : ∀ l X, look L l = some X → look ((1999, LV.raw M) :: L) l = some X ∧ l ≠ 1999 := by
    intro l X hX
    have : l ≠ 1999 := fun e => by subst e; rw [hL9] at hX; cases hX
    exact ⟨by simp only [look]; rw [if_neg (fun e => this e.symm)]; exact hX, this⟩
  have hfree : ∀ l X, look L l = some X → ∀ b, inB h l X b → M b = none := by
    intro l X hX b hb
    obtain ⟨k1, k2⟩ := hsub l X hX
    have := hl.2 l 1999 X (.raw M) b k2 k1 (by simp [look]) hb
    simp only [inB] at this
    exact Classical.byContradiction fun e => this e
  have key := hc w h2 vs (iced_gz hA hz) (rdAs_spec hA hx hr) ⟨fun l X hX => LocOK.iced hA hz (fun _ _ _ => trivial) (hfree l X hX) (hl.1 l X (hsub l X hX).1), fun l l' X X' b hne e1 e2 hb hb' => by
    rw [inB_g] at hb hb'
    exact hl.2 l l' X X' b hne (hsub l X e1).1 (hsub l' X' e2).1 hb hb'⟩
  have hown2 : ∀ b, ownB h2 L b → ownB h ((1999, .raw M) :: L) b := by
    rintro b ⟨l, X, hX, hb⟩
    rw [inB_g] at hb
    exact ⟨l, X, (hsub l X hX).1, hb⟩
  have hownM : ∀ b, M b ≠ none → ownB h ((1999, .raw M) :: L) b := fun b hb => ⟨1999, .raw M, by simp [look], hb⟩
  have hnoM : ∀ b, M b ≠ none → b < w.heap.size ∧ ¬ ownB h2 L b := by
    intro b hb
    cases hE : M b with
    | none => exact absurd hE hb
    | some E =>
      refine ⟨hA.lt hE, ?_⟩
      rintro ⟨l, X, hX, hb2⟩
      rw [inB_g] at hb2
      rw [hfree l X hX b hb2] at hE; cases hE
  have fin : ∀ v w', (∃ h' rs L', Q rs L' ∧ RelRA w' h' v rs ∧ LocsOK (fun _ => True) w' h' L' ∧ Chg L L' w h2 w' h') →
      ∃ h' rs L2, (∃ L', Q rs L' ∧ L2 = (1999, LV.raw M) :: L') ∧ RelRA w' h' v rs ∧ LocsOK (fun _ => True) w' h' L2 ∧ Chg ((1999, .raw M) :: L) L2 w h w' h' := by
    rintro v w' ⟨h', rs, L', hq, h1, h3, h4⟩
    obtain ⟨f1, f2, f3⟩ := hQ rs L' hq
    let h4' : Gh := { h' with g := lowered h'.g M }
    let h5 : Gh := ⟨lowered h'.g M, fun l => if l = 1999 then h.ρ l else h'.ρ l, fun l => if l = 1999 then h.κ l else h'.κ l, fun l => if l = 1999 then h.μ l else h'.μ l⟩
    have h45 : ∀ l, l ≠ 1999 → h4'.ρ l = h5.ρ l ∧ h4'.κ l = h5.κ l ∧ h4'.μ l = h5.μ l := fun l hl => by simp [h4', h5, hl]
    have h45m : ∀ (ms : List Nat), 1999 ∉ ms → ∀ l ∈ ms, h4'.ρ l = h5.ρ l ∧ h4'.κ l = h5.κ l ∧ h4'.μ l = h5.μ l := fun ms hms l hl => h45 l fun e => hms (e ▸ hl)
    have hkeep : Keep w h.g w' h5.g := by
      refine ⟨fun b => ?_, fun b o ho => ?_⟩
      · show h.g b ≤ lowered h'.g M b
        unfold lowered
        cases hE : M b with
        | none => have := h4.keep.gam b; simpa [h2, iced, hE] using this
        | some E => simp [hA.g0 b E hE]
      · cases hE : M b with
        | none => exact h4.keep.cell b o (by simpa [h2, iced, hE] using ho)
        | some E => rw [hA.g0 b E hE] at ho; omega
    have hL'M : ∀ l X, look L' l = some X → ∀ b, inB h' l X b → M b = none := by
      intro l X hX b hb
      rcases h4.own b ⟨l, X, hX, hb⟩ with hge | ho
      · cases hE : M b with
        | none => rfl
        | some E => have := hA.lt hE; omega
      · exact Classical.byContradiction fun e => (hnoM b e).2 ho
    have hsub' : ∀ l X, look ((1999, LV.raw M) :: L') l = some X → (l = 1999 ∧ X = .raw M) ∨ (l ≠ 1999 ∧ look L' l = some X) := by
      intro l X hX
      simp only [look] at hX
      split at hX
      · rename_i e; cases hX; exact .inl ⟨e.symm, rfl⟩
      · rename_i e; exact .inr ⟨fun e' => e e'.symm, hX⟩
    have hlo : ∀ l X, look L' l = some X → LocOK (fun _ => True) w' h5 l X ∧ inB h5 l X = inB h' l X := fun l X hX =>
      have hl9 : l ≠ 1999 := fun e => by subst e; rw [f2] at hX; cases hX
      ⟨locOK_congr (h := h4') (k := h5) rfl (h45 l hl9) (h45m _ (f3 l X hX).2) (locOK_flat (h := h') (f3 l X hX).1 rfl rfl rfl (fun b hb => lowered_none (hL'M l X hX b hb)) (h3.1 l X hX)), (inB_congr (h45 l hl9)).symm.trans inB_g⟩
    refine ⟨h5, rs, _, ⟨L', hq, rfl⟩, ?_, ⟨fun l X hX => ?_, fun l l' X X' b hne e1 e2 hb hb' => ?_⟩, ?_⟩
    · have one : ∀ u x, x ∈ rs → RelA w' h' u x → RelA w' h5 u x := fun u x hx r => relA_congr (h := h4') (k := h5) rfl (h45m _ (f1 x hx).2) (relA_flat (h := h') (f1 x hx).1 rfl rfl rfl r)
      have many : ∀ us, RelAs w' h' us rs → RelAs w' h5 us rs := fun us r => ⟨r.1, fun j u x hu hx => one u x (List.mem_of_getElem? hx) (r.2 j u x hu hx)⟩
      match rs, h1, one, many with
      | [x], h1, one, _ => exact one v x (by simp) h1
      | [], ⟨us, e, r⟩, _, many => exact ⟨us, e, many us r⟩
      | _ :: _ :: _, ⟨us, e, r⟩, _, many => exact ⟨us, e, many us r⟩
    · rcases hsub' l X hX with ⟨rfl, rfl⟩ | ⟨_, hX'⟩
      · intro b E hE
        have hb := hnoM b (by simp [hE])
        refine ⟨trivial, EntOK.keep hkeep (h4.below.block b hb.1 hb.2) (hA.ok b E hE), ?_⟩
        show lowered h'.g M b = 0
        simp [lowered, hE]
      · exact (hlo l X hX').1
    · rcases hsub' l X e1 with ⟨rfl, rfl⟩ | ⟨_, hX'⟩ <;> rcases hsub' l' X' e2 with ⟨e', rfl⟩ | ⟨_, hX2⟩
      · exact hne e'.symm
      · rw [(hlo l' X' hX2).2] at hb'
        exact hb (hL'M l' X' hX2 b hb')
      · rw [(hlo l X hX').2] at hb
        exact hb' (hL'M l X hX' b hb)
      · rw [(hlo l X hX').2] at hb
        rw [(hlo l' X' hX2).2] at hb'
        exact h3.2 l l' X X' b hne hX' hX2 hb hb'
    · refine ⟨⟨h4.below.os, h4.below.tape, h4.below.output, h4.below.size, fun k hk hno => h4.below.block k hk fun ho => hno (hown2 k ho)⟩, fun b hb hno => ?_, fun b hb => ?_, hkeep, fun l X hX => ?_, fun l X hX => ?_, fun b ⟨l, X, hX, hb⟩ => ?_⟩
      · have hM : M b = none := Classical.byContradiction fun e => hno (hownM b e)
        show lowered h'.g M b = h.g b
        rw [lowered_none hM, h4.gam b hb fun ho => hno (hown2 b ho)]
        simp [h2, iced, hM]
      · have hM : M b = none := by
          cases hE : M b with
          | none => rfl
          | some E => have := hA.lt hE; have := h4.below.size; omega
        show lowered h'.g M b = 0
        rw [lowered_none hM]; exact h4.gz b hb
      · simp only [look] at hX
        split at hX
        · rename_i e; subst e; simp [h5]
        · rename_i e
          have := h4.ρ l X hX
          simp only [h5, if_neg (fun e' => e (Eq.symm e'))]; exact this
      · simp only [look] at hX
        split at hX
        · rename_i e; subst e; exact .inr (by simp [h5])
        · rename_i e
          have := h4.up l X hX
          simp only [h5, if_neg (fun e' => e (Eq.symm e'))]; exact this
      · rcases hsub' l X hX with ⟨rfl, rfl⟩ | ⟨_, hX'⟩
        · exact .inr (hownM b hb)
        · rw [(hlo l X hX').2] at hb
          rcases h4.own b ⟨l, X, hX', hb⟩ with hge | ho
          · exact .inl hge
          · exact .inr (hown2 b ho)
  unfold CallRes at *
  split at key
  · exact key.mono fun e w' ⟨v, he, hh⟩ => ⟨v, he, fin v w' hh⟩
  · exact fin _ _ key
  · exact key.elim
theorem relPs_of {w : World} {h : Gh} {vs : List Value} {xs : List PV} (r : RelAs w h vs (xs.map .p)) : RelPs w h.g vs xs :=
  ⟨by simpa using r.1, fun j v x hv hx => r.2 j v (.p x) hv (by rw [List.getElem?_map, hx]; rfl)⟩
theorem relRA_of {w : World} {h : Gh} {v : Value} {rs : List PV} (r : RelR w h.g v rs) : RelRA w h v (rs.map .p) := by
  have many : ∀ us, RelPs w h.g us rs → RelAs w h us (rs.map .p) := fun us r => ⟨by simpa using r.1, fun j u x hu hx => by
    rw [List.getElem?_map] at hx
    cases hj : rs[j]? with
    | none => rw [hj] at hx; cases hx
    | some y => rw [hj] at hx; cases hx; exact r.2 j u y hu hj⟩
  match rs, r, many with
  | [x], r, _ => exact r
  | [], ⟨us, e, r⟩, many => exact ⟨us, e, many us r⟩
  | _ :: _ :: _, ⟨us, e, r⟩, many => exact ⟨us, e, many us r⟩
theorem acalls_m {f : FuncId} {xs rs : List PV} (hc : ACalls P f xs (· = rs)) : MCalls P f (xs.map .p) [] (fun r L => r = rs.map .p ∧ L = []) := by
  intro w h vs hz hr hl
  have key := acalls_iff.1 hc w h.g vs hz (relPs_of hr)
  have fin : ∀ v w', (∃ g' rs', Ext w h.g w' g' ∧ rs' = rs ∧ RelR w' g' v rs') → ∃ h' r L', (r = rs.map .p ∧ L' = []) ∧ RelRA w' h' v r ∧ LocsOK (fun _ => True) w' h' L' ∧ Chg [] L' w h w' h' := by
    rintro v w' ⟨g', _, he, rfl, hR⟩
    refine ⟨{ h with g := g' }, _, [], ⟨rfl, rfl⟩, relRA_of hR, ⟨fun l X hX => (by cases hX), fun l l' X X' b _ hX => (by cases hX)⟩, ?_⟩
    exact ⟨he.belowS, fun b hb _ => he.gam b hb, he.gz, he.keep hz, fun l X hX => (by cases hX), fun l X hX => (by cases hX), fun b ⟨l, X, hX, _⟩ => (by cases hX)⟩
  unfold CallRes at *
  split at key
  · exact key.mono fun e w' ⟨v, he, hh⟩ => ⟨v, he, fin v w' hh⟩
  · exact fin _ _ key
  · exact key.elim
inductive RdPs (M : Nat → Option Ent) : List PV → List PV → Prop
  | nil : RdPs M [] []
  | cons {x y : PV} {xs ys : List PV} (h : RdP M x y) (t : RdPs M xs ys) : RdPs M (x :: xs) (y :: ys)
theorem RdPs.as {M : Nat → Option Ent} {xs ys : List PV} (h : RdPs M xs ys) : RdAs M (xs.map .p) (ys.map .p) := by
  induction h with
  | nil => exact .nil
  | cons h t ih => exact .cons (RdA.p h) ih
theorem ACalls.borrow {f : FuncId} {xs ys rs : List PV} {M : Nat → Option Ent} (hc : ACalls P f ys (· = rs)) (hx : RdPs M xs ys) (hr : ∀ r ∈ rs, r.flat) :
    MCalls P f (xs.map .p) [(1999, .raw M)] (fun r L => r = rs.map .p ∧ L = [(1999, .raw M)]) := by
  refine (MCalls.borrow (acalls_m hc) hx.as rfl ?_).mono ?_
  · rintro r L ⟨rfl, rfl⟩
    refine ⟨fun x hx => ?_, rfl, fun l X hX => by cases hX⟩
    obtain ⟨y, hy, rfl⟩ := List.mem_map.1 hx
    exact ⟨hr y hy, by simp [AV.mentions]⟩
  · rintro r L ⟨L', ⟨rfl, rfl⟩, rfl⟩; exact ⟨rfl, rfl⟩
theorem RCalls.borrow {f : FuncId} {xs ys : List PV} {y : PV} {M : Nat → Option Ent} (hc : ACalls P f ys (· = [y])) (hx : RdPs M xs ys) (hy : y.flat) : RCalls P f (xs.map .p) [(1999, .raw M)] (.p y) := by
  intro w h vs hz hr hl
  have hA := arena_of (hl.1 1999 (.raw M) (by simp [look]))
  have hr2 := rdAs_spec hA hx.as hr
  have key := acalls_iff.1 hc w (iced h.g M) vs (iced_gz hA hz) (relPs_of hr2)
  have fin : ∀ v w', (∃ g' rs', Ext w (iced h.g M) w' g' ∧ rs' = [y] ∧ RelR w' g' v rs') → ∃ g', Ext w h.g w' g' ∧ RelA w' { h with g := g' } v (.p y) := by
    rintro v w' ⟨g', _, he, rfl, hR⟩
    refine ⟨lowered g' M, ⟨he.below, fun b hb => ?_, fun b hb => ?_⟩, relP_flat hy hR⟩
    · cases hE : M b with
      | none => rw [lowered_none hE, he.gam b hb]; simp [iced, hE]
      | some E => simp [lowered, hE, hA.g0 b E hE]
    · cases hE : M b with
      | none => rw [lowered_none hE]; exact he.gz b hb
      | some E => simp [lowered, hE]
  unfold CallRes at *
  split at key
  · exact key.mono fun e w' ⟨v, he, hh⟩ => ⟨v, he, fin v w' hh⟩
  · exact fin _ _ key
  · exact key.elim
theorem ownOf_in {h : Gh} {q : Option (Nat × LV)} {E : Eff} {b : Nat} (hb : ownOf h q E b) : ∃ l L, q = some (l, L) ∧ inB h l L b := by
  obtain ⟨v, o, u, f⟩ := E
  cases f with
  | true => exact hb.elim
  | false =>
    cases u with
    | none => exact hb.elim
    | some u =>
      cases q with
      | none => exact hb.elim
      | some q => exact ⟨q.1, q.2, rfl, hb⟩
theorem step_borrow {nt : Nat} {ops : Array Oper} {o : Oper} {A : ASt} {lo : Option Nat} {E : Eff} {M : Nat → Option Ent} {ys : List AV} (hd : dstOK nt o = true) (hw : wantedA ops o A = some true) (hM : look A.locs 1999 = some (.raw M)) (hlo : lo ≠ some 1999)
    (hx : RdAs M (o.op.operands.toList.map A.eval) ys) (hs : OpSem P o ys (A.locAt lo) E) (hE : E.val.flat) (hf : E.fresh = false) (hU : ∀ l L, E.upd = some (l, L) → L.flat ∧ lo = some l) : StepS P nt ops o A (A.apply o.dst E) := by
  intro w0 g0 h a w r K Q hn
  rw [wantedA_spec r hw]
  simp only [if_true]
  have hA := arena_of (r.locs 1999 _ hM)
  have hO : ∀ b E, M b = some E → w0.O b := fun b E hb => (r.locs 1999 _ hM b E hb).1
  have hlo2 : ∀ l L, A.locAt lo = some (l, L) → lo = some l ∧ look A.locs l = some L := by
    intro l L he
    cases lo with
    | none => simp [ASt.locAt] at he
    | some l' =>
      simp only [ASt.locAt] at he
      cases hk : look A.locs l' with
      | none => simp [hk] at he
      | some L' => simp [hk] at he; obtain ⟨rfl, rfl⟩ := he; exact ⟨rfl, hk⟩
  have hfree : ∀ l L, A.locAt lo = some (l, L) → ∀ b, inB h l L b → M b = none := by
    intro l L he b hb
    obtain ⟨k1, k2⟩ := hlo2 l L he
    have := r.sep l 1999 L (.raw M) b (fun e => hlo (by rw [k1, e])) k2 hM hb
    simp only [inB] at this
    exact Classical.byContradiction fun e => this e
  refine .inl (hs.toT w0.O w { h with g := iced h.g M } a K Q r.base (iced_gz hA r.gz) (rdAs_spec hA hx (r.evals _)) (fun l L he => LocOK.iced hA r.gz hO (hfree l L he) (r.locs l L (hlo2 l L he).2)) fun v w' h' h3 t h5 => ?_)
  have hMlt : ∀ b E, M b = some E → b < w.heap.size := fun b E hb => hA.lt hb
  have hown : ownOf { h with g := iced h.g M } (A.locAt lo) E = ownOf h (A.locAt lo) E := by
    unfold ownOf
    split <;> first | rfl | exact inB_g
  have hownM : ∀ b, ownOf h (A.locAt lo) E b → M b = none := by
    intro b hb
    obtain ⟨l, L, h1, h2⟩ := ownOf_in hb
    exact hfree l L h1 b h2
  refine hn _ _ { h' with g := lowered h'.g M } (r.carry (o := o) (lo := lo) (fun d hdd => dstOK_spec hd d hdd) (fun hff => by rw [hf] at hff; cases hff) (fun l L hu _ => (hU l L hu).2) (relA_flat (h := h') hE rfl rfl rfl h3) ?_ (fun l L' hu => ?_))
  · rw [hown] at t
    refine ⟨t.below, fun b hb hno => ?_, ⟨fun b => ?_, fun b q hq => ?_⟩, fun b hb => ?_, fun b hb => ?_, t.ρ, t.κ, t.up⟩
    · obtain ⟨e1, e2⟩ := t.blocks b hb hno
      refine ⟨e1, ?_⟩
      show lowered h'.g M b = h.g b
      cases hE : M b with
      | none => rw [lowered_none hE, e2]; simp [iced, hE]
      | some E => simp [lowered, hE, hA.g0 b E hE]
    · show h.g b ≤ lowered h'.g M b
      cases hE : M b with
      | none => rw [lowered_none hE]; have := t.keep.gam b; simpa [iced, hE] using this
      | some E => simp [hA.g0 b E hE]
    · cases hE : M b with
      | none => exact t.keep.cell b q (by simpa [iced, hE] using hq)
      | some E => rw [hA.g0 b E hE] at hq; omega
    · show lowered h'.g M b = 0
      cases hE : M b with
      | none => rw [lowered_none hE]; exact t.gz b hb
      | some E => simp [lowered, hE]
    · have hMb : M b = none := by
        cases hE : M b with
        | none => rfl
        | some E => exact absurd (hO b E hE) hb
      show lowered h'.g M b = h.g b
      rw [lowered_none hMb, t.gB b hb]
      simp [iced, hMb]
  · obtain ⟨k1, k2⟩ := h5 l L' hu
    obtain ⟨u1, u2⟩ := hU l L' hu
    have hin : ∀ b, inB h' l L' b → M b = none := by
      intro b hb
      rcases k2 b hb with hge | ⟨_, L, e1, e2⟩
      · cases hE : M b with
        | none => rfl
        | some E => have := hMlt b E hE; omega
      · rw [inB_g] at e2
        exact hfree l L e1 b e2
    refine ⟨locOK_flat (h := h') u1 rfl rfl rfl (fun b hb => lowered_none (hin b hb)) k1, fun b hb => ?_⟩
    rw [inB_g] at hb
    rcases k2 b hb with hge | ⟨e0, L, e1, e2⟩
    · exact .inl hge
    · rw [inB_g] at e2
      exact .inr ⟨e0, L, e1, e2⟩
end Go.Proofs.Ytjfammnjpeeahaa.AL
set_option linter.unusedSimpArgs false
set_option linter.unusedVariables false
namespace Go.Proofs.Ytjfammnjpeeahaa.AL
open Go.RowKit
def GrowsM (M M2 : Nat → Option Ent) : Prop := ∀ b E, M b = some E → M2 b = some E
theorem GrowsM.refl (M : Nat → Option Ent) : GrowsM M M := fun _ _ h => h
theorem GrowsM.trans {M M2 M3 : Nat → Option Ent} (h : GrowsM M M2) (k : GrowsM M2 M3) : GrowsM M M3 := fun b E e => k b E (h b E e)
def HoldR (M : Nat → Option Ent) (e : TypeId) (sz n : Nat) (f : Nat → List Dat) (v : Value) : Prop :=
  (n = 0 ∧ v = .slice none 0 0) ∨ ∃ b c f', v = .slice (some ⟨b, 0, none⟩) n c ∧ n ≤ c ∧ M b = some ⟨e, sz, c, n, f'⟩ ∧ ∀ k, k < n → f' k = f k
theorem HoldR.mono {M M2 : Nat → Option Ent} {e : TypeId} {sz n : Nat} {f : Nat → List Dat} {v : Value} (hM : GrowsM M M2) (h : HoldR M e sz n f v) : HoldR M2 e sz n f v := by
  rcases h with h | ⟨b, c, f', h1, h2, h3, h4⟩
  · exact .inl h
  · exact .inr ⟨b, c, f', h1, h2, hM b _ h3, h4⟩
theorem PackR.grows {M M2 : Nat → Option Ent} {e : TypeId} {sz n : Nat} {f : Nat → List Dat} {v : Value} (h : PackR M e sz n f v M2) : GrowsM M M2 := by
  rcases h with ⟨_, _, rfl⟩ | ⟨b, c, _, h2, _, rfl⟩
  · exact .refl _
  · intro b' E hb'
    have : b' ≠ b := fun e => by rw [e, h2] at hb'; cases hb'
    rw [setM_ne _ _ this]; exact hb'
theorem PackR.holds {M M2 : Nat → Option Ent} {e : TypeId} {sz n : Nat} {f f0 : Nat → List Dat} {v : Value} (h : PackR M e sz n f0 v M2) (hf : ∀ k, k < n → f0 k = f k) : HoldR M2 e sz n f v := by
  rcases h with ⟨h1, h2, rfl⟩ | ⟨b, c, h1, h2, h3, rfl⟩
  · exact .inl ⟨h1, h2⟩
  · exact .inr ⟨b, c, f0, h3, h1, setM_same _ _ _, hf⟩
theorem HoldR.rd {M : Nat → Option Ent} {e : TypeId} {sz n : Nat} {f : Nat → List Dat} {v : Value} (h : HoldR M e sz n f v) : RdD M (.v v) (.sl sz n f) := by
  rcases h with ⟨rfl, rfl⟩ | ⟨b, c, f', rfl, h2, h3, h4⟩
  · exact .nil _ _
  · refine .row b n c ⟨e, sz, c, n, f'⟩ f h3 (Nat.le_refl _) h2 (fun i hi => by show (f i).length = (f' i).length; rw [h4 i hi]) fun i j x y hi hx hy => ?_
    simp only [] at hx
    rw [h4 i hi, hy] at hx
    cases hx
    exact .refl _
theorem HoldR.slice {M : Nat → Option Ent} {e : TypeId} {sz n : Nat} {f : Nat → List Dat} {v : Value} (h : HoldR M e sz n f v) : ∃ a c, v = .slice a n c := by
  rcases h with ⟨rfl, rfl⟩ | ⟨b, c, f', rfl, _⟩
  · exact ⟨_, _, rfl⟩
  · exact ⟨_, _, rfl⟩
def rowVal (s : Nat → Value) : Nat → List Dat := fun i => [.v (s i)]
theorem rowVal_at (s : Nat → Value) (i : Nat) : rowVal s i = [.v (s i)] := rfl
def updS (s : Nat → Value) (n : Nat) (v : Value) : Nat → Value := fun i => if i = n then v else s i
theorem updS_same (s : Nat → Value) (n : Nat) (v : Value) : updS s n v n = v := by simp [updS]
theorem updS_ne (s : Nat → Value) {n i : Nat} (v : Value) (h : i ≠ n) : updS s n v i = s i := by simp [updS, h]
theorem rowVal_snoc (s : Nat → Value) (v : Value) (i : Nat) (k : Nat) (hk : k < i + 1) : catF i (rowVal s) (fun j => [[Dat.v v]].getD j []) k = rowVal (updS s i v) k := by
  unfold catF rowVal
  split
  · rw [updS_ne _ _ (by omega)]
  · have : k = i := by omega
    subst this
    rw [Nat.sub_self, updS_same]; rfl
def RowsM (M : Nat → Option Ent) (e : TypeId) (sz : Nat) (len : Nat → Nat) (f : Nat → Nat → List Dat) (s : Nat → Value) (n : Nat) : Prop := ∀ i, i < n → HoldR M e sz (len i) (f i) (s i)
theorem RowsM.mono {M M2 : Nat → Option Ent} {e : TypeId} {sz : Nat} {len : Nat → Nat} {f : Nat → Nat → List Dat} {s : Nat → Value} {n : Nat} (hM : GrowsM M M2) (h : RowsM M e sz len f s n) : RowsM M2 e sz len f s n := fun i hi => (h i hi).mono hM
theorem RowsM.snoc {M M2 : Nat → Option Ent} {e : TypeId} {sz : Nat} {len : Nat → Nat} {f : Nat → Nat → List Dat} {s : Nat → Value} {n : Nat} {f0 : Nat → List Dat} {v : Value} (h : RowsM M e sz len f s n) (hp : PackR M e sz (len n) f0 v M2) (hf : ∀ k, k < len n → f0 k = f n k) :
    RowsM M2 e sz len f (updS s n v) (n + 1) := by
  intro i hi
  by_cases hin : i = n
  · subst hin; rw [updS_same]; exact hp.holds hf
  · rw [updS_ne _ _ hin]; exact (h i (by omega)).mono hp.grows
theorem RowsM.rd {M : Nat → Option Ent} {e : TypeId} {sz : Nat} {len : Nat → Nat} {f : Nat → Nat → List Dat} {s : Nat → Value} {n : Nat} (h : RowsM M e sz len f s n) {F : Nat → List Dat} (hF : ∀ i, i < n → F i = [.sl sz (len i) (f i)]) : RdD M (.sl 1 n (rowVal s)) (.sl 1 n F) := by
  refine .sl _ _ _ _ (fun i hi => by rw [hF i hi]; rfl) fun i j x y hi hx hy => ?_
  rw [hF i hi] at hy
  unfold rowVal at hx
  cases j with
  | zero => simp at hx hy; subst hx; subst hy; exact (h i hi).rd
  | succ j => simp at hx
def Shape (sz : Nat) (js : List Nat) (ds : List Dat) : Prop := ds.length = sz ∧ ∀ j, j ∈ js → ∃ x, ds[j]? = some (.v (.int .i64 x))
def HoldS (M : Nat → Option Ent) (e : TypeId) (sz : Nat) (js : List Nat) (n : Nat) (v : Value) : Prop :=
  (n = 0 ∧ v = .slice none 0 0) ∨ ∃ b c f', v = .slice (some ⟨b, 0, none⟩) n c ∧ n ≤ c ∧ M b = some ⟨e, sz, c, n, f'⟩ ∧ ∀ k, k < n → Shape sz js (f' k)
theorem HoldR.shape {M : Nat → Option Ent} {e : TypeId} {sz n : Nat} {js : List Nat} {f : Nat → List Dat} {v : Value} (h : HoldR M e sz n f v) (hs : ∀ k, k < n → Shape sz js (f k)) : HoldS M e sz js n v := by
  rcases h with h | ⟨b, c, f', h1, h2, h3, h4⟩
  · exact .inl h
  · exact .inr ⟨b, c, f', h1, h2, h3, fun k hk => by rw [h4 k hk]; exact hs k hk⟩
theorem Shape.put {sz : Nat} {js : List Nat} {ds : List Dat} (h : Shape sz js ds) (j : Nat) (hj : j < sz) (x : Int) : Shape sz js (ds.take j ++ [.v (.int .i64 x)] ++ ds.drop (j + [Dat.v (.int .i64 x)].length)) := by
  have hl := h.1
  have hg := splice_get ds [.v (.int .i64 x)] j (by simp; omega)
  refine ⟨by simp; omega, fun q hq => ?_⟩
  rw [hg q]
  split
  · rename_i hh
    have : q = j := by simp at hh; omega
    subst this
    exact ⟨x, by simp⟩
  · exact h.2 q hq
theorem HoldS.store {M : Nat → Option Ent} {e : TypeId} {sz n : Nat} {js : List Nat} {v : Value} (h : HoldS M e sz js n v) {b0 : Nat} {E : Ent} (hE : M b0 = some E) (i j : Nat) (x : Int) (hj : j < E.sz) : HoldS (setM M b0 (some { E with f := putEl E.f i j [.v (.int .i64 x)] })) e sz js n v := by
  rcases h with h | ⟨b, c, f', h1, h2, h3, h4⟩
  · exact .inl h
  · by_cases hb : b = b0
    · subst hb
      rw [h3] at hE
      cases hE
      refine .inr ⟨b, c, _, h1, h2, setM_same _ _ _, fun k hk => ?_⟩
      unfold putEl
      split
      · rename_i e; subst e; exact (h4 k hk).put j hj x
      · exact h4 k hk
    · exact .inr ⟨b, c, f', h1, h2, by rw [setM_ne _ _ hb]; exact h3, h4⟩
def BorrowOK (lo : Option Nat) (E : Eff) : Prop := E.val.flat ∧ E.fresh = false ∧ lo ≠ some 1999 ∧ ∀ l L, E.upd = some (l, L) → L.flat ∧ lo = some l
theorem BorrowOK.own {l : Nat} {v : AV} {obl : Prop} {e : TypeId} {sz n g : Nat} {f : Nat → List Dat} (hv : v.flat) (hl : l ≠ 1999) (hf : ∀ i, i < n → ∀ d ∈ f i, d.flat) : BorrowOK (some l) ⟨v, obl, some (l, .own e sz n g f), false⟩ := by
  refine ⟨hv, rfl, fun e => hl (by cases e; rfl), fun l' L hu => ?_⟩
  cases hu
  exact ⟨hf, rfl⟩
section
variable (P : Program) (o : Oper) (A : ASt)
def stepB (ys : List AV) (K : Eff → Prop) : Prop :=
  match opEff P [] o ys (A.locAt (locNeed o ys)) with
  | some E => E.obl ∧ BorrowOK (locNeed o ys) E ∧ K E
  | none => False
end
theorem walkS_borrow {P : Program} {nt : Nat} {ops : Array Oper} {o : Oper} {rest : List Oper} {A : ASt} {K : ASt → Prop} (M : Nat → Option Ent) (ys : List AV) (hd : dstOK nt o = true) (hw : wantedA ops o A = some true) (hM : look A.locs 1999 = some (.raw M))
    (hx : RdAs M (o.op.operands.toList.map A.eval) ys) (h : stepB P o A ys fun E => walkS P nt ops rest (A.apply o.dst E) K) : walkS P nt ops (o :: rest) A K := by
  unfold stepB at h
  split at h
  · rename_i E hE
    obtain ⟨h1, ⟨h2, h3, h4, h5⟩, h6⟩ := h
    exact walkS_cons _ (step_borrow hd hw hM h4 hx (opEff_sound hE h1) h2 h3 h5) h6
  · exact h.elim
attribute [go_sem] stepB
end Go.Proofs.Ytjfammnjpeeahaa.AL
set_option linter.unusedSimpArgs false
set_option linter.unusedVariables false
namespace Go.Proofs.Ytjfammnjpeeahaa
open Go Go.Proofs.Ytjfammnjpeeahaa.AL
def lenT (t : List (List Rule)) (i : Nat) : Nat := (t.getD i []).length
def cellT (t : List (List Rule)) (i : Nat) : Nat → List Dat := rowR (t.getD i [])
def TabM (M : Nat → Option Ent) (t : List (List Rule)) (s : Nat → Value) (n : Nat) : Prop := RowsM M 44 12 (lenT t) (cellT t) s n
theorem ruleD_flat (r : Rule) : ∀ d ∈ ruleD r, d.flat := by
  intro d hd
  simp only [ruleD, List.mem_append, List.mem_cons, List.not_mem_nil, or_false, List.cons_append, List.nil_append] at hd
  repeat' (first | (rcases hd with rfl | hd) | subst hd)
  all_goals exact trivial
structure DX (t : List (List Rule)) (M0 : Nat → Option Ent) where
  i : Nat
  s : Nat → Value
  M : Nat → Option Ent
  hi : i ≤ t.length
  h : TabM M t s i
  g : GrowsM M0 M
def deepXI (l : List (List Rule)) (M0 : Nat → Option Ent) (x : DX l M0) : ASt :=
  ⟨[(9, .p (.d (.v (.int .i64 (x.i : Int))))), (8, .p (.d (.v (.int .i64 (l.length : Int))))), (7, .p (.d (.sl 1 l.length (rowRR l)))), (3, .gr 3 x.i 1 x.i (rowVal x.s))], [(3, .grow 35 1 x.i x.i), (1999, .raw x.M)]⟩
set_option maxRecDepth 100000 in
set_option maxHeartbeats 1000000 in
theorem deepXO_c (l : List (List Rule)) (hs : smallR l) (M0 : Nat → Option Ent) : MCalls Try.prog 39 [.p (.d (.sl 1 l.length (rowRR l)))] [(1999, .raw M0)]
    (fun rs L => ∃ r : {r : (Nat → Value) × (Nat → Option Ent) // TabM r.2 l r.1 l.length ∧ GrowsM M0 r.2}, rs = [.p (.d (.sl 1 l.length (rowVal r.val.1)))] ∧ L = [(1999, .raw r.val.2)]) := by
  have hs1 := hs.1
  refine mcalls_of_awp Try.func39 rfl (by decide +kernel) (by rw [Try.ntmps39]; simp) (fun l X h => by simp only [AL.look] at h; (repeat' split at h); all_goals first | omega | cases h) ?_; rw [Try.ntmps39]; simp only [frA]
  (repeat ((fail_if_success (show AWP _ _ (.region 2 _ _) _ _)); first | refine j4 ?_ | refine x6 rfl ?_ | refine awp_no rfl ?_ | refine j5 ?_ | (refine q0 fun K hK => ?_) | (refine z6 (by kernel_rfl) (by kernel_rfl) fun K hK => ?_) | ((first | refine j0 ?_ | refine z1 ?_ | ((first | refine x3 (hK _ ?_) | refine x4 (hK _ _ (z2 (by kernel_rfl)) ?_)); clear hK K)); (first | show AWP _ _ _ _ _ | ((try simp only [x5]); first | show loopQ _ _ _ _ _ _ | show cutQ _ _ _ _ | show AWP _ _ _ _ _))) | ((first | refine j6 [10015] rfl ?_ | refine z7 [10015] rfl ?_); simp (maxSteps := 2000000) (disch := omega) only [go_sem, seval]; (repeat (first | refine ⟨by omega, ?_⟩ | refine ⟨True.intro, ?_⟩)))))
  refine awp_grow 3 3 1 35 (rowVal fun _ => .slice none 0 0) rfl (by kernel_rfl) rfl ?_
  (repeat (first | refine j4 ?_ | refine x6 rfl ?_ | refine awp_no rfl ?_ | refine j5 ?_ | (refine q0 fun K hK => ?_) | (refine z6 (by kernel_rfl) (by kernel_rfl) fun K hK => ?_) | ((first | refine j0 ?_ | refine z1 ?_ | ((first | refine x3 (hK _ ?_) | refine x4 (hK _ _ (z2 (by kernel_rfl)) ?_)); clear hK K)); (first | show AWP _ _ _ _ _ | ((try simp only [x5]); first | show loopQ _ _ _ _ _ _ | show cutQ _ _ _ _ | show AWP _ _ _ _ _))) | ((first | refine j6 [10015] rfl ?_ | refine z7 [10015] rfl ?_); simp (maxSteps := 2000000) (disch := omega) only [go_sem, seval]; (repeat (first | refine ⟨by omega, ?_⟩ | refine ⟨True.intro, ?_⟩)))))
  refine awp_loop (deepXI l M0) (fun x => l.length - x.i) ⟨0, fun _ => .slice none 0 0, M0, by omega, fun i hi => by omega, .refl _⟩ ?_ (fun x => ?_)
  · unfold deepXI
    refine Weak.list ?_ ?_; (all_goals simp (disch := omega) only [AllF, AllL, le_self, le_top, lle_self, exists_eq_left', Option.some.injEq, go_sem, seval]); (all_goals (repeat' (with_reducible apply And.intro))); (all_goals try (first | exact le_eq rfl | (refine le_int ?_; omega) | (refine le_eq ?_; simp; done)))
  obtain ⟨i, s, M, hi, hM, hg⟩ := x
  unfold deepXI
  by_cases h : i < l.length
  · have r1 := rowRR_at l i
    have hb := smallR_at hs i
    have sn : ∀ {f0 v M2}, PackR M 44 12 (l.getD i []).length f0 v M2 → (∀ k, k < (l.getD i []).length → f0 k = rowR (l.getD i []) k) → TabM M2 l (updS s i v) (i + 1) := fun hp hf => RowsM.snoc hM hp hf
    generalize l.getD i [] = x at r1 hb sn
    (repeat ((fail_if_success (show AWP _ _ (.region 7 _ _) _ _)); first | refine j4 ?_ | refine x6 rfl ?_ | refine awp_no rfl ?_ | refine j5 ?_ | (refine q0 fun K hK => ?_) | (refine z6 (by kernel_rfl) (by kernel_rfl) fun K hK => ?_) | ((first | refine j0 ?_ | refine z1 ?_ | ((first | refine x3 (hK _ ?_) | refine x4 (hK _ _ (z2 (by kernel_rfl)) ?_)); clear hK K)); (first | show AWP _ _ _ _ _ | ((try simp only [x5]); first | show loopQ _ _ _ _ _ _ | show cutQ _ _ _ _ | show AWP _ _ _ _ _))) | ((first | refine j6 [10015] rfl ?_ | refine z7 [10015] rfl ?_); simp (maxSteps := 2000000) (disch := omega) only [go_sem, seval, r1]; (repeat (first | refine ⟨by omega, ?_⟩ | refine ⟨True.intro, ?_⟩)))))
    refine awp_weakX (WeakX.packRow _ 6 15 0 12 x.length 44 (rowR x) M rfl rfl rfl (by decide)) ?_
    rintro _ ⟨v, M2, hp, rfl⟩
    have hM2 := sn hp fun _ _ => rfl
    (repeat (first | refine j4 ?_ | refine x6 rfl ?_ | refine awp_no rfl ?_ | refine j5 ?_ | (refine q0 fun K hK => ?_) | (refine z6 (by kernel_rfl) (by kernel_rfl) fun K hK => ?_) | ((first | refine j0 ?_ | refine z1 ?_ | ((first | refine x3 (hK _ ?_) | refine x4 (hK _ _ (z2 (by kernel_rfl)) ?_)); clear hK K)); (first | show AWP _ _ _ _ _ | ((try simp only [x5]); first | show loopQ _ _ _ _ _ _ | show cutQ _ _ _ _ | show AWP _ _ _ _ _))) | ((first | refine j6 [10015] rfl ?_ | refine z7 [10015] rfl ?_); simp (maxSteps := 2000000) (disch := omega) only [go_sem, seval, r1, look_dropL]; (repeat (first | refine ⟨by omega, ?_⟩ | refine ⟨True.intro, ?_⟩)))))
    refine ⟨⟨i + 1, updS s i v, M2, by omega, hM2, hg.trans hp.grows⟩, by simp only []; omega, ?_⟩
    refine Weak.list ?_ ?_; (all_goals simp (disch := omega) only [AllF, AllL, le_self, le_top, lle_self, exists_eq_left', Option.some.injEq, go_sem, seval, r1, look_dropL]); (all_goals (repeat' (with_reducible apply And.intro))); (all_goals try (first | exact le_eq rfl | (refine le_int ?_; omega) | (refine le_eq ?_; simp; done)))
    · exact le_grgr rfl rfl (fun k hk => rowVal_snoc s v i k hk)
  · have : i = l.length := by omega
    subst this
    have cl := ClipAg_c l.length (rowVal s) (by omega)
    (repeat (first | refine j4 ?_ | refine x6 rfl ?_ | refine awp_no rfl ?_ | refine j5 ?_ | (refine q0 fun K hK => ?_) | (refine z6 (by kernel_rfl) (by kernel_rfl) fun K hK => ?_) | ((first | refine j0 ?_ | refine z1 ?_ | ((first | refine x3 (hK _ ?_) | refine x4 (hK _ _ (z2 (by kernel_rfl)) ?_)); clear hK K)); (first | show AWP _ _ _ _ _ | ((try simp only [x5]); first | show loopQ _ _ _ _ _ _ | show cutQ _ _ _ _ | show AWP _ _ _ _ _))) | ((first | refine walkS_call3 rfl rfl rfl ?_ | refine walkD_call3 rfl rfl rfl ?_); simp (maxSteps := 2000000) (disch := omega) only [go_sem, seval]; (first | refine ⟨_, cl, ?_⟩)) | ((first | refine j6 [10015] rfl ?_ | refine z7 [10015] rfl ?_); simp (maxSteps := 2000000) (disch := omega) only [go_sem, seval]; (repeat (first | refine ⟨by omega, ?_⟩ | refine ⟨True.intro, ?_⟩)))))
    refine awp_ret ?_
    refine (retM_list ⟨⟨(s, M), hM, hg⟩, rfl, rfl⟩ ?_ ?_).1
    · exact ⟨rfl, trivial⟩
    · simp [AL.look]
def deepYI (l : List (List Rule)) (s : Nat → Value) (M : Nat → Option Ent) (i : Fin (l.length + 1)) : ASt :=
  ⟨[(9, .p (.d (.v (.int .i64 (i.val : Int))))), (8, .p (.d (.v (.int .i64 (l.length : Int))))), (7, .p (.d (.sl 1 l.length (rowVal s)))), (3, .gr 3 i.val 1 i.val (rowRR l))], [(3, .grow 35 1 i.val i.val), (1999, .raw M)]⟩
set_option maxRecDepth 100000 in
set_option maxHeartbeats 1000000 in
theorem deepX_c (l : List (List Rule)) (hs : smallR l) (s : Nat → Value) (M : Nat → Option Ent) (hM : TabM M l s l.length) : MCalls Try.prog 39 [.p (.d (.sl 1 l.length (rowVal s)))] [(1999, .raw M)]
    (fun rs L => rs = [.p (tabPV l)] ∧ L = [(1999, .raw M)]) := by
  have hs1 := hs.1
  have cl := ClipAg_c l.length (rowRR l) (by omega)
  refine mcalls_of_awp Try.func39 rfl (by decide +kernel) (by rw [Try.ntmps39]; simp) (fun l X h => by simp only [AL.look] at h; (repeat' split at h); all_goals first | omega | cases h) ?_; rw [Try.ntmps39]; simp only [frA]
  (repeat ((fail_if_success (show AWP _ _ (.region 2 _ _) _ _)); first | refine j4 ?_ | refine x6 rfl ?_ | refine awp_no rfl ?_ | refine j5 ?_ | (refine q0 fun K hK => ?_) | (refine z6 (by kernel_rfl) (by kernel_rfl) fun K hK => ?_) | ((first | refine j0 ?_ | refine z1 ?_ | ((first | refine x3 (hK _ ?_) | refine x4 (hK _ _ (z2 (by kernel_rfl)) ?_)); clear hK K)); (first | show AWP _ _ _ _ _ | ((try simp only [x5]); first | show loopQ _ _ _ _ _ _ | show cutQ _ _ _ _ | show AWP _ _ _ _ _))) | ((first | refine j6 [10015] rfl ?_ | refine z7 [10015] rfl ?_); simp (maxSteps := 2000000) (disch := omega) only [go_sem, seval]; (repeat (first | refine ⟨by omega, ?_⟩ | refine ⟨True.intro, ?_⟩)))))
  refine awp_grow 3 3 1 35 (rowRR l) rfl (by kernel_rfl) rfl ?_
  (repeat (first | refine j4 ?_ | refine x6 rfl ?_ | refine awp_no rfl ?_ | refine j5 ?_ | (refine q0 fun K hK => ?_) | (refine z6 (by kernel_rfl) (by kernel_rfl) fun K hK => ?_) | ((first | refine j0 ?_ | refine z1 ?_ | ((first | refine x3 (hK _ ?_) | refine x4 (hK _ _ (z2 (by kernel_rfl)) ?_)); clear hK K)); (first | show AWP _ _ _ _ _ | ((try simp only [x5]); first | show loopQ _ _ _ _ _ _ | show cutQ _ _ _ _ | show AWP _ _ _ _ _))) | ((first | refine j6 [10015] rfl ?_ | refine z7 [10015] rfl ?_); simp (maxSteps := 2000000) (disch := omega) only [go_sem, seval]; (repeat (first | refine ⟨by omega, ?_⟩ | refine ⟨True.intro, ?_⟩)))))
  refine awp_loop (deepYI l s M) (fun s => l.length - s.val) ⟨0, by omega⟩ ?_ (fun j => ?_)
  · unfold deepYI
    refine Weak.list ?_ ?_; (all_goals simp (disch := omega) only [AllF, AllL, le_self, le_top, lle_self, exists_eq_left', Option.some.injEq, go_sem, seval]); (all_goals (repeat' (with_reducible apply And.intro))); (all_goals try (first | exact le_eq rfl | (refine le_int ?_; omega) | (refine le_eq ?_; simp; done)))
  obtain ⟨i, hi⟩ := j
  unfold deepYI
  by_cases h : i < l.length
  · have r1 := rowVal_at s i
    have hb := smallR_at hs i
    have pt := rowRR_snoc l i h
    have hv := hM i h
    have hrd := hv.rd
    obtain ⟨a, c, hsl⟩ := hv.slice
    unfold lenT cellT at hv hrd
    unfold lenT at hsl
    generalize l.getD i [] = x at hb pt hv hrd hsl
    rw [hsl] at r1 hrd
    (repeat ((fail_if_success (show AWP _ _ (.region 6 _ _) _ _)); first | refine j4 ?_ | refine x6 rfl ?_ | refine awp_no rfl ?_ | refine j5 ?_ | (refine q0 fun K hK => ?_) | (refine z6 (by kernel_rfl) (by kernel_rfl) fun K hK => ?_) | ((first | refine j0 ?_ | refine z1 ?_ | ((first | refine x3 (hK _ ?_) | refine x4 (hK _ _ (z2 (by kernel_rfl)) ?_)); clear hK K)); (first | show AWP _ _ _ _ _ | ((try simp only [x5]); first | show loopQ _ _ _ _ _ _ | show cutQ _ _ _ _ | show AWP _ _ _ _ _))) | ((first | refine j6 [10015] rfl ?_ | refine z7 [10015] rfl ?_); simp (maxSteps := 2000000) (disch := omega) only [go_sem, seval, r1]; (repeat (first | refine ⟨by omega, ?_⟩ | refine ⟨True.intro, ?_⟩)))))
    refine q0 fun K hK => ?_
    iterate 2 ((first | refine walkS_op2 [10015] rfl rfl ?_ | refine walkD_op2 [10015] rfl rfl ?_ | refine walkS_skip rfl rfl ?_ | refine walkD_skip rfl rfl ?_); simp (maxSteps := 2000000) (disch := omega) only [go_sem, seval, r1]; (repeat (first | refine ⟨by omega, ?_⟩ | refine ⟨True.intro, ?_⟩)))
    refine walkS_borrow M [.ow 15 0 12 x.length, .p (.d (.sl 12 x.length (rowR x)))] rfl rfl rfl (.cons (RdA.refl _ _) (.cons (RdA.p (.d hrd)) .nil)) ?_
    simp (maxSteps := 2000000) (disch := omega) only [go_sem, seval, r1]
    refine ⟨.own trivial (by decide) (fun i hi => ruleD_flat _), ?_⟩
    (repeat ((fail_if_success (show AWP _ _ (.region 7 _ _) _ _)); first | refine j4 ?_ | refine x6 rfl ?_ | refine awp_no rfl ?_ | refine j5 ?_ | (refine q0 fun K hK => ?_) | (refine z6 (by kernel_rfl) (by kernel_rfl) fun K hK => ?_) | ((first | refine j0 ?_ | refine z1 ?_ | ((first | refine x3 (hK _ ?_) | refine x4 (hK _ _ (z2 (by kernel_rfl)) ?_)); clear hK K)); (first | show AWP _ _ _ _ _ | ((try simp only [x5]); first | show loopQ _ _ _ _ _ _ | show cutQ _ _ _ _ | show AWP _ _ _ _ _))) | ((first | refine j6 [10015] rfl ?_ | refine z7 [10015] rfl ?_); simp (maxSteps := 2000000) (disch := omega) only [go_sem, seval, r1]; (repeat (first | refine ⟨by omega, ?_⟩ | refine ⟨True.intro, ?_⟩)))))
    refine awp_freeze 6 15 0 12 x.length 44 (rowR x) rfl rfl ?_
    (repeat (first | refine j4 ?_ | refine x6 rfl ?_ | refine awp_no rfl ?_ | refine j5 ?_ | (refine q0 fun K hK => ?_) | (refine z6 (by kernel_rfl) (by kernel_rfl) fun K hK => ?_) | ((first | refine j0 ?_ | refine z1 ?_ | ((first | refine x3 (hK _ ?_) | refine x4 (hK _ _ (z2 (by kernel_rfl)) ?_)); clear hK K)); (first | show AWP _ _ _ _ _ | ((try simp only [x5]); first | show loopQ _ _ _ _ _ _ | show cutQ _ _ _ _ | show AWP _ _ _ _ _))) | ((first | refine j6 [10015] rfl ?_ | refine z7 [10015] rfl ?_); simp (maxSteps := 2000000) (disch := omega) only [go_sem, seval, r1, look_dropL]; (repeat (first | refine ⟨by omega, ?_⟩ | refine ⟨True.intro, ?_⟩)))))
    refine ⟨⟨i + 1, by omega⟩, by simp only []; omega, ?_⟩
    refine Weak.list ?_ ?_; (all_goals simp (disch := omega) only [AllF, AllL, le_self, le_top, lle_self, exists_eq_left', Option.some.injEq, go_sem, seval, r1, look_dropL]); (all_goals (repeat' (with_reducible apply And.intro))); (all_goals try (first | exact le_eq rfl | (refine le_int ?_; omega) | (refine le_eq ?_; simp; done)))
    · exact le_grgr rfl rfl (fun k hk => pt k hk)
  · have : i = l.length := by omega
    subst this
    (repeat (first | refine j4 ?_ | refine x6 rfl ?_ | refine awp_no rfl ?_ | refine j5 ?_ | (refine q0 fun K hK => ?_) | (refine z6 (by kernel_rfl) (by kernel_rfl) fun K hK => ?_) | ((first | refine j0 ?_ | refine z1 ?_ | ((first | refine x3 (hK _ ?_) | refine x4 (hK _ _ (z2 (by kernel_rfl)) ?_)); clear hK K)); (first | show AWP _ _ _ _ _ | ((try simp only [x5]); first | show loopQ _ _ _ _ _ _ | show cutQ _ _ _ _ | show AWP _ _ _ _ _))) | ((first | refine walkS_call3 rfl rfl rfl ?_ | refine walkD_call3 rfl rfl rfl ?_); simp (maxSteps := 2000000) (disch := omega) only [go_sem, seval]; (first | refine ⟨_, cl, ?_⟩)) | ((first | refine j6 [10015] rfl ?_ | refine z7 [10015] rfl ?_); simp (maxSteps := 2000000) (disch := omega) only [go_sem, seval]; (repeat (first | refine ⟨by omega, ?_⟩ | refine ⟨True.intro, ?_⟩)))))
    refine awp_ret ?_
    refine (retM_list ⟨rfl, rfl⟩ ?_ ?_).1
    · exact ⟨rfl, trivial⟩
    · simp [AL.look]
set_option maxRecDepth 100000 in
theorem NewX_c (n v z : Int) (t : List (List Rule)) (ht : smallR t) (s : Nat → Value) (M : Nat → Option Ent) (hM : TabM M t s t.length) : MCalls Try.prog 11 [.p (.d (.v (.int .i64 n))), .p (.d (.v (.int .i64 v))), .p (.d (.v (.int .i64 z))), .p (.d (.sl 1 t.length (rowVal s)))] [(1999, .raw M)]
    (fun rs L => rs = [.loc 18 0] ∧ L = [(18, agC 18 12 ⟨n, v, z, [(v, t)]⟩), (12, .map [.i64] (agE [(v, t)])), (1999, .raw M)]) := by
  refine mcalls_of_awp Try.func11 rfl (by decide +kernel) (by rw [Try.ntmps11]; simp) (fun l X h => by simp only [AL.look] at h; (repeat' split at h); all_goals first | omega | cases h) ?_; rw [Try.ntmps11]; simp only [frA]
  (repeat (first | refine j4 ?_ | refine x6 rfl ?_ | refine awp_no rfl ?_ | refine j5 ?_ | (refine q0 fun K hK => ?_) | (refine z6 (by kernel_rfl) (by kernel_rfl) fun K hK => ?_) | ((first | refine j0 ?_ | refine z1 ?_ | ((first | refine x3 (hK _ ?_) | refine x4 (hK _ _ (z2 (by kernel_rfl)) ?_)); clear hK K)); (first | show AWP _ _ _ _ _ | ((try simp only [x5]); first | show loopQ _ _ _ _ _ _ | show cutQ _ _ _ _ | show AWP _ _ _ _ _))) | ((first | refine j6 [12, 18] rfl ?_ | refine z7 [12, 18] rfl ?_); simp (maxSteps := 2000000) (disch := omega) only [go_sem, seval, agC, agE, tabPV, putM, agL]; (repeat (first | refine ⟨by omega, ?_⟩ | refine ⟨True.intro, ?_⟩)))))
  (refine walkS_cons _ (step_mcall [(1999, 1999)] rfl rfl rfl rfl rfl rfl (deepX_c t ht s M hM) rfl (namesOK_of (by repeat (first | exact trivial | refine ⟨rfl, ?_⟩)) (by kernel_rfl))) ?_); simp (maxSteps := 2000000) (disch := omega) only [go_sem, seval, agC, agE, tabPV, putM, agL]
  (repeat (first | refine j4 ?_ | refine x6 rfl ?_ | refine awp_no rfl ?_ | refine j5 ?_ | (refine q0 fun K hK => ?_) | (refine z6 (by kernel_rfl) (by kernel_rfl) fun K hK => ?_) | ((first | refine j0 ?_ | refine z1 ?_ | ((first | refine x3 (hK _ ?_) | refine x4 (hK _ _ (z2 (by kernel_rfl)) ?_)); clear hK K)); (first | show AWP _ _ _ _ _ | ((try simp only [x5]); first | show loopQ _ _ _ _ _ _ | show cutQ _ _ _ _ | show AWP _ _ _ _ _))) | ((first | refine j6 [12, 18] rfl ?_ | refine z7 [12, 18] rfl ?_); simp (maxSteps := 2000000) (disch := omega) only [go_sem, seval, agC, agE, tabPV, putM, agL]; (repeat (first | refine ⟨by omega, ?_⟩ | refine ⟨True.intro, ?_⟩)))))
  refine awp_ret ?_
  refine (retM_list ⟨rfl, rfl⟩ ?_ ?_).1
  · exact ⟨rfl, trivial⟩
  · simp [AL.look, agC, agE, tabPV, putM]
set_option maxRecDepth 100000 in
theorem TablesX_some (a : Ag) (v : Int) (t : List (List Rule)) (h : getA v a.es = some t) (ht : smallR t) (M0 : Nat → Option Ent) : MCalls Try.prog 15 [.loc 1000 0, intP v] ((1999, .raw M0) :: agL a)
    (fun rs L => ∃ r : {r : (Nat → Value) × (Nat → Option Ent) // TabM r.2 t r.1 t.length ∧ GrowsM M0 r.2}, rs = [.p (.d (.sl 1 t.length (rowVal r.val.1))), .p (.d (.v (.bool true)))] ∧ L = (1999, .raw r.val.2) :: agL a) := by
  have hf : findM [v] (agE a.es) = some (tabPV t) := by rw [findM_ag, h]; rfl
  unfold agL
  refine mcalls_of_awp Try.func15 rfl (by decide +kernel) (by rw [Try.ntmps15]; simp) (fun l X h => by simp only [AL.look] at h; (repeat' split at h); all_goals first | omega | cases h) ?_; rw [Try.ntmps15]; simp only [frA]
  (repeat (first | refine j4 ?_ | refine x6 rfl ?_ | refine awp_no rfl ?_ | refine j5 ?_ | (refine q0 fun K hK => ?_) | (refine z6 (by kernel_rfl) (by kernel_rfl) fun K hK => ?_) | ((first | refine j0 ?_ | refine z1 ?_ | ((first | refine x3 (hK _ ?_) | refine x4 (hK _ _ (z2 (by kernel_rfl)) ?_)); clear hK K)); (first | show AWP _ _ _ _ _ | ((try simp only [x5]); first | show loopQ _ _ _ _ _ _ | show cutQ _ _ _ _ | show AWP _ _ _ _ _))) | ((first | refine j6 [] rfl ?_ | refine z7 [] rfl ?_); simp (maxSteps := 2000000) (disch := omega) only [go_sem, seval, agL, agC, intP, hf, tabPV]; (repeat (first | refine ⟨by omega, ?_⟩ | refine ⟨True.intro, ?_⟩)))))
  (refine walkS_ex (step_mcallX [(1999, 1999)] rfl rfl rfl rfl rfl rfl (deepXO_c t ht M0) (fun _ => rfl) (namesOK_of (by repeat (first | exact trivial | refine ⟨rfl, ?_⟩)) (by kernel_rfl)) (fun _ => (namesOK_of (by repeat (first | exact trivial | refine ⟨rfl, ?_⟩)) (by kernel_rfl)))) ?_); rintro ⟨⟨s, M⟩, hM⟩; simp (maxSteps := 2000000) (disch := omega) only [go_sem, seval, agL, agC, intP, hf, tabPV]
  (repeat (first | refine j4 ?_ | refine x6 rfl ?_ | refine awp_no rfl ?_ | refine j5 ?_ | (refine q0 fun K hK => ?_) | (refine z6 (by kernel_rfl) (by kernel_rfl) fun K hK => ?_) | ((first | refine j0 ?_ | refine z1 ?_ | ((first | refine x3 (hK _ ?_) | refine x4 (hK _ _ (z2 (by kernel_rfl)) ?_)); clear hK K)); (first | show AWP _ _ _ _ _ | ((try simp only [x5]); first | show loopQ _ _ _ _ _ _ | show cutQ _ _ _ _ | show AWP _ _ _ _ _))) | ((first | refine j6 [] rfl ?_ | refine z7 [] rfl ?_); simp (maxSteps := 2000000) (disch := omega) only [go_sem, seval, agL, agC, intP, hf, tabPV]; (repeat (first | refine ⟨by omega, ?_⟩ | refine ⟨True.intro, ?_⟩)))))
  refine awp_ret ?_
  refine (retM_list ⟨⟨(s, M), hM⟩, rfl, rfl⟩ ?_ ?_).1
  · exact ⟨rfl, rfl, trivial⟩
  · simp [AL.look, agC, agL]
def ShapT (M : Nat → Option Ent) (t : List (List Rule)) (s : Nat → Value) (n : Nat) : Prop := ∀ i, i < n → HoldS M 44 12 [0] (lenT t i) (s i)
theorem TabM.shape {M : Nat → Option Ent} {t : List (List Rule)} {s : Nat → Value} {n : Nat} (h : TabM M t s n) : ShapT M t s n := fun i hi => (h i hi).shape fun k hk => ⟨rfl, fun j hj => by
  simp only [List.mem_cons, List.not_mem_nil, or_false] at hj
  subst hj
  exact ⟨_, rfl⟩⟩
structure SpI (t : List (List Rule)) (s : Nat → Value) where
  i : Nat
  M : Nat → Option Ent
  h : ShapT M t s t.length
  hi : i ≤ t.length
structure SpK (t : List (List Rule)) (s : Nat → Value) (n : Nat) where
  k : Nat
  M : Nat → Option Ent
  h : ShapT M t s t.length
  hk : k ≤ n
def spI (t : List (List Rule)) (s : Nat → Value) (x : SpI t s) : ASt := ⟨[(0, .p (.d (.sl 1 t.length (rowVal s)))), (2, .p (.d (.v (.int .i64 (x.i : Int)))))], [(1999, .raw x.M)]⟩
def spK (t : List (List Rule)) (s : Nat → Value) (i : Nat) (n : Nat) (x : SpK t s n) : ASt := ⟨[(0, .p (.d (.sl 1 t.length (rowVal s)))), (2, .p (.d (.v (.int .i64 (i : Int))))), (3, .p (.d (.v (.int .i64 (x.k : Int)))))], [(1999, .raw x.M)]⟩
set_option maxRecDepth 100000 in
set_option maxHeartbeats 1000000 in
theorem spoil_c (t : List (List Rule)) (hs : smallR t) (s : Nat → Value) (M : Nat → Option Ent) (hM : ShapT M t s t.length) : MCalls Try.prog 21 [.p (.d (.sl 1 t.length (rowVal s)))] [(1999, .raw M)] (fun rs L => ∃ M2 : Nat → Option Ent, rs = [] ∧ L = [(1999, .raw M2)]) := by
  have hs1 := hs.1
  refine mcalls_of_awp Try.func21 rfl (by decide +kernel) (by rw [Try.ntmps21]; simp) (fun l X h => by simp only [AL.look] at h; (repeat' split at h); all_goals first | omega | cases h) ?_; rw [Try.ntmps21]; simp only [frA]
  (repeat (first | refine j4 ?_ | refine x6 rfl ?_ | refine awp_no rfl ?_ | refine j5 ?_ | (refine q0 fun K hK => ?_) | (refine z6 (by kernel_rfl) (by kernel_rfl) fun K hK => ?_) | ((first | refine j0 ?_ | refine z1 ?_ | ((first | refine x3 (hK _ ?_) | refine x4 (hK _ _ (z2 (by kernel_rfl)) ?_)); clear hK K)); (first | show AWP _ _ _ _ _ | ((try simp only [x5]); first | show loopQ _ _ _ _ _ _ | show cutQ _ _ _ _ | show AWP _ _ _ _ _))) | ((first | refine j6 [] rfl ?_ | refine z7 [] rfl ?_); simp (maxSteps := 2000000) (disch := omega) only [go_sem, seval]; (repeat (first | refine ⟨by omega, ?_⟩ | refine ⟨True.intro, ?_⟩)))))
  refine awp_loop (spI t s) (fun x => t.length - x.i) ⟨0, M, hM, by omega⟩ ?_ (fun x => ?_)
  · unfold spI
    refine Weak.list ?_ ?_; (all_goals simp (disch := omega) only [AllF, AllL, le_self, le_top, lle_self, exists_eq_left', Option.some.injEq, go_sem, seval]); (all_goals (repeat' (with_reducible apply And.intro))); (all_goals try (first | exact le_eq rfl | (refine le_int ?_; omega) | (refine le_eq ?_; simp; done)))
  obtain ⟨i, M, hM, hi⟩ := x
  unfold spI
  by_cases h : i < t.length
  · have r1 := rowVal_at s i
    have hb := smallR_at hs i
    have hv := hM i h
    have hlen : lenT t i ≤ 1048576 := hb
    obtain ⟨a, c, hsl⟩ : ∃ a c, s i = .slice a (lenT t i) c := by
      rcases hv with ⟨e, e2⟩ | ⟨b, c, f', e, _⟩
      · rw [e, e2]; exact ⟨_, _, rfl⟩
      · exact ⟨_, _, e⟩
    rw [hsl] at r1
    generalize hn : lenT t i = n at r1 hlen
    (repeat (first | refine j4 ?_ | refine x6 rfl ?_ | refine awp_no rfl ?_ | refine j5 ?_ | (refine q0 fun K hK => ?_) | (refine z6 (by kernel_rfl) (by kernel_rfl) fun K hK => ?_) | ((first | refine j0 ?_ | refine z1 ?_ | ((first | refine x3 (hK _ ?_) | refine x4 (hK _ _ (z2 (by kernel_rfl)) ?_)); clear hK K)); (first | show AWP _ _ _ _ _ | ((try simp only [x5]); first | show loopQ _ _ _ _ _ _ | show cutQ _ _ _ _ | show AWP _ _ _ _ _))) | ((first | refine j6 [] rfl ?_ | refine z7 [] rfl ?_); simp (maxSteps := 2000000) (disch := omega) only [go_sem, seval, r1]; (repeat (first | refine ⟨by omega, ?_⟩ | refine ⟨True.intro, ?_⟩)))))
    refine awp_loop (spK t s i n) (fun x => n - x.k) ⟨0, M, hM, by omega⟩ ?_ (fun x => ?_)
    · unfold spK
      refine Weak.list ?_ ?_; (all_goals simp (disch := omega) only [AllF, AllL, le_self, le_top, lle_self, exists_eq_left', Option.some.injEq, go_sem, seval, r1]); (all_goals (repeat' (with_reducible apply And.intro))); (all_goals try (first | exact le_eq rfl | (refine le_int ?_; omega) | (refine le_eq ?_; simp; done)))
    obtain ⟨k, M, hM, hk⟩ := x
    unfold spK
    by_cases hkn : k < n
    · have hv := hM i h
      rw [hn] at hv
      rcases hv with ⟨e, e2⟩ | ⟨b, c', f', e, hnc, hMb, hf⟩
      · omega
      · rw [hsl] at e
        rw [hn] at e
        cases e
        obtain ⟨sh, p, hp⟩ : (f' k).length = 12 ∧ ∃ p, (f' k)[0]? = some (.v (.int .i64 p)) := ⟨(hf k hkn).1, (hf k hkn).2 0 (by simp)⟩
        have hst : ShapT (setM M b (some ⟨44, 12, c, n, putEl f' k 0 [.v (.int .i64 (bits .xor .i64 p 1))]⟩)) t s t.length := fun i hi => (hM i hi).store hMb k 0 (bits .xor .i64 p 1) (show 0 < 12 by omega)
        (repeat (first | refine j4 ?_ | refine x6 rfl ?_ | refine awp_no rfl ?_ | refine j5 ?_ | (refine q0 fun K hK => ?_) | (refine z6 (by kernel_rfl) (by kernel_rfl) fun K hK => ?_) | ((first | refine j0 ?_ | refine z1 ?_ | ((first | refine x3 (hK _ ?_) | refine x4 (hK _ _ (z2 (by kernel_rfl)) ?_)); clear hK K)); (first | show AWP _ _ _ _ _ | ((try simp only [x5]); first | show loopQ _ _ _ _ _ _ | show cutQ _ _ _ _ | show AWP _ _ _ _ _))) | ((first | refine j6 [] rfl ?_ | refine z7 [] rfl ?_); simp (maxSteps := 2000000) (disch := omega) only [go_sem, seval, r1, hMb, hp]; (repeat (first | refine ⟨by omega, ?_⟩ | refine ⟨True.intro, ?_⟩)))))
        refine ⟨⟨k + 1, _, hst, by omega⟩, by simp only []; omega, ?_⟩
        refine Weak.list ?_ ?_; (all_goals simp (disch := omega) only [AllF, AllL, le_self, le_top, lle_self, exists_eq_left', Option.some.injEq, go_sem, seval, r1, hMb, hp]); (all_goals (repeat' (with_reducible apply And.intro))); (all_goals try (first | exact le_eq rfl | (refine le_int ?_; omega) | (refine le_eq ?_; simp; done)))
    · have : k = n := by omega
      subst this
      (repeat (first | refine j4 ?_ | refine x6 rfl ?_ | refine awp_no rfl ?_ | refine j5 ?_ | (refine q0 fun K hK => ?_) | (refine z6 (by kernel_rfl) (by kernel_rfl) fun K hK => ?_) | ((first | refine j0 ?_ | refine z1 ?_ | ((first | refine x3 (hK _ ?_) | refine x4 (hK _ _ (z2 (by kernel_rfl)) ?_)); clear hK K)); (first | show AWP _ _ _ _ _ | ((try simp only [x5]); first | show loopQ _ _ _ _ _ _ | show cutQ _ _ _ _ | show AWP _ _ _ _ _))) | ((first | refine j6 [] rfl ?_ | refine z7 [] rfl ?_); simp (maxSteps := 2000000) (disch := omega) only [go_sem, seval, r1]; (repeat (first | refine ⟨by omega, ?_⟩ | refine ⟨True.intro, ?_⟩)))))
      refine ⟨⟨i + 1, M, hM, by omega⟩, by simp only []; omega, ?_⟩
      refine Weak.list ?_ ?_; (all_goals simp (disch := omega) only [AllF, AllL, le_self, le_top, lle_self, exists_eq_left', Option.some.injEq, go_sem, seval, r1]); (all_goals (repeat' (with_reducible apply And.intro))); (all_goals try (first | exact le_eq rfl | (refine le_int ?_; omega) | (refine le_eq ?_; simp; done)))
  · have : i = t.length := by omega
    subst this
    (repeat (first | refine j4 ?_ | refine x6 rfl ?_ | refine awp_no rfl ?_ | refine j5 ?_ | (refine q0 fun K hK => ?_) | (refine z6 (by kernel_rfl) (by kernel_rfl) fun K hK => ?_) | ((first | refine j0 ?_ | refine z1 ?_ | ((first | refine x3 (hK _ ?_) | refine x4 (hK _ _ (z2 (by kernel_rfl)) ?_)); clear hK K)); (first | show AWP _ _ _ _ _ | ((try simp only [x5]); first | show loopQ _ _ _ _ _ _ | show cutQ _ _ _ _ | show AWP _ _ _ _ _))) | ((first | refine j6 [] rfl ?_ | refine z7 [] rfl ?_); simp (maxSteps := 2000000) (disch := omega) only [go_sem, seval]; (repeat (first | refine ⟨by omega, ?_⟩ | refine ⟨True.intro, ?_⟩)))))
    (first | refine j0 ?_ | refine z1 ?_ | refine x3 (hK _ ?_) | refine x4 (hK _ _ (z2 (by kernel_rfl)) ?_)); (show retM _ _ _ .normal _)
    exact retM_of' [] [(1999, .raw M)] trivial (by simp [AL.look]) ⟨M, rfl, rfl⟩
end Go.Proofs.Ytjfammnjpeeahaa
set_option linter.unusedSimpArgs false
set_option linter.unusedVariables false
namespace Go.Proofs.Ytjfammnjpeeahaa.AL
open Go
theorem Weak.growCell (A : ASt) (l0 l j sz : Nat) (e e' : TypeId) (cs : List AV) (f : Nat → List Dat) (hl0 : look A.locs l0 = some (.cells e cs)) (hj : cs[j]? = some (.p (.d (.v (.slice none 0 0))))) (hne : l0 ≠ l)
    (hu : unusedB A l = true) (hn : look A.locs l = none) : Weak A ⟨A.fr, (l, .grow e' sz 0 0) :: (l0, .cells e (cs.set j (.gr l 0 sz 0 f))) :: A.locs⟩ := by
  intro w0 g0 nt h a w r
  let h' : Gh := { h with κ := fun k => if k = l then .slice none 0 0 else h.κ k, μ := fun k => if k = l then 0 else h.μ k }
  have un := unusedB_spec hu
  have tr : Trans w0.O w h w h' (fun _ => False) (some l) true := by
    refine ⟨BelowS.refl _ _, fun b _ _ => ⟨rfl, rfl⟩, ⟨fun b => Nat.le_refl _, fun b o _ => rfl⟩, r.gz, fun b _ => rfl, fun _ _ => rfl, fun k hk => ?_, fun k _ hf => by cases hf⟩
    have : k ≠ l := fun e => hk (by rw [e])
    simp [h', this]
  have nl : h'.κ l = .slice none 0 0 := by simp [h']
  have nm : h'.μ l = 0 := by simp [h']
  have old : ∀ k L, k ≠ l → look A.locs k = some L → LocOK w0.O w h' k L ∧ inB h' k L = inB h k L := fun k L hk hL =>
    LocOK.trans tr (fun e => hk (by cases e; rfl)) (fun _ l' hl' hm => by cases hl'; exact un.2.1 k L hL hm) (fun b _ => by simp) (r.locs k L hL)
  have cell0 : LocOK w0.O w h' l0 (.cells e (cs.set j (.gr l 0 sz 0 f))) := by
    obtain ⟨arr, c1, c2, c3, c4, c5⟩ := (old l0 _ hne hl0).1
    refine ⟨arr, c1, c2, by simpa using c3, c4, fun i v x hv hx => ?_⟩
    by_cases hi : i = j
    · subst hi
      have hlt := (List.getElem?_eq_some_iff.1 hj).1
      rw [List.getElem?_set_self hlt] at hx
      cases hx
      obtain ⟨k1, k2⟩ := c5 i v _ hv hj
      have hv0 := relA_nil k1
      refine ⟨?_, k2⟩
      rw [hv0]
      exact ⟨.sl0 _ _ _ _, by omega, fun _ => nl.symm⟩
    · rw [List.getElem?_set_ne (fun e => hi e.symm)] at hx
      exact c5 i v x hv hx
  refine ⟨h', r.size, r.defers, fun u y hy => ?_, fun k L hL => ?_, fun k k' L L' b hne2 hL hL' hbk => ?_, r.ext, fun k hk => ?_⟩
  · exact RelA.trans tr (fun _ l' hl' hm => by cases hl'; exact un.1 u y hy hm) (r.fr u y hy)
  · simp only [look] at hL
    split at hL
    · rename_i e2; subst e2; cases hL
      exact ⟨nm, ⟨[], by rw [nl]; exact World.ownsRow_nil _ _ _ _⟩, fun b c hb => by rw [nl] at hb; simp at hb, fun b hb => by rw [nl] at hb; simp [Value.ownBlock] at hb⟩
    · rename_i hk
      split at hL
      · rename_i e2; subst e2; cases hL; exact cell0
      · exact (old k L (fun e => hk e.symm) hL).1
  · have two : ∀ {k : Nat} {L : LV}, look ((l, LV.grow e' sz 0 0) :: (l0, .cells e (cs.set j (.gr l 0 sz 0 f))) :: A.locs) k = some L → inB h' k L b → k ≠ l ∧ ∃ L0, look A.locs k = some L0 ∧ inB h k L0 b := by
      intro k L hL hb
      simp only [look] at hL
      split at hL
      · rename_i e2; subst e2; cases hL
        simp [inB, nl, Value.ownBlock] at hb
      · rename_i hk
        refine ⟨fun e => hk e.symm, ?_⟩
        split at hL
        · rename_i e2; subst e2; cases hL
          exact ⟨_, hl0, hb⟩
        · exact ⟨L, hL, by rw [← (old k L (fun e => hk e.symm) hL).2]; exact hb⟩
    intro hin
    obtain ⟨a1, L1, a2, a3⟩ := two hL hbk
    obtain ⟨b1, L2, b2, b3⟩ := two hL' hin
    exact r.sep k k' L1 L2 b hne2 a2 b2 a3 b3
  · have : k ≠ l := by have := un.2.2; omega
    simp only [h', if_neg this]
    exact r.pin k hk
theorem awp_growCell {P : Program} {nt : Nat} {c : Code} {Q : Exit → ASt → Prop} {A : ASt} (l0 l j sz : Nat) (e' : TypeId) (f : Nat → List Dat) {e : TypeId} {cs : List AV} (hl0 : look A.locs l0 = some (.cells e cs)) (hj : cs[j]? = some (.p (.d (.v (.slice none 0 0))))) (hne : l0 ≠ l)
    (hu : unusedB A l = true) (hn : look A.locs l = none) (h : AWP P nt c Q ⟨A.fr, (l, .grow e' sz 0 0) :: (l0, .cells e (cs.set j (.gr l 0 sz 0 f))) :: A.locs⟩) : AWP P nt c Q A := awp_weak (Weak.growCell A l0 l j sz e e' cs f hl0 hj hne hu hn) h
end Go.Proofs.Ytjfammnjpeeahaa.AL
set_option linter.unusedSimpArgs false
set_option linter.unusedVariables false
namespace Go.Proofs.Ytjfammnjpeeahaa
open Go Go.Proofs.Ytjfammnjpeeahaa.AL
def nilD : Dat := .v (.slice none 0 0)
def cfgO (x : Dat) : List Dat := [.sl 1 0 fun _ => [], .v (.int .i64 0), .sl 2 0 fun _ => [], .sl 3 0 fun _ => [], .sl 1 1 fun _ => [x]]
def cfgR (x : Dat) : List Dat := [.v (.slice none 0 0), .v (.int .i64 0), .sl 2 0 fun _ => [], .sl 3 0 fun _ => [], .sl 1 1 fun _ => [x]]
def outC (x : AV) : LV := .cells 31 [.p (.d (.v (.slice none 0 0))), .p (.d (.v (.int .i64 0))), .p (.d (.sl 2 0 fun _ => [])), .p (.d (.sl 3 0 fun _ => [])), x]
def outZ : LV := .cells 31 [.p (.d (.v (.slice none 0 0))), .p (.d (.v (.int .i64 0))), .p (.d (.v (.slice none 0 0))), .p (.d (.v (.slice none 0 0))), .p (.d (.v (.slice none 0 0)))]
abbrev RT (t : List (List Rule)) (M0 : Nat → Option Ent) := {r : (Nat → Value) × (Nat → Option Ent) // TabM r.2 t r.1 t.length ∧ GrowsM M0 r.2}
theorem one_at {f f' : Nat → List Dat} (h : f 0 = f' 0) : ∀ k, k < 1 → f k = f' k := by
  intro k hk
  have : k = 0 := by omega
  subst this
  exact h
def cpA (t : List (List Rule)) (M0 : Nat → Option Ent) : Option (RT t M0) → ASt
  | none => ⟨[(5, .p (.d (.v (.int .i64 0)))), (3, .loc 3 0), (2, .loc 2 0), (1, .p (.d (.bx (cfgO (.sl 1 t.length (rowRR t))))))], [(90, .grow 34 1 0 0), (3, outC (.gr 90 0 1 0 fun _ => [])), (2, outZ), (1999, .raw M0)]⟩
  | some r => ⟨[(5, .p (.d (.v (.int .i64 1)))), (3, .loc 3 0), (2, .loc 2 0), (1, .p (.d (.bx (cfgO (.sl 1 t.length (rowRR t))))))], [(90, .grow 34 1 1 1), (3, outC (.gr 90 1 1 1 fun _ => [.sl 1 t.length (rowVal r.val.1)])), (2, outZ), (1999, .raw r.val.2)]⟩
def cpB (t : List (List Rule)) (M0 : Nat → Option Ent) (x : DX t M0) : ASt :=
  ⟨[(7, .p (.d (.v (.int .i64 (x.i : Int))))), (6, .gr 57 x.i 1 x.i (rowVal x.s)), (5, .p (.d (.v (.int .i64 0)))), (3, .loc 3 0), (2, .loc 2 0), (1, .p (.d (.bx (cfgO (.sl 1 t.length (rowRR t))))))],
   [(57, .grow 35 1 x.i x.i), (90, .grow 34 1 0 0), (3, outC (.gr 90 0 1 0 fun _ => [])), (2, outZ), (1999, .raw x.M)]⟩
set_option maxRecDepth 100000 in
set_option maxHeartbeats 2000000 in
theorem CopyX_c (t : List (List Rule)) (hs : smallR t) (M0 : Nat → Option Ent) : MCalls Try.prog 6 [.p (.agg (cfgO (.sl 1 t.length (rowRR t))))] [(1999, .raw M0)]
    (fun rs L => ∃ r : RT t M0, rs = [.p (.agg (cfgR (.sl 1 t.length (rowVal r.val.1))))] ∧ L = [(1999, .raw r.val.2)]) := by
  have hs1 := hs.1
  unfold cfgO
  refine mcalls_of_awp Try.func6 rfl (by decide +kernel) (by rw [Try.ntmps6]; simp) (fun l X h => by simp only [AL.look] at h; (repeat' split at h); all_goals first | omega | cases h) ?_; rw [Try.ntmps6]; simp only [frA]
  (repeat (first | refine j4 ?_ | refine x6 rfl ?_ | refine awp_no rfl ?_ | refine j5 ?_ | (refine q0 fun K hK => ?_) | (refine z6 (by kernel_rfl) (by kernel_rfl) fun K hK => ?_) | ((first | refine j0 ?_ | refine z1 ?_ | ((first | refine x3 (hK _ ?_) | refine x4 (hK _ _ (z2 (by kernel_rfl)) ?_)); clear hK K)); (first | show AWP _ _ _ _ _ | ((try simp only [x5]); first | show loopQ _ _ _ _ _ _ | show cutQ _ _ _ _ | show AWP _ _ _ _ _))) | ((first | refine j6 [13, 20, 57, 10069] rfl ?_ | refine z7 [13, 20, 57, 10069] rfl ?_); simp (maxSteps := 2000000) (disch := omega) only [go_sem, seval, cfgO, outC, outZ, nilD]; (repeat (first | refine ⟨by omega, ?_⟩ | refine ⟨True.intro, ?_⟩)))))
  refine awp_loop (fun _ : Unit => ⟨[(4, .p (.d (.v (.int .i64 0)))), (3, .loc 3 0), (2, .loc 2 0), (1, .p (.d (.bx (cfgO (.sl 1 t.length (rowRR t))))))], [(3, outC (.p (.d (.v (.slice none 0 0))))), (2, outZ), (1999, .raw M0)]⟩) (fun _ => 0) () ?_ (fun _ => ?_)
  · unfold cfgO outC outZ
    refine Weak.list ?_ ?_; (all_goals simp (disch := omega) only [AllF, AllL, le_self, le_top, lle_self, exists_eq_left', Option.some.injEq, go_sem, seval, cfgO, outC, outZ, nilD]); (all_goals (repeat' (with_reducible apply And.intro))); (all_goals try (first | exact le_eq rfl | (refine le_int ?_; omega) | (refine le_eq ?_; simp; done)))
    refine lle_cellsD (.cons (Le.refl _) (.cons (Le.refl _) (.cons (le_gr rfl fun i hi => by omega) (.cons (le_gr rfl fun i hi => by omega) (.cons (Le.refl _) .nil)))))
  unfold outC outZ cfgO
  (repeat (first | refine j4 ?_ | refine x6 rfl ?_ | refine awp_no rfl ?_ | refine j5 ?_ | (refine q0 fun K hK => ?_) | (refine z6 (by kernel_rfl) (by kernel_rfl) fun K hK => ?_) | ((first | refine j0 ?_ | refine z1 ?_ | ((first | refine x3 (hK _ ?_) | refine x4 (hK _ _ (z2 (by kernel_rfl)) ?_)); clear hK K)); (first | show AWP _ _ _ _ _ | ((try simp only [x5]); first | show loopQ _ _ _ _ _ _ | show cutQ _ _ _ _ | show AWP _ _ _ _ _))) | ((first | refine j6 [13, 20, 57, 10069] rfl ?_ | refine z7 [13, 20, 57, 10069] rfl ?_); simp (maxSteps := 2000000) (disch := omega) only [go_sem, seval, cfgO, outC, outZ, nilD]; (repeat (first | refine ⟨by omega, ?_⟩ | refine ⟨True.intro, ?_⟩)))))
  refine awp_growCell 3 90 4 1 34 (fun _ => []) rfl rfl (by decide) (by kernel_rfl) rfl ?_
  (repeat (first | refine j4 ?_ | refine x6 rfl ?_ | refine awp_no rfl ?_ | refine j5 ?_ | (refine q0 fun K hK => ?_) | (refine z6 (by kernel_rfl) (by kernel_rfl) fun K hK => ?_) | ((first | refine j0 ?_ | refine z1 ?_ | ((first | refine x3 (hK _ ?_) | refine x4 (hK _ _ (z2 (by kernel_rfl)) ?_)); clear hK K)); (first | show AWP _ _ _ _ _ | ((try simp only [x5]); first | show loopQ _ _ _ _ _ _ | show cutQ _ _ _ _ | show AWP _ _ _ _ _))) | ((first | refine j6 [13, 20, 57, 10069] rfl ?_ | refine z7 [13, 20, 57, 10069] rfl ?_); simp (maxSteps := 2000000) (disch := omega) only [go_sem, seval, cfgO, outC, outZ, nilD]; (repeat (first | refine ⟨by omega, ?_⟩ | refine ⟨True.intro, ?_⟩)))))
  refine awp_loop (cpA t M0) (fun x => match x with | none => 1 | some _ => 0) none ?_ (fun x => ?_)
  · unfold cpA cfgO outC outZ
    refine Weak.list ?_ ?_; (all_goals simp (disch := omega) only [AllF, AllL, le_self, le_top, lle_self, exists_eq_left', Option.some.injEq, go_sem, seval, cfgO, outC, outZ, nilD]); (all_goals (repeat' (with_reducible apply And.intro))); (all_goals try (first | exact le_eq rfl | (refine le_int ?_; omega) | (refine le_eq ?_; simp; done)))
    exact LLe.refl _
  cases x with
  | none =>
    unfold cpA outC outZ cfgO
    (repeat (first | refine j4 ?_ | refine x6 rfl ?_ | refine awp_no rfl ?_ | refine j5 ?_ | (refine q0 fun K hK => ?_) | (refine z6 (by kernel_rfl) (by kernel_rfl) fun K hK => ?_) | ((first | refine j0 ?_ | refine z1 ?_ | ((first | refine x3 (hK _ ?_) | refine x4 (hK _ _ (z2 (by kernel_rfl)) ?_)); clear hK K)); (first | show AWP _ _ _ _ _ | ((try simp only [x5]); first | show loopQ _ _ _ _ _ _ | show cutQ _ _ _ _ | show AWP _ _ _ _ _))) | ((first | refine j6 [13, 20, 57, 10069] rfl ?_ | refine z7 [13, 20, 57, 10069] rfl ?_); simp (maxSteps := 2000000) (disch := omega) only [go_sem, seval, cfgO, outC, outZ, nilD]; (repeat (first | refine ⟨by omega, ?_⟩ | refine ⟨True.intro, ?_⟩)))))
    refine awp_loop (cpB t M0) (fun x => t.length - x.i) ⟨0, fun _ => .slice none 0 0, M0, by omega, fun i hi => by omega, .refl _⟩ ?_ (fun x => ?_)
    · unfold cpB cfgO outC outZ
      refine Weak.list ?_ ?_; (all_goals simp (disch := omega) only [AllF, AllL, le_self, le_top, lle_self, exists_eq_left', Option.some.injEq, go_sem, seval, cfgO, outC, outZ, nilD]); (all_goals (repeat' (with_reducible apply And.intro))); (all_goals try (first | exact le_eq rfl | (refine le_int ?_; omega) | (refine le_eq ?_; simp; done)))
      exact le_grgr rfl rfl (fun k hk => by omega)
    obtain ⟨i, s, M, hi, hM, hg⟩ := x
    unfold cpB outC outZ cfgO
    by_cases h : i < t.length
    · have r1 := rowRR_at t i
      have hb := smallR_at hs i
      have sn : ∀ {f0 v M2}, PackR M 44 12 (t.getD i []).length f0 v M2 → (∀ k, k < (t.getD i []).length → f0 k = rowR (t.getD i []) k) → TabM M2 t (updS s i v) (i + 1) := fun hp hf => RowsM.snoc hM hp hf
      generalize t.getD i [] = x at r1 hb sn
      (repeat ((fail_if_success (show AWP _ _ (.region 15 _ _) _ _)); first | refine j4 ?_ | refine x6 rfl ?_ | refine awp_no rfl ?_ | refine j5 ?_ | (refine q0 fun K hK => ?_) | (refine z6 (by kernel_rfl) (by kernel_rfl) fun K hK => ?_) | ((first | refine j0 ?_ | refine z1 ?_ | ((first | refine x3 (hK _ ?_) | refine x4 (hK _ _ (z2 (by kernel_rfl)) ?_)); clear hK K)); (first | show AWP _ _ _ _ _ | ((try simp only [x5]); first | show loopQ _ _ _ _ _ _ | show cutQ _ _ _ _ | show AWP _ _ _ _ _))) | ((first | refine j6 [13, 20, 57, 10069] rfl ?_ | refine z7 [13, 20, 57, 10069] rfl ?_); simp (maxSteps := 2000000) (disch := omega) only [go_sem, seval, cfgO, outC, outZ, nilD, r1]; (repeat (first | refine ⟨by omega, ?_⟩ | refine ⟨True.intro, ?_⟩)))))
      refine q0 fun K hK => ?_
      iterate 11 ((first | refine walkS_op2 [13, 20, 57, 10069] rfl rfl ?_ | refine walkD_op2 [13, 20, 57, 10069] rfl rfl ?_ | refine walkS_skip rfl rfl ?_ | refine walkD_skip rfl rfl ?_); simp (maxSteps := 2000000) (disch := omega) only [go_sem, seval, cfgO, outC, outZ, nilD, r1]; (repeat (first | refine ⟨by omega, ?_⟩ | refine ⟨True.intro, ?_⟩)))
      refine walkS_weakX (WeakX.packRow _ 78 69 1 12 x.length 44 _ M rfl rfl rfl (by decide)) ?_
      rintro _ ⟨v, M2, hp, rfl⟩
      have hM2 := sn hp fun k hk => by simp [catF]
      (repeat (first | refine j4 ?_ | refine x6 rfl ?_ | refine awp_no rfl ?_ | refine j5 ?_ | (refine q0 fun K hK => ?_) | (refine z6 (by kernel_rfl) (by kernel_rfl) fun K hK => ?_) | ((first | refine j0 ?_ | refine z1 ?_ | ((first | refine x3 (hK _ ?_) | refine x4 (hK _ _ (z2 (by kernel_rfl)) ?_)); clear hK K)); (first | show AWP _ _ _ _ _ | ((try simp only [x5]); first | show loopQ _ _ _ _ _ _ | show cutQ _ _ _ _ | show AWP _ _ _ _ _))) | ((first | refine j6 [13, 20, 57, 10069] rfl ?_ | refine z7 [13, 20, 57, 10069] rfl ?_); simp (maxSteps := 2000000) (disch := omega) only [go_sem, seval, cfgO, outC, outZ, nilD, r1, look_dropL]; (repeat (first | refine ⟨by omega, ?_⟩ | refine ⟨True.intro, ?_⟩)))))
      refine ⟨⟨i + 1, updS s i v, M2, by omega, hM2, hg.trans hp.grows⟩, by simp only []; omega, ?_⟩
      refine Weak.list ?_ ?_; (all_goals simp (disch := omega) only [AllF, AllL, le_self, le_top, lle_self, exists_eq_left', Option.some.injEq, go_sem, seval, cfgO, outC, outZ, nilD, r1, look_dropL]); (all_goals (repeat' (with_reducible apply And.intro))); (all_goals try (first | exact le_eq rfl | (refine le_int ?_; omega) | (refine le_eq ?_; simp; done)))
      exact le_grgr rfl rfl (fun k hk => rowVal_snoc s v i k hk)
    · have : i = t.length := by omega
      subst this
      (repeat (first | refine j4 ?_ | refine x6 rfl ?_ | refine awp_no rfl ?_ | refine j5 ?_ | (refine q0 fun K hK => ?_) | (refine z6 (by kernel_rfl) (by kernel_rfl) fun K hK => ?_) | ((first | refine j0 ?_ | refine z1 ?_ | ((first | refine x3 (hK _ ?_) | refine x4 (hK _ _ (z2 (by kernel_rfl)) ?_)); clear hK K)); (first | show AWP _ _ _ _ _ | ((try simp only [x5]); first | show loopQ _ _ _ _ _ _ | show cutQ _ _ _ _ | show AWP _ _ _ _ _))) | ((first | refine j6 [13, 20, 57, 10069] rfl ?_ | refine z7 [13, 20, 57, 10069] rfl ?_); simp (maxSteps := 2000000) (disch := omega) only [go_sem, seval, cfgO, outC, outZ, nilD]; (repeat (first | refine ⟨by omega, ?_⟩ | refine ⟨True.intro, ?_⟩)))))
      refine ⟨some ⟨(s, M), hM, hg⟩, by simp only []; omega, ?_⟩
      refine Weak.list ?_ ?_; (all_goals simp (disch := omega) only [AllF, AllL, le_self, le_top, lle_self, exists_eq_left', Option.some.injEq, go_sem, seval, cfgO, outC, outZ, nilD]); (all_goals (repeat' (with_reducible apply And.intro))); (all_goals try (first | exact le_eq rfl | (refine le_int ?_; omega) | (refine le_eq ?_; simp; done)))
      · exact lle_cellsD (.cons (Le.refl _) (.cons (Le.refl _) (.cons (Le.refl _) (.cons (Le.refl _) (.cons (le_grgr rfl rfl (one_at rfl)) .nil)))))
  | some r =>
    obtain ⟨⟨s, M⟩, hM, hg⟩ := r
    unfold cpA outC outZ cfgO
    (repeat (first | refine j4 ?_ | refine x6 rfl ?_ | refine awp_no rfl ?_ | refine j5 ?_ | (refine q0 fun K hK => ?_) | (refine z6 (by kernel_rfl) (by kernel_rfl) fun K hK => ?_) | ((first | refine j0 ?_ | refine z1 ?_ | ((first | refine x3 (hK _ ?_) | refine x4 (hK _ _ (z2 (by kernel_rfl)) ?_)); clear hK K)); (first | show AWP _ _ _ _ _ | ((try simp only [x5]); first | show loopQ _ _ _ _ _ _ | show cutQ _ _ _ _ | show AWP _ _ _ _ _))) | ((first | refine j6 [13, 20, 57, 10069] rfl ?_ | refine z7 [13, 20, 57, 10069] rfl ?_); simp (maxSteps := 2000000) (disch := omega) only [go_sem, seval, cfgO, outC, outZ, nilD]; (repeat (first | refine ⟨by omega, ?_⟩ | refine ⟨True.intro, ?_⟩)))))
    refine awp_ret ?_
    refine (retM_list ⟨⟨(s, M), hM, hg⟩, rfl, rfl⟩ ?_ ?_).1
    · refine ⟨⟨.agg (cfgR (.sl 1 t.length (rowVal s))), ?_, rfl⟩, trivial⟩
      simp (disch := omega) only [cfgR, ResVar, ptrLoc, go_sem, seval, cfgO, outC, outZ, nilD]
    · simp [AL.look]
end Go.Proofs.Ytjfammnjpeeahaa
set_option linter.unusedSimpArgs false
set_option linter.unusedVariables false
namespace Go.Proofs.Ytjfammnjpeeahaa
open Go Go.Proofs.Ytjfammnjpeeahaa.AL
abbrev Kn := Int × List (List Rule)
def k0 : Kn := (0, [])
structure Mo where
  n : Int
  cur : Int
  ser : Int
  l : List Kn
def plc (v : Int) : List Kn → Nat × Bool
  | [] => (0, false)
  | e :: r => if v ≤ e.1 then (0, e.1 == v) else ((plc v r).1 + 1, (plc v r).2)
end Go.Proofs.Ytjfammnjpeeahaa
set_option linter.unusedSimpArgs false
set_option linter.unusedVariables false
namespace Go.Proofs.Ytjfammnjpeeahaa
open Go Go.Proofs.Ytjfammnjpeeahaa.AL
inductive LesC : List AV → List AV → Prop
  | nil : LesC [] []
  | cons {x y : AV} {xs ys : List AV} (h : Le x y) (t : LesC xs ys) : LesC (x :: xs) (y :: ys)
set_option maxRecDepth 100000 in
theorem LesC.refl : ∀ xs : List AV, LesC xs xs
  | [] => .nil
  | x :: xs => .cons (Le.refl x) (LesC.refl xs)
def Mo.step (m : Mo) (l : Ltr) : Mo × Int :=
  if l.fr ≠ -1 ∨ l.to ≠ m.n ∨ l.se < m.ser then (m, 0) else
  if l.kd = 1 then ({ m with ser := l.se, l := m.l.take (plc l.ve m.l).1 ++ (l.ve, l.ts) :: m.l.drop (if (plc l.ve m.l).2 then (plc l.ve m.l).1 + 1 else (plc l.ve m.l).1) }, 2) else
  if l.kd = 3 then (if (plc l.ve m.l).2 then ({ m with ser := l.se, cur := l.ve }, 4) else ({ m with ser := l.se }, 0)) else
  if l.kd = 5 then (if l.ve = m.cur then ({ m with ser := l.se }, 0) else (if (plc l.ve m.l).2 then ({ m with ser := l.se, l := m.l.take (plc l.ve m.l).1 ++ m.l.drop ((plc l.ve m.l).1 + 1) }, 6) else ({ m with ser := l.se }, 6))) else
  ({ m with ser := l.se }, 0)
end Go.Proofs.Ytjfammnjpeeahaa
set_option linter.unusedSimpArgs false
set_option linter.unusedVariables false
namespace Go.Proofs.Ytjfammnjpeeahaa
open Go Go.Proofs.Ytjfammnjpeeahaa.AL
def insM (v : Int) (t : List (List Rule)) : List Kn → List Kn
  | [] => [(v, t)]
  | e :: r => if v ≤ e.1 then (v, t) :: (if e.1 = v then r else e :: r) else e :: insM v t r
def delS (v : Int) : List Kn → List Kn
  | [] => []
  | e :: r => if v ≤ e.1 then r else e :: delS v r
set_option maxRecDepth 100000 in
theorem ins_eq (v : Int) (t : List (List Rule)) : ∀ l : List Kn, l.take (plc v l).1 ++ (v, t) :: l.drop (if (plc v l).2 then (plc v l).1 + 1 else (plc v l).1) = insM v t l
  | [] => rfl
  | e :: r => by
    have ih := ins_eq v t r
    unfold plc insM
    by_cases h : v ≤ e.1
    · rw [if_pos h, if_pos h]
      by_cases he : e.1 = v
      · simp [he]
      · simp [he]
    · rw [if_neg h, if_neg h, ← ih]
      cases hb : (plc v r).2 <;> simp
set_option maxRecDepth 100000 in
theorem del_eq (v : Int) : ∀ l : List Kn, (plc v l).2 = true → l.take (plc v l).1 ++ l.drop ((plc v l).1 + 1) = delS v l
  | [], h => by simp [plc] at h
  | e :: r, h => by
    unfold plc at h ⊢
    unfold delS
    by_cases hv : v ≤ e.1
    · rw [if_pos hv, if_pos hv]; simp
    · rw [if_neg hv] at h
      rw [if_neg hv, if_neg hv, ← del_eq v r h]; simp
def IncK (l : List Kn) : Prop := (l.map (·.1)).Pairwise (· < ·)
set_option maxRecDepth 100000 in
theorem incK_cons {e : Kn} {r : List Kn} (h : IncK (e :: r)) : (∀ x ∈ r.map (·.1), e.1 < x) ∧ IncK r := by
  unfold IncK at h; rw [List.map_cons, List.pairwise_cons] at h; exact h
set_option maxRecDepth 100000 in
theorem getA_none {v : Int} : ∀ {l : List Kn}, v ∉ l.map (·.1) → getA v l = none
  | [], _ => rfl
  | e :: r, h => by
    simp only [List.map_cons, List.mem_cons, not_or] at h
    unfold getA
    rw [if_neg (fun x => h.1 x.symm), getA_none h.2]
set_option maxRecDepth 100000 in
theorem getA_mem {v : Int} : ∀ {l : List Kn}, (getA v l).isSome = true ↔ v ∈ l.map (·.1)
  | [] => by simp [getA]
  | e :: r => by
    unfold getA
    by_cases h : e.1 = v
    · simp [h]
    · rw [if_neg h, getA_mem, List.map_cons, List.mem_cons]
      exact ⟨.inr, fun x => x.resolve_left fun e2 => h e2.symm⟩
set_option maxRecDepth 100000 in
theorem plc_some {v : Int} : ∀ {l : List Kn}, IncK l → (plc v l).2 = (getA v l).isSome
  | [], _ => rfl
  | e :: r, h => by
    obtain ⟨h1, h2⟩ := incK_cons h
    unfold plc getA
    by_cases hv : v ≤ e.1
    · rw [if_pos hv]
      by_cases he : e.1 = v
      · rw [if_pos he]; simp [he]
      · rw [if_neg he, getA_none fun hm => by have := h1 v hm; omega]
        simp [he]
    · rw [if_neg hv, if_neg (by omega)]
      exact plc_some h2
set_option maxRecDepth 100000 in
theorem insM_keys {v : Int} {t : List (List Rule)} : ∀ {l : List Kn} {x : Int}, x ∈ (insM v t l).map (·.1) → x = v ∨ x ∈ l.map (·.1)
  | [], x, h => by simp [insM] at h; exact .inl h
  | e :: r, x, h => by
    unfold insM at h
    split at h
    · split at h
      · simp only [List.map_cons, List.mem_cons] at h ⊢
        rcases h with h | h
        · exact .inl h
        · exact .inr (.inr h)
      · simp only [List.map_cons, List.mem_cons] at h ⊢
        rcases h with h | h | h
        · exact .inl h
        · exact .inr (.inl h)
        · exact .inr (.inr h)
    · simp only [List.map_cons, List.mem_cons] at h ⊢
      rcases h with h | h
      · exact .inr (.inl h)
      · rcases insM_keys h with h | h
        · exact .inl h
        · exact .inr (.inr h)
set_option maxRecDepth 100000 in
theorem insM_inc {v : Int} {t : List (List Rule)} : ∀ {l : List Kn}, IncK l → IncK (insM v t l)
  | [], _ => by simp [insM, IncK]
  | e :: r, h => by
    obtain ⟨h1, h2⟩ := incK_cons h
    unfold insM
    split
    · rename_i hv
      split
      · rename_i he
        unfold IncK
        rw [List.map_cons, List.pairwise_cons]
        exact ⟨fun x hx => by have := h1 x hx; simp only []; omega, h2⟩
      · rename_i he
        unfold IncK
        rw [List.map_cons, List.pairwise_cons]
        refine ⟨fun x hx => ?_, h⟩
        simp only [List.map_cons, List.mem_cons] at hx
        rcases hx with rfl | hx
        · simp only []; omega
        · have := h1 x hx; simp only []; omega
    · rename_i hv
      unfold IncK
      rw [List.map_cons, List.pairwise_cons]
      refine ⟨fun x hx => ?_, insM_inc h2⟩
      rcases insM_keys hx with rfl | hx
      · omega
      · exact h1 x hx
set_option maxRecDepth 100000 in
theorem getA_insM (v u : Int) (t : List (List Rule)) : ∀ l : List Kn, getA u (insM v t l) = if u = v then some t else getA u l
  | [] => by
    unfold insM getA
    by_cases h : u = v
    · simp [h]
    · rw [if_neg fun e => h e.symm, if_neg h]; rfl
  | e :: r => by
    have ih := getA_insM v u t r
    unfold insM
    by_cases hv : v ≤ e.1
    · rw [if_pos hv]
      by_cases h : u = v
      · rw [if_pos h]; unfold getA; rw [if_pos h.symm]
      · rw [if_neg h]
        by_cases he : e.1 = v
        · rw [if_pos he]
          have : e.1 ≠ u := fun e2 => h (e2.symm.trans he)
          simp only [getA, if_neg (fun x : v = u => h x.symm), if_neg this]
        · rw [if_neg he]
          simp only [getA, if_neg (fun x : v = u => h x.symm)]
    · rw [if_neg hv]
      simp only [getA]
      by_cases h : e.1 = u
      · rw [if_pos h, if_neg (by omega), if_pos h]
      · rw [if_neg h, if_neg h]; exact ih
set_option maxRecDepth 100000 in
theorem delS_sub (v : Int) : ∀ l : List Kn, (delS v l).Sublist l
  | [] => List.Sublist.refl _
  | e :: r => by
    unfold delS
    split
    · exact List.sublist_cons_self _ _
    · exact (delS_sub v r).cons_cons _
set_option maxRecDepth 100000 in
theorem delS_inc {v : Int} {l : List Kn} (h : IncK l) : IncK (delS v l) := List.Pairwise.sublist ((delS_sub v l).map _) h
set_option maxRecDepth 100000 in
theorem getA_delS (v u : Int) : ∀ {l : List Kn}, IncK l → (plc v l).2 = true → getA u (delS v l) = if u = v then none else getA u l
  | [], _, h => by simp [plc] at h
  | e :: r, hi, h => by
    obtain ⟨h1, h2⟩ := incK_cons hi
    unfold plc at h
    unfold delS
    by_cases hv : v ≤ e.1
    · rw [if_pos hv] at h ⊢
      have he : e.1 = v := by simpa using h
      by_cases hu : u = v
      · rw [if_pos hu]
        exact getA_none fun hm => by have := h1 u hm; omega
      · rw [if_neg hu]
        simp only [getA, if_neg (fun e2 : e.1 = u => hu (e2.symm.trans he))]
    · rw [if_neg hv] at h ⊢
      have ih := getA_delS v u h2 h
      simp only [getA]
      by_cases hu : e.1 = u
      · rw [if_pos hu, if_neg (by omega), if_pos hu]
      · rw [if_neg hu, if_neg hu]; exact ih
set_option maxRecDepth 100000 in
theorem getA_put (v u : Int) (t : List (List Rule)) (es : List Kn) : getA u (putA v t es) = if u = v then some t else getA u es := by
  by_cases h : u = v
  · subst h; rw [if_pos rfl, getA_putA]
  · rw [if_neg h, getA_put_ne fun e => h e.symm]
set_option maxRecDepth 100000 in
theorem getA_del (v u : Int) : ∀ {es : List Kn}, (es.map (·.1)).Nodup → getA u (delA v es) = if u = v then none else getA u es
  | es, hn => by
    by_cases h : u = v
    · subst h
      rw [if_pos rfl]
      refine getA_none ?_
      have key : ∀ es : List Kn, (es.map (·.1)).Nodup → u ∉ (delA u es).map (·.1) := by
        intro es
        induction es with
        | nil => intro _; simp [delA]
        | cons e r ih =>
          intro hn
          rw [List.map_cons, List.nodup_cons] at hn
          unfold delA
          by_cases he : e.1 = u
          · rw [if_pos he]; rw [← he]; exact hn.1
          · rw [if_neg he, List.map_cons, List.mem_cons, not_or]
            exact ⟨fun x => he x.symm, ih hn.2⟩
      exact key es hn
    · rw [if_neg h, getA_del_ne fun e => h e.symm]
structure Side (a : Ag) (m : Mo) : Prop where
  n : a.n = m.n
  cur : a.cur = m.cur
  ser : a.ser = m.ser
  nd : (a.es.map (·.1)).Nodup
  inc : IncK m.l
  get : ∀ u, getA u a.es = getA u m.l
set_option maxRecDepth 100000 in
theorem Side.step {a : Ag} {m : Mo} (h : Side a m) (l : Ltr) (hn : (((a.step l).1).es.map (·.1)).Nodup) : (a.step l).2 = (m.step l).2 ∧ Side (a.step l).1 (m.step l).1 := by
  have hb : (plc l.ve m.l).2 = (getA l.ve a.es).isSome := by rw [plc_some h.inc, h.get]
  have hins := ins_eq l.ve l.ts m.l
  have hdel := del_eq l.ve m.l
  by_cases hl : late a l
  · have e : m.step l = (m, 0) := by
      unfold Mo.step
      rw [if_pos (by unfold late at hl; rw [← h.n, ← h.ser]; exact hl)]
    rw [step_late hl, e]
    exact ⟨rfl, h⟩
  · have hno : ¬ (l.fr ≠ -1 ∨ l.to ≠ m.n ∨ l.se < m.ser) := by unfold late at hl; rw [← h.n, ← h.ser]; exact hl
    unfold Mo.step
    rw [if_neg hno]
    by_cases k1 : l.kd = 1
    · rw [step_1 hl k1] at hn ⊢
      rw [if_pos k1, hins]
      exact ⟨rfl, ⟨h.n, h.cur, rfl, hn, insM_inc h.inc, fun u => by simp only []; rw [getA_put, getA_insM, h.get]⟩⟩
    · rw [if_neg k1]
      by_cases k3 : l.kd = 3
      · rw [if_pos k3, hb]
        cases hg : (getA l.ve a.es).isSome with
        | true => rw [step_3y hl k3 hg]; exact ⟨rfl, ⟨h.n, rfl, rfl, h.nd, h.inc, h.get⟩⟩
        | false => rw [step_3n hl k3 hg]; exact ⟨rfl, ⟨h.n, h.cur, rfl, h.nd, h.inc, h.get⟩⟩
      · rw [if_neg k3]
        by_cases k5 : l.kd = 5
        · rw [if_pos k5]
          by_cases hv : l.ve = a.cur
          · rw [if_pos (by rw [← h.cur]; exact hv), step_5s hl k5 hv]
            exact ⟨rfl, ⟨h.n, h.cur, rfl, h.nd, h.inc, h.get⟩⟩
          · rw [if_neg (by rw [← h.cur]; exact hv)]
            rw [step_5o hl k5 hv] at hn ⊢
            cases hp : (plc l.ve m.l).2 with
            | true =>
              rw [if_pos rfl, hdel hp]
              exact ⟨rfl, ⟨h.n, h.cur, rfl, hn, delS_inc h.inc, fun u => by simp only []; rw [getA_del _ _ h.nd, getA_delS _ _ h.inc hp, h.get]⟩⟩
            | false =>
              rw [if_neg (by simp)]
              refine ⟨rfl, ⟨h.n, h.cur, rfl, hn, h.inc, fun u => ?_⟩⟩
              simp only []
              rw [getA_del _ _ h.nd]
              by_cases hu : u = l.ve
              · rw [if_pos hu, ← h.get, hu]
                rw [hb] at hp
                cases hq : getA l.ve a.es with
                | none => rfl
                | some t => rw [hq] at hp; cases hp
              · rw [if_neg hu, h.get]
        · rw [if_neg k5, step_o hl k1 k3 k5]
          exact ⟨rfl, ⟨h.n, h.cur, rfl, h.nd, h.inc, h.get⟩⟩
set_option maxRecDepth 100000 in
theorem Side.keys {a : Ag} {m : Mo} (h : Side a m) : verZ a = m.l.map (·.1) := by
  have hnd : (m.l.map (·.1)).Nodup := List.Pairwise.imp (fun h e => by omega) h.inc
  have hp : (a.es.map (·.1)).Perm (m.l.map (·.1)) := (List.perm_ext_iff_of_nodup h.nd hnd).2 fun v => by rw [← getA_mem, ← getA_mem, h.get]
  have e := mergeSort_srtZ hp
  unfold verZ
  have e2 : srtZ (a.es.map (·.1)) = srtZ (m.l.map (·.1)) := e
  rw [e2]
  unfold srtZ
  exact List.mergeSort_of_pairwise (List.Pairwise.imp (fun h => by simp; omega) h.inc)
end Go.Proofs.Ytjfammnjpeeahaa
set_option linter.unusedSimpArgs false
set_option linter.unusedVariables false
namespace Go.Proofs.Ytjfammnjpeeahaa.AL
variable {P : Program} {nt : Nat} {Q : Exit → ASt → Prop} {A : ASt}
end Go.Proofs.Ytjfammnjpeeahaa.AL
set_option linter.unusedSimpArgs false
set_option linter.unusedVariables false
namespace Go.Proofs.Ytjfammnjpeeahaa
open Go Go.Proofs.Ytjfammnjpeeahaa.AL
def rulI (t : List (List Rule)) (i : {i : Nat // i ≤ t.length}) : ASt :=
  ⟨[(5, .p (.d (.v (.int .i64 (i.val : Int))))), (1, .p (.d (.sl 1 t.length (rowRR t)))), (0, .p (.d (.sl 1 t.length (rowRR t))))], []⟩
def rulJ (t : List (List Rule)) (i : Nat) (l : List Rule) (k : {k : Nat // k ≤ l.length}) : ASt :=
  ⟨[(6, .p (.d (.v (.int .i64 (k.val : Int))))), (5, .p (.d (.v (.int .i64 (i : Int))))), (1, .p (.d (.sl 1 t.length (rowRR t)))), (0, .p (.d (.sl 1 t.length (rowRR t))))], []⟩
set_option maxRecDepth 100000 in
set_option maxHeartbeats 2000000 in
theorem Rules_same (t : List (List Rule)) (ht : smallR t) : ACalls Try.prog 16 [.d (.sl 1 t.length (rowRR t)), .d (.sl 1 t.length (rowRR t))] (· = [.d (.v (.bool true))]) := by
  have hs := ht.1
  refine acalls_of_awp Try.func16 rfl (by decide +kernel) (by rw [Try.ntmps16]; simp) ?_; rw [Try.ntmps16]; simp only [frOf]
  (repeat (first | refine j4 ?_ | refine x6 rfl ?_ | refine awp_no rfl ?_ | refine j5 ?_ | (refine q0 fun K hK => ?_) | (refine z6 (by kernel_rfl) (by kernel_rfl) fun K hK => ?_) | ((first | refine j0 ?_ | refine z1 ?_ | ((first | refine x3 (hK _ ?_) | refine x4 (hK _ _ (z2 (by kernel_rfl)) ?_)); clear hK K)); (first | show AWP _ _ _ _ _ | ((try simp only [x5]); first | show loopQ _ _ _ _ _ _ | show cutQ _ _ _ _ | show AWP _ _ _ _ _))) | ((first | refine j6 [] rfl ?_ | refine z7 [] rfl ?_); simp (maxSteps := 2000000) (disch := omega) only [go_sem, seval, eqty44, bne_self_eq_false]; (repeat (first | refine ⟨by omega, ?_⟩ | refine ⟨True.intro, ?_⟩)))))
  refine awp_loop (rulI t) (fun s => t.length - s.val) ⟨0, by omega⟩ ?_ (fun s => ?_)
  · unfold rulI
    refine Weak.list ?_ ?_; (all_goals simp (disch := omega) only [AllF, AllL, le_self, le_top, lle_self, exists_eq_left', Option.some.injEq, go_sem, seval, eqty44, bne_self_eq_false]); (all_goals (repeat' (with_reducible apply And.intro))); (all_goals try (first | exact le_eq rfl | (refine le_int ?_; omega) | (refine le_eq ?_; simp; done)))
  obtain ⟨i, hi⟩ := s
  unfold rulI
  simp only [] at hi ⊢
  by_cases h : i < t.length
  · have r1 := rowRR_at t i
    have hb := smallR_at ht i
    generalize t.getD i [] = l at r1 hb
    (repeat (first | refine j4 ?_ | refine x6 rfl ?_ | refine awp_no rfl ?_ | refine j5 ?_ | (refine q0 fun K hK => ?_) | (refine z6 (by kernel_rfl) (by kernel_rfl) fun K hK => ?_) | ((first | refine j0 ?_ | refine z1 ?_ | ((first | refine x3 (hK _ ?_) | refine x4 (hK _ _ (z2 (by kernel_rfl)) ?_)); clear hK K)); (first | show AWP _ _ _ _ _ | ((try simp only [x5]); first | show loopQ _ _ _ _ _ _ | show cutQ _ _ _ _ | show AWP _ _ _ _ _))) | ((first | refine j6 [] rfl ?_ | refine z7 [] rfl ?_); simp (maxSteps := 2000000) (disch := omega) only [go_sem, seval, eqty44, r1, bne_self_eq_false]; (repeat (first | refine ⟨by omega, ?_⟩ | refine ⟨True.intro, ?_⟩)))))
    refine awp_loop (rulJ t i l) (fun s => l.length - s.val) ⟨0, by omega⟩ ?_ (fun s => ?_)
    · unfold rulJ
      refine Weak.list ?_ ?_; (all_goals simp (disch := omega) only [AllF, AllL, le_self, le_top, lle_self, exists_eq_left', Option.some.injEq, go_sem, seval, eqty44, r1, bne_self_eq_false]); (all_goals (repeat' (with_reducible apply And.intro))); (all_goals try (first | exact le_eq rfl | (refine le_int ?_; omega) | (refine le_eq ?_; simp; done)))
    obtain ⟨k, hk⟩ := s
    unfold rulJ
    simp only [] at hk ⊢
    by_cases h2 : k < l.length
    · have r2 := rowR_at l k
      generalize l.getD k r0 = x at r2
      have q := eqI_rule x x
      rw [beq_self_eq_true] at q
      unfold ruleD at r2
      (repeat (first | refine j4 ?_ | refine x6 rfl ?_ | refine awp_no rfl ?_ | refine j5 ?_ | (refine q0 fun K hK => ?_) | (refine z6 (by kernel_rfl) (by kernel_rfl) fun K hK => ?_) | ((first | refine j0 ?_ | refine z1 ?_ | ((first | refine x3 (hK _ ?_) | refine x4 (hK _ _ (z2 (by kernel_rfl)) ?_)); clear hK K)); (first | show AWP _ _ _ _ _ | ((try simp only [x5]); first | show loopQ _ _ _ _ _ _ | show cutQ _ _ _ _ | show AWP _ _ _ _ _))) | ((first | refine j6 [] rfl ?_ | refine z7 [] rfl ?_); simp (maxSteps := 2000000) (disch := omega) only [go_sem, seval, eqty44, r1, r2, q, bne_self_eq_false, Bool.not_true]; (repeat (first | refine ⟨by omega, ?_⟩ | refine ⟨True.intro, ?_⟩)))))
      refine ⟨⟨k + 1, by omega⟩, by simp only []; omega, ?_⟩
      refine Weak.list ?_ ?_; (all_goals simp (disch := omega) only [AllF, AllL, le_self, le_top, lle_self, exists_eq_left', Option.some.injEq, go_sem, seval, eqty44, r1, r2, q, bne_self_eq_false, Bool.not_true]); (all_goals (repeat' (with_reducible apply And.intro))); (all_goals try (first | exact le_eq rfl | (refine le_int ?_; omega) | (refine le_eq ?_; simp; done)))
    · have : k = l.length := by omega
      subst this
      (repeat (first | refine j4 ?_ | refine x6 rfl ?_ | refine awp_no rfl ?_ | refine j5 ?_ | (refine q0 fun K hK => ?_) | (refine z6 (by kernel_rfl) (by kernel_rfl) fun K hK => ?_) | ((first | refine j0 ?_ | refine z1 ?_ | ((first | refine x3 (hK _ ?_) | refine x4 (hK _ _ (z2 (by kernel_rfl)) ?_)); clear hK K)); (first | show AWP _ _ _ _ _ | ((try simp only [x5]); first | show loopQ _ _ _ _ _ _ | show cutQ _ _ _ _ | show AWP _ _ _ _ _))) | ((first | refine j6 [] rfl ?_ | refine z7 [] rfl ?_); simp (maxSteps := 2000000) (disch := omega) only [go_sem, seval, eqty44, r1, bne_self_eq_false]; (repeat (first | refine ⟨by omega, ?_⟩ | refine ⟨True.intro, ?_⟩)))))
      refine ⟨⟨i + 1, by omega⟩, by simp only []; omega, ?_⟩
      refine Weak.list ?_ ?_; (all_goals simp (disch := omega) only [AllF, AllL, le_self, le_top, lle_self, exists_eq_left', Option.some.injEq, go_sem, seval, eqty44, r1, bne_self_eq_false]); (all_goals (repeat' (with_reducible apply And.intro))); (all_goals try (first | exact le_eq rfl | (refine le_int ?_; omega) | (refine le_eq ?_; simp; done)))
  · have : i = t.length := by omega
    subst this
    (repeat (first | refine j4 ?_ | refine x6 rfl ?_ | refine awp_no rfl ?_ | refine j5 ?_ | (refine q0 fun K hK => ?_) | (refine z6 (by kernel_rfl) (by kernel_rfl) fun K hK => ?_) | ((first | refine j0 ?_ | refine z1 ?_ | ((first | refine x3 (hK _ ?_) | refine x4 (hK _ _ (z2 (by kernel_rfl)) ?_)); clear hK K)); (first | show AWP _ _ _ _ _ | ((try simp only [x5]); first | show loopQ _ _ _ _ _ _ | show cutQ _ _ _ _ | show AWP _ _ _ _ _))) | ((first | refine j6 [] rfl ?_ | refine z7 [] rfl ?_); simp (maxSteps := 2000000) (disch := omega) only [go_sem, seval, eqty44, bne_self_eq_false]; (repeat (first | refine ⟨by omega, ?_⟩ | refine ⟨True.intro, ?_⟩)))))
    refine awp_ret ⟨_, ?_, rfl⟩; rw [Try.results16]; simp (disch := omega) only [ResVars, ResVar, ptrLoc, go_sem, seval, eqty44, bne_self_eq_false]
set_option maxRecDepth 100000 in
theorem Side.len {a : Ag} {m : Mo} {k : Nat} (h : Side a m) (hb : AgB a k) : m.l.length ≤ k := by
  have := congrArg List.length h.keys
  unfold verZ srtZ at this
  simp at this
  have := hb.len
  omega
end Go.Proofs.Ytjfammnjpeeahaa
set_option linter.unusedSimpArgs false
set_option linter.unusedVariables false
namespace Go.Proofs.Ytjfammnjpeeahaa
open Go Go.Proofs.Ytjfammnjpeeahaa.AL
theorem mcalls_le0 {P : Program} {f : FuncId} {y y' : AV} {L : List (Nat × LV)} {Q : List AV → List (Nat × LV) → Prop} (hle : Le y' y) (h : MCalls P f [y] L Q) : MCalls P f [y'] L Q := by
  intro w g vs hz hr hl
  refine h w g vs hz ⟨hr.1, fun j v z hv hx => ?_⟩ hl
  match j with
  | 0 =>
    simp only [List.getElem?_cons_zero, Option.some.injEq] at hx
    subst hx
    exact hle w g v (hr.2 0 v y' hv rfl)
  | j + 1 => simp at hx
theorem cfg_le (t : List (List Rule)) : Le (.p (.agg [.v (.slice none 0 0), .v (.int .i64 0), .v (.slice none 0 0), .v (.slice none 0 0), .sl 1 1 fun i => [[Dat.sl 1 t.length (rowRR t)]].getD i []])) (.p (.agg (cfgO (.sl 1 t.length (rowRR t))))) := by
  unfold cfgO
  refine le_p (ple_agg (.cons dle_emp (.cons (dle_refl _) (.cons dle_emp (.cons dle_emp (.cons (dle_sl rfl fun i hi => ?_) .nil))))))
  have : i = 0 := by omega
  subst this
  exact DLes.refl _
set_option maxRecDepth 100000 in
set_option maxHeartbeats 4000000 in
theorem AgentOwn_c (t : List (List Rule)) (ht : smallR t) : ACalls Try.prog 5 [tabPV t] (· = [.d (.v (.bool true))]) := by
  have hn1 := ht.1
  have k1 := mcalls_le0 (cfg_le t) (CopyX_c t ht noM)
  unfold tabPV
  refine acalls_of_awp Try.func5 rfl (by decide +kernel) (by rw [Try.ntmps5]; simp) ?_; rw [Try.ntmps5]; simp only [frOf]
  refine awp_arena rfl ?_
  (repeat (first | refine j4 ?_ | refine x6 rfl ?_ | refine awp_no rfl ?_ | refine j5 ?_ | (refine q0 fun K hK => ?_) | (refine z6 (by kernel_rfl) (by kernel_rfl) fun K hK => ?_) | ((first | refine j0 ?_ | refine z1 ?_ | ((first | refine x3 (hK _ ?_) | refine x4 (hK _ _ (z2 (by kernel_rfl)) ?_)); clear hK K)); (first | show AWP _ _ _ _ _ | ((try simp only [x5]); first | show loopQ _ _ _ _ _ _ | show cutQ _ _ _ _ | show AWP _ _ _ _ _))) | ((first | refine j6 [3] rfl ?_ | refine z7 [3] rfl ?_); simp (maxSteps := 2000000) (disch := omega) only [go_sem, seval]; (repeat (first | refine ⟨by omega, ?_⟩ | refine ⟨True.intro, ?_⟩)))))
  (refine walkS_ex (step_mcallX [(1999, 1999)] rfl rfl rfl rfl rfl rfl (k1) (fun _ => rfl) (namesOK_of (by repeat (first | exact trivial | refine ⟨rfl, ?_⟩)) (by kernel_rfl)) (fun _ => (namesOK_of (by repeat (first | exact trivial | refine ⟨rfl, ?_⟩)) (by kernel_rfl)))) ?_); rintro ⟨⟨s, M⟩, hM, hg⟩; simp (maxSteps := 2000000) (disch := omega) only [go_sem, seval]
  (repeat (first | refine j4 ?_ | refine x6 rfl ?_ | refine awp_no rfl ?_ | refine j5 ?_ | (refine q0 fun K hK => ?_) | (refine z6 (by kernel_rfl) (by kernel_rfl) fun K hK => ?_) | ((first | refine j0 ?_ | refine z1 ?_ | ((first | refine x3 (hK _ ?_) | refine x4 (hK _ _ (z2 (by kernel_rfl)) ?_)); clear hK K)); (first | show AWP _ _ _ _ _ | ((try simp only [x5]); first | show loopQ _ _ _ _ _ _ | show cutQ _ _ _ _ | show AWP _ _ _ _ _))) | ((first | refine j6 [3] rfl ?_ | refine z7 [3] rfl ?_); simp (maxSteps := 2000000) (disch := omega) only [go_sem, seval, cfgR]; (repeat (first | refine ⟨by omega, ?_⟩ | refine ⟨True.intro, ?_⟩)))))
  have k2 := NewX_c 0 1 1 t ht s M hM
  generalize ha : (⟨0, 1, 1, [(1, t)]⟩ : Ag) = a0 at k2
  have hes : agE [(1, t)] = agE a0.es := by rw [← ha]
  rw [hes] at k2
  unfold agC at k2
  (refine walkS_cons _ (step_mcall [(18, 601), (12, 602), (1999, 1999)] rfl rfl rfl rfl rfl rfl (k2) rfl (namesOK_of (by repeat (first | exact trivial | refine ⟨rfl, ?_⟩)) (by kernel_rfl))) ?_); simp (maxSteps := 2000000) (disch := omega) only [go_sem, seval, cfgR]
  (repeat (first | refine j4 ?_ | refine x6 rfl ?_ | refine awp_no rfl ?_ | refine j5 ?_ | (refine q0 fun K hK => ?_) | (refine z6 (by kernel_rfl) (by kernel_rfl) fun K hK => ?_) | ((first | refine j0 ?_ | refine z1 ?_ | ((first | refine x3 (hK _ ?_) | refine x4 (hK _ _ (z2 (by kernel_rfl)) ?_)); clear hK K)); (first | show AWP _ _ _ _ _ | ((try simp only [x5]); first | show loopQ _ _ _ _ _ _ | show cutQ _ _ _ _ | show AWP _ _ _ _ _))) | ((first | refine j6 [3] rfl ?_ | refine z7 [3] rfl ?_); simp (maxSteps := 2000000) (disch := omega) only [go_sem, seval, cfgR]; (repeat (first | refine ⟨by omega, ?_⟩ | refine ⟨True.intro, ?_⟩)))))
  (refine walkS_ex (step_mcallX [(1999, 1999)] rfl rfl rfl rfl rfl rfl (spoil_c t ht s M hM.shape) (fun _ => rfl) (namesOK_of (by repeat (first | exact trivial | refine ⟨rfl, ?_⟩)) (by kernel_rfl)) (fun _ => (namesOK_of (by repeat (first | exact trivial | refine ⟨rfl, ?_⟩)) (by kernel_rfl)))) ?_); rintro M2; simp (maxSteps := 2000000) (disch := omega) only [go_sem, seval, cfgR]
  (repeat (first | refine j4 ?_ | refine x6 rfl ?_ | refine awp_no rfl ?_ | refine j5 ?_ | (refine q0 fun K hK => ?_) | (refine z6 (by kernel_rfl) (by kernel_rfl) fun K hK => ?_) | ((first | refine j0 ?_ | refine z1 ?_ | ((first | refine x3 (hK _ ?_) | refine x4 (hK _ _ (z2 (by kernel_rfl)) ?_)); clear hK K)); (first | show AWP _ _ _ _ _ | ((try simp only [x5]); first | show loopQ _ _ _ _ _ _ | show cutQ _ _ _ _ | show AWP _ _ _ _ _))) | ((first | refine j6 [3] rfl ?_ | refine z7 [3] rfl ?_); simp (maxSteps := 2000000) (disch := omega) only [go_sem, seval, cfgR]; (repeat (first | refine ⟨by omega, ?_⟩ | refine ⟨True.intro, ?_⟩)))))
  have hget : getA 1 a0.es = some t := by rw [← ha]; rfl
  (refine walkS_ex (step_mcallX [(1000, 601), (1001, 602), (1999, 1999)] rfl rfl rfl rfl rfl rfl (TablesX_some a0 1 t hget ht M2) (fun _ => rfl) (namesOK_of (by repeat (first | exact trivial | refine ⟨rfl, ?_⟩)) (by kernel_rfl)) (fun _ => (namesOK_of (by repeat (first | exact trivial | refine ⟨rfl, ?_⟩)) (by kernel_rfl)))) ?_); rintro ⟨⟨s2, M3⟩, hM3, hg3⟩; simp (maxSteps := 2000000) (disch := omega) only [go_sem, seval, cfgR]
  (repeat (first | refine j4 ?_ | refine x6 rfl ?_ | refine awp_no rfl ?_ | refine j5 ?_ | (refine q0 fun K hK => ?_) | (refine z6 (by kernel_rfl) (by kernel_rfl) fun K hK => ?_) | ((first | refine j0 ?_ | refine z1 ?_ | ((first | refine x3 (hK _ ?_) | refine x4 (hK _ _ (z2 (by kernel_rfl)) ?_)); clear hK K)); (first | show AWP _ _ _ _ _ | ((try simp only [x5]); first | show loopQ _ _ _ _ _ _ | show cutQ _ _ _ _ | show AWP _ _ _ _ _))) | ((first | refine walkS_call3 rfl rfl rfl ?_ | refine walkD_call3 rfl rfl rfl ?_); simp (maxSteps := 2000000) (disch := omega) only [go_sem, seval, cfgR]; (first | refine ⟨_, awake23_c, ?_⟩)) | ((first | refine j6 [3] rfl ?_ | refine z7 [3] rfl ?_); simp (maxSteps := 2000000) (disch := omega) only [go_sem, seval, cfgR]; (repeat (first | refine ⟨by omega, ?_⟩ | refine ⟨True.intro, ?_⟩)))))
  have hrd : RdD M3 (.sl 1 t.length (rowVal s2)) (.sl 1 t.length (rowRR t)) := hM3.rd fun i hi => rfl
  (refine walkS_cons _ (step_mcall [(1999, 1999)] rfl rfl rfl rfl rfl rfl (ACalls.borrow (M := M3) (xs := [.d (.sl 1 t.length (rowVal s2)), .d (.sl 1 t.length (rowRR t))]) (Rules_same t ht) (.cons (.d hrd) (.cons (.refl _) .nil)) (by intro r hr; simp at hr; subst hr; trivial)) rfl (namesOK_of (by repeat (first | exact trivial | refine ⟨rfl, ?_⟩)) (by kernel_rfl))) ?_); simp (maxSteps := 2000000) (disch := omega) only [go_sem, seval, cfgR]
  (repeat (first | refine j4 ?_ | refine x6 rfl ?_ | refine awp_no rfl ?_ | refine j5 ?_ | (refine q0 fun K hK => ?_) | (refine z6 (by kernel_rfl) (by kernel_rfl) fun K hK => ?_) | ((first | refine j0 ?_ | refine z1 ?_ | ((first | refine x3 (hK _ ?_) | refine x4 (hK _ _ (z2 (by kernel_rfl)) ?_)); clear hK K)); (first | show AWP _ _ _ _ _ | ((try simp only [x5]); first | show loopQ _ _ _ _ _ _ | show cutQ _ _ _ _ | show AWP _ _ _ _ _))) | ((first | refine j6 [3] rfl ?_ | refine z7 [3] rfl ?_); simp (maxSteps := 2000000) (disch := omega) only [go_sem, seval, cfgR]; (repeat (first | refine ⟨by omega, ?_⟩ | refine ⟨True.intro, ?_⟩)))))
  (refine walkS_ex (step_mcallX [(1999, 1999)] rfl rfl rfl rfl rfl rfl (spoil_c t ht s2 M3 hM3.shape) (fun _ => rfl) (namesOK_of (by repeat (first | exact trivial | refine ⟨rfl, ?_⟩)) (by kernel_rfl)) (fun _ => (namesOK_of (by repeat (first | exact trivial | refine ⟨rfl, ?_⟩)) (by kernel_rfl)))) ?_); rintro M4; simp (maxSteps := 2000000) (disch := omega) only [go_sem, seval, cfgR]
  (repeat (first | refine j4 ?_ | refine x6 rfl ?_ | refine awp_no rfl ?_ | refine j5 ?_ | (refine q0 fun K hK => ?_) | (refine z6 (by kernel_rfl) (by kernel_rfl) fun K hK => ?_) | ((first | refine j0 ?_ | refine z1 ?_ | ((first | refine x3 (hK _ ?_) | refine x4 (hK _ _ (z2 (by kernel_rfl)) ?_)); clear hK K)); (first | show AWP _ _ _ _ _ | ((try simp only [x5]); first | show loopQ _ _ _ _ _ _ | show cutQ _ _ _ _ | show AWP _ _ _ _ _))) | ((first | refine j6 [3] rfl ?_ | refine z7 [3] rfl ?_); simp (maxSteps := 2000000) (disch := omega) only [go_sem, seval, cfgR]; (repeat (first | refine ⟨by omega, ?_⟩ | refine ⟨True.intro, ?_⟩)))))
  (refine walkS_cons _ (step_mcall [(1000, 601), (1001, 602)] rfl rfl rfl rfl rfl rfl (Tables_some a0 1 t hget ht) rfl (namesOK_of (by repeat (first | exact trivial | refine ⟨rfl, ?_⟩)) (by kernel_rfl))) ?_); simp (maxSteps := 2000000) (disch := omega) only [go_sem, seval, cfgR]
  (repeat (first | refine j4 ?_ | refine x6 rfl ?_ | refine awp_no rfl ?_ | refine j5 ?_ | (refine q0 fun K hK => ?_) | (refine z6 (by kernel_rfl) (by kernel_rfl) fun K hK => ?_) | ((first | refine j0 ?_ | refine z1 ?_ | ((first | refine x3 (hK _ ?_) | refine x4 (hK _ _ (z2 (by kernel_rfl)) ?_)); clear hK K)); (first | show AWP _ _ _ _ _ | ((try simp only [x5]); first | show loopQ _ _ _ _ _ _ | show cutQ _ _ _ _ | show AWP _ _ _ _ _))) | ((first | refine walkS_call3 rfl rfl rfl ?_ | refine walkD_call3 rfl rfl rfl ?_); simp (maxSteps := 2000000) (disch := omega) only [go_sem, seval, cfgR, tabPV]; (first | refine ⟨_, Rules_same t ht, ?_⟩)) | ((first | refine j6 [3] rfl ?_ | refine z7 [3] rfl ?_); simp (maxSteps := 2000000) (disch := omega) only [go_sem, seval, cfgR, tabPV]; (repeat (first | refine ⟨by omega, ?_⟩ | refine ⟨True.intro, ?_⟩)))))
  refine awp_ret ⟨_, ?_, rfl⟩; rw [Try.results5]; simp (disch := omega) only [ResVars, ResVar, ptrLoc, go_sem, seval, cfgR, tabPV]
end Go.Proofs.Ytjfammnjpeeahaa
