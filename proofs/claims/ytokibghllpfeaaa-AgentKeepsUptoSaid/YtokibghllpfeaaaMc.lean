/- Calls that are handed own memory, and hand it back: contracts, out of a body and at a call. Conditions: none. -/
import Derived.Test.YtokibghllpfeaaaAm
set_option linter.unusedSimpArgs false
set_option linter.unusedVariables false
namespace Go.Proofs.Ytokibghllpfeaaa.AL
open Go.RowKit
variable {P : Program}

def LocsOK (O : Nat → Prop) (w : World) (h : Gh) (L : List (Nat × LV)) : Prop :=
  (∀ l X, look L l = some X → LocOK O w h l X) ∧ ∀ l l' X X' b, l ≠ l' → look L l = some X → look L l' = some X' → inB h l X b → ¬ inB h l' X' b
/-- The blocks of own locations. -/
def ownB (h : Gh) (L : List (Nat × LV)) (b : Nat) : Prop := ∃ l X, look L l = some X ∧ inB h l X b
/-- A call's results, own ones among them. -/
def RelRA (w : World) (h : Gh) (v : Value) : List AV → Prop
  | [x] => RelA w h v x
  | xs => ∃ vs : List Value, v = .tuple vs.toArray ∧ RelAs w h vs xs
/-- What a call may have changed: the blocks that it was handed, and new ones. -/
structure Chg (L L' : List (Nat × LV)) (w : World) (h : Gh) (w' : World) (h' : Gh) : Prop where
  below : BelowS (ownB h L) w w'
  gam : ∀ b, b < w.heap.size → ¬ ownB h L b → h'.g b = h.g b
  gz : GZ w' h'.g
  keep : Keep w h.g w' h'.g
  ρ : ∀ l X, look L l = some X → h'.ρ l = h.ρ l
  up : ∀ l X, look L l = some X → h.μ l < h'.μ l ∨ (h'.κ l = h.κ l ∧ h'.μ l = h.μ l)
  own : ∀ b, ownB h' L' b → w.heap.size ≤ b ∨ ownB h L b
/-- THE CONTRACT of a function that is handed own memory L. -/
def MCalls (P : Program) (f : FuncId) (xs : List AV) (L : List (Nat × LV)) (Q : List AV → List (Nat × LV) → Prop) : Prop :=
  ∀ (w : World) (h : Gh) (vs : List Value), GZ w h.g → RelAs w h vs xs → LocsOK (fun _ => True) w h L →
    CallRes P (fun v w' => ∃ h' rs L', Q rs L' ∧ RelRA w' h' v rs ∧ LocsOK (fun _ => True) w' h' L' ∧ Chg L L' w h w' h') ((callFunc f vs.toArray).run P w)

theorem locOK_O {O O' : Nat → Prop} {w : World} {h : Gh} {l : Nat} {X : LV} (k : LocOK O w h l X) (hO : ∀ b, inB h l X b → O' b) : LocOK O' w h l X := by
  cases X with
  | cells e cs => obtain ⟨arr, h1, h2⟩ := k; exact ⟨arr, hO _ rfl, h2⟩
  | arr e n f => obtain ⟨arr, fz, h1, h2⟩ := k; exact ⟨arr, fz, hO _ rfl, h2⟩
  | grow e sz n gen => obtain ⟨h1, h2, h3, h4⟩ := k; exact ⟨h1, h2, h3, fun b hb => hO b (by simpa [inB] using hb)⟩
  | own e sz n gen f => obtain ⟨h1, h2, h4⟩ := k; exact ⟨h1, h2, fun b hb => ⟨(h4 b hb).1, hO b (by simpa [inB] using hb)⟩⟩
  | fz e cs => obtain ⟨arr, h1, h2⟩ := k; exact ⟨arr, hO _ rfl, h2⟩
  | map ks es => obtain ⟨arr, c, h1, h2⟩ := k; exact ⟨arr, c, hO _ rfl, h2⟩
  | raw M => intro b o hb; exact ⟨hO b (by simp [inB, hb]), (k b o hb).2⟩
  | obj o => exact ⟨hO _ rfl, k.2⟩
theorem inB_O {O : Nat → Prop} {w : World} {h : Gh} {l : Nat} {X : LV} (k : LocOK O w h l X) {b : Nat} (hb : inB h l X b) : O b := by
  cases X with
  | cells e cs => obtain ⟨arr, h1, h2⟩ := k; simp [inB] at hb; subst hb; exact h1
  | arr e n f => obtain ⟨arr, fz, h1, h2⟩ := k; simp [inB] at hb; subst hb; exact h1
  | grow e sz n gen => obtain ⟨h1, h2, h3, h4⟩ := k; exact h4 b (by simpa [inB] using hb)
  | own e sz n gen f => obtain ⟨h1, h2, h4⟩ := k; exact (h4 b (by simpa [inB] using hb)).2
  | fz e cs => obtain ⟨arr, h1, h2⟩ := k; simp [inB] at hb; subst hb; exact h1
  | map ks es => obtain ⟨arr, c, h1, h2⟩ := k; simp [inB] at hb; subst hb; exact h1
  | raw M =>
    simp only [inB] at hb
    cases hM : M b with
    | none => exact absurd hM hb
    | some o => exact (k b o hM).1
  | obj o => simp [inB] at hb; subst hb; exact k.1

/-! ### Out of a body -/
def frA : Nat → List AV → List (Nat × AV)
  | _, [] => []
  | k, x :: xs => (k, x) :: frA (k + 1) xs
theorem look_frA : ∀ (xs : List AV) (k t : Nat) (y : AV), look (frA k xs) t = some y → ∃ x, k ≤ t ∧ xs[t - k]? = some x ∧ y = x
  | [], k, t, y, h => by cases h
  | x :: r, k, t, y, h => by
    simp only [frA, look] at h
    split at h
    · rename_i e; subst e; cases h; exact ⟨x, Nat.le_refl _, by simp, rfl⟩
    · obtain ⟨z, h1, h2, h3⟩ := look_frA r (k + 1) t y h
      refine ⟨z, by omega, ?_, h3⟩
      have : t - k = (t - (k + 1)) + 1 := by omega
      rw [this]; simpa using h2
def ResVarA (P : Program) (A : ASt) (v : ResultVar) (x : AV) : Prop := match v with
  | .tmp t => look A.fr t = some x
  | v => ∃ y, ResVar P A v y ∧ x = .p y
def ResVarsA (P : Program) (A : ASt) : List ResultVar → List AV → Prop
  | [], [] => True
  | v :: vs, x :: xs => ResVarA P A v x ∧ ResVarsA P A vs xs
  | _, _ => False
def retM (P : Program) (fn : Func) (Q : List AV → List (Nat × LV) → Prop) : Exit → ASt → Prop
  | .normal, A => ∃ rs L', ResVarsA P A fn.results.toList rs ∧ (∀ l X, look L' l = some X → look A.locs l = some X) ∧ Q rs L'
  | .ret, A => ∃ rs L', ResVarsA P A fn.results.toList rs ∧ (∀ l X, look L' l = some X → look A.locs l = some X) ∧ Q rs L'
  | _, _ => False
section
variable {w0 : Base} {g0 : Nat → Nat} {nt : Nat} {A : ASt} {h : Gh} {a : Act} {w : World}
theorem resVarA_spec (r : Rel w0 g0 nt A h a w) {v : ResultVar} {x : AV} (hv : ResVarA P A v x) : ∃ u, (oneResult a.tmps v).run P w = .ok u w ∧ RelA w h u x := by
  cases v with
  | tmp t => exact ⟨a.tmps.getD t undef, rfl, r.fr t x hv⟩
  | _ =>
    obtain ⟨y, h1, rfl⟩ := hv
    exact resVar_spec r h1
theorem resVarsA_run (r : Rel w0 g0 nt A h a w) : ∀ {vs : List ResultVar} {rs : List AV}, ResVarsA P A vs rs → ∃ us, (vs.mapM (oneResult a.tmps)).run P w = .ok us w ∧ RelAs w h us rs
  | [], [], _ => ⟨[], rfl, rfl, fun j v x hv => by simp at hv⟩
  | v :: vs, x :: xs, hh => by
    obtain ⟨u, h1, h2⟩ := resVarA_spec r hh.1
    obtain ⟨us, h3, h4⟩ := resVarsA_run r hh.2
    refine ⟨u :: us, by simp [List.mapM_cons, h1, h3], by simp [h4.1], fun j v' x' hv hx => ?_⟩
    cases j with
    | zero => simp at hv hx; subst hv; subst hx; exact h2
    | succ j => exact h4.2 j v' x' (by simpa using hv) (by simpa using hx)
  | [], _ :: _, hh => hh.elim
  | _ :: _, [], hh => hh.elim
theorem resultsA_spec (r : Rel w0 g0 nt A h a w) {fn : Func} {rs : List AV} (hv : ResVarsA P A fn.results.toList rs) : ∃ v, (results fn a.tmps).run P w = .ok v w ∧ RelRA w h v rs := by
  obtain ⟨us, h1, h2⟩ := resVarsA_run r hv
  have e : (fn.results.mapM (oneResult a.tmps)).run P w = .ok us.toArray w := by
    rw [Array.mapM_eq_mapM_toList]
    simp [h1]
  have e' : results fn a.tmps = (do let vs ← fn.results.mapM (oneResult a.tmps); pure (if h : vs.size = 1 then vs[0] else .tuple vs)) := by
    unfold results
    congr 1
  rw [e']
  simp only [Sem.run_bind, e, Result.andThen_ok, Sem.run_pure]
  refine ⟨_, rfl, ?_⟩
  match us, rs, h2 with
  | [u], [x], h2 => exact h2.2 0 u x rfl rfl
  | [], [], h2 => exact ⟨[], rfl, h2⟩
  | u :: u' :: us, x :: x' :: rs, h2 => exact ⟨_, by simp, h2⟩
  | [], _ :: _, h2 => simp [RelAs] at h2
  | _ :: _, [], h2 => simp [RelAs] at h2
  | [_], _ :: _ :: _, h2 => simp [RelAs] at h2
  | _ :: _ :: _, [_], h2 => simp [RelAs] at h2
end
theorem mcalls_of_awp {f : FuncId} {fn : Func} {c : Code} {xs : List AV} {L : List (Nat × LV)} {Q : List AV → List (Nat × LV) → Prop} (hf : P.funcs[f]? = some fn) (hb : fn.body = some c) (hname : (fn.name == "runtime.NumGoroutine") = false) (hn : xs.length ≤ fn.ntmps)
    (hL : ∀ l X, look L l = some X → 1000 ≤ l) (H : AWP P fn.ntmps c (retM P fn Q) ⟨frA 0 xs, L⟩) : MCalls P f xs L Q := by
  intro w h vs hz hr hl
  have hrun : (callFunc f vs.toArray).run P w = .ok (.enter f vs.toArray) w := by
    simp only [callFunc, program, Sem.run, Bind.bind, Sem.bind, hf, hname, hb]; rfl
  rw [hrun]
  show Calls P f vs.toArray w _
  refine calls_of_wp hf hb ?_
  let w0 : Base := ⟨w, fun b => w.heap.size ≤ b ∨ ownB h L b, fun b hb => .inl hb, h.ρ, h.κ, h.μ⟩
  have hlt : ∀ b, ownB h L b → b < w.heap.size := fun b ⟨l, X, h1, h2⟩ => inB_lt (hl.1 l X h1) h2
  have hrel : Rel w0 h.g fn.ntmps ⟨frA 0 xs, L⟩ h { tmps := vs.toArray ++ Array.replicate (fn.ntmps - vs.toArray.size) undef, defers := [] } w := by
    refine ⟨by have := hr.1; simp; omega, rfl, fun t y hy => ?_, fun l X hX => locOK_O (hl.1 l X hX) fun b hb => .inr ⟨l, X, hX, hb⟩, hl.2, ExtS.refl w0 hz, fun l _ => ⟨rfl, .inr ⟨rfl, rfl⟩⟩⟩
    obtain ⟨x, _, hx, rfl⟩ := look_frA xs 0 t y hy
    have hlt : t < vs.length := by rw [hr.1]; have := (List.getElem?_eq_some_iff.1 hx).1; simpa using this
    have hv : (vs.toArray ++ Array.replicate (fn.ntmps - vs.toArray.size) undef).getD t undef = vs[t] := by
      rw [Array.getD_eq_getD_getElem?, Array.getElem?_append_left (by simpa using hlt)]
      simp [hlt]
    rw [hv]
    exact hr.2 t _ y (by simp [hlt]) (by simpa using hx)
  refine Go.wp_mono (acalls_awp.1 H w0 h.g _ _ w hrel) fun e a' w' ⟨A', h', q, rr⟩ => ?_
  have fin : (∃ rs L', ResVarsA P A' fn.results.toList rs ∧ (∀ l X, look L' l = some X → look A'.locs l = some X) ∧ Q rs L') → a'.defers = [] ∧ ∃ v, (results fn a'.tmps).run P w' = .ok v w' ∧
      ∃ u, Ending.returned v = .returned u ∧ ∃ h' rs L', Q rs L' ∧ RelRA w' h' u rs ∧ LocsOK (fun _ => True) w' h' L' ∧ Chg L L' w h w' h' := by
    rintro ⟨rs, L', hv, hL', hq⟩
    obtain ⟨v, h1, h2⟩ := resultsA_spec rr hv
    refine ⟨rr.defers, v, h1, v, rfl, h', rs, L', hq, h2, ⟨fun l X hX => locOK_O (rr.locs l X (hL' l X hX)) fun _ _ => trivial, fun l l' X X' b hne h1 h2 => rr.sep l l' X X' b hne (hL' l X h1) (hL' l' X' h2)⟩, ?_⟩
    refine ⟨⟨rr.ext.below.os, rr.ext.below.tape, rr.ext.below.output, rr.ext.below.size, fun k hk hno => rr.ext.below.block k hk ?_⟩, fun b hb hno => rr.ext.gam b ?_, rr.ext.gz, rr.ext.keep, fun l X hX => (rr.pin l (hL l X hX)).1, fun l X hX => (rr.pin l (hL l X hX)).2, fun b ⟨l, X, h1, h2⟩ => inB_O (rr.locs l X (hL' l X h1)) h2⟩
    · rintro (hge | ho)
      · have hk : k < w.heap.size := hk
        omega
      · exact hno ho
    · rintro (hge | ho)
      · omega
      · exact hno ho
  cases e with
  | normal => exact fin q
  | ret => exact fin q
  | exit id => exact q.elim
  | goto l => exact q.elim
  | panic ch => exact q.elim
  | outgrown => exact q.elim

theorem retM_void {fn : Func} {Q : List AV → List (Nat × LV) → Prop} {A : ASt} {l : Nat} {X : LV} (hr : fn.results.toList = []) (hl : look A.locs l = some X) (hq : Q [] [(l, X)]) : retM P fn Q .normal A ∧ retM P fn Q .ret A := by
  have : ∃ rs L', ResVarsA P A fn.results.toList rs ∧ (∀ l X, look L' l = some X → look A.locs l = some X) ∧ Q rs L' := by
    refine ⟨[], [(l, X)], by rw [hr]; trivial, fun k Y h => ?_, hq⟩
    simp only [look] at h
    split at h
    · rename_i e; subst e; cases h; exact hl
    · cases h
  exact ⟨this, this⟩
/-! ### At a call -/
def sub (sg : List (Nat × Nat)) (l : Nat) : Nat := (look sg l).getD l
def back : List (Nat × Nat) → Nat → Option Nat
  | [], _ => none
  | (l, m) :: r, u => if m = u then some l else back r u
def CV.ren (s : Nat → Nat) : CV → CV
  | .p x => .p x
  | .loc l off => .loc (s l) off
  | .ow l gen sz n => .ow (s l) gen sz n
  | .mp l => .mp (s l)
  | .a1 l off => .a1 (s l) off
def AV.ren (s : Nat → Nat) : AV → AV
  | .ow l gen sz n => .ow (s l) gen sz n
  | .el l gen sz i j => .el (s l) gen sz i j
  | .cl f a b => .cl f (a.map (CV.ren s)) (b.map (CV.ren s))
  | .loc l off => .loc (s l) off
  | .gr l gen sz n f => .gr (s l) gen sz n f
  | .row l sz off n => .row (s l) sz off n
  | .mp l => .mp (s l)
  | .ag cs => .ag (cs.map (CV.ren s))
  | x => x
def LV.ren (s : Nat → Nat) : LV → LV
  | .cells e cs => .cells e (cs.map (AV.ren s))
  | .fz e cs => .fz e (cs.map (AV.ren s))
  | X => X
def Gh.ren (h : Gh) (s : Nat → Nat) : Gh := ⟨h.g, fun l => h.ρ (s l), fun l => h.κ (s l), fun l => h.μ (s l)⟩
theorem relA_ren {w : World} {h : Gh} {s : Nat → Nat} {v : Value} {x : AV} : RelA w h v (x.ren s) ↔ RelA w (h.ren s) v x := by
  have hc : ∀ (vs : List Value) (cs : List CV), RelCs w h vs (cs.map (CV.ren s)) ↔ RelCs w (h.ren s) vs cs := by
    intro vs cs
    have one : ∀ v (c : CV), RelCV w h v (c.ren s) ↔ RelCV w (h.ren s) v c := fun v c => by cases c <;> exact Iff.rfl
    constructor
    · rintro ⟨h1, h2⟩
      exact ⟨by simpa using h1, fun j v c hv hc => (one v c).1 (h2 j v _ hv (by rw [List.getElem?_map, hc]; rfl))⟩
    · rintro ⟨h1, h2⟩
      refine ⟨by simpa using h1, fun j v c hv hc => ?_⟩
      rw [List.getElem?_map] at hc
      cases hj : cs[j]? with
      | none => rw [hj] at hc; cases hc
      | some y => rw [hj] at hc; cases hc; exact (one v y).2 (h2 j v y hv hj)
  cases x with
  | cl f a b =>
    constructor
    · rintro ⟨vs, us, h1, h2, h3⟩; exact ⟨vs, us, h1, (hc _ _).1 h2, (hc _ _).1 h3⟩
    · rintro ⟨vs, us, h1, h2, h3⟩; exact ⟨vs, us, h1, (hc _ _).2 h2, (hc _ _).2 h3⟩
  | ag cs =>
    constructor
    · rintro ⟨vs, h1, h2, h3⟩; exact ⟨vs, h1, (hc _ _).1 h2, h3⟩
    · rintro ⟨vs, h1, h2, h3⟩; exact ⟨vs, h1, (hc _ _).2 h2, h3⟩
  | _ => exact Iff.rfl
theorem locOK_ren {O : Nat → Prop} {w : World} {h : Gh} {s : Nat → Nat} {l : Nat} {X : LV} : LocOK O w h (s l) (X.ren s) ↔ LocOK O w (h.ren s) l X := by
  cases X with
  | cells e cs =>
    simp only [LV.ren, LocOK]
    constructor
    · rintro ⟨arr, h1, h2, h3, h4, h5⟩
      refine ⟨arr, h1, h2, by simpa using h3, h4, fun i v x hv hx => ?_⟩
      have := h5 i v (x.ren s) hv (by rw [List.getElem?_map, hx]; rfl)
      exact ⟨relA_ren.1 this.1, this.2⟩
    · rintro ⟨arr, h1, h2, h3, h4, h5⟩
      refine ⟨arr, h1, h2, by simpa using h3, h4, fun i v x hv hx => ?_⟩
      rw [List.getElem?_map] at hx
      cases hc : cs[i]? with
      | none => rw [hc] at hx; cases hx
      | some y =>
        rw [hc] at hx; cases hx
        exact ⟨relA_ren.2 (h5 i v y hv hc).1, (h5 i v y hv hc).2⟩
  | fz e cs =>
    simp only [LV.ren, LocOK]
    constructor
    · rintro ⟨arr, h1, h2, h3, h4, h5⟩
      refine ⟨arr, h1, h2, by simpa using h3, h4, fun i v x hv hx => ?_⟩
      have := h5 i v (x.ren s) hv (by rw [List.getElem?_map, hx]; rfl)
      exact ⟨relA_ren.1 this.1, this.2⟩
    · rintro ⟨arr, h1, h2, h3, h4, h5⟩
      refine ⟨arr, h1, h2, by simpa using h3, h4, fun i v x hv hx => ?_⟩
      rw [List.getElem?_map] at hx
      cases hc : cs[i]? with
      | none => rw [hc] at hx; cases hx
      | some y =>
        rw [hc] at hx; cases hx
        exact ⟨relA_ren.2 (h5 i v y hv hc).1, (h5 i v y hv hc).2⟩
  | arr e n f => exact Iff.rfl
  | grow e sz n gen => exact Iff.rfl
  | own e sz n gen f => exact Iff.rfl
  | map ks es => exact Iff.rfl
  | raw M => exact Iff.rfl
  | obj o => exact Iff.rfl
theorem inB_ren {h : Gh} {s : Nat → Nat} {l : Nat} {X : LV} : inB h (s l) (X.ren s) = inB (h.ren s) l X := by cases X <;> rfl
theorem relA_congr {w : World} {h k : Gh} {v : Value} {x : AV} (hg : h.g = k.g) (hm : ∀ l ∈ x.mentions, h.ρ l = k.ρ l ∧ h.κ l = k.κ l ∧ h.μ l = k.μ l) (r : RelA w h v x) : RelA w k v x := by
  have hc : ∀ (vs : List Value) (cs : List CV), (∀ l ∈ cs.flatMap CV.mentions, h.ρ l = k.ρ l ∧ h.κ l = k.κ l ∧ h.μ l = k.μ l) → RelCs w h vs cs → RelCs w k vs cs := by
    intro vs cs hm r
    refine ⟨r.1, fun j v c hv hc => ?_⟩
    have r := r.2 j v c hv hc
    have hm := fun l hl => hm l (List.mem_flatMap.2 ⟨c, List.mem_of_getElem? hc, hl⟩)
    cases c with
    | p x => simp only [RelCV] at *; rw [← hg]; exact r
    | loc l off => simp only [RelCV] at *; rw [← (hm l (by simp [CV.mentions])).1]; exact r
    | ow l gen sz n =>
      obtain ⟨h1, h2, h3⟩ := hm l (by simp [CV.mentions])
      simp only [RelCV, RelOw] at *; rw [← h2, ← h3]; exact r
    | mp l => simp only [RelCV] at *; rw [← (hm l (by simp [CV.mentions])).1]; exact r
    | a1 l off => simp only [RelCV] at *; rw [← (hm l (by simp [CV.mentions])).1]; exact r
  cases x with
  | ow l gen sz n =>
    obtain ⟨h1, h2, h3⟩ := hm l (by simp [AV.mentions])
    simp only [RelA, RelOw] at *; rw [← h2, ← h3]; exact r
  | el l gen sz i j =>
    obtain ⟨h1, h2, h3⟩ := hm l (by simp [AV.mentions])
    simp only [RelA] at *; rw [← h2, ← h3]; exact r
  | cl f a b =>
    obtain ⟨vs, us, e, h1, h2⟩ := r
    simp only [AV.mentions, List.flatMap_append] at hm
    exact ⟨vs, us, e, hc _ _ (fun l hl => hm l (List.mem_append_left _ hl)) h1, hc _ _ (fun l hl => hm l (List.mem_append_right _ hl)) h2⟩
  | top => trivial
  | undef => exact r
  | p x => simp only [RelA] at *; rw [← hg]; exact r
  | loc l off => simp only [RelA] at *; rw [← (hm l (by simp [AV.mentions])).1]; exact r
  | gr l gen sz n f =>
    obtain ⟨h1, h2, h3⟩ := hm l (by simp [AV.mentions])
    simp only [RelA] at *; rw [← hg, ← h2, ← h3]; exact r
  | row l sz off n => simp only [RelA] at *; rw [← (hm l (by simp [AV.mentions])).1]; exact r
  | tup xs => simp only [RelA] at *; rw [← hg]; exact r
  | mp l => simp only [RelA] at *; rw [← (hm l (by simp [AV.mentions])).1]; exact r
  | ag cs => obtain ⟨vs, h1, h2, h3⟩ := r; exact ⟨vs, h1, hc _ _ hm h2, h3⟩
  | is q => exact r
theorem locOK_congr {O : Nat → Prop} {w : World} {h k : Gh} {l : Nat} {X : LV} (hg : h.g = k.g) (hl : h.ρ l = k.ρ l ∧ h.κ l = k.κ l ∧ h.μ l = k.μ l) (hm : ∀ l ∈ X.mentions, h.ρ l = k.ρ l ∧ h.κ l = k.κ l ∧ h.μ l = k.μ l)
    (r : LocOK O w h l X) : LocOK O w k l X := by
  obtain ⟨e1, e2, e3⟩ := hl
  cases X with
  | cells e cs =>
    obtain ⟨arr, h1, h2, h3, h4, h5⟩ := r
    refine ⟨arr, by rw [← e1]; exact h1, by rw [← e1]; exact h2, h3, by rw [← hg, ← e1]; exact h4, fun i v x hv hx => ⟨relA_congr hg (fun l hl => hm l (List.mem_flatMap.2 ⟨x, List.mem_of_getElem? hx, hl⟩)) (h5 i v x hv hx).1, (h5 i v x hv hx).2⟩⟩
  | arr e n f =>
    obtain ⟨arr, fz, h1, h2, h3, h4, h5, h6⟩ := r
    exact ⟨arr, fz, by rw [← e1]; exact h1, by rw [← e1]; exact h2, h3, h4, by rw [← hg, ← e1]; exact h5, by rw [← hg]; exact h6⟩
  | grow e sz n gen =>
    obtain ⟨h1, h2, h3, h4⟩ := r
    exact ⟨by rw [← e3]; exact h1, by rw [← e2]; exact h2, by rw [← e2, ← hg]; exact h3, by rw [← e2]; exact h4⟩
  | own e sz n gen f =>
    obtain ⟨h1, h2, h4⟩ := r
    exact ⟨by rw [← e3]; exact h1, by rw [← e2, ← hg]; exact h2, by rw [← e2, ← hg]; exact h4⟩
  | fz e cs =>
    obtain ⟨arr, h1, h2, h3, h4, h5⟩ := r
    refine ⟨arr, by rw [← e1]; exact h1, by rw [← e1]; exact h2, h3, by rw [← hg, ← e1]; exact h4, fun i v x hv hx => ⟨relA_congr hg (fun l hl => hm l (List.mem_flatMap.2 ⟨x, List.mem_of_getElem? hx, hl⟩)) (h5 i v x hv hx).1, (h5 i v x hv hx).2⟩⟩
  | map ks es =>
    obtain ⟨arr, c, h1, h2, h3, h4⟩ := r
    exact ⟨arr, c, by rw [← e1]; exact h1, by rw [← e1]; exact h2, by rw [← hg, ← e1]; exact h3, by rw [← hg]; exact h4⟩
  | raw M => intro b o hb; obtain ⟨h1, h2, h3⟩ := r b o hb; exact ⟨h1, h2, by rw [← hg]; exact h3⟩
  | obj o => obtain ⟨h1, h2, h3⟩ := r; exact ⟨by rw [← e1]; exact h1, by rw [← e1]; exact h2, by rw [← hg, ← e1]; exact h3⟩
theorem inB_congr {h k : Gh} {l : Nat} {X : LV} (hl : h.ρ l = k.ρ l ∧ h.κ l = k.κ l ∧ h.μ l = k.μ l) : inB h l X = inB k l X := by
  cases X <;> simp [inB, hl.1, hl.2.1]
def AV.clean (t : Nat → Option Nat) : AV → AV
  | .gr l gen sz n f => match t l with
    | some _ => .p (.d (.sl sz n f))
    | none => .gr l gen sz n f
  | x => x
def LV.clean (t : Nat → Option Nat) : LV → LV
  | .cells e cs => .cells e (cs.map (AV.clean t))
  | .fz e cs => .fz e (cs.map (AV.clean t))
  | X => X
/-- Another location, untouched by a call. -/
theorem locOK_carry {O : Nat → Prop} {w w' : World} {h h' : Gh} {t : Nat → Option Nat} {l : Nat} {X : LV} (hρ : h'.ρ l = h.ρ l) (hκ : h'.κ l = h.κ l) (hμ : h'.μ l = h.μ l) (hk : Keep w h.g w' h'.g)
    (hb : ∀ b, inB h l X b → w'.heap[b]? = w.heap[b]? ∧ h'.g b = h.g b) (hc : ∀ v x, (∀ l ∈ x.mentions, l ∈ X.mentions) → RelA w h v x → RelA w' h' v (x.clean t)) (k : LocOK O w h l X) :
    LocOK O w' h' l (X.clean t) ∧ inB h' l (X.clean t) = inB h l X := by
  cases X with
  | cells e cs =>
    obtain ⟨arr, h1, h2, h3, h4, h5⟩ := k
    obtain ⟨e1, e2⟩ := hb (h.ρ l) rfl
    refine ⟨⟨arr, by rw [hρ]; exact h1, by rw [hρ, e1]; exact h2, by simpa using h3, by rw [hρ, e2]; exact h4, fun i v x hv hx => ?_⟩, by simp [inB, LV.clean, hρ]⟩
    rw [List.getElem?_map] at hx
    cases hci : cs[i]? with
    | none => rw [hci] at hx; cases hx
    | some y =>
      rw [hci] at hx; cases hx
      exact ⟨hc v y (fun l hl => List.mem_flatMap.2 ⟨y, List.mem_of_getElem? hci, hl⟩) (h5 i v y hv hci).1, (h5 i v y hv hci).2⟩
  | fz e cs =>
    obtain ⟨arr, h1, h2, h3, h4, h5⟩ := k
    obtain ⟨e1, e2⟩ := hb (h.ρ l) rfl
    refine ⟨⟨arr, by rw [hρ]; exact h1, by rw [hρ, e1]; exact h2, by simpa using h3, by rw [hρ, e2]; exact h4, fun i v x hv hx => ?_⟩, by simp [inB, LV.clean, hρ]⟩
    rw [List.getElem?_map] at hx
    cases hci : cs[i]? with
    | none => rw [hci] at hx; cases hx
    | some y =>
      rw [hci] at hx; cases hx
      exact ⟨hc v y (fun l hl => List.mem_flatMap.2 ⟨y, List.mem_of_getElem? hci, hl⟩) (h5 i v y hv hci).1, (h5 i v y hv hci).2⟩
  | arr e n f =>
    obtain ⟨arr, fz, h1, h2, hfz, h3, h4, h5⟩ := k
    obtain ⟨e1, e2⟩ := hb (h.ρ l) rfl
    exact ⟨⟨arr, fz, by rw [hρ]; exact h1, by rw [hρ, e1]; exact h2, hfz, h3, by rw [hρ, e2]; exact h4, fun i v hi hv => (h5 i v hi hv).keep hk⟩, by simp [inB, LV.clean, hρ]⟩
  | grow e sz n gen =>
    obtain ⟨h1, ⟨xs, h2⟩, h3, h4⟩ := k
    refine ⟨⟨by rw [hμ]; exact h1, ⟨xs, ?_⟩, fun b c hb' => ?_, fun b hb' => h4 b (by rw [← hκ]; exact hb')⟩, by simp [inB, LV.clean, hκ]⟩
    · rw [hκ]
      rcases h2 with ⟨a1, a2 | ⟨gb, cap, cur, a2, a3, a4, a5⟩⟩
      · exact ⟨a1, .inl a2⟩
      · have hb' : inB h l (.grow e sz n gen) gb := by simp [inB, a2, Value.ownBlock]
        exact ⟨a1, .inr ⟨gb, cap, cur, a2, a3, by rw [(hb gb hb').1]; exact a4, a5⟩⟩
    · rw [hκ] at hb'
      have hb2 : inB h l (.grow e sz n gen) b := by simp [inB, hb', Value.ownBlock]
      rw [(hb b hb2).2]
      exact h3 b c hb'
  | own e sz n gen f =>
    obtain ⟨h1, ⟨xs, h2, h3⟩, h4⟩ := k
    refine ⟨⟨by rw [hμ]; exact h1, ⟨xs, ?_, h3.keep hk⟩, fun b hb' => ?_⟩, by simp [inB, LV.clean, hκ]⟩
    · rw [hκ]
      exact ownsRow_same h2 fun b hb' => (hb b (by simpa [inB] using hb')).1
    · rw [hκ] at hb'
      rw [(hb b (by simpa [inB] using hb')).2]
      exact h4 b hb'
  | map ks es =>
    obtain ⟨arr, c, h1, h2, h3, h4⟩ := k
    obtain ⟨e1, e2⟩ := hb (h.ρ l) rfl
    exact ⟨⟨arr, c, by rw [hρ]; exact h1, by rw [hρ, e1]; exact h2, by rw [hρ, e2]; exact h3, h4.keep hk⟩, by simp [inB, LV.clean, hρ]⟩
  | raw M =>
    refine ⟨fun b o hM => ?_, rfl⟩
    obtain ⟨h1, h2, h3⟩ := k b o hM
    obtain ⟨e1, e2⟩ := hb b (by simp [inB, hM])
    exact ⟨h1, by rw [e1]; exact h2, by rw [e2]; exact h3⟩
  | obj o =>
    obtain ⟨h1, h2, h3⟩ := k
    obtain ⟨e1, e2⟩ := hb (h.ρ l) rfl
    exact ⟨⟨by rw [hρ]; exact h1, by rw [hρ, e1]; exact h2, by rw [hρ, e2]; exact h3⟩, by simp [inB, LV.clean, hρ]⟩
theorem look_append {α : Type} (L M : List (Nat × α)) (k : Nat) : look (L ++ M) k = match look L k with
    | some x => some x
    | none => look M k := by
  induction L with
  | nil => rfl
  | cons p L ih =>
    obtain ⟨t, x⟩ := p
    simp only [List.cons_append, look]
    split
    · rfl
    · exact ih
theorem look_mapv {α β : Type} (f : α → β) (L : List (Nat × α)) (k : Nat) : look (L.map fun p => (p.1, f p.2)) k = (look L k).map f := by
  induction L with
  | nil => rfl
  | cons p L ih =>
    obtain ⟨t, x⟩ := p
    simp only [List.map_cons, look]
    split
    · rfl
    · exact ih
theorem look_filter {α : Type} (q : Nat → Bool) (L : List (Nat × α)) (k : Nat) : look (L.filter fun p => q p.1) k = if q k then look L k else none := by
  induction L with
  | nil => simp [look]
  | cons p L ih =>
    obtain ⟨t, x⟩ := p
    simp only [List.filter_cons]
    by_cases ht : t = k
    · subst ht
      cases hq : q t
      · simp only [Bool.false_eq_true, if_false]; rw [ih, hq]; rfl
      · simp [look]
    · cases hq : q t
      · simp only [Bool.false_eq_true, if_false, look, if_neg ht]; exact ih
      · simp only [if_true, look, if_neg ht]; exact ih
def keysOK {α : Type} : List (Nat × α) → Bool
  | [] => true
  | (t, _) :: r => (look r t).isNone && keysOK r
theorem look_sub {α β : Type} (s : Nat → Nat) (f : α → β) : ∀ (L : List (Nat × α)) (m : Nat) (y : β), keysOK L = true → look (L.map fun p => (s p.1, f p.2)) m = some y → ∃ l x, look L l = some x ∧ s l = m ∧ y = f x
  | [], m, y, _, h => by cases h
  | (t, x) :: L, m, y, hk, h => by
    simp only [keysOK, Bool.and_eq_true] at hk
    simp only [List.map_cons, look] at h
    split at h
    · rename_i e; cases h; exact ⟨t, x, by simp [look], e, rfl⟩
    · obtain ⟨l, x', h1, h2, h3⟩ := look_sub s f L m y hk.2 h
      refine ⟨l, x', ?_, h2, h3⟩
      simp only [look]
      rw [if_neg (fun e => by subst e; rw [h1] at hk; simp at hk)]
      exact h1
/-- The state behind a call that was handed own memory. -/
def afterCall (sg : List (Nat × Nat)) (A : ASt) (dst : Option Tmp) (res : AV) (L' : List (Nat × LV)) : ASt :=
  ⟨(match dst with
    | some d => [(d, res.ren (sub sg))]
    | none => []) ++ A.fr.map fun p => (p.1, p.2.clean (back sg)),
   (L'.map fun p => (sub sg p.1, p.2.ren (sub sg))) ++ (A.locs.filter fun p => (back sg p.1).isNone).map fun p => (p.1, p.2.clean (back sg))⟩
def resM : List AV → Option AV
  | [x] => some x
  | xs => (xs.mapM pvAV).map .tup
theorem relA_resM {w : World} {h : Gh} {v : Value} {rs : List AV} {x : AV} (hx : resM rs = some x) (r : RelRA w h v rs) : RelA w h v x := by
  match rs, hx, r with
  | [y], hx, r => cases hx; exact r
  | [], hx, ⟨vs, hv, hr⟩ => cases hx; exact ⟨vs, hv, by have := hr.1; simp at this; subst this; exact RelPs.nil _ _⟩
  | a :: b :: r', hx, ⟨vs, hv, hr⟩ =>
    simp only [resM, Option.map_eq_some_iff] at hx
    obtain ⟨ys, hy, rfl⟩ := hx
    exact ⟨vs, hv, pvs_spec hy hr⟩
theorem RelAs.append {w : World} {h : Gh} {vs us : List Value} {xs ys : List AV} (r : RelAs w h vs xs) (t : RelAs w h us ys) : RelAs w h (vs ++ us) (xs ++ ys) := by
  refine ⟨by simp [r.1, t.1], fun j v x hv hx => ?_⟩
  by_cases hj : j < vs.length
  · rw [List.getElem?_append_left hj] at hv
    rw [List.getElem?_append_left (r.1 ▸ hj)] at hx
    exact r.2 j v x hv hx
  · rw [List.getElem?_append_right (by omega)] at hv
    rw [List.getElem?_append_right (by have := r.1; omega), ← r.1] at hx
    exact t.2 _ v x hv hx
theorem relAs_pv {w : World} {h : Gh} {vs : List Value} {xs : List PV} (r : RelPs w h.g vs xs) : RelAs w h vs (xs.map .p) := by
  refine ⟨by simp [r.1], fun j v x hv hx => ?_⟩
  rw [List.getElem?_map] at hx
  cases hj : xs[j]? with
  | none => rw [hj] at hx; cases hx
  | some y => rw [hj] at hx; cases hx; exact r.2 j v y hv hj
/-- Which function a value calls, with which values ahead of the arguments and behind them. -/
def calleeC : AV → Option (FuncId × List CV × List CV)
  | .p (.fn (.func f) a b) => some (f, a.map .p, b.map .p)
  | .cl (.func f) a b => some (f, a, b)
  | _ => none
theorem relAs_cv {w : World} {h : Gh} {vs : List Value} {xs : List CV} (r : RelCs w h vs xs) : RelAs w h vs (xs.map CV.av) := by
  refine ⟨by simp [r.1], fun j v x hv hx => ?_⟩
  rw [List.getElem?_map] at hx
  cases hj : xs[j]? with
  | none => rw [hj] at hx; cases hx
  | some y => rw [hj] at hx; cases hx; exact (relC_av y).1 (r.2 j v y hv hj)
theorem relCs_pv {w : World} {h : Gh} {vs : List Value} {xs : List PV} (r : RelPs w h.g vs xs) : RelCs w h vs (xs.map .p) := by
  refine ⟨by simp [r.1], fun j v x hv hx => ?_⟩
  rw [List.getElem?_map] at hx
  cases hj : xs[j]? with
  | none => rw [hj] at hx; cases hx
  | some y => rw [hj] at hx; cases hx; exact r.2 j v y hv hj
theorem callee_val {w : World} {h : Gh} {x : AV} {g : FuncId} {pre post : List CV} (hx : calleeC x = some (g, pre, post)) {v : Value} (hf : RelA w h v x) :
    ∃ us vs : List Value, v = .func (.func g) us.toArray vs.toArray ∧ RelCs w h us pre ∧ RelCs w h vs post := by
  unfold calleeC at hx
  split at hx
  · cases hx
    cases hf with
    | fn _ us vs _ _ hl hm hr hs => exact ⟨us, vs, rfl, relCs_pv ⟨hl, hr⟩, relCs_pv ⟨hm, hs⟩⟩
  · cases hx
    obtain ⟨us, vs, e, h1, h2⟩ := hf
    exact ⟨us, vs, e, h1, h2⟩
  · cases hx
theorem call_runA {o : Oper} {c : Call} {f : Operand} (ho : o.op = .call c) (hc : c.callee = .value f) {x : AV} {g : FuncId} {pre post : List CV} (hx : calleeC x = some (g, pre, post)) {ys : List AV}
    {w : World} {h : Gh} {a : Act} (hf : RelA w h (a.eval f) x) (hargs : RelAs w h (c.args.toList.map a.eval) ys) :
    ∃ vs : List Value, RelAs w h vs (pre.map CV.av ++ ys ++ post.map CV.av) ∧ (execOp a.eval o).run P w = (callFunc g vs.toArray).run P w := by
  obtain ⟨us, vs, hv0, h1, h2⟩ := callee_val hx hf
  refine ⟨us ++ c.args.toList.map a.eval ++ vs, RelAs.append (RelAs.append (relAs_cv h1) hargs) (relAs_cv h2), ?_⟩
  have : (us ++ c.args.toList.map a.eval ++ vs).toArray = us.toArray ++ c.args.map a.eval ++ vs.toArray := by
    apply Array.ext'; simp
  rw [this]
  simp [execOp, ho, resolve, hc, hv0, Deferred.ofValue, invoke]
/-- What the names at a call must meet. -/
structure NamesOK (sg : List (Nat × Nat)) (A : ASt) (L L' : List (Nat × LV)) (res : AV) : Prop where
  keys : keysOK L' = true
  locs : ∀ l X, look L l = some X → look A.locs (sub sg l) = some (X.ren (sub sg))
  dom : ∀ l X, look L l = some X → back sg (sub sg l) = some l
  dom' : ∀ l X, look L' l = some X → back sg (sub sg l) = some l ∧ ∀ k ∈ X.mentions, back sg (sub sg k) = some k
  res : ∀ k ∈ res.mentions, back sg (sub sg k) = some k
  inv : ∀ m l, back sg m = some l → sub sg l = m
  fresh : ∀ m l, back sg m = some l → (∃ X, look L l = some X) ∨ A.unused m
theorem step_mcall {nt : Nat} {ops : Array Oper} {o : Oper} {A : ASt} {c : Call} {f : Operand} {g : FuncId} {pre post : List CV} {xs rs : List AV} {L L' : List (Nat × LV)} {res : AV} (sg : List (Nat × Nat))
    (hw : wantedA ops o A = some true) (hd : dstOK nt o = true) (ho : o.op = .call c) (hc : c.callee = .value f) (hx : calleeC (A.eval f) = some (g, pre, post))
    (hargs : pre.map CV.av ++ c.args.toList.map A.eval ++ post.map CV.av = xs.map (AV.ren (sub sg))) (hcall : MCalls P g xs L (fun r M => r = rs ∧ M = L')) (hres : resM rs = some res) (hN : NamesOK sg A L L' res) :
    StepS P nt ops o A (afterCall sg A o.dst res L') := by
  intro w0 g0 h a w r K Q hn
  rw [wantedA_spec r hw]
  simp only [if_true]
  left
  have hev := r.evals c.args.toList
  obtain ⟨vs, hvs, hrun⟩ := call_runA (P := P) ho hc hx (r.eval f) hev
  rw [hargs] at hvs
  let hσ := h.ren (sub sg)
  have hvs' : RelAs w hσ vs xs := by
    refine ⟨by have := hvs.1; simpa using this, fun j v x hv hxj => ?_⟩
    exact relA_ren.1 (hvs.2 j v _ hv (by rw [List.getElem?_map, hxj]; rfl))
  have hlocs : LocsOK (fun _ => True) w hσ L := by
    refine ⟨fun l X hX => locOK_O (locOK_ren.1 (r.locs _ _ (hN.locs l X hX))) fun _ _ => trivial, fun l l' X X' b hne h1 h2 hb hb' => ?_⟩
    rw [← inB_ren] at hb hb'
    exact r.sep _ _ _ _ b (fun e => hne (by have e1 := hN.dom l X h1; have e2 := hN.dom l' X' h2; rw [e, e2] at e1; cases e1; rfl)) (hN.locs l X h1) (hN.locs l' X' h2) hb hb'
  have key := hcall w hσ vs r.gz hvs' hlocs
  have fin : ∀ v w', (∃ h1 r1 L1, (r1 = rs ∧ L1 = L') ∧ RelRA w' h1 v r1 ∧ LocsOK (fun _ => True) w' h1 L1 ∧ Chg L L1 w hσ w' h1) → K (a.put o.dst v) w' := by
    rintro v w' ⟨h1, r1, L1, ⟨e1, e2⟩, hR, hL, hC⟩
    rw [e1] at hR
    rw [e2] at hL hC
    clear e1 e2 r1 L1
    let h' : Gh := ⟨h1.g, fun m => match back sg m with | some l => h1.ρ l | none => h.ρ m, fun m => match back sg m with | some l => h1.κ l | none => h.κ m, fun m => match back sg m with | some l => h1.μ l | none => h.μ m⟩
    have hname : ∀ l, back sg (sub sg l) = some l → h1.ρ l = (h'.ren (sub sg)).ρ l ∧ h1.κ l = (h'.ren (sub sg)).κ l ∧ h1.μ l = (h'.ren (sub sg)).μ l := by
      intro l hl
      simp [Gh.ren, h', hl]
    have hout : ∀ m, back sg m = none → h'.ρ m = h.ρ m ∧ h'.κ m = h.κ m ∧ h'.μ m = h.μ m := by
      intro m hm
      simp [h', hm]
    have hownO : ∀ b, ownB hσ L b → w0.O b ∧ b < w.heap.size := by
      rintro b ⟨l, X, hX, hb⟩
      rw [← inB_ren] at hb
      have := r.locs _ _ (hN.locs l X hX)
      exact ⟨inB_O this hb, inB_lt this hb⟩
    have hotherB : ∀ m Y b, look A.locs m = some Y → back sg m = none → inB h m Y b → ¬ ownB hσ L b := by
      rintro m Y b hY hm hb ⟨l, X, hX, hb2⟩
      rw [← inB_ren] at hb2
      refine r.sep m (sub sg l) Y _ b (fun e => ?_) hY (hN.locs l X hX) hb hb2
      rw [e, hN.dom l X hX] at hm; cases hm
    -- what the frame held, it holds
    have hclean : ∀ v x, (∀ m ∈ x.mentions, ∀ l, back sg m = some l → ∃ X, look L l = some X) → RelA w h v x → RelA w' h' v (x.clean (back sg)) := by
      intro v x hm rx
      have hρ : ∀ l, l ∈ x.mentions → h'.ρ l = h.ρ l := by
        intro m hmm
        cases hb : back sg m with
        | none => exact (hout m hb).1
        | some l =>
          obtain ⟨X, hX⟩ := hm m hmm l hb
          have e1 := hC.ρ l X hX
          have e2 := hN.inv m l hb
          show (match back sg m with | some l => h1.ρ l | none => h.ρ m) = h.ρ m
          rw [hb]
          show h1.ρ l = h.ρ m
          rw [e1]
          show h.ρ (sub sg l) = h.ρ m
          rw [e2]
      have hup : ∀ l, l ∈ x.mentions → h.μ l < h'.μ l ∨ (h'.κ l = h.κ l ∧ h'.μ l = h.μ l) := by
        intro m hmm
        cases hb : back sg m with
        | none => exact .inr (hout m hb).2
        | some l =>
          obtain ⟨X, hX⟩ := hm m hmm l hb
          have e2 := hN.inv m l hb
          have e1 := hC.up l X hX
          simp only [hσ, Gh.ren, e2] at e1
          simp only [h', hb]
          exact e1
      have hgen : ∀ l gen, l ∈ x.mentions → gen ≤ h.μ l → gen ≤ h'.μ l ∧ (h'.μ l = gen → h.μ l = gen ∧ h'.κ l = h.κ l) := by
        intro l gen hl hg
        rcases hup l hl with hlt | ⟨e1, e2⟩
        · exact ⟨by omega, fun he => by omega⟩
        · rw [e1, e2]; exact ⟨hg, fun e => ⟨e, rfl⟩⟩
      have how : ∀ v l gen n, l ∈ x.mentions → RelOw h v l gen n → RelOw h' v l gen n := by
        rintro v l gen n hl ⟨r1, r2, r3⟩
        obtain ⟨g1, g2⟩ := hgen l gen hl r1
        exact ⟨g1, r2, fun he => by obtain ⟨e1, e2⟩ := g2 he; rw [e2]; exact r3 e1⟩
      have hcs : ∀ (vs : List Value) (cs : List CV), (∀ l ∈ cs.flatMap CV.mentions, l ∈ x.mentions) → RelCs w h vs cs → RelCs w' h' vs cs := by
        intro vs cs hmx r
        refine ⟨r.1, fun j v c hv hc => ?_⟩
        have r := r.2 j v c hv hc
        have hmx := fun l hl => hmx l (List.mem_flatMap.2 ⟨c, List.mem_of_getElem? hc, hl⟩)
        cases c with
        | p x => exact RelP.keep hC.keep r
        | loc l off => simp only [RelCV] at *; rw [hρ l (hmx l (by simp [CV.mentions]))]; exact r
        | ow l gen sz n => exact how v l gen n (hmx l (by simp [CV.mentions])) r
        | mp l => simp only [RelCV] at *; rw [hρ l (hmx l (by simp [CV.mentions]))]; exact r
        | a1 l off => simp only [RelCV] at *; rw [hρ l (hmx l (by simp [CV.mentions]))]; exact r
      cases x with
      | ow l gen sz n => exact how v l gen n (by simp [AV.mentions]) rx
      | el l gen sz i j =>
        obtain ⟨r1, b, r2, r3⟩ := rx
        obtain ⟨g1, g2⟩ := hgen l gen (by simp [AV.mentions]) r1
        exact ⟨g1, b, r2, fun he => by obtain ⟨e1, e2⟩ := g2 he; rw [e2]; exact r3 e1⟩
      | cl f a b =>
        obtain ⟨vs, us, e, h1, h2⟩ := rx
        exact ⟨vs, us, e, hcs _ _ (fun l hl => by simp only [AV.mentions, List.flatMap_append]; exact List.mem_append_left _ hl) h1, hcs _ _ (fun l hl => by simp only [AV.mentions, List.flatMap_append]; exact List.mem_append_right _ hl) h2⟩
      | top => trivial
      | undef => exact rx
      | p x => exact RelP.keep hC.keep rx
      | loc l off => simp only [AV.clean, RelA] at *; rw [hρ l (by simp [AV.mentions])]; exact rx
      | row l sz off n => simp only [AV.clean, RelA] at *; rw [hρ l (by simp [AV.mentions])]; exact rx
      | tup xs => obtain ⟨us, hv, hr⟩ := rx; exact ⟨us, hv, hr.keep hC.keep⟩
      | mp l => simp only [AV.clean, RelA] at *; rw [hρ l (by simp [AV.mentions])]; exact rx
      | ag cs => obtain ⟨vs, h1, h2, h3⟩ := rx; exact ⟨vs, h1, hcs _ _ (fun l hl => hl) h2, h3⟩
      | is q => exact rx
      | gr l gen sz n f =>
        obtain ⟨r1, r2, r3⟩ := rx
        simp only [AV.clean]
        cases hb : back sg l with
        | some k => exact .d _ _ (r1.keep hC.keep)
        | none =>
          obtain ⟨_, e2, e3⟩ := hout l hb
          exact ⟨r1.keep hC.keep, by rw [e3]; exact r2, fun he => by rw [e2]; exact r3 (by rw [← e3]; exact he)⟩
    have hlookL : ∀ m Y, look (afterCall sg A o.dst res L').locs m = some Y → (∃ l X, look L' l = some X ∧ sub sg l = m ∧ Y = X.ren (sub sg)) ∨ (back sg m = none ∧ ∃ X, look A.locs m = some X ∧ Y = X.clean (back sg)) := by
      intro m Y hY
      simp only [afterCall, look_append] at hY
      split at hY
      · rename_i y hy
        cases hY
        obtain ⟨l, X, q1, q2, q3⟩ := look_sub (sub sg) (LV.ren (sub sg)) L' m _ hN.keys hy
        exact .inl ⟨l, X, q1, q2, q3⟩
      · rw [look_mapv, look_filter (fun m => (back sg m).isNone)] at hY
        split at hY
        · rename_i hq
          cases hX : look A.locs m with
          | none => rw [hX] at hY; cases hY
          | some X =>
            rw [hX] at hY; cases hY
            exact .inr ⟨by simpa using hq, X, rfl, rfl⟩
        · cases hY
    have hmenF : ∀ t x, look A.fr t = some x → ∀ m ∈ x.mentions, ∀ l, back sg m = some l → ∃ X, look L l = some X := by
      intro t x hx m hm l hb
      rcases hN.fresh m l hb with h | h
      · exact h
      · exact absurd hm (h.1 t x hx)
    have hmenL : ∀ k X, look A.locs k = some X → ∀ m ∈ X.mentions, ∀ l, back sg m = some l → ∃ X, look L l = some X := by
      intro k X hX m hm l hb
      rcases hN.fresh m l hb with h | h
      · exact h
      · exact absurd hm (h.2.1 k X hX)
    have hloc1 : ∀ l X, look L' l = some X → LocOK w0.O w' h' (sub sg l) (X.ren (sub sg)) ∧ (∀ b, inB h' (sub sg l) (X.ren (sub sg)) b → w.heap.size ≤ b ∨ ownB hσ L b) ∧ inB h' (sub sg l) (X.ren (sub sg)) = inB h1 l X := by
      intro l X hX
      obtain ⟨d1, d2⟩ := hN.dom' l X hX
      have hbk : inB h' (sub sg l) (X.ren (sub sg)) = inB h1 l X := by rw [inB_ren, ← inB_congr (hname l d1)]
      have hown : ∀ b, inB h1 l X b → w.heap.size ≤ b ∨ ownB hσ L b := fun b hb => hC.own b ⟨l, X, hX, hb⟩
      refine ⟨locOK_ren.2 (locOK_congr (h := h1) (k := h'.ren (sub sg)) rfl (hname l d1) (fun k hk => hname k (d2 k hk)) (locOK_O (hL.1 l X hX) fun b hb => ?_)), fun b hb => hown b (by rw [← hbk]; exact hb), hbk⟩
      rcases hown b hb with hge | ho
      · exact r.base b hge
      · exact (hownO b ho).1
    have hloc2 : ∀ m X, look A.locs m = some X → back sg m = none → LocOK w0.O w' h' m (X.clean (back sg)) ∧ inB h' m (X.clean (back sg)) = inB h m X := by
      intro m X hX hm
      obtain ⟨e1, e2, e3⟩ := hout m hm
      refine locOK_carry e1 e2 e3 hC.keep (fun b hb => ?_) (fun v x hsub rx => hclean v x (fun k hk => hmenL m X hX k (hsub k hk)) rx) (r.locs m X hX)
      have hlt := inB_lt (r.locs m X hX) hb
      have hno := hotherB m X b hX hm hb
      exact ⟨hC.below.block b hlt hno, hC.gam b hlt hno⟩
    refine hn _ _ h' ⟨?_, by cases o.dst <;> exact r.defers, fun t x hx => ?_, fun m Y hY => ?_, fun m m' Y Y' b hne hY hY' hb hb' => ?_, ?_, fun l hl => ?_⟩
    · simpa [Act.put] using (by cases o.dst <;> simpa [Act.put] using r.size)
    · simp only [afterCall, look_append] at hx
      have hdt := dstOK_spec hd
      cases hod : o.dst with
      | none =>
        rw [hod] at hx
        simp only [look, look_mapv] at hx
        cases hy : look A.fr t with
        | none => rw [hy] at hx; cases hx
        | some y =>
          rw [hy] at hx; cases hx
          simp only [Act.put]
          exact hclean _ y (hmenF t y hy) (r.fr t y hy)
      | some d =>
        rw [hod] at hx
        rw [getD_put a d t v (by rw [r.size]; exact hdt d hod)]
        simp only [look] at hx
        by_cases hdt' : d = t
        · subst hdt'
          rw [if_pos rfl] at hx ⊢
          cases hx
          refine relA_ren.2 (relA_congr (h := h1) rfl (fun k hk => hname k (hN.res k hk)) (relA_resM hres hR))
        · rw [if_neg hdt'] at hx ⊢
          simp only [look_mapv] at hx
          cases hy : look A.fr t with
          | none => rw [hy] at hx; cases hx
          | some y =>
            rw [hy] at hx; cases hx
            exact hclean _ y (hmenF t y hy) (r.fr t y hy)
    · rcases hlookL m Y hY with ⟨l, X, hX, rfl, rfl⟩ | ⟨hm, X, hX, rfl⟩
      · exact (hloc1 l X hX).1
      · exact (hloc2 m X hX hm).1
    · rcases hlookL m Y hY with ⟨l, X, hX, rfl, rfl⟩ | ⟨hm, X, hX, rfl⟩ <;> rcases hlookL m' Y' hY' with ⟨l', X', hX', rfl, rfl⟩ | ⟨hm', X', hX', rfl⟩
      · rw [(hloc1 l X hX).2.2] at hb
        rw [(hloc1 l' X' hX').2.2] at hb'
        exact hL.2 l l' X X' b (fun e => hne (by rw [e])) hX hX' hb hb'
      · rw [(hloc2 m' X' hX' hm').2] at hb'
        have hlt := inB_lt (r.locs m' X' hX') hb'
        rcases (hloc1 l X hX).2.1 b hb with hge | ho
        · omega
        · exact hotherB m' X' b hX' hm' hb' ho
      · rw [(hloc2 m X hX hm).2] at hb
        have hlt := inB_lt (r.locs m X hX) hb
        rcases (hloc1 l' X' hX').2.1 b hb' with hge | ho
        · omega
        · exact hotherB m X b hX hm hb ho
      · rw [(hloc2 m X hX hm).2] at hb
        rw [(hloc2 m' X' hX' hm').2] at hb'
        exact r.sep m m' X X' b hne hX hX' hb hb'
    · refine ⟨r.ext.below.trans ⟨hC.below.os, hC.below.tape, hC.below.output, hC.below.size, fun k hk hO => hC.below.block k hk fun ho => hO (hownO k ho).1⟩, fun b hO => ?_, hC.gz, r.ext.keep.trans hC.keep⟩
      exact (hC.gam b (r.base.lt hO) fun ho => hO (hownO b ho).1).trans (r.ext.gam b hO)
    · obtain ⟨p1, p2⟩ := r.pin l hl
      cases hb : back sg l with
      | none => obtain ⟨o1, o2, o3⟩ := hout l hb; rw [o1, o2, o3]; exact ⟨p1, p2⟩
      | some k =>
        rcases hN.fresh l k hb with ⟨X, hX⟩ | hu
        · have e1 := hC.ρ k X hX
          have e2 := hN.inv l k hb
          have e3 := hC.up k X hX
          simp only [hσ, Gh.ren, e2] at e1 e3
          simp only [h', hb]
          refine ⟨by rw [e1]; exact p1, ?_⟩
          rcases e3 with e3 | ⟨e3, e4⟩
          · rcases p2 with p2 | ⟨p2, p3⟩
            · exact .inl (by omega)
            · exact .inl (by omega)
          · rw [e3, e4]; exact p2
        · have := hu.2.2; omega
  unfold Oper.wp
  rw [hrun]
  unfold CallRes at key
  split at key
  · rename_i f' args w1 hrr
    rw [hrr]
    show Calls P f' args w1 _
    refine key.mono fun e w' ⟨v, he, hR⟩ => ?_
    subst he
    exact fin v w' hR
  · rename_i v w1 hrr
    rw [hrr]
    exact fin v w1 key
  · exact key.elim
theorem optA_none : (none : Option Operand).toArray.toList = [] := rfl
theorem optA_some (x : Operand) : (some x).toArray.toList = [x] := rfl
attribute [go_sem] optA_none optA_some
attribute [go_sem] afterCall AV.clean LV.clean AV.ren LV.ren CV.ren CV.av sub back List.filter_cons List.filter_nil Option.isNone_some Option.isNone_none
/-- What the names at a call must meet, as one can run it. -/
def LocsAt (A : ASt) (s : Nat → Nat) : List (Nat × LV) → Prop
  | [] => True
  | p :: r => look A.locs (s p.1) = some (p.2.ren s) ∧ LocsAt A s r
def namesB (sg : List (Nat × Nat)) (A : ASt) (L L' : List (Nat × LV)) (res : AV) : Bool :=
  keysOK L' && L.all (fun p => back sg (sub sg p.1) == some p.1) && L'.all (fun p => (back sg (sub sg p.1) == some p.1) && p.2.mentions.all fun k => back sg (sub sg k) == some k) &&
    res.mentions.all (fun k => back sg (sub sg k) == some k) && sg.all (fun p => sub sg p.1 == p.2) && sg.all fun p => (look L p.1).isSome || unusedB A p.2
theorem back_mem : ∀ {sg : List (Nat × Nat)} {m l : Nat}, back sg m = some l → (l, m) ∈ sg
  | (l, m) :: r, u, k, h => by
    simp only [back] at h
    split at h
    · rename_i e; cases h; subst e; simp
    · exact List.mem_cons_of_mem _ (back_mem h)
theorem look_mem' {α : Type} : ∀ {L : List (Nat × α)} {l : Nat} {x : α}, look L l = some x → (l, x) ∈ L
  | (t, y) :: r, l, x, h => by
    simp only [look] at h
    split at h
    · rename_i e; cases h; subst e; simp
    · exact List.mem_cons_of_mem _ (look_mem' h)
theorem namesOK_of {sg : List (Nat × Nat)} {A : ASt} {L L' : List (Nat × LV)} {res : AV} (hl : LocsAt A (sub sg) L) (hb : namesB sg A L L' res = true) : NamesOK sg A L L' res := by
  unfold namesB at hb
  simp only [Bool.and_eq_true, List.all_eq_true, beq_iff_eq, Bool.or_eq_true] at hb
  obtain ⟨⟨⟨⟨⟨h1, h2⟩, h3⟩, h4⟩, h5⟩, h6⟩ := hb
  refine ⟨h1, fun l X hX => ?_, fun l X hX => h2 (l, X) (look_mem' hX), fun l X hX => h3 (l, X) (look_mem' hX), h4, fun m l h => h5 (l, m) (back_mem h), fun m l h => ?_⟩
  · have key : ∀ (L : List (Nat × LV)), LocsAt A (sub sg) L → ∀ p ∈ L, look A.locs (sub sg p.1) = some (p.2.ren (sub sg)) := by
      intro L
      induction L with
      | nil => intro _ p hp; cases hp
      | cons q L ih =>
        intro hl p hp
        rcases List.mem_cons.1 hp with rfl | hp
        · exact hl.1
        · exact ih hl.2 p hp
    exact key L hl (l, X) (look_mem' hX)
  · rcases h6 (l, m) (back_mem h) with h | h
    · exact .inl (Option.isSome_iff_exists.1 h)
    · exact .inr (unusedB_spec h)
/-- One new location is handed back. -/
theorem namesOK_new {A : ASt} {X : LV} {res : AV} (m : Nat) (hu : unusedB A m = true) (hX : X.mentions.all (· == 1000) = true) (hr : res.mentions.all (· == 1000) = true) : NamesOK [(1000, m)] A [] [(1000, X)] res := by
  have hs : sub [(1000, m)] 1000 = m := by simp [sub, look]
  have hb : back [(1000, m)] m = some 1000 := by simp [back]
  have all : ∀ {l : List Nat}, l.all (· == 1000) = true → ∀ k ∈ l, back [(1000, m)] (sub [(1000, m)] k) = some k := by
    intro l hl k hk
    have := List.all_eq_true.1 hl k hk
    have : k = 1000 := by simpa using this
    subst this
    rw [hs, hb]
  refine ⟨rfl, fun l Y h => (by cases h), fun l Y h => (by cases h), fun l Y h => ?_, all hr, fun k l h => ?_, fun k l h => .inr ?_⟩
  · simp only [look] at h
    split at h
    · rename_i e; subst e; cases h; exact ⟨by rw [hs, hb], all hX⟩
    · cases h
  · simp only [back] at h
    split at h
    · rename_i e; subst e; cases h; exact hs
    · cases h
  · simp only [back] at h
    split at h
    · rename_i e; subst e; exact unusedB_spec hu
    · cases h
end Go.Proofs.Ytokibghllpfeaaa.AL
