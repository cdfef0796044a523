/- Data said otherwise, deep within rows. Conditions: none. -/
import Derived.Test.YtokibghllpfeaaaGen
set_option linter.unusedSimpArgs false
set_option linter.unusedVariables false
namespace Go.Proofs.Ytokibghllpfeaaa
open Go Go.Proofs.Ytokibghllpfeaaa.AL
/-- whatever reads as x reads as y -/
def DLe (x y : Dat) : Prop := ∀ (w : World) (g : Nat → Nat) (v : Value), RelD w g v x → RelD w g v y
inductive DLes : List Dat → List Dat → Prop
  | nil : DLes [] []
  | cons {x y : Dat} {xs ys : List Dat} (h : DLe x y) (t : DLes xs ys) : DLes (x :: xs) (y :: ys)
theorem dle_refl (x : Dat) : DLe x x := fun _ _ _ h => h
theorem DLes.refl : ∀ xs : List Dat, DLes xs xs
  | [] => .nil
  | x :: xs => .cons (dle_refl x) (DLes.refl xs)
theorem DLes.of_eq {xs ys : List Dat} (h : xs = ys) : DLes xs ys := h ▸ DLes.refl xs
theorem DLes.length {xs ys : List Dat} (h : DLes xs ys) : xs.length = ys.length := by
  induction h with
  | nil => rfl
  | cons _ _ ih => simp [ih]
theorem DLes.at {xs ys : List Dat} (h : DLes xs ys) : ∀ {j : Nat} {y : Dat}, ys[j]? = some y → ∃ x, xs[j]? = some x ∧ DLe x y := by
  induction h with
  | nil => intro j y h; simp at h
  | cons h t ih =>
    intro j y hy
    cases j with
    | zero => simp at hy; subst hy; exact ⟨_, by simp, h⟩
    | succ j => simp at hy; obtain ⟨x, h1, h2⟩ := ih hy; exact ⟨x, by simpa using h1, h2⟩
theorem dle_sl {sz n n' : Nat} {f f' : Nat → List Dat} (hn : n = n') (hf : ∀ i, i < n → DLes (f i) (f' i)) : DLe (.sl sz n f) (.sl sz n' f') := by
  subst hn
  intro w g v r
  cases r with
  | sl0 a c sz f => exact .sl0 _ _ _ _
  | sl b off n c sz f u h1 h2 h3 h4 h5 =>
    refine .sl b off n c sz f' u h1 (fun i hi => by rw [← (hf i hi).length]; exact h2 i hi) h3 h4 (fun i j y hi hy => ?_)
    obtain ⟨x, k1, k2⟩ := (hf i hi).at hy
    exact k2 _ _ _ (h5 i j x hi k1)
/-- an empty slice -/
theorem dle_emp {a : Option Addr} {c sz : Nat} {f : Nat → List Dat} : DLe (.v (.slice a 0 c)) (.sl sz 0 f) := by
  intro w g v r
  cases r
  exact .sl0 _ _ _ _
theorem ple_d {x y : Dat} (h : DLe x y) : PLe (.d x) (.d y) := by
  intro w g v r
  cases r with
  | d _ _ r => exact .d _ _ (h _ _ _ r)
theorem ple_agg {xs ys : List Dat} (h : DLes xs ys) : PLe (.agg xs) (.agg ys) := by
  intro w g v r
  cases r with
  | agg vs _ h1 h2 =>
    refine .agg vs ys (by rw [h1, h.length]) (fun j v y hv hy => ?_)
    obtain ⟨x, k1, k2⟩ := h.at hy
    exact k2 _ _ _ (h2 j v x hv k1)
/-- a call's result said otherwise -/
theorem acalls_agg {P : Program} {f : FuncId} {xs : List PV} {ds ds' : List Dat} (h : DLes ds ds') (c : ACalls P f xs (· = [.agg ds])) : ACalls P f xs (· = [.agg ds']) := by
  refine acalls_iff.2 fun w g vs hz hr => ?_
  have := acalls_iff.1 c w g vs hz hr
  unfold CallRes at *
  split at this
  · refine this.mono fun e w' ⟨v, he, g', rs, h1, h2, h3⟩ => ?_
    subst h2
    exact ⟨v, he, g', _, h1, rfl, ple_agg h _ _ _ h3⟩
  · obtain ⟨g', rs, h1, h2, h3⟩ := this
    subst h2
    exact ⟨g', _, h1, rfl, ple_agg h _ _ _ h3⟩
  · exact this.elim
end Go.Proofs.Ytokibghllpfeaaa
