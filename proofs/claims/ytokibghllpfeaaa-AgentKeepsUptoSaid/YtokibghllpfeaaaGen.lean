/- Small facts of lists and of the logic, used all over. Conditions: none. -/
import Derived.Test.YtokibghllpfeaaaMc
import Derived.Test.YtokibghllpfeaaaSpec
set_option linter.unusedSimpArgs false
set_option linter.unusedVariables false
namespace Go.Proofs.Ytokibghllpfeaaa
open Go.Proofs.Ytokibghllpfeaaa.AL
theorem getD_in {α : Type} {L : List α} {i : Nat} (h : i < L.length) (z : α) : L.getD i z ∈ L := by
  rw [List.getD_eq_getElem?_getD, List.getElem?_eq_getElem h]; exact List.getElem_mem h
theorem drop_getD {α : Type} (L : List α) (i : Nat) (z : α) (h : i < L.length) : L.drop i = L.getD i z :: L.drop (i + 1) := by
  rw [List.getD_eq_getElem?_getD, List.getElem?_eq_getElem h, List.drop_eq_getElem_cons h]; rfl
/-- an empty slice, of whatever make -/
theorem acalls_empty {P : Program} {f : FuncId} {sz : Nat} {g : Nat → List Dat} {xs : List PV} {Q : List PV → Prop} (h : ∀ a c, ACalls P f (.d (.v (.slice a 0 c)) :: xs) Q) : ACalls P f (.d (.sl sz 0 g) :: xs) Q := by
  refine acalls_iff.2 fun w gg vs hz hr => ?_
  obtain ⟨v, vs', rfl, h0, ht⟩ := RelPs.cons_inv hr
  have : ∃ a c, v = .slice a 0 c := by
    cases h0 with
    | d _ _ h0 =>
      cases h0 with
      | sl0 a c => exact ⟨a, c, rfl⟩
      | sl b off _ c => exact ⟨_, c, rfl⟩
  obtain ⟨a, c, rfl⟩ := this
  exact acalls_iff.1 (h a c) w gg _ hz (.cons (.d _ _ (.v _ rfl)) ht)
theorem le_emp {a : Option Addr} {c sz : Nat} {f : Nat → List Dat} : Le (.p (.d (.v (.slice a 0 c)))) (.p (.d (.sl sz 0 f))) := by
  intro w h v r
  have := relA_v r
  subst this
  exact .d _ _ (.sl0 _ _ _ _)
theorem acalls_sl {P : Program} {f : FuncId} {sz n n' : Nat} {g g' : Nat → List Dat} {xs : List PV} {Q : List PV → Prop} (hn : n' = n) (hg : ∀ i, i < n → g' i = g i) (h : ACalls P f (.d (.sl sz n g) :: xs) Q) : ACalls P f (.d (.sl sz n' g') :: xs) Q := by
  subst hn
  refine acalls_iff.2 fun w k vs hz hr => acalls_iff.1 h w k vs hz ?_
  obtain ⟨v, vs', rfl, h1, h2⟩ := hr.cons_inv
  cases h1 with
  | d _ _ h1 => exact RelPs.cons (.d _ _ (h1.sl_congr hg)) h2
theorem take_succ_getD {α : Type} (l : List α) (i : Nat) (z : α) (h : i < l.length) : l.take (i + 1) = l.take i ++ [l.getD i z] := by
  rw [List.take_succ_eq_append_getElem h, List.getD_eq_getElem?_getD, List.getElem?_eq_getElem h]; rfl
theorem any_range_succ (f : Nat → Bool) (n : Nat) : (List.range (n + 1)).any f = ((List.range n).any f || f n) := by
  rw [List.range_succ, List.any_append]; simp
/-- An own row said otherwise. -/
theorem awp_ownf {P : Program} {nt : Nat} {c : Code} {Q : Exit → ASt → Prop} {A : ASt} (l : Nat) {e : TypeId} {sz n gen : Nat} {f : Nat → List Dat} (f' : Nat → List Dat) (ht : AL.look A.locs l = some (.own e sz n gen f)) (hf : ∀ i, i < n → f i = f' i)
    (h : AWP P nt c Q ⟨A.fr, (l, .own e sz n gen f') :: A.locs⟩) : AWP P nt c Q A := by
  refine awp_weak ?_ h
  intro w0 g0 nt h a w r
  have hl : LLe (.own e sz n gen f) (.own e sz n gen f') := lle_own rfl rfl hf
  have hb : ∀ k L, AL.look ((l, LV.own e sz n gen f') :: A.locs) k = some L → ∃ L0, AL.look A.locs k = some L0 ∧ LocOK w0.O w h k L ∧ inB h k L = inB h k L0 := by
    intro k L hL
    simp only [AL.look] at hL
    split at hL
    · rename_i e; subst e; cases hL; exact ⟨_, ht, (lle_ok hl (r.locs _ _ ht)).1, (lle_ok hl (r.locs _ _ ht)).2⟩
    · exact ⟨L, hL, r.locs k L hL, rfl⟩
  refine ⟨h, r.size, r.defers, r.fr, fun k L hL => ?_, fun k k' L L' b hne hL hL' hbk => ?_, r.ext, r.pin⟩
  · obtain ⟨_, _, h1, _⟩ := hb k L hL; exact h1
  · obtain ⟨L0, e1, _, e2⟩ := hb k L hL
    obtain ⟨L0', e3, _, e4⟩ := hb k' L' hL'
    rw [e4]
    exact r.sep k k' L0 L0' b hne e1 e3 (by rw [← e2]; exact hbk)
theorem retM_one {P : Program} {fn : Func} {Q : List AV → List (Nat × LV) → Prop} {A : ASt} {l t : Nat} {X : LV} {x : AV} (hr : fn.results.toList = [.tmp t]) (hx : AL.look A.fr t = some x) (hl : AL.look A.locs l = some X) (hq : Q [x] [(l, X)]) : retM P fn Q .ret A := by
  refine ⟨[x], [(l, X)], by rw [hr]; exact ⟨hx, trivial⟩, fun k Y h => ?_, hq⟩
  simp only [AL.look] at h
  split at h
  · rename_i e; subst e; cases h; exact hl
  · cases h
/-- Values that read as x read as y. -/
def PLe (x y : PV) : Prop := ∀ (w : World) (g : Nat → Nat) (v : Value), RelP w g v x → RelP w g v y
theorem ple_refl (x : PV) : PLe x x := fun _ _ _ h => h
theorem ple_sl {sz n n' : Nat} {f f' : Nat → List Dat} (hn : n = n') (hf : ∀ i, i < n → f i = f' i) : PLe (.d (.sl sz n f)) (.d (.sl sz n' f')) := by
  subst hn
  intro w g v h
  cases h with
  | d _ _ h => exact .d _ _ (h.sl_congr hf)
inductive PLes : List PV → List PV → Prop
  | nil : PLes [] []
  | cons {x y : PV} {xs ys : List PV} (h : PLe x y) (t : PLes xs ys) : PLes (x :: xs) (y :: ys)
theorem PLes.rel {xs ys : List PV} (h : PLes xs ys) {w : World} {g : Nat → Nat} {vs : List Value} (r : RelPs w g vs xs) : RelPs w g vs ys := by
  induction h generalizing vs with
  | nil => exact r
  | cons h t ih =>
    obtain ⟨v, vs', rfl, h1, h2⟩ := r.cons_inv
    exact RelPs.cons (h _ _ _ h1) (ih h2)
theorem acalls_le {P : Program} {f : FuncId} {xs ys : List PV} {Q : List PV → Prop} (h : PLes xs ys) (c : ACalls P f ys Q) : ACalls P f xs Q :=
  acalls_iff.2 fun w g vs hz hr => acalls_iff.1 c w g vs hz (h.rel hr)
theorem hi0 : hi 0#128 = 0 := by decide
theorem lo0 : lo 0#128 = 0 := by decide
theorem hi1 : hi 1#128 = 0 := by decide
theorem lo1 : lo 1#128 = 1 := by decide
theorem relP_v {w : World} {g : Nat → Nat} {v x : Value} (h : RelP w g v (.d (.v x))) : v = x := by
  cases h with
  | d _ _ h => cases h; rfl
theorem relPs_vals {w : World} {g : Nat → Nat} : ∀ (xs vs : List Value), RelPs w g vs (xs.map fun x => .d (.v x)) → vs = xs
  | [], vs, h => by have := h.1; simp at this; exact this
  | x :: xs, vs, h => by
    cases vs with
    | nil => have := h.1; simp at this
    | cons v vs =>
      have h0 := relP_v (h.2 0 v _ rfl rfl)
      have ht := relPs_vals xs vs ⟨by simpa using h.1, fun j v' x' h1 h2 => h.2 (j + 1) v' x' (by simpa using h1) (by simpa using h2)⟩
      rw [h0, ht]
/-- A function of the library that the model itself answers, of plain values. -/
theorem acalls_vals {P : Program} {f : FuncId} {xs : List Value} {v : Value} {rs : List PV} (hr : ∀ w, (callFunc f xs.toArray).run P w = .ok (.value v) w) (hv : ∀ w g, RelR w g v rs) :
    ACalls P f (xs.map fun x => .d (.v x)) (· = rs) := by
  refine acalls_iff.2 fun w g vs hz h => ?_
  rw [relPs_vals xs vs h, hr w]
  exact ⟨g, rs, Ext.refl hz, rfl, hv w g⟩
theorem callFunc_enter {P : Program} {f : FuncId} {fn : Func} {c : Code} (args : Array Value) (w : World) (hf : P.funcs[f]? = some fn) (hb : fn.body = some c) (hname : (fn.name == "runtime.NumGoroutine") = false) :
    (callFunc f args).run P w = .ok (.enter f args) w := by
  simp only [callFunc, program, Sem.run, Bind.bind, Sem.bind, hf, hname, hb]; rfl
theorem ieq_ff {a b : Int} (h : a ≠ b) : (a == b) = false := by simpa using h
theorem ieq_tt {a b : Int} (h : a = b) : (a == b) = true := by simpa using h
theorem ine_ff {a b : Int} (h : a = b) : (a != b) = false := by simpa using h
theorem ine_tt {a b : Int} (h : a ≠ b) : (a != b) = true := by simpa using h
/-- A row of things that have a form as data. -/
def rowO {α : Type} (enc : α → List Dat) (d : α) (l : List α) : Nat → List Dat := fun i => enc (l.getD i d)
theorem rowO_at {α : Type} (enc : α → List Dat) (d : α) (l : List α) (i : Nat) : rowO enc d l i = enc (l.getD i d) := rfl
theorem rowO_put {α : Type} (enc : α → List Dat) (d : α) (l : List α) (c : α) (x : List Dat) (hx : enc c = x) (i : Nat) (hlt : i < l.length + 1) : AL.catF l.length (rowO enc d l) (fun i => [x].getD i []) i = rowO enc d (l ++ [c]) i := by
  unfold AL.catF rowO
  simp only [List.getD_eq_getElem?_getD]
  split
  · rw [List.getElem?_append_left (by assumption)]
  · have : i = l.length := by omega
    subst this
    simp [hx]
theorem rowO_cat {α : Type} (enc : α → List Dat) (d : α) (a b : List α) (i : Nat) : AL.catF a.length (rowO enc d a) (rowO enc d b) i = rowO enc d (a ++ b) i := by
  unfold AL.catF rowO
  simp only [List.getD_eq_getElem?_getD]
  split
  · rw [List.getElem?_append_left (by assumption)]
  · rw [List.getElem?_append_right (by omega)]
theorem rowO_take {α : Type} (enc : α → List Dat) (d : α) (l : List α) (n : Nat) (i : Nat) (hi : i < n) : rowO enc d l i = rowO enc d (l.take n) i := by
  unfold rowO
  simp only [List.getD_eq_getElem?_getD]
  rw [List.getElem?_take_of_lt hi]
theorem and_cases3 (a b c : Bool) : a = false ∨ (a = true ∧ b = false) ∨ (a = true ∧ b = true ∧ c = false) ∨ (a = true ∧ b = true ∧ c = true) := by cases a <;> cases b <;> cases c <;> simp
theorem and_cases4 (a b c d : Bool) : a = false ∨ (a = true ∧ b = false) ∨ (a = true ∧ b = true ∧ c = false) ∨ (a = true ∧ b = true ∧ c = true ∧ d = false) ∨ (a = true ∧ b = true ∧ c = true ∧ d = true) := by cases a <;> cases b <;> cases c <;> cases d <;> simp
theorem and_cases5 (a b c d e : Bool) : a = false ∨ (a = true ∧ b = false) ∨ (a = true ∧ b = true ∧ c = false) ∨ (a = true ∧ b = true ∧ c = true ∧ d = false) ∨ (a = true ∧ b = true ∧ c = true ∧ d = true ∧ e = false) ∨ (a = true ∧ b = true ∧ c = true ∧ d = true ∧ e = true) := by
  cases a <;> cases b <;> cases c <;> cases d <;> cases e <;> simp
end Go.Proofs.Ytokibghllpfeaaa
