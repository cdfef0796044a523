/- Piles: what is lean. Plain: no program. Conditions: none. -/
import Derived.Test.YtfcfhlfehomhpaaRef5
set_option linter.unusedSimpArgs false
set_option linter.unusedVariables false
namespace Go.Proofs.Ytfcfhlfehomhpaa
open Go.Proofs.Ytfcfhlfehomhpaa.AL
def leanR : List Cube → List Cube → List Cube
  | _, [] => []
  | pre, x :: s => if x.sound && !(pre.any (withinC x)) && !(s.any fun y => withinC x y && x != y) then x :: leanR (pre ++ [x]) s else leanR (pre ++ [x]) s
theorem leanR_cons (pre s : List Cube) (x : Cube) : leanR pre (x :: s) = if x.sound && !(pre.any (withinC x)) && !(s.any fun y => withinC x y && x != y) then x :: leanR (pre ++ [x]) s else leanR (pre ++ [x]) s := rfl
theorem map_getD {α : Type} (l : List α) (z : α) : (List.range l.length).map (fun i => l.getD i z) = l := by
  apply List.ext_getElem
  · simp
  · intro i h1 h2
    simp at h1
    simp [h1]
theorem range_any {α : Type} (P : α → Bool) (l : List α) (z : α) : (List.range l.length).any (fun i => P (l.getD i z)) = l.any P := by
  have := congrArg (List.any · P) (map_getD l z)
  simp only [List.any_map] at this
  exact this
theorem any_congr' {α : Type} {p q : α → Bool} {l : List α} (h : ∀ x ∈ l, p x = q x) : l.any p = l.any q := by
  induction l with
  | nil => rfl
  | cons x l ih => rw [List.any_cons, List.any_cons, h x (by simp), ih fun y hy => h y (by simp [hy])]
theorem spareP_app (pre s : List Cube) (x : Cube) : spareP (pre ++ x :: s) pre.length = (pre.any (withinC x) || (s.any (fun y => withinC x y && x != y)) || !x.sound) := by
  unfold spareP
  have e0 : (pre ++ x :: s).getD pre.length ⟨0, 0⟩ = x := by simp
  rw [e0]
  congr 1
  have hl : (pre ++ x :: s).length = pre.length + (1 + s.length) := by simp; omega
  rw [hl, List.range_add, List.any_append, List.range_add, List.map_append, List.any_append, List.any_map, List.any_map, List.any_map]
  have e1 : (List.range pre.length).any (spareBy (pre ++ x :: s) pre.length) = pre.any (withinC x) := by
    rw [← range_any (withinC x) pre ⟨0, 0⟩]
    refine any_congr' fun i hi => ?_
    have hi := List.mem_range.1 hi
    unfold spareBy
    have eg : (pre ++ x :: s).getD i ⟨0, 0⟩ = pre.getD i ⟨0, 0⟩ := by rw [List.getD_eq_getElem?_getD, List.getD_eq_getElem?_getD, List.getElem?_append_left hi]
    rw [e0, eg]
    have : (i != pre.length) = true := by simp; omega
    rw [this, decide_eq_true hi, Bool.or_true, Bool.and_true, Bool.true_and]
  have e2 : (List.range 1).any (spareBy (pre ++ x :: s) pre.length ∘ fun y => pre.length + y) = false := by
    simp [spareBy, List.range_succ]
  have e3 : (List.range s.length).any ((spareBy (pre ++ x :: s) pre.length ∘ fun y => pre.length + y) ∘ fun y => 1 + y) = s.any (fun y => withinC x y && x != y) := by
    rw [← range_any (fun y => withinC x y && x != y) s ⟨0, 0⟩]
    refine any_congr' fun i hi => ?_
    have hi := List.mem_range.1 hi
    simp only [Function.comp]
    unfold spareBy
    have eg : (pre ++ x :: s).getD (pre.length + (1 + i)) ⟨0, 0⟩ = s.getD i ⟨0, 0⟩ := by rw [List.getD_eq_getElem?_getD, List.getD_eq_getElem?_getD, List.getElem?_append_right (by omega), show pre.length + (1 + i) - pre.length = i + 1 from by omega, List.getElem?_cons_succ]
    rw [e0, eg]
    have : (pre.length + (1 + i) != pre.length) = true := by simp
    rw [this, decide_eq_false (show ¬ pre.length + (1 + i) < pre.length by omega), Bool.or_false, Bool.true_and]
  rw [e1, e2, e3, Bool.false_or]
theorem leanR_range (s : List Cube) : ∀ pre, (List.range' pre.length s.length).filterMap (fun n => if spareP (pre ++ s) n then none else some ((pre ++ s).getD n ⟨0, 0⟩)) = leanR pre s := by
  induction s with
  | nil => intro pre; rfl
  | cons x s ih =>
    intro pre
    have ih := ih (pre ++ [x])
    have e : pre ++ [x] ++ s = pre ++ x :: s := by simp
    rw [e, show (pre ++ [x]).length = pre.length + 1 from by simp] at ih
    rw [List.length_cons, List.range'_succ, List.filterMap_cons, ih, spareP_app]
    have e0 : (pre ++ x :: s).getD pre.length ⟨0, 0⟩ = x := by simp
    rw [leanR_cons, e0]
    cases x.sound <;> cases pre.any (withinC x) <;> cases s.any (fun y => withinC x y && x != y) <;> rfl
theorem leanP_eq (l : List Cube) : leanP l = leanR [] l := by
  have := leanR_range l []
  rw [← this]
  unfold leanP leanTo
  rw [List.range_eq_range']
  rfl
theorem within_sound {x y : Cube} (h : withinC x y = true) : y.sound = true := by
  unfold withinC at h
  simp only [Bool.and_eq_true] at h
  exact h.1.1.2
theorem any_filter {α : Type} {p q : α → Bool} (h : ∀ x, p x = true → q x = true) (l : List α) : (l.filter q).any p = l.any p := by
  induction l with
  | nil => rfl
  | cons x l ih =>
    rw [List.filter_cons]
    cases hq : q x
    · have : p x = false := by cases hp : p x; rfl; rw [h x hp] at hq; cases hq
      simp [this, ih]
    · simp [ih]
theorem leanR_filter (s : List Cube) : ∀ pre, leanR (pre.filter Cube.sound) (s.filter Cube.sound) = leanR pre s := by
  induction s with
  | nil => intro pre; rfl
  | cons x s ih =>
    intro pre
    have ih := ih (pre ++ [x])
    rw [List.filter_append, List.filter_cons, List.filter_nil] at ih
    rw [List.filter_cons]
    have e1 : (pre.filter Cube.sound).any (withinC x) = pre.any (withinC x) := any_filter (fun y h => within_sound h) pre
    have e2 : (s.filter Cube.sound).any (fun y => withinC x y && x != y) = s.any (fun y => withinC x y && x != y) := any_filter (fun y h => by rw [Bool.and_eq_true] at h; exact within_sound h.1) s
    cases hx : x.sound
    · rw [hx] at ih
      simp only [Bool.false_eq_true, if_false, List.append_nil] at ih ⊢
      rw [ih]
      rw [leanR_cons, hx]; rfl
    · rw [hx] at ih
      simp only [if_true] at ih ⊢
      rw [leanR_cons, leanR_cons, e1, e2, ih]
theorem lean_filter (l : List Cube) : leanP (l.filter Cube.sound) = leanP l := by
  rw [leanP_eq, leanP_eq]
  exact leanR_filter l []
theorem leanR_mem : ∀ (s pre : List Cube), ∀ k ∈ leanR pre s, k ∈ s ∧ k.sound = true
  | [], pre, k, h => by simp [leanR] at h
  | x :: s, pre, k, h => by
    rw [leanR_cons] at h
    split at h
    · rename_i hc
      rcases List.mem_cons.1 h with rfl | h
      · simp only [Bool.and_eq_true] at hc; exact ⟨by simp, hc.1.1⟩
      · obtain ⟨h1, h2⟩ := leanR_mem s _ k h; exact ⟨by simp [h1], h2⟩
    · obtain ⟨h1, h2⟩ := leanR_mem s _ k h; exact ⟨by simp [h1], h2⟩
theorem leanP_mem {l : List Cube} {k : Cube} (h : k ∈ leanP l) : k ∈ l ∧ k.sound = true := by
  rw [leanP_eq] at h; exact leanR_mem l [] k h
theorem txt_inj {a b : Cube} (ha : a.sound = true) (hb : b.sound = true) (h : txt a = txt b) : a = b := by
  have hc : ∀ n, n < 128 → chI a n = chI b n := by
    intro n hn
    have h1 := txt_at a (127 - n) (by omega)
    have h2 := txt_at b (127 - n) (by omega)
    rw [show 127 - (127 - n) = n from by omega] at h1 h2
    rw [← h1, ← h2, h]
  have key : ∀ n, n < 128 → a.c.getLsbD n = b.c.getLsbD n ∧ a.v.getLsbD n = b.v.getLsbD n := by
    intro n hn
    have h1 := hc n hn
    have sa := (sound_iff a).1 ha n hn
    have sb := (sound_iff b).1 hb n hn
    unfold chI at h1
    revert h1 sa sb
    cases a.c.getLsbD n <;> cases b.c.getLsbD n <;> cases a.v.getLsbD n <;> cases b.v.getLsbD n <;> simp
  exact cube_ext (fun j hj => (key j hj).1) (fun j hj => (key j hj).2)
theorem txt_beq {a b : Cube} (ha : a.sound = true) (hb : b.sound = true) : (txt a == txt b) = (a == b) := by
  have e : ((txt a).data == (txt b).data) = (a == b) := by
    rw [Bool.eq_iff_iff, beq_iff_eq, beq_iff_eq]
    exact ⟨fun h => txt_inj ha hb (by cases h1 : txt a; cases h2 : txt b; rw [h1, h2] at h; simp only at h; rw [h]), fun h => by rw [h]⟩
  exact e
end Go.Proofs.Ytfcfhlfehomhpaa
