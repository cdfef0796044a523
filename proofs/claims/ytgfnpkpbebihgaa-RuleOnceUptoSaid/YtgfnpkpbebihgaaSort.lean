/- Sorting that keeps the order of equals: rows as functions of the index. Plain: no program. Conditions: none. -/
import Derived.Test.YtgfnpkpbebihgaaSpec
set_option linter.unusedSimpArgs false
set_option linter.unusedVariables false
namespace Go.Proofs.Ytgfnpkpbebihgaa
open Go.Proofs.Ytgfnpkpbebihgaa.AL
section
variable {α : Type} {key : α → Int}
def seg (x : Nat → α) (a b : Nat) : List α := (List.range' a (b - a)).map x
theorem mem_seg {x : Nat → α} {a b : Nat} {e : α} : e ∈ seg x a b ↔ ∃ k, a ≤ k ∧ k < b ∧ x k = e := by
  unfold seg
  rw [List.mem_map]
  constructor
  · rintro ⟨k, hk, h⟩
    rw [List.mem_range'_1] at hk
    exact ⟨k, hk.1, by omega, h⟩
  · rintro ⟨k, h1, h2, h⟩
    exact ⟨k, List.mem_range'_1.2 ⟨h1, by omega⟩, h⟩
theorem seg_congr {x y : Nat → α} {a b : Nat} (h : ∀ k, a ≤ k → k < b → x k = y k) : seg x a b = seg y a b := by
  unfold seg
  refine List.map_congr_left fun k hk => ?_
  rw [List.mem_range'_1] at hk
  exact h k hk.1 (by omega)
theorem seg_split (x : Nat → α) {a m b : Nat} (h1 : a ≤ m) (h2 : m ≤ b) : seg x a b = seg x a m ++ seg x m b := by
  unfold seg
  rw [← List.map_append]
  congr 1
  have := List.range'_append (s := a) (m := m - a) (n := b - m) (step := 1)
  rw [show a + 1 * (m - a) = m from by omega, show m - a + (b - m) = b - a from by omega] at this
  exact this.symm
theorem seg_length (x : Nat → α) (a b : Nat) : (seg x a b).length = b - a := by simp [seg]
theorem seg_get (x : Nat → α) {a b k : Nat} (h1 : a ≤ k) (h2 : k < b) (z : α) : (seg x a b).getD (k - a) z = x k := by
  unfold seg
  rw [List.getD_eq_getElem?_getD, List.getElem?_map, List.getElem?_range' (by omega)]
  simp; congr 1; omega
theorem seg_shift {x y : Nat → α} {a b c d : Nat} (hl : b - a = d - c) (h : ∀ k, k < b - a → x (a + k) = y (c + k)) : seg x a b = seg y c d := by
  apply List.ext_getElem
  · rw [seg_length, seg_length, hl]
  · intro k h1 h2
    rw [seg_length] at h1
    simp only [seg, List.getElem_map, List.getElem_range', Nat.one_mul]
    exact h k h1
theorem seg_none (x : Nat → α) {a b : Nat} (h : b ≤ a) : seg x a b = [] := by
  unfold seg; rw [show b - a = 0 from by omega]; rfl
/-- y holds from a to b what x holds, equals in their order; elsewhere it is x. -/
structure SE (key : α → Int) (a b : Nat) (x y : Nat → α) : Prop where
  out : ∀ k, ¬ (a ≤ k ∧ k < b) → y k = x k
  fil : ∀ p, (seg y a b).filter (fun e => key e == p) = (seg x a b).filter (fun e => key e == p)
theorem SE.refl (a b : Nat) (x : Nat → α) : SE key a b x x := ⟨fun _ _ => rfl, fun _ => rfl⟩
theorem SE.trans {a b : Nat} {x y z : Nat → α} (h : SE key a b x y) (k : SE key a b y z) : SE key a b x z :=
  ⟨fun i hi => (k.out i hi).trans (h.out i hi), fun p => (k.fil p).trans (h.fil p)⟩
theorem SE.widen {a b a' b' : Nat} {x y : Nat → α} (h : SE key a b x y) (h1 : a' ≤ a) (hab : a ≤ b) (h2 : b ≤ b') : SE key a' b' x y := by
  refine ⟨fun k hk => h.out k (by omega), fun p => ?_⟩
  rw [seg_split y (show a' ≤ b by omega) h2, seg_split y h1 hab, seg_split x (show a' ≤ b by omega) h2, seg_split x h1 hab]
  simp only [List.filter_append]
  rw [h.fil p, seg_congr (x := y) (y := x) (a := a') (b := a) (fun k _ hk => h.out k (by omega)), seg_congr (x := y) (y := x) (a := b) (b := b') (fun k hk _ => h.out k (by omega))]
theorem SE.mem {a b : Nat} {x y : Nat → α} (h : SE key a b x y) {k : Nat} (h1 : a ≤ k) (h2 : k < b) : ∃ k', a ≤ k' ∧ k' < b ∧ y k = x k' := by
  have : y k ∈ (seg y a b).filter (fun e => key e == key (y k)) := List.mem_filter.2 ⟨mem_seg.2 ⟨k, h1, h2, rfl⟩, by simp⟩
  rw [h.fil] at this
  obtain ⟨k', a1, a2, a3⟩ := mem_seg.1 (List.mem_filter.1 this).1
  exact ⟨k', a1, a2, a3.symm⟩
def swap2 (x : Nat → α) (i : Nat) : Nat → α := fun k => if k = i then x (i + 1) else if k = i + 1 then x i else x k
theorem SE.swap {x : Nat → α} {i : Nat} (h : key (x i) ≠ key (x (i + 1))) : SE key i (i + 2) x (swap2 x i) := by
  refine ⟨fun k hk => ?_, fun p => ?_⟩
  · unfold swap2; rw [if_neg (by omega), if_neg (by omega)]
  · have e1 : seg x i (i + 2) = [x i, x (i + 1)] := by
      unfold seg; rw [show i + 2 - i = 2 from by omega]; rfl
    have e2 : seg (swap2 x i) i (i + 2) = [x (i + 1), x i] := by
      unfold seg; rw [show i + 2 - i = 2 from by omega]
      simp [List.range'_succ, swap2]
    rw [e1, e2]
    simp only [List.filter_cons, List.filter_nil]
    by_cases h1 : key (x i) = p
    · have : ¬ key (x (i + 1)) = p := fun e => h (h1.trans e.symm)
      simp [h1, this]
    · simp [h1]
def rot (x : Nat → α) (a m b : Nat) : Nat → α := fun k => if a ≤ k ∧ k < a + (b - m) then x (k - a + m) else if a + (b - m) ≤ k ∧ k < b then x (k - (b - m)) else x k
theorem SE.rot {x : Nat → α} {a m b : Nat} (h1 : a ≤ m) (h2 : m ≤ b) (h : ∀ i j, a ≤ i → i < m → m ≤ j → j < b → key (x i) ≠ key (x j)) : SE key a b x (rot x a m b) := by
  refine ⟨fun k hk => ?_, fun p => ?_⟩
  · unfold Go.Proofs.Ytgfnpkpbebihgaa.rot; rw [if_neg (by omega), if_neg (by omega)]
  · have e1 : seg (Go.Proofs.Ytgfnpkpbebihgaa.rot x a m b) a b = seg x m b ++ seg x a m := by
      rw [seg_split _ (show a ≤ a + (b - m) by omega) (show a + (b - m) ≤ b by omega)]
      congr 1
      · refine seg_shift (by omega) fun k hk => ?_
        unfold Go.Proofs.Ytgfnpkpbebihgaa.rot; rw [if_pos (by omega)]; congr 1; omega
      · refine seg_shift (by omega) fun k hk => ?_
        unfold Go.Proofs.Ytgfnpkpbebihgaa.rot; rw [if_neg (by omega), if_pos (by omega)]; congr 1; omega
    rw [e1, seg_split x h1 h2, List.filter_append, List.filter_append]
    by_cases hp : ∃ i, a ≤ i ∧ i < m ∧ key (x i) = p
    · obtain ⟨i, i1, i2, i3⟩ := hp
      have : (seg x m b).filter (fun e => key e == p) = [] := by
        rw [List.filter_eq_nil_iff]
        intro e he hk
        obtain ⟨j, j1, j2, rfl⟩ := mem_seg.1 he
        exact h i j i1 i2 j1 j2 (i3.trans (beq_iff_eq.1 hk).symm)
      rw [this]; simp
    · have : (seg x a m).filter (fun e => key e == p) = [] := by
        rw [List.filter_eq_nil_iff]
        intro e he hk
        obtain ⟨j, j1, j2, rfl⟩ := mem_seg.1 he
        exact hp ⟨j, j1, j2, beq_iff_eq.1 hk⟩
      rw [this]; simp
def swapR (x : Nat → α) (a b n : Nat) : Nat → α := fun k => if a ≤ k ∧ k < a + n then x (k - a + b) else if b ≤ k ∧ k < b + n then x (k - b + a) else x k
theorem swapR_zero (x : Nat → α) (a b : Nat) : swapR x a b 0 = x := by
  funext k; unfold swapR; rw [if_neg (by omega), if_neg (by omega)]
theorem swapR_at (x : Nat → α) {a b i : Nat} (h : a + i < b) : swapR x a b i (b + i) = x (b + i) ∧ swapR x a b i (a + i) = x (a + i) := by
  unfold swapR
  constructor
  · rw [if_neg (by omega), if_neg (by omega)]
  · rw [if_neg (by omega), if_neg (by omega)]
theorem swapR_succ (x : Nat → α) {a b i k : Nat} (h : a + i < b) : (if k = b + i then x (a + i) else if k = a + i then x (b + i) else swapR x a b i k) = swapR x a b (i + 1) k := by
  unfold swapR
  by_cases h1 : k = b + i
  · rw [if_pos h1, if_neg (by omega), if_pos (by omega)]; congr 1; omega
  · rw [if_neg h1]
    by_cases h2 : k = a + i
    · rw [if_pos h2, if_pos (by omega)]; congr 1; omega
    · rw [if_neg h2]
      by_cases h3 : a ≤ k ∧ k < a + i
      · rw [if_pos h3, if_pos (by omega)]
      · rw [if_neg h3, if_neg (show ¬ (a ≤ k ∧ k < a + (i + 1)) by omega)]
        by_cases h4 : b ≤ k ∧ k < b + i
        · rw [if_pos h4, if_pos (by omega)]
        · rw [if_neg h4, if_neg (by omega)]
theorem rot_left (y : Nat → α) {m i j : Nat} (hj : 0 < j) (hij : j < i) (hm : i ≤ m) : rot (swapR y (m - i) m j) (m - (i - j)) m (m + j) = rot y (m - i) m (m + j) := by
  funext k
  unfold rot swapR
  by_cases c1 : m - i ≤ k ∧ k < m - i + j
  · rw [if_neg (by omega), if_neg (by omega), if_pos (by omega), if_pos (by omega)]
  · by_cases c2 : m - (i - j) ≤ k ∧ k < m - (i - j) + j
    · rw [if_pos (by omega), if_neg (by omega), if_pos (by omega), if_neg (by omega), if_pos (by omega)]; congr 1; omega
    · by_cases c3 : m - (i - j) + j ≤ k ∧ k < m + j
      · rw [if_neg (by omega), if_pos (by omega), if_neg (by omega), if_neg (by omega), if_neg (by omega), if_pos (by omega)]
      · rw [if_neg (by omega), if_neg (by omega), if_neg (by omega), if_neg (by omega), if_neg (by omega), if_neg (by omega)]
theorem rot_right (y : Nat → α) {m i j : Nat} (hi : 0 < i) (hij : i < j) (hm : i ≤ m) : rot (swapR y (m - i) (m + j - i) i) (m - i) m (m + (j - i)) = rot y (m - i) m (m + j) := by
  funext k
  unfold rot swapR
  by_cases c1 : m - i ≤ k ∧ k < m - i + (j - i)
  · rw [if_pos (by omega), if_neg (by omega), if_neg (by omega), if_pos (by omega)]
  · by_cases c2 : m - i + (j - i) ≤ k ∧ k < m + (j - i)
    · rw [if_neg (by omega), if_pos (by omega), if_pos (by omega), if_pos (by omega)]; congr 1; omega
    · by_cases c3 : m + (j - i) ≤ k ∧ k < m + j
      · rw [if_neg (by omega), if_neg (by omega), if_neg (by omega), if_pos (by omega), if_neg (by omega), if_pos (by omega)]; congr 1; omega
      · rw [if_neg (by omega), if_neg (by omega), if_neg (by omega), if_neg (by omega), if_neg (by omega), if_neg (by omega)]
theorem rot_same (y : Nat → α) {m i : Nat} (hm : i ≤ m) : swapR y (m - i) m i = rot y (m - i) m (m + i) := by
  funext k
  unfold rot swapR
  by_cases c1 : m - i ≤ k ∧ k < m - i + i
  · rw [if_pos (by omega), if_pos (by omega)]
  · by_cases c2 : m ≤ k ∧ k < m + i
    · rw [if_neg (by omega), if_pos (by omega), if_neg (by omega), if_pos (by omega)]; congr 1; omega
    · rw [if_neg (by omega), if_neg (by omega), if_neg (by omega), if_neg (by omega)]
theorem rot_none (y : Nat → α) {a m b : Nat} (h1 : a ≤ m) (h2 : m ≤ b) (h : a = m ∨ m = b) : rot y a m b = y := by
  funext k
  unfold rot
  by_cases c1 : a ≤ k ∧ k < a + (b - m)
  · rw [if_pos c1]; congr 1; omega
  · rw [if_neg c1]
    by_cases c2 : a + (b - m) ≤ k ∧ k < b
    · rw [if_pos c2]; congr 1; omega
    · rw [if_neg c2]
/-! ### sorted -/
def Srt (key : α → Int) (a b : Nat) (x : Nat → α) : Prop := ∀ i j, a ≤ i → i < j → j < b → key (x i) ≤ key (x j)
theorem Srt.le {a b : Nat} {x : Nat → α} (h : Srt key a b x) {i j : Nat} (h1 : a ≤ i) (h2 : i ≤ j) (h3 : j < b) : key (x i) ≤ key (x j) := by
  rcases Nat.lt_or_eq_of_le h2 with hlt | rfl
  · exact h i j h1 hlt h3
  · exact Int.le_refl _
theorem filter_unique : ∀ {l l' : List α}, l.Pairwise (fun a b => key a ≤ key b) → l'.Pairwise (fun a b => key a ≤ key b) → (∀ p, l.filter (fun e => key e == p) = l'.filter (fun e => key e == p)) → l = l'
  | [], [], _, _, _ => rfl
  | [], e :: t, _, _, h => by have := h (key e); simp at this
  | e :: t, [], _, _, h => by have := h (key e); simp at this
  | e :: t, e' :: t', h1, h2, h => by
    have hle : ∀ {e e' : α} {t t' : List α}, (e' :: t').Pairwise (fun a b => key a ≤ key b) → (∀ p, (e :: t).filter (fun e => key e == p) = (e' :: t').filter (fun e => key e == p)) → key e' ≤ key e := by
      intro e e' t t' h2 h
      have hm : e ∈ (e :: t).filter (fun x => key x == key e) := List.mem_filter.2 ⟨by simp, by simp⟩
      rw [h] at hm
      rcases List.mem_cons.1 (List.mem_filter.1 hm).1 with rfl | hm
      · exact Int.le_refl _
      · exact (List.pairwise_cons.1 h2).1 e hm
    have hk : key e = key e' := Int.le_antisymm (hle h1 fun p => (h p).symm) (hle h2 h)
    have he : e = e' := by
      have := h (key e)
      rw [List.filter_cons, List.filter_cons, if_pos (by simp), if_pos (by simp [hk])] at this
      exact (List.cons.inj this).1
    subst he
    congr 1
    refine filter_unique (List.pairwise_cons.1 h1).2 (List.pairwise_cons.1 h2).2 fun p => ?_
    have := h p
    rw [List.filter_cons, List.filter_cons] at this
    split at this
    · exact (List.cons.inj this).2
    · exact this
def ins (key : α → Int) (e : α) : List α → List α
  | [] => [e]
  | y :: t => if key e ≤ key y then e :: y :: t else y :: ins key e t
def isort (key : α → Int) : List α → List α
  | [] => []
  | e :: t => ins key e (isort key t)
theorem ins_filter (e : α) (p : Int) : ∀ l : List α, (ins key e l).filter (fun x => key x == p) = (e :: l).filter (fun x => key x == p)
  | [] => rfl
  | y :: t => by
    unfold ins
    split
    · rfl
    · rename_i h
      have ih := ins_filter e p t
      rw [List.filter_cons] at ih
      rw [List.filter_cons, ih, List.filter_cons, List.filter_cons]
      by_cases h1 : key y = p
      · have : ¬ key e = p := by omega
        simp [h1, this]
      · simp [h1]
theorem ins_mem {e x : α} : ∀ {l : List α}, x ∈ ins key e l → x = e ∨ x ∈ l
  | [], h => by simp [ins] at h; exact .inl h
  | y :: t, h => by
    unfold ins at h
    split at h
    · simpa using h
    · rcases List.mem_cons.1 h with rfl | h
      · exact .inr (by simp)
      · rcases ins_mem h with h | h
        · exact .inl h
        · exact .inr (by simp [h])
theorem ins_sorted (e : α) : ∀ {l : List α}, l.Pairwise (fun a b => key a ≤ key b) → (ins key e l).Pairwise (fun a b => key a ≤ key b)
  | [], _ => by simp [ins]
  | y :: t, h => by
    unfold ins
    have ⟨h1, h2⟩ := List.pairwise_cons.1 h
    split
    · rename_i hle
      refine List.pairwise_cons.2 ⟨fun x hx => ?_, h⟩
      rcases List.mem_cons.1 hx with rfl | hx
      · exact hle
      · exact Int.le_trans hle (h1 x hx)
    · rename_i hlt
      refine List.pairwise_cons.2 ⟨fun x hx => ?_, ins_sorted e h2⟩
      rcases ins_mem hx with rfl | hx
      · omega
      · exact h1 x hx
theorem isort_filter (p : Int) : ∀ l : List α, (isort key l).filter (fun x => key x == p) = l.filter (fun x => key x == p)
  | [] => rfl
  | e :: t => by
    show (ins key e (isort key t)).filter _ = _
    rw [ins_filter, List.filter_cons, isort_filter p t, List.filter_cons]
theorem isort_sorted : ∀ l : List α, (isort key l).Pairwise (fun a b => key a ≤ key b)
  | [] => List.Pairwise.nil
  | e :: t => ins_sorted e (isort_sorted t)
theorem ins_length (e : α) : ∀ l : List α, (ins key e l).length = l.length + 1
  | [] => rfl
  | y :: t => by
    unfold ins
    split
    · rfl
    · simp [ins_length e t]
theorem isort_length : ∀ l : List α, (isort key l).length = l.length
  | [] => rfl
  | e :: t => by show (ins key e (isort key t)).length = _; rw [ins_length, isort_length t]; rfl
/-- sorted from a to b -/
def stab (key : α → Int) (a b : Nat) (x : Nat → α) : Nat → α := fun k => if a ≤ k ∧ k < b then (isort key (seg x a b)).getD (k - a) (x k) else x k
theorem seg_pairwise {a b : Nat} {x : Nat → α} (h : Srt key a b x) : (seg x a b).Pairwise (fun a b => key a ≤ key b) := by
  unfold seg
  rw [List.pairwise_map]
  refine List.Pairwise.imp_of_mem ?_ (List.pairwise_lt_range' (s := a) (n := b - a) (step := 1))
  intro i j hi hj hlt
  rw [List.mem_range'_1] at hi hj
  exact h i j hi.1 hlt (by omega)
theorem stab_eq {a b : Nat} {x y : Nat → α} (h : SE key a b x y) (hs : Srt key a b y) (k : Nat) : y k = stab key a b x k := by
  unfold stab
  split
  · rename_i hk
    have e : seg y a b = isort key (seg x a b) := filter_unique (seg_pairwise hs) (isort_sorted _) fun p => by rw [h.fil, isort_filter]
    rw [← e, seg_get y hk.1 hk.2]
  · rename_i hk
    exact h.out k hk
theorem stab_seg (a b : Nat) (x : Nat → α) : seg (stab key a b x) a b = isort key (seg x a b) := by
  apply List.ext_getElem
  · rw [seg_length, isort_length, seg_length]
  · intro k h1 h2
    rw [seg_length] at h1
    simp only [seg, List.getElem_map, List.getElem_range', Nat.one_mul]
    unfold stab
    rw [if_pos (by omega), show a + k - a = k from by omega, List.getD_eq_getElem?_getD, List.getElem?_eq_getElem h2]
    rfl
theorem stab_se (a b : Nat) (x : Nat → α) : SE key a b x (stab key a b x) :=
  ⟨fun k hk => by unfold stab; rw [if_neg hk], fun p => by rw [stab_seg, isort_filter]⟩
theorem stab_srt (a b : Nat) (x : Nat → α) : Srt key a b (stab key a b x) := by
  intro i j h1 h2 h3
  have hp := isort_sorted (key := key) (seg x a b)
  rw [← stab_seg] at hp
  have := List.pairwise_iff_getElem.1 hp (i - a) (j - a) (by rw [seg_length]; omega) (by rw [seg_length]; omega) (by omega)
  have g : ∀ k (hk : k - a < (seg (stab key a b x) a b).length), a ≤ k → k < b → (seg (stab key a b x) a b)[k - a] = stab key a b x k := by
    intro k hk k1 k2
    have := seg_get (stab key a b x) k1 k2 (stab key a b x k)
    rw [List.getD_eq_getElem?_getD, List.getElem?_eq_getElem hk] at this
    exact this
  rw [g i _ h1 (by omega), g j _ (by omega) h3] at this
  exact this
/-! ### insertion -/
/-- Below i all is sorted but for what stands at j, which is less than all behind it. -/
structure InsAt (key : α → Int) (a i j : Nat) (y : Nat → α) : Prop where
  left : ∀ p q, a ≤ p → p < q → q ≤ i → p ≠ j → q ≠ j → key (y p) ≤ key (y q)
  right : ∀ q, j < q → q ≤ i → key (y j) < key (y q)
theorem InsAt.start {a i : Nat} {y : Nat → α} (h : Srt key a i y) : InsAt key a i i y :=
  ⟨fun p q h1 h2 h3 _ h5 => h p q h1 h2 (by omega), fun q h1 h2 => by omega⟩
theorem InsAt.step {a i j : Nat} {y : Nat → α} (h : InsAt key a i (j + 1) y) (ha : a ≤ j) (hi : j + 1 ≤ i) (hc : key (y (j + 1)) < key (y j)) : InsAt key a i j (swap2 y j) := by
  have g : ∀ k, swap2 y j k = if k = j then y (j + 1) else if k = j + 1 then y j else y k := fun _ => rfl
  refine ⟨fun p q h1 h2 h3 h4 h5 => ?_, fun q h1 h2 => ?_⟩
  · rw [g p, g q, if_neg h4, if_neg h5]
    by_cases hp : p = j + 1
    · rw [if_pos hp, if_neg (by omega)]
      exact h.left j q (by omega) (by omega) h3 (by omega) (by omega)
    · rw [if_neg hp]
      by_cases hq : q = j + 1
      · rw [if_pos hq]
        exact h.left p j h1 (by omega) (by omega) (by omega) (by omega)
      · rw [if_neg hq]
        exact h.left p q h1 h2 h3 hp hq
  · rw [g j, g q, if_pos rfl, if_neg (by omega)]
    by_cases hq : q = j + 1
    · rw [if_pos hq]; exact hc
    · rw [if_neg hq]; exact h.right q (by omega) h2
theorem InsAt.done {a i j : Nat} {y : Nat → α} (h : InsAt key a i j y) (hj : j ≤ i) (hc : j ≤ a ∨ key (y (j - 1)) ≤ key (y j)) : Srt key a (i + 1) y := by
  intro p q h1 h2 h3
  by_cases hp : p = j
  · subst hp; exact Int.le_of_lt (h.right q h2 (by omega))
  · by_cases hq : q = j
    · subst hq
      rcases hc with hc | hc
      · omega
      · by_cases hpj : p = q - 1
        · rw [hpj]; exact hc
        · exact Int.le_trans (h.left p (q - 1) h1 (by omega) (by omega) (by omega) (by omega)) hc
    · exact h.left p q h1 h2 (by omega) hp hq
/-! ### blocks -/
def BS (key : α → Int) (c lo hi : Nat) (x : Nat → α) : Prop := ∀ i j, lo ≤ i → i < j → j < hi → i / c = j / c → key (x i) ≤ key (x j)
theorem div_same {a c i j : Nat} (hc : 0 < c) (h : a % c = 0) (i1 : a ≤ i) (i2 : i < a + c) (j1 : a ≤ j) (j2 : j < a + c) : i / c = j / c := by
  obtain ⟨q, rfl⟩ := Nat.dvd_of_mod_eq_zero h
  have key : ∀ k, c * q ≤ k → k < c * q + c → k / c = q := by
    intro k k1 k2
    refine Nat.div_eq_of_lt_le ?_ ?_
    · rw [Nat.mul_comm]; exact k1
    · rw [Nat.add_mul, Nat.one_mul, Nat.mul_comm]; exact k2
  rw [key i i1 i2, key j j1 j2]
theorem div_apart {a c i j : Nat} (hc : 0 < c) (h : a % c = 0) (h1 : i < a) (h2 : a ≤ j) : i / c ≠ j / c := by
  obtain ⟨q, rfl⟩ := Nat.dvd_of_mod_eq_zero h
  have e1 : i / c < q := (Nat.div_lt_iff_lt_mul hc).2 (by rw [Nat.mul_comm]; exact h1)
  have e2 : q ≤ j / c := (Nat.le_div_iff_mul_le hc).2 (by rw [Nat.mul_comm]; exact h2)
  omega
theorem BS.srt {a b c lo hi : Nat} {x : Nat → α} (h : BS key c lo hi x) (hc : 0 < c) (ha : a % c = 0) (h1 : lo ≤ a) (h2 : b ≤ hi) (h3 : b ≤ a + c) : Srt key a b x :=
  fun i j i1 i2 i3 => h i j (by omega) i2 (by omega) (div_same hc ha i1 (by omega) (by omega) (by omega))
/-- One block more is sorted. -/
theorem BS.more {a b c : Nat} {x y : Nat → α} (h : BS key c 0 a x) (hc : 0 < c) (ha : a % c = 0) (hb : b ≤ a + c) (hy : ∀ k, k < a → y k = x k) (hs : Srt key a b y) : BS key c 0 b y := by
  intro i j _ h2 h3 h4
  by_cases hi : a ≤ i
  · exact hs i j hi h2 h3
  · by_cases hj : j < a
    · rw [hy i (by omega), hy j hj]; exact h i j (by omega) h2 hj h4
    · exact absurd h4 (div_apart hc ha (by omega) (by omega))
theorem BS.drop {c lo lo' hi hi' : Nat} {x y : Nat → α} (h : BS key c lo hi x) (h1 : lo ≤ lo') (h2 : hi' ≤ hi) (hy : ∀ k, lo' ≤ k → k < hi' → y k = x k) : BS key c lo' hi' y := by
  intro i j i1 i2 i3 i4
  rw [hy i i1 (by omega), hy j (by omega) i3]
  exact h i j (by omega) i2 (by omega) i4
theorem BS.end {n c : Nat} {x : Nat → α} (h : BS key c 0 n x) (hc : n ≤ c) : Srt key 0 n x := by
  intro i j _ h2 h3
  refine h i j (Nat.zero_le _) h2 h3 ?_
  rw [Nat.div_eq_of_lt (by omega), Nat.div_eq_of_lt (by omega)]
/-! ### two sorted runs made one -/
/-- The parts of both runs behind the change of places. -/
theorem merge_parts {a m b mid start n : Nat} {x : Nat → α} (ham : a < m) (hmb : m < b) (hmid : mid = (a + b) / 2) (hn : n = mid + m) (sl : Srt key a m x) (sr : Srt key m b x) (s1 : (if m > mid then n - b else a) ≤ start) (s2 : start ≤ (if m > mid then mid else m))
    (lo : ∀ c, (if m > mid then n - b else a) ≤ c → c < start → key (x c) ≤ key (x (n - 1 - c))) (hi : ∀ c, start ≤ c → c < (if m > mid then mid else m) → key (x (n - 1 - c)) < key (x c)) :
    a ≤ start ∧ start ≤ m ∧ m ≤ n - start ∧ n - start ≤ b ∧ start ≤ mid ∧ mid ≤ n - start ∧ SE key start (n - start) x (rot x start m (n - start)) ∧
      Srt key a start (rot x start m (n - start)) ∧ Srt key start mid (rot x start m (n - start)) ∧ Srt key mid (n - start) (rot x start m (n - start)) ∧ Srt key (n - start) b (rot x start m (n - start)) ∧
      (∀ p q, a ≤ p → p < mid → mid ≤ q → q < b → key (rot x start m (n - start) p) ≤ key (rot x start m (n - start) q)) := by
  have f1 : a ≤ start ∧ start ≤ m ∧ m ≤ n - start ∧ n - start ≤ b ∧ start ≤ mid ∧ mid ≤ n - start ∧ start + (n - start - m) = mid := by
    split at s1 <;> rename_i h <;> simp only [h, if_true, if_false] at s2 <;> omega
  obtain ⟨g1, g2, g3, g4, g5, g6, g7⟩ := f1
  have cross : ∀ i j, start ≤ i → i < m → m ≤ j → j < n - start → key (x j) < key (x i) := by
    intro i j i1 i2 j1 j2
    have hs : start < (if m > mid then mid else m) := by
      split <;> omega
    have := hi start (Nat.le_refl _) hs
    have a1 := sr.le j1 (show j ≤ n - 1 - start by omega) (by omega)
    have a2 := sl.le g1 i1 i2
    omega
  have cross2 : ∀ i j, a ≤ i → i < start → n - start ≤ j → j < b → key (x i) ≤ key (x j) := by
    intro i j i1 i2 j1 j2
    have hs : (if m > mid then n - b else a) ≤ start - 1 := by
      split <;> omega
    have := lo (start - 1) hs (by omega)
    have a1 := sl.le i1 (show i ≤ start - 1 by omega) (by omega)
    have a2 := sr.le g3 j1 j2
    rw [show n - 1 - (start - 1) = n - start from by omega] at this
    omega
  have r0 : ∀ k, k < start → rot x start m (n - start) k = x k := fun k hk => by unfold rot; rw [if_neg (by omega), if_neg (by omega)]
  have r1 : ∀ k, start ≤ k → k < mid → rot x start m (n - start) k = x (k - start + m) := fun k h1 h2 => by unfold rot; rw [if_pos (by omega)]
  have r2 : ∀ k, mid ≤ k → k < n - start → rot x start m (n - start) k = x (k - (n - start - m)) := fun k h1 h2 => by unfold rot; rw [if_neg (by omega), if_pos (by omega)]
  have r3 : ∀ k, n - start ≤ k → rot x start m (n - start) k = x k := fun k hk => by unfold rot; rw [if_neg (by omega), if_neg (by omega)]
  refine ⟨g1, g2, g3, g4, g5, g6, SE.rot g2 g3 (fun i j i1 i2 j1 j2 => ?_), fun i j i1 i2 i3 => ?_, fun i j i1 i2 i3 => ?_, fun i j i1 i2 i3 => ?_, fun i j i1 i2 i3 => ?_, fun p q p1 p2 q1 q2 => ?_⟩
  · have := cross i j i1 i2 j1 j2; omega
  · rw [r0 i (by omega), r0 j i3]; exact sl i j i1 i2 (by omega)
  · rw [r1 i i1 (by omega), r1 j (by omega) i3]; exact sr _ _ (by omega) (by omega) (by omega)
  · rw [r2 i i1 (by omega), r2 j (by omega) i3]; exact sl _ _ (by omega) (by omega) (by omega)
  · rw [r3 i i1, r3 j (by omega)]; exact sr i j (by omega) i2 i3
  · by_cases hp : p < start
    · rw [r0 p hp]
      by_cases hq : q < n - start
      · rw [r2 q q1 hq]; exact sl.le p1 (by omega) (by omega)
      · rw [r3 q (by omega)]; exact cross2 p q p1 hp (by omega) q2
    · rw [r1 p (by omega) p2]
      by_cases hq : q < n - start
      · rw [r2 q q1 hq]; exact Int.le_of_lt (cross _ _ (by omega) (by omega) (by omega) (by omega))
      · rw [r3 q (by omega)]; exact sr.le (by omega) (by omega) q2
/-- Both halves sorted, and all of the first no greater than all of the second. -/
theorem merge_halves {a mid b : Nat} {y z : Nat → α} (h1 : a ≤ mid) (h2 : mid ≤ b) (hz : SE key a mid y z) (hz' : Srt key a mid z) (hc : ∀ p q, a ≤ p → p < mid → mid ≤ q → q < b → key (y p) ≤ key (y q)) {u : Nat → α} (hu : SE key mid b z u) (hu' : Srt key mid b u) :
    SE key a b y u ∧ Srt key a b u := by
  refine ⟨(hz.widen (Nat.le_refl _) h1 h2).trans (hu.widen h1 h2 (Nat.le_refl _)), fun i j i1 i2 i3 => ?_⟩
  by_cases hj : j < mid
  · rw [hu.out i (by omega), hu.out j (by omega)]; exact hz' i j i1 i2 hj
  · by_cases hi : mid ≤ i
    · exact hu' i j hi i2 i3
    · rw [hu.out i (by omega)]
      obtain ⟨i', a1, a2, a3⟩ := hz.mem i1 (by omega : i < mid)
      obtain ⟨j', b1, b2, b3⟩ := hu.mem (by omega : mid ≤ j) i3
      rw [a3, b3, hz.out j' (by omega)]
      exact hc i' j' a1 a2 b1 b2
/-- The first of x from a to b is moved up to k. -/
def moveUp (x : Nat → α) (a k : Nat) : Nat → α := fun q => if a ≤ q ∧ q < k then x (q + 1) else if q = k then x a else x q
theorem moveUp_zero (x : Nat → α) (a : Nat) : moveUp x a a = x := by
  funext q; unfold moveUp; rw [if_neg (by omega)]; split
  · rename_i h; rw [h]
  · rfl
theorem moveUp_at (x : Nat → α) (a k : Nat) : moveUp x a k k = x a ∧ moveUp x a k (k + 1) = x (k + 1) := by
  unfold moveUp; constructor
  · rw [if_neg (by omega), if_pos rfl]
  · rw [if_neg (by omega), if_neg (by omega)]
theorem moveUp_succ (x : Nat → α) {a k : Nat} (h : a ≤ k) (q : Nat) : swap2 (moveUp x a k) k q = moveUp x a (k + 1) q := by
  unfold swap2
  by_cases h1 : q = k
  · rw [if_pos h1, (moveUp_at x a k).2]
    unfold moveUp; rw [if_pos (by omega), h1]
  · rw [if_neg h1]
    by_cases h2 : q = k + 1
    · rw [if_pos h2, (moveUp_at x a k).1]
      unfold moveUp; rw [if_neg (by omega), if_pos h2]
    · rw [if_neg h2]
      unfold moveUp
      by_cases h3 : a ≤ q ∧ q < k
      · rw [if_pos h3, if_pos (by omega)]
      · rw [if_neg h3, if_neg h1, if_neg (show ¬ (a ≤ q ∧ q < k + 1) by omega), if_neg h2]
/-- The last of x, at m, is moved down to k. -/
def moveDown (x : Nat → α) (m k : Nat) : Nat → α := fun q => if k < q ∧ q ≤ m then x (q - 1) else if q = k then x m else x q
theorem moveDown_zero (x : Nat → α) (m : Nat) : moveDown x m m = x := by
  funext q; unfold moveDown; rw [if_neg (by omega)]; split
  · rename_i h; rw [h]
  · rfl
theorem moveDown_at (x : Nat → α) {m k : Nat} (h : k < m) : moveDown x m (k + 1) (k + 1) = x m ∧ moveDown x m (k + 1) k = x k := by
  unfold moveDown; constructor
  · rw [if_neg (by omega), if_pos rfl]
  · rw [if_neg (by omega), if_neg (by omega)]
theorem moveDown_succ (x : Nat → α) {m k : Nat} (h : k < m) (q : Nat) : swap2 (moveDown x m (k + 1)) k q = moveDown x m k q := by
  unfold swap2
  by_cases h1 : q = k
  · rw [if_pos h1, (moveDown_at x h).1]
    unfold moveDown; rw [if_neg (by omega), if_pos h1]
  · rw [if_neg h1]
    by_cases h2 : q = k + 1
    · rw [if_pos h2, (moveDown_at x h).2]
      unfold moveDown; rw [if_pos (by omega)]; congr 1; omega
    · rw [if_neg h2]
      unfold moveDown
      by_cases h3 : k + 1 < q ∧ q ≤ m
      · rw [if_pos h3, if_pos (by omega)]
      · rw [if_neg h3, if_neg h2, if_neg (show ¬ (k < q ∧ q ≤ m) by omega), if_neg h1]
theorem srt_up {a i b : Nat} {x : Nat → α} (h1 : a < i) (h2 : i ≤ b) (sr : Srt key (a + 1) b x) (lo : ∀ k, a + 1 ≤ k → k < i → key (x k) < key (x a)) (hi : ∀ k, i ≤ k → k < b → key (x a) ≤ key (x k)) : Srt key a b (moveUp x a (i - 1)) := by
  intro p q p1 p2 q2
  unfold moveUp
  by_cases c1 : a ≤ p ∧ p < i - 1
  · rw [if_pos c1]
    by_cases c2 : a ≤ q ∧ q < i - 1
    · rw [if_pos c2]; exact sr _ _ (by omega) (by omega) (by omega)
    · rw [if_neg c2]
      by_cases c3 : q = i - 1
      · rw [if_pos c3]; exact Int.le_of_lt (lo _ (by omega) (by omega))
      · rw [if_neg c3]; exact sr _ _ (by omega) (by omega) q2
  · rw [if_neg c1]
    by_cases c3 : p = i - 1
    · rw [if_pos c3, if_neg (by omega), if_neg (by omega)]; exact hi q (by omega) q2
    · rw [if_neg c3, if_neg (by omega), if_neg (by omega)]; exact sr p q (by omega) p2 q2
theorem srt_down {a i m : Nat} {x : Nat → α} (h1 : a ≤ i) (h2 : i ≤ m) (sl : Srt key a m x) (lo : ∀ k, a ≤ k → k < i → key (x k) ≤ key (x m)) (hi : ∀ k, i ≤ k → k < m → key (x m) < key (x k)) : Srt key a (m + 1) (moveDown x m i) := by
  intro p q p1 p2 q2
  unfold moveDown
  by_cases c1 : i < p ∧ p ≤ m
  · rw [if_pos c1, if_pos (by omega)]; exact sl _ _ (by omega) (by omega) (by omega)
  · rw [if_neg c1]
    by_cases c3 : p = i
    · rw [if_pos c3, if_pos (by omega)]; exact Int.le_of_lt (hi _ (by omega) (by omega))
    · rw [if_neg c3]
      by_cases c2 : i < q ∧ q ≤ m
      · rw [if_pos c2]; exact sl _ _ p1 (by omega) (by omega)
      · rw [if_neg c2]
        by_cases c4 : q = i
        · rw [if_pos c4]; exact lo p p1 (by omega)
        · rw [if_neg c4]; exact sl p q p1 p2 (by omega)
end
end Go.Proofs.Ytgfnpkpbebihgaa
