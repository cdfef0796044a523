/- Cubes: what is left of one without another, bit by bit. Plain: no program. Conditions: none. -/
import Derived.Test.YtfcfhlfehomhpaaRef4
set_option linter.unusedSimpArgs false
set_option linter.unusedVariables false
namespace Go.Proofs.Ytfcfhlfehomhpaa
open Go.Proofs.Ytfcfhlfehomhpaa.AL
theorem lessGo_len (b : Cube) (more : BitVec 128) : ∀ (n : Nat) (r : Cube), (lessGo b more n r).length ≤ n
  | 0, r => by simp [lessGo]
  | n + 1, r => by
    rw [lessGo_succ]
    split
    · have := lessGo_len b more n (plus r b n); simp; omega
    · have := lessGo_len b more n r; omega
theorem lessL_len (a b : Cube) : (lessL a b).length ≤ 128 := by
  unfold lessL
  split
  · split
    · exact lessGo_len _ _ _ _
    · simp
  · simp
theorem plus_sound {r b : Cube} {n : Nat} (hn : n < 128) (hr : r.sound = true) : (plus r b n).sound = true := by
  refine (sound_iff _).2 fun i hi hv => ?_
  rw [plus_v hn hi] at hv
  rw [plus_c hn hi]
  cases h : r.v.getLsbD i
  · rw [h] at hv; simp at hv; simp [hv.2]
  · rw [(sound_iff r).1 hr i hi h]; rfl
theorem other_sound {r b : Cube} {n : Nat} (hn : n < 128) (hr : r.sound = true) : (other r b n).sound = true := by
  refine (sound_iff _).2 fun i hi hv => ?_
  rw [other_v hn hi] at hv
  rw [other_c hn hi]
  by_cases h : i = n
  · simp [h]
  · simp only [h, decide_false, Bool.and_false, Bool.or_false, Bool.xor_false] at hv ⊢
    exact (sound_iff r).1 hr i hi hv
/-- each part says what r says, and is sound -/
theorem lessGo_mem (b : Cube) (more : BitVec 128) : ∀ (n : Nat) (r : Cube), n ≤ 128 → r.sound = true → (∀ j, j < n → more.getLsbD j = true → r.c.getLsbD j = false) → ∀ k ∈ lessGo b more n r, k.sound = true ∧ ∀ j, j < 128 → r.c.getLsbD j = true → k.c.getLsbD j = true ∧ k.v.getLsbD j = r.v.getLsbD j
  | 0, r, _, _, _, k, hk => by simp [lessGo] at hk
  | n + 1, r, hn, hr, hm, k, hk => by
    rw [lessGo_succ] at hk
    have pc : ∀ j, j < 128 → r.c.getLsbD j = true → more.getLsbD n = true → j ≠ n := fun j hj hc hmn e => by subst e; rw [hm j (by omega) hmn] at hc; cases hc
    split at hk
    · rename_i hmn
      rcases List.mem_cons.1 hk with rfl | hk
      · refine ⟨other_sound (by omega) hr, fun j hj hc => ?_⟩
        have hne := pc j hj hc hmn
        rw [other_c (by omega) hj, other_v (by omega) hj, hc]
        simp [hne]
      · obtain ⟨h1, h2⟩ := lessGo_mem b more n (plus r b n) (by omega) (plus_sound (by omega) hr) (fun j hj hmj => by rw [plus_c (by omega) (by omega), hm j (by omega) hmj]; simp; omega) k hk
        refine ⟨h1, fun j hj hc => ?_⟩
        have hne := pc j hj hc hmn
        obtain ⟨h3, h4⟩ := h2 j hj (by rw [plus_c (by omega) hj, hc]; rfl)
        refine ⟨h3, ?_⟩
        rw [h4, plus_v (by omega) hj]
        simp [hne]
    · exact lessGo_mem b more n r (by omega) hr (fun j hj => hm j (by omega)) k hk
theorem more_free (a b : Cube) (j : Nat) (hj : j < 128) (h : (b.c &&& ~~~a.c).getLsbD j = true) : a.c.getLsbD j = false := by
  rw [BitVec.getLsbD_and, BitVec.getLsbD_not, decide_eq_true hj, Bool.true_and] at h
  cases hc : a.c.getLsbD j
  · rfl
  · rw [hc] at h; simp at h
theorem lessL_mem {a b : Cube} (ha : a.sound = true) {k : Cube} (hk : k ∈ lessL a b) : k.sound = true ∧ ∀ j, j < 128 → a.c.getLsbD j = true → k.c.getLsbD j = true ∧ k.v.getLsbD j = a.v.getLsbD j := by
  unfold lessL at hk
  split at hk
  · split at hk
    · exact lessGo_mem b _ 128 a (Nat.le_refl _) ha (fun j hj h => more_free a b j hj h) k hk
    · simp at hk; subst hk; exact ⟨ha, fun j hj hc => ⟨hc, rfl⟩⟩
  · simp at hk
theorem within_iff {a b : Cube} (ha : a.sound = true) (hb : b.sound = true) : withinC a b = true ↔ ∀ i, i < 128 → b.c.getLsbD i = true → a.c.getLsbD i = true ∧ a.v.getLsbD i = b.v.getLsbD i := by
  rw [← withinT_iff]; unfold withinC withinT; rw [ha, hb]; rfl
theorem lessL_within {a b : Cube} (ha : a.sound = true) {k : Cube} (hk : k ∈ lessL a b) : withinC k a = true := by
  obtain ⟨h1, h2⟩ := lessL_mem ha hk
  exact (within_iff h1 ha).2 h2
theorem has_iff {k : Cube} (hk : k.sound = true) (h : BitVec 128) : hasC k h = true ↔ ∀ i, i < 128 → k.c.getLsbD i = true → h.getLsbD i = k.v.getLsbD i := by
  unfold hasC
  rw [hk, Bool.true_and, beq_iff_eq]
  constructor
  · intro e i hi hc
    have := congrArg (fun z => z.getLsbD i) e
    simpa [hc] using this
  · intro e
    apply BitVec.eq_of_getLsbD_eq
    intro i hi
    rw [BitVec.getLsbD_and]
    cases hc : k.c.getLsbD i
    · cases hv : k.v.getLsbD i
      · simp
      · rw [(sound_iff k).1 hk i hi hv] at hc; cases hc
    · rw [e i hi hc, Bool.and_true]
theorem bool_iff {x y : Bool} (h : x = true ↔ y = true) : x = y := by cases x <;> cases y <;> simp at h <;> rfl
theorem has_plus {r b : Cube} {n : Nat} (hn : n < 128) (hr : r.sound = true) (hc : r.c.getLsbD n = false) (h : BitVec 128) : hasC (plus r b n) h = (hasC r h && (h.getLsbD n == b.v.getLsbD n)) := by
  have hv : r.v.getLsbD n = false := by
    cases hv : r.v.getLsbD n
    · rfl
    · rw [(sound_iff r).1 hr n hn hv] at hc; cases hc
  apply bool_iff
  rw [Bool.and_eq_true, has_iff (plus_sound hn hr), has_iff hr, beq_iff_eq]
  constructor
  · intro e
    refine ⟨fun i hi hci => ?_, ?_⟩
    · have hne : i ≠ n := fun e => by subst e; rw [hc] at hci; cases hci
      rw [e i hi (by rw [plus_c hn hi, hci]; rfl), plus_v hn hi]
      simp [hne]
    · rw [e n hn (by rw [plus_c hn hn]; simp), plus_v hn hn, hv]; simp
  · rintro ⟨e1, e2⟩ i hi hci
    rw [plus_v hn hi]
    by_cases hne : i = n
    · subst hne; rw [hv]; simpa using e2
    · rw [plus_c hn hi] at hci
      simp only [hne, decide_false, Bool.or_false] at hci
      rw [e1 i hi hci]; simp [hne]
theorem has_other {r b : Cube} {n : Nat} (hn : n < 128) (hr : r.sound = true) (hc : r.c.getLsbD n = false) (h : BitVec 128) : hasC (other r b n) h = (hasC r h && !(h.getLsbD n == b.v.getLsbD n)) := by
  have hv : r.v.getLsbD n = false := by
    cases hv : r.v.getLsbD n
    · rfl
    · rw [(sound_iff r).1 hr n hn hv] at hc; cases hc
  apply bool_iff
  rw [Bool.and_eq_true, has_iff (other_sound hn hr), has_iff hr]
  constructor
  · intro e
    refine ⟨fun i hi hci => ?_, ?_⟩
    · have hne : i ≠ n := fun e => by subst e; rw [hc] at hci; cases hci
      rw [e i hi (by rw [other_c hn hi, hci]; rfl), other_v hn hi]
      simp [hne]
    · rw [e n hn (by rw [other_c hn hn]; simp), other_v hn hn, hv]; cases b.v.getLsbD n <;> simp
  · rintro ⟨e1, e2⟩ i hi hci
    rw [other_v hn hi]
    by_cases hne : i = n
    · subst hne; rw [hv]; revert e2; cases h.getLsbD i <;> cases b.v.getLsbD i <;> simp
    · rw [other_c hn hi] at hci
      simp only [hne, decide_false, Bool.or_false] at hci
      rw [e1 i hi hci]; simp [hne]
def lessEnd (b : Cube) (more : BitVec 128) : Nat → Cube → Cube
  | 0, r => r
  | n + 1, r => if more.getLsbD n then lessEnd b more n (plus r b n) else lessEnd b more n r
theorem lessEnd_bits (b : Cube) (more : BitVec 128) : ∀ (n : Nat) (r : Cube), n ≤ 128 → ∀ j, j < 128 → (lessEnd b more n r).c.getLsbD j = (r.c.getLsbD j || (more.getLsbD j && decide (j < n))) ∧ (lessEnd b more n r).v.getLsbD j = (r.v.getLsbD j || (b.v.getLsbD j && (more.getLsbD j && decide (j < n))))
  | 0, r, _, j, hj => by simp [lessEnd]
  | n + 1, r, hn, j, hj => by
    unfold lessEnd
    split
    · rename_i hm
      obtain ⟨h1, h2⟩ := lessEnd_bits b more n (plus r b n) (by omega) j hj
      rw [h1, h2, plus_c (by omega) hj, plus_v (by omega) hj]
      by_cases e : j = n
      · subst e; simp [hm]
      · have : decide (j < n + 1) = decide (j < n) := decide_eq_decide.2 (by omega)
        rw [this]; simp [e]
    · rename_i hm
      obtain ⟨h1, h2⟩ := lessEnd_bits b more n r (by omega) j hj
      rw [h1, h2]
      by_cases e : j = n
      · subst e; simp [hm]
      · have : decide (j < n + 1) = decide (j < n) := decide_eq_decide.2 (by omega)
        rw [this]; simp
theorem cube_ext {x y : Cube} (hc : ∀ j, j < 128 → x.c.getLsbD j = y.c.getLsbD j) (hv : ∀ j, j < 128 → x.v.getLsbD j = y.v.getLsbD j) : x = y := by
  obtain ⟨a, b⟩ := x
  obtain ⟨c, d⟩ := y
  have h1 : a = c := BitVec.eq_of_getLsbD_eq hv
  have h2 : b = d := BitVec.eq_of_getLsbD_eq hc
  rw [h1, h2]
theorem lessEnd_meet {a b : Cube} (h : meetO a b = true) : lessEnd b (b.c &&& ~~~a.c) 128 a = meetV a b := by
  have hm := h
  unfold meetO at h
  simp only [Bool.and_eq_true] at h
  obtain ⟨⟨ha, hb⟩, hap⟩ := h
  have hap := (apart_iff a b).1 hap
  have e : meetV a b = ⟨a.v ||| b.v, a.c ||| b.c⟩ := by unfold meetV; rw [hm]; rfl
  rw [e]
  refine cube_ext (fun j hj => ?_) (fun j hj => ?_)
  · rw [(lessEnd_bits b _ 128 a (Nat.le_refl _) j hj).1]
    simp only [BitVec.getLsbD_and, BitVec.getLsbD_or, BitVec.getLsbD_not, hj, decide_true, Bool.true_and, Bool.and_true]
    cases a.c.getLsbD j <;> cases b.c.getLsbD j <;> rfl
  · rw [(lessEnd_bits b _ 128 a (Nat.le_refl _) j hj).2]
    have h1 := (sound_iff a).1 ha j hj; have h2 := (sound_iff b).1 hb j hj; have h3 := hap j hj
    simp only [BitVec.getLsbD_and, BitVec.getLsbD_or, BitVec.getLsbD_not, hj, decide_true, Bool.true_and, Bool.and_true]
    revert h1 h2 h3
    cases a.c.getLsbD j <;> cases b.c.getLsbD j <;> cases a.v.getLsbD j <;> cases b.v.getLsbD j <;> simp
def cnt (x : Bool) : Nat := if x then 1 else 0
theorem less_count (b : Cube) (more : BitVec 128) (h : BitVec 128) : ∀ (n : Nat) (r : Cube), n ≤ 128 → r.sound = true → (∀ j, j < n → more.getLsbD j = true → r.c.getLsbD j = false) →
    (lessGo b more n r).countP (hasC · h) + cnt (hasC (lessEnd b more n r) h) = cnt (hasC r h)
  | 0, r, _, _, _ => by simp [lessGo, lessEnd]
  | n + 1, r, hn, hr, hm => by
    rw [lessGo_succ]
    unfold lessEnd
    split
    · rename_i hmn
      have hc := hm n (by omega) hmn
      have ih := less_count b more h n (plus r b n) (by omega) (plus_sound (by omega) hr) (fun j hj hmj => by rw [plus_c (by omega) (by omega), hm j (by omega) hmj]; simp; omega)
      rw [List.countP_cons]
      rw [has_plus (by omega) hr hc] at ih
      simp only [has_other (show n < 128 by omega) hr hc]
      generalize cnt (hasC (lessEnd b more n (plus r b n)) h) = e at ih ⊢
      generalize List.countP (hasC · h) (lessGo b more n (plus r b n)) = c at ih ⊢
      revert ih
      cases hasC r h <;> cases (h.getLsbD n == b.v.getLsbD n) <;> simp [cnt] <;> omega
    · exact less_count b more h n r (by omega) hr (fun j hj => hm j (by omega))
/-- what is in both, and what is in the first alone, are the first, each header once -/
theorem parts_count {a b : Cube} (ha : a.sound = true) (hb : b.sound = true) (h : BitVec 128) : cnt (meetO a b && hasC (meetV a b) h) + (lessL a b).countP (hasC · h) = cnt (hasC a h) := by
  unfold lessL
  rw [ha, hb]
  cases hm : meetO a b
  · simp [cnt, List.countP_cons]
  · have := less_count b (b.c &&& ~~~a.c) h 128 a (Nat.le_refl _) ha (fun j hj hh => more_free a b j hj hh)
    rw [lessEnd_meet hm] at this
    simp only [Bool.and_self, if_true, Bool.true_and]
    omega
theorem lessGo_nil (b : Cube) (more : BitVec 128) : ∀ (n : Nat) (r : Cube), lessGo b more n r = [] ↔ ∀ j, j < n → more.getLsbD j = false
  | 0, r => by simp [lessGo]
  | n + 1, r => by
    rw [lessGo_succ]
    split
    · rename_i hm
      simp only [reduceCtorEq, false_iff]
      intro h; rw [h n (by omega)] at hm; cases hm
    · rename_i hm
      rw [lessGo_nil b more n r]
      constructor
      · intro h j hj
        by_cases e : j = n
        · subst e; simpa using hm
        · exact h j (by omega)
      · intro h j hj; exact h j (by omega)
theorem less_nil {a b : Cube} (ha : a.sound = true) (hb : b.sound = true) : lessL a b = [] ↔ withinC a b = true := by
  unfold lessL withinC meetO
  rw [ha, hb]
  simp only [Bool.and_self, if_true, Bool.true_and]
  cases h : (apart a b == 0)
  · simp
  · simp only [if_true, Bool.and_true, lessGo_nil, beq_iff_eq]
    constructor
    · intro e
      apply BitVec.eq_of_getLsbD_eq
      intro i hi
      rw [e i hi]; simp
    · intro e j hj
      rw [e]; simp
end Go.Proofs.Ytfcfhlfehomhpaa
