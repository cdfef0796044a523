/- Piles of cubes: what headers are in them. Plain: no program. Conditions: none. -/
import Derived.Test.YtfcfhlfehomhpaaPileLaw
set_option linter.unusedSimpArgs false
set_option linter.unusedVariables false
namespace Go.Proofs.Ytfcfhlfehomhpaa
open Go.Proofs.Ytfcfhlfehomhpaa.AL
theorem has_sound {k : Cube} {h : BitVec 128} (e : hasC k h = true) : k.sound = true := by unfold hasC at e; rw [Bool.and_eq_true] at e; exact e.1
theorem within_has {x y : Cube} {h : BitVec 128} (w : withinC x y = true) (hx : hasC x h = true) : hasC y h = true := by
  have sx := has_sound hx
  have sy := within_sound w
  refine (has_iff sy h).2 fun i hi hc => ?_
  obtain ⟨h1, h2⟩ := (within_iff sx sy).1 w i hi hc
  rw [← h2]; exact (has_iff sx h).1 hx i hi h1
theorem within_lt {x y : Cube} (w : withinC x y = true) (hx : x.sound = true) : y.c.toNat ≤ x.c.toNat ∧ (y.c.toNat = x.c.toNat → x = y) := by
  have sy := within_sound w
  have wi := (within_iff hx sy).1 w
  have e : y.c = y.c &&& x.c := by
    apply BitVec.eq_of_getLsbD_eq
    intro i hi
    rw [BitVec.getLsbD_and]
    cases hc : y.c.getLsbD i
    · rfl
    · rw [(wi i hi hc).1]; rfl
  refine ⟨?_, fun q => ?_⟩
  · rw [e, BitVec.toNat_and]; exact Nat.and_le_right
  · have hc : x.c = y.c := (BitVec.eq_of_toNat_eq q).symm
    refine cube_ext (fun j _ => by rw [hc]) (fun j hj => ?_)
    cases hcj : y.c.getLsbD j
    · have a := (sound_iff x).1 hx j hj
      have b := (sound_iff y).1 sy j hj
      rw [hc, hcj] at a
      rw [hcj] at b
      cases hv : x.v.getLsbD j
      · cases hv2 : y.v.getLsbD j
        · rfl
        · exact absurd (b hv2) (by decide)
      · exact absurd (a hv) (by decide)
    · exact (wi j hj hcj).2
theorem within_refl {x : Cube} (hx : x.sound = true) : withinC x x = true := (within_iff hx hx).2 fun i _ hc => ⟨hc, rfl⟩
/-- the first of the least -/
theorem first_min {α : Type} (p : α → Bool) (m : α → Nat) (z : α) : ∀ (l : List α), l.any p = true → ∃ n, n < l.length ∧ p (l.getD n z) = true ∧ ∀ i, i < l.length → p (l.getD i z) = true → m (l.getD n z) ≤ m (l.getD i z) ∧ (i < n → m (l.getD n z) < m (l.getD i z))
  | [], h => by simp at h
  | x :: l, h => by
    by_cases hl : l.any p = true
    · obtain ⟨n, hn, hp, hm⟩ := first_min p m z l hl
      by_cases hx : p x = true ∧ m x ≤ m (l.getD n z)
      · refine ⟨0, by simp, by simpa using hx.1, fun i hi hpi => ⟨?_, by omega⟩⟩
        cases i with
        | zero => exact Nat.le_refl _
        | succ i =>
          rw [List.getD_cons_succ] at hpi
          rw [List.getD_cons_zero, List.getD_cons_succ]
          exact Nat.le_trans hx.2 (hm i (by simpa using hi) hpi).1
      · refine ⟨n + 1, by simpa using hn, by simpa using hp, fun i hi hpi => ?_⟩
        rw [List.getD_cons_succ]
        cases i with
        | zero =>
          rw [List.getD_cons_zero] at hpi ⊢
          have : m (l.getD n z) < m x := Nat.lt_of_not_le fun hle => hx ⟨hpi, hle⟩
          exact ⟨Nat.le_of_lt this, fun _ => this⟩
        | succ i =>
          rw [List.getD_cons_succ] at hpi ⊢
          have := hm i (by simpa using hi) hpi
          exact ⟨this.1, fun h => this.2 (by omega)⟩
    · have hx : p x = true := by simpa [hl] using h
      refine ⟨0, by simp, by simpa using hx, fun i hi hpi => ⟨?_, by omega⟩⟩
      cases i with
      | zero => exact Nat.le_refl _
      | succ i =>
        rw [List.getD_cons_succ] at hpi
        exact absurd (List.any_eq_true.2 ⟨l.getD i z, getD_in (by simpa using hi) z, hpi⟩) hl
theorem leanP_in {l : List Cube} {n : Nat} (hn : n < l.length) (hs : spareP l n = false) : l.getD n ⟨0, 0⟩ ∈ leanP l := by
  unfold leanP leanTo
  exact List.mem_filterMap.2 ⟨n, List.mem_range.2 hn, by rw [hs]; rfl⟩
/-- lean keeps what is in the pile -/
theorem lean_has (l : List Cube) (h : BitVec 128) : hasP (leanP l) h = hasP l h := by
  apply bool_iff
  unfold hasP
  constructor
  · intro e
    obtain ⟨k, hk, hh⟩ := List.any_eq_true.1 e
    exact List.any_eq_true.2 ⟨k, (leanP_mem hk).1, hh⟩
  · intro e
    obtain ⟨n, hn, hp, hm⟩ := first_min (hasC · h) (fun k => k.c.toNat) ⟨0, 0⟩ l e
    refine List.any_eq_true.2 ⟨_, leanP_in hn ?_, hp⟩
    have sx := has_sound hp
    cases hs : spareP l n
    · rfl
    unfold spareP at hs
    rw [sx, Bool.not_true, Bool.or_false] at hs
    obtain ⟨i, hi, hb⟩ := List.any_eq_true.1 hs
    have hi := List.mem_range.1 hi
    unfold spareBy at hb
    simp only [Bool.and_eq_true, Bool.or_eq_true, bne_iff_ne, ne_eq, decide_eq_true_eq] at hb
    obtain ⟨hne, hw, ho⟩ := hb
    have hh := within_has hw hp
    obtain ⟨h1, h2⟩ := within_lt hw sx
    obtain ⟨h3, h4⟩ := hm i hi hh
    have q := h2 (by omega)
    rcases ho with ho | ho
    · exact absurd q ho
    · have := h4 ho
      rw [q] at this
      omega
/-- a pile in which no cube is within another is lean -/
theorem leanR_self : ∀ (s pre : List Cube), (∀ k ∈ s, k.sound = true) → (pre ++ s).Pairwise (fun x y => withinC x y = false ∧ withinC y x = false) → leanR pre s = s
  | [], pre, _, _ => rfl
  | x :: s, pre, hs, hp => by
    have ih := leanR_self s (pre ++ [x]) (fun k hk => hs k (by simp [hk])) (by rw [List.append_assoc]; exact hp)
    rw [leanR_cons, ih]
    rw [List.pairwise_append] at hp
    obtain ⟨_, h2, h3⟩ := hp
    have e1 : pre.any (withinC x) = false := by
      rw [List.any_eq_false]
      intro y hy
      rw [(h3 y hy x (by simp)).2]; decide
    have e2 : (s.any fun y => withinC x y && x != y) = false := by
      rw [List.any_eq_false]
      intro y hy
      rw [((List.pairwise_cons.1 h2).1 y hy).1]; simp
    rw [hs x (by simp), e1, e2]; rfl
theorem leanP_pair (l : List Cube) : (leanP l).Pairwise (fun x y => withinC x y = false ∧ withinC y x = false) := by
  unfold leanP leanTo
  rw [List.pairwise_filterMap]
  have hr : (List.range l.length).Pairwise (fun i j => i < j ∧ j < l.length) := by
    refine List.Pairwise.imp_of_mem ?_ List.pairwise_lt_range
    intro a b ha hb hab
    exact ⟨hab, List.mem_range.1 hb⟩
  refine hr.imp ?_
  intro i j ⟨hij, hj⟩ x hx y hy
  have key : ∀ n, n < l.length → spareP l n = false → (l.getD n ⟨0, 0⟩).sound = true ∧ ∀ i, i < l.length → i ≠ n → withinC (l.getD n ⟨0, 0⟩) (l.getD i ⟨0, 0⟩) = true → l.getD n ⟨0, 0⟩ = l.getD i ⟨0, 0⟩ ∧ n < i := by
    intro n hn hs
    unfold spareP at hs
    rw [Bool.or_eq_false_iff, List.any_eq_false] at hs
    refine ⟨by simpa using hs.2, fun i hi hne hw => ?_⟩
    have := hs.1 i (List.mem_range.2 hi)
    unfold spareBy at this
    rw [hw] at this
    simp only [Bool.true_and, Bool.and_eq_true, Bool.or_eq_true, bne_iff_ne, ne_eq, decide_eq_true_eq] at this
    by_cases e : l.getD n ⟨0, 0⟩ = l.getD i ⟨0, 0⟩
    · exact ⟨e, by
        refine Classical.byContradiction fun hlt => this ⟨hne, .inr (by omega)⟩⟩
    · exact absurd ⟨hne, .inl e⟩ this
  cases hs : spareP l i
  · cases hs2 : spareP l j
    · rw [hs] at hx
      rw [hs2] at hy
      simp only [Bool.false_eq_true, if_false, Option.some.injEq] at hx hy
      obtain ⟨s1, k1⟩ := key i (by omega) hs
      obtain ⟨s2, k2⟩ := key j hj hs2
      rw [hx] at s1 k1
      rw [hy] at s2 k2
      have k1 := k1 j hj (by omega)
      have k2 := k2 i (by omega) (by omega)
      rw [hy] at k1
      rw [hx] at k2
      constructor
      · cases hw : withinC x y
        · rfl
        · obtain ⟨e, _⟩ := k1 hw
          subst e
          have := (k2 hw).2
          omega
      · cases hw : withinC y x
        · rfl
        · have := (k2 hw).2
          omega
    · rw [hs2] at hy; simp at hy
  · rw [hs] at hx; simp at hx
theorem leanP_twice (l : List Cube) : leanP (leanP l) = leanP l := by
  rw [leanP_eq (leanP l)]
  exact leanR_self _ [] (fun k hk => (leanP_mem hk).2) (by rw [List.nil_append]; exact leanP_pair l)
theorem hasP_append (a b : List Cube) (h : BitVec 128) : hasP (a ++ b) h = (hasP a h || hasP b h) := by unfold hasP; rw [List.any_append]
theorem meet_hasC (x y : Cube) (h : BitVec 128) : (meetO x y && hasC (meetV x y) h) = (hasC x h && hasC y h) := by
  apply bool_iff
  rw [Bool.and_eq_true, Bool.and_eq_true]
  constructor
  · rintro ⟨hm, hh⟩
    have hm' := hm
    unfold meetO at hm'
    simp only [Bool.and_eq_true] at hm'
    obtain ⟨⟨sx, sy⟩, ha⟩ := hm'
    have ha := (apart_iff x y).1 ha
    have sm := has_sound hh
    have hh := (has_iff sm h).1 hh
    have e : meetV x y = ⟨x.v ||| y.v, x.c ||| y.c⟩ := by unfold meetV; rw [hm]; rfl
    rw [e] at hh
    simp only [BitVec.getLsbD_or, Bool.or_eq_true] at hh
    constructor
    · refine (has_iff sx h).2 fun i hi hc => ?_
      rw [hh i hi (.inl hc)]
      cases hy : y.v.getLsbD i
      · simp
      · have hcy := (sound_iff y).1 sy i hi hy
        rw [ha i hi hc hcy, hy]; rfl
    · refine (has_iff sy h).2 fun i hi hc => ?_
      rw [hh i hi (.inr hc)]
      cases hx : x.v.getLsbD i
      · simp
      · have hcx := (sound_iff x).1 sx i hi hx
        rw [← ha i hi hcx hc, hx]; rfl
  · rintro ⟨hx, hy⟩
    have sx := has_sound hx
    have sy := has_sound hy
    have ex := (has_iff sx h).1 hx
    have ey := (has_iff sy h).1 hy
    have hm : meetO x y = true := by
      unfold meetO
      rw [sx, sy, Bool.true_and, Bool.true_and]
      exact (apart_iff x y).2 fun i hi h1 h2 => by rw [← ex i hi h1, ← ey i hi h2]
    refine ⟨hm, ?_⟩
    have e : meetV x y = ⟨x.v ||| y.v, x.c ||| y.c⟩ := by unfold meetV; rw [hm]; rfl
    have sm : (meetV x y).sound = true := by
      rw [e]
      refine (sound_iff _).2 fun i hi hv => ?_
      simp only [BitVec.getLsbD_or, Bool.or_eq_true] at hv ⊢
      rcases hv with hv | hv
      · exact .inl ((sound_iff x).1 sx i hi hv)
      · exact .inr ((sound_iff y).1 sy i hi hv)
    refine (has_iff sm h).2 fun i hi hc => ?_
    rw [e] at hc ⊢
    simp only [BitVec.getLsbD_or, Bool.or_eq_true] at hc ⊢
    have z : ∀ (k : Cube), k.sound = true → k.c.getLsbD i = false → k.v.getLsbD i = false := by
      intro k sk hc
      cases hv : k.v.getLsbD i
      · rfl
      · rw [(sound_iff k).1 sk i hi hv] at hc; cases hc
    cases hcx : x.c.getLsbD i
    · rw [hcx] at hc
      simp only [Bool.false_eq_true, false_or] at hc
      rw [z x sx hcx, ey i hi hc]; simp
    · cases hcy : y.c.getLsbD i
      · rw [z y sy hcy, ex i hi hcx]; simp
      · rw [← ex i hi hcx, ← ey i hi hcy]; simp
theorem meets_has (a b : List Cube) (h : BitVec 128) : hasP (meetsP a b) h = (hasP a h && hasP b h) := by
  apply bool_iff
  unfold hasP meetsP meetRow
  rw [Bool.and_eq_true]
  constructor
  · intro e
    obtain ⟨k, hk, hh⟩ := List.any_eq_true.1 e
    obtain ⟨x, hx, hk⟩ := List.mem_flatMap.1 hk
    obtain ⟨y, hy, hk⟩ := List.mem_filterMap.1 hk
    unfold meetOne at hk
    split at hk
    · rename_i hm
      have hk := Option.some.inj hk
      have mh := meet_hasC x y h
      rw [hm, hk, hh] at mh
      have mh := mh.symm
      rw [Bool.and_self, Bool.and_eq_true] at mh
      exact ⟨List.any_eq_true.2 ⟨x, hx, mh.1⟩, List.any_eq_true.2 ⟨y, hy, mh.2⟩⟩
    · cases hk
  · rintro ⟨e1, e2⟩
    obtain ⟨x, hx, h1⟩ := List.any_eq_true.1 e1
    obtain ⟨y, hy, h2⟩ := List.any_eq_true.1 e2
    have mh := meet_hasC x y h
    rw [h1, h2, Bool.and_self, Bool.and_eq_true] at mh
    refine List.any_eq_true.2 ⟨meetV x y, List.mem_flatMap.2 ⟨x, hx, List.mem_filterMap.2 ⟨y, hy, ?_⟩⟩, mh.2⟩
    unfold meetOne; rw [mh.1]; rfl
theorem countP_any {α : Type} (p : α → Bool) (l : List α) : l.any p = decide (l.countP p ≠ 0) := by
  apply bool_iff
  rw [List.any_eq_true, decide_eq_true_eq, ← List.countP_pos_iff]
  omega
theorem lessL_has {x y : Cube} (hx : x.sound = true) (hy : y.sound = true) (h : BitVec 128) : (lessL x y).any (hasC · h) = (hasC x h && !hasC y h) := by
  have pc := parts_count hx hy h
  rw [meet_hasC] at pc
  rw [countP_any]
  generalize (lessL x y).countP (hasC · h) = c at pc ⊢
  revert pc
  cases hasC x h <;> cases hasC y h <;> simp [cnt] <;> omega
theorem lessRest_has {out : List Cube} {y : Cube} (hs : ∀ k ∈ out, k.sound = true) (hy : y.sound = true) (h : BitVec 128) : hasP (lessRest out y) h = (hasP out h && !hasC y h) := by
  unfold hasP lessRest
  rw [List.any_flatMap]
  have : ∀ x ∈ out, ((lessL x y).any (hasC · h)) = (hasC x h && !hasC y h) := fun x hx => lessL_has (hs x hx) hy h
  rw [any_congr' this]
  induction out with
  | nil => rfl
  | cons x out ih =>
    rw [List.any_cons, List.any_cons, ih (fun k hk => hs k (by simp [hk])) (fun k hk => this k (by simp [hk]))]
    cases hasC x h <;> cases hasC y h <;> simp
theorem lessRest_sound {out : List Cube} {y : Cube} (hs : ∀ k ∈ out, k.sound = true) : ∀ k ∈ lessRest out y, k.sound = true := by
  intro k hk
  unfold lessRest at hk
  obtain ⟨x, hx, hk⟩ := List.mem_flatMap.1 hk
  exact (lessL_mem (hs x hx) hk).1
theorem leanE_val (l : List Cube) (h : leanE l = 0) : leanV l = leanP l := by
  unfold leanE at h
  unfold leanV
  split at h
  · cases h
  · rename_i h2; rw [if_neg h2]
theorem leanE_or (l : List Cube) : leanE l = 0 ∨ leanE l = 10 ∧ leanV l = [] := by
  unfold leanE leanV
  split
  · exact .inr ⟨rfl, rfl⟩
  · exact .inl rfl
theorem leanE_of (l : List Cube) (h : l.length ≤ 200) : leanE l = 0 := by
  have := leanTo_len l l.length
  unfold leanE leanP
  rw [if_neg (by omega)]
theorem less_has (h : BitVec 128) : ∀ (b out : List Cube), (∀ k ∈ b, k.sound = true) → (∀ k ∈ out, k.sound = true) → (lessP b out).2 = 0 → (hasP (lessP b out).1 h = (hasP out h && !hasP b h) ∧ ∀ k ∈ (lessP b out).1, k.sound = true)
  | [], out, _, hs, _ => by unfold lessP; exact ⟨by simp [hasP], hs⟩
  | y :: r, out, hb, hs, he => by
    unfold lessP at he ⊢
    split
    · rename_i h0
      rw [if_pos h0] at he
      have sv : ∀ k ∈ leanV (lessRest out y), k.sound = true := by
        rw [leanE_val _ h0]
        exact fun k hk => (leanP_mem hk).2
      obtain ⟨h1, h2⟩ := less_has h r _ (fun k hk => hb k (by simp [hk])) sv he
      refine ⟨?_, h2⟩
      rw [h1, leanE_val _ h0, lean_has, lessRest_has hs (hb y (by simp))]
      unfold hasP
      rw [List.any_cons]
      cases hasC y h <;> simp
    · rename_i h0
      rw [if_neg h0] at he
      exact absurd he h0
theorem soundP_all {l : List Cube} (h : soundP l = true) : ∀ k ∈ l, k.sound = true := by
  unfold soundP at h
  rw [Bool.and_eq_true] at h
  exact List.all_eq_true.1 h.2
/-- a pile of sound cubes without a header is empty -/
theorem has_nil {l : List Cube} (hs : ∀ k ∈ l, k.sound = true) (h : ∀ x, hasP l x = false) : l = [] := by
  cases l with
  | nil => rfl
  | cons k l =>
    have sk := hs k (by simp)
    have := h k.v
    unfold hasP at this
    rw [List.any_cons, Bool.or_eq_false_iff] at this
    have e : hasC k k.v = true := (has_iff sk k.v).2 fun i hi _ => rfl
    rw [e] at this
    cases this.1
def meetPV (a b : List Cube) : List Cube := if soundP a && soundP b then leanV (meetsP a b) else []
def meetPE (a b : List Cube) : Int := if soundP a && soundP b then leanE (meetsP a b) else 2
theorem lessP_len : ∀ (b out : List Cube), out.length ≤ 200 → (lessP b out).1.length ≤ 200
  | [], out, h => h
  | y :: r, out, h => by
    unfold lessP
    split
    · exact lessP_len r _ (leanV_len _)
    · simp
theorem lessPR_len (a b : List Cube) : (lessPR a b).1.length ≤ 200 := by
  unfold lessPR
  split
  · rename_i h
    rw [Bool.and_eq_true] at h
    exact lessP_len b a (soundP_len h.1)
  · simp
theorem joinV_len (a b : List Cube) : (joinV a b).length ≤ 200 := by
  unfold joinV
  split
  · exact leanV_len _
  · simp
theorem meetPV_len (a b : List Cube) : (meetPV a b).length ≤ 200 := by
  unfold meetPV
  split
  · exact leanV_len _
  · simp
theorem leanP_len (l : List Cube) : (leanP l).length ≤ l.length := leanTo_len l l.length
theorem meetsP_len (a b : List Cube) : (meetsP a b).length ≤ a.length * b.length := by
  unfold meetsP
  induction a with
  | nil => simp
  | cons x a ih =>
    rw [List.flatMap_cons, List.length_append, List.length_cons, Nat.add_mul, Nat.one_mul]
    have : (meetRow b x).length ≤ b.length := List.length_filterMap_le _ _
    omega
theorem lessP_or : ∀ (b a : List Cube), (lessP b a).2 = 0 ∨ (lessP b a).2 = 10 ∧ (lessP b a).1 = [] := lessP_err
theorem textsV_sound {l : List Cube} (h : soundP l = true) : textsV l = l := by
  unfold soundP at h
  rw [Bool.and_eq_true] at h
  unfold textsV
  rw [if_pos h.2]
end Go.Proofs.Ytfcfhlfehomhpaa
