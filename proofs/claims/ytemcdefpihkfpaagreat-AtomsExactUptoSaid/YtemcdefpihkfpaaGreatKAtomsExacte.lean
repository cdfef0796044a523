/- Part 5 of a proof: lemmas beneath the theorem that the last text bears. Conditions: none. -/
import Derived.Test.YtemcdefpihkfpaaGreatKAtomsExactd
set_option linter.unusedSimpArgs false
set_option linter.unusedVariables false
namespace Go.Proofs.YtemcdefpihkfpaaGreat
open Go Go.Proofs.YtemcdefpihkfpaaGreat.AL
def LeanP (p : List Cube) : Prop := p.Pairwise fun x y => withinC x y = false ∧ withinC y x = false
structure PileOK (p : List Cube) : Prop where
  snd : ∀ k ∈ p, k.sound = true
  len : p.length ≤ 200
  lean : LeanP p
theorem PileOK.sound {p : List Cube} (h : PileOK p) : soundP p = true := by
  unfold soundP
  rw [Bool.and_eq_true]
  exact ⟨decide_eq_true h.len, List.all_eq_true.2 h.snd⟩
theorem leanP_ok {l : List Cube} (h : (leanP l).length ≤ 200) : PileOK (leanP l) := ⟨fun k hk => (leanP_mem hk).2, h, leanP_pair l⟩
theorem leanV_ok {l : List Cube} (h : leanE l = 0) : PileOK (leanV l) := by
  have := leanV_len l
  rw [leanE_val l h] at this ⊢
  exact leanP_ok this
theorem pickP_ok {p : List Cube} (h : ∀ k ∈ p, k.sound = true) : pickP p = p.head? := by
  unfold pickP
  cases p with
  | nil => rfl
  | cons k p => simp [h k (by simp)]
theorem pickAt_ok {ids : List Int} {p : List Cube} (h : ∀ k ∈ p, k.sound = true) : pickAt ids p = if p = [] then [] else [⟨ids, (p.getD 0 ⟨0, 0⟩).v, p⟩] := by
  unfold pickAt pickH
  rw [pickP_ok h]
  cases p with
  | nil => rfl
  | cons k p => simp
structure AtmOK (a : Atm) : Prop where
  pile : PileOK a.p
  ne : a.p ≠ []
  hd : a.h = (a.p.getD 0 ⟨0, 0⟩).v
theorem has_self {k : Cube} (hk : k.sound = true) : hasC k k.v = true := (has_iff hk k.v).2 fun i hi _ => rfl
theorem AtmOK.has {a : Atm} (h : AtmOK a) : hasP a.p a.h = true := by
  obtain ⟨p, ne, e⟩ := h
  rw [e]
  cases hp : a.p with
  | nil => exact absurd hp ne
  | cons k r =>
    unfold hasP
    rw [List.any_cons, Bool.or_eq_true]
    exact .inl (has_self (p.snd k (by rw [hp]; simp)))
structure AtOK (l : List Atm) (f : BitVec 128 → List Int) : Prop where
  atm : ∀ a ∈ l, AtmOK a
  ids : ∀ a ∈ l, ∀ h, hasP a.p h = true → a.ids = f h
  dis : l.Pairwise fun a b => a.ids ≠ b.ids
  ex : ∀ h, ∃ a ∈ l, hasP a.p h = true
theorem partA_eq {a : Atm} {id : Int} {k : Cube} (ha : AtmOK a) (hk : k.sound = true) (he : (partA a id [k]).2 = 0) :
    PileOK (meetPV a.p [k]) ∧ PileOK (lessPR a.p [k]).1 ∧ (∀ h, hasP (meetPV a.p [k]) h = (hasP a.p h && hasC k h)) ∧ (∀ h, hasP (lessPR a.p [k]).1 h = (hasP a.p h && !hasC k h)) ∧
    (partA a id [k]).1 = pickAt (joinZ a.ids [id]) (meetPV a.p [k]) ++ pickAt a.ids (lessPR a.p [k]).1 := by
  unfold partA at he ⊢
  split at he
  · rename_i h; exact absurd he h
  rename_i h1
  split at he
  · rename_i h; exact absurd he h
  rename_i h2
  have h1 : meetPE a.p [k] = 0 := by simpa using h1
  have h2 : (lessPR a.p [k]).2 = 0 := by simpa using h2
  have one : ∀ h, hasP [k] h = hasC k h := fun h => by simp [hasP]
  rw [if_neg (by simp [h1]), if_neg (by simp [h2])]
  refine ⟨?_, ?_, fun h => by rw [meetP_has h h1, one], fun h => by rw [lessPR_has h h2, one], rfl⟩
  · unfold meetPE at h1
    unfold meetPV
    split at h1
    · rename_i s
      rw [if_pos s]; exact leanV_ok h1
    · cases h1
  · have s : (soundP a.p && soundP [k]) = true := by
      rw [ha.pile.sound]; simp [soundP, hk]
    unfold lessPR at h2 ⊢
    rw [if_pos s] at h2 ⊢
    unfold lessP at h2 ⊢
    split at h2
    · rename_i hl
      rw [if_pos hl]
      exact leanV_ok hl
    · rename_i hl; exact absurd h2 hl
theorem joinZ_snoc {ids : List Int} {id : Int} (h : Inc ids) (hi : ∀ x ∈ ids, x < id) : joinZ ids [id] = ids ++ [id] := by
  unfold joinZ
  refine mkZ_eq ?_ fun x => Iff.rfl
  unfold Inc at *
  rw [List.pairwise_append]
  exact ⟨h, by simp, fun a ha b hb => by simp at hb; rw [hb]; exact hi a ha⟩
theorem splitL_eq {id : Int} {k : Cube} : ∀ (l out : List Atm), (splitL id k l out).2 = 0 → (∀ a ∈ l, (partA a id [k]).2 = 0) ∧ (splitL id k l out).1 = out ++ l.flatMap fun a => (partA a id [k]).1
  | [], out, h => by
    unfold splitL at h ⊢
    split at h
    · exact absurd h (by decide)
    · rename_i h6; rw [if_neg h6]; exact ⟨by simp, by simp⟩
  | a :: r, out, h => by
    unfold splitL at h ⊢
    split at h
    · rename_i he; exact absurd h he
    · rename_i he
      rw [if_neg he]
      obtain ⟨h1, h2⟩ := splitL_eq r _ h
      refine ⟨fun b hb => ?_, by rw [h2]; simp⟩
      rcases List.mem_cons.1 hb with rfl | hb
      · simpa using he
      · exact h1 b hb
theorem pickAt_mem {ids : List Int} {p : List Cube} (hp : PileOK p) {x : Atm} (hx : x ∈ pickAt ids p) : x.ids = ids ∧ x.p = p ∧ AtmOK x := by
  rw [pickAt_ok hp.snd] at hx
  split at hx
  · simp at hx
  · rename_i ne
    simp at hx
    subst hx
    exact ⟨rfl, rfl, hp, ne, rfl⟩
theorem pickAt_hit {ids : List Int} {p : List Cube} (hp : PileOK p) {h : BitVec 128} (hh : hasP p h = true) : ∃ x ∈ pickAt ids p, x.p = p := by
  rw [pickAt_ok hp.snd]
  split
  · rename_i e; subst e; simp [hasP] at hh
  · exact ⟨_, List.mem_singleton.2 rfl, rfl⟩
theorem pickAt_dis {ids ids' : List Int} {p p' : List Cube} (hp : PileOK p) (hp' : PileOK p') (hne : ids ≠ ids') : (pickAt ids p ++ pickAt ids' p').Pairwise fun a b => a.ids ≠ b.ids := by
  rw [List.pairwise_append]
  have one : ∀ ids p, PileOK p → (pickAt ids p).Pairwise fun a b => a.ids ≠ b.ids := fun ids p hp => by
    rw [pickAt_ok hp.snd]; split <;> simp
  exact ⟨one _ _ hp, one _ _ hp', fun a ha b hb => by rw [(pickAt_mem hp ha).1, (pickAt_mem hp' hb).1]; exact hne⟩
theorem splitL_ok {l : List Atm} {f : BitVec 128 → List Int} {id : Int} {k : Cube} (h : AtOK l f) (hk : k.sound = true) (hf : ∀ g, Inc (f g) ∧ ∀ x ∈ f g, x < id) (he : (splitL id k l []).2 = 0) :
    AtOK (splitL id k l []).1 fun g => f g ++ if hasC k g then [id] else [] := by
  obtain ⟨h1, h2⟩ := splitL_eq l [] he
  rw [h2, List.nil_append]
  have hids : ∀ a ∈ l, a.ids = f a.h := fun a ha => h.ids a ha a.h (h.atm a ha).has
  have hj : ∀ a ∈ l, joinZ a.ids [id] = a.ids ++ [id] := fun a ha => by
    rw [hids a ha]; exact joinZ_snoc (hf _).1 (hf _).2
  have hni : ∀ a ∈ l, id ∉ a.ids := fun a ha hm => by
    rw [hids a ha] at hm
    have := (hf _).2 id hm
    omega
  have hmem : ∀ a ∈ l, ∀ x ∈ (partA a id [k]).1, AtmOK x ∧ ((x.ids = a.ids ++ [id] ∧ x.p = meetPV a.p [k]) ∨ (x.ids = a.ids ∧ x.p = (lessPR a.p [k]).1)) := fun a ha x hx => by
    obtain ⟨p1, p2, _, _, e⟩ := partA_eq (h.atm a ha) hk (h1 a ha)
    rw [e, hj a ha] at hx
    rcases List.mem_append.1 hx with hx | hx
    · obtain ⟨q1, q2, q3⟩ := pickAt_mem p1 hx
      exact ⟨q3, .inl ⟨q1, q2⟩⟩
    · obtain ⟨q1, q2, q3⟩ := pickAt_mem p2 hx
      exact ⟨q3, .inr ⟨q1, q2⟩⟩
  refine ⟨fun x hx => ?_, fun x hx g hg => ?_, ?_, fun g => ?_⟩
  · obtain ⟨a, ha, hx⟩ := List.mem_flatMap.1 hx
    exact (hmem a ha x hx).1
  · obtain ⟨a, ha, hx⟩ := List.mem_flatMap.1 hx
    obtain ⟨_, _, e1, e2, _⟩ := partA_eq (h.atm a ha) hk (h1 a ha)
    rcases (hmem a ha x hx).2 with ⟨q1, q2⟩ | ⟨q1, q2⟩
    · rw [q2, e1, Bool.and_eq_true] at hg
      rw [q1, h.ids a ha g hg.1]
      simp only [hg.2, if_true]
    · rw [q2, e2, Bool.and_eq_true] at hg
      have : hasC k g = false := by simpa using hg.2
      rw [q1, h.ids a ha g hg.1]
      simp [this]
  · rw [List.pairwise_flatMap]
    refine ⟨fun a ha => ?_, ?_⟩
    · obtain ⟨p1, p2, _, _, e⟩ := partA_eq (h.atm a ha) hk (h1 a ha)
      rw [e, hj a ha]
      exact pickAt_dis p1 p2 (by simp)
    · refine List.Pairwise.imp_of_mem ?_ h.dis
      intro a b ha hb hab x hx y hy
      rcases (hmem a ha x hx).2 with ⟨q1, _⟩ | ⟨q1, _⟩ <;> rcases (hmem b hb y hy).2 with ⟨r1, _⟩ | ⟨r1, _⟩ <;> rw [q1, r1]
      · intro e; exact hab (List.append_cancel_right e)
      · intro e; exact hni b hb (by rw [← e]; simp)
      · intro e; exact hni a ha (by rw [e]; simp)
      · exact hab
  · obtain ⟨a, ha, hg⟩ := h.ex g
    obtain ⟨p1, p2, e1, e2, e⟩ := partA_eq (h.atm a ha) hk (h1 a ha)
    cases hc : hasC k g
    · have hh : hasP (lessPR a.p [k]).1 g = true := by rw [e2, hg, hc]; rfl
      obtain ⟨x, hx, hxp⟩ := pickAt_hit (ids := a.ids) p2 hh
      exact ⟨x, List.mem_flatMap.2 ⟨a, ha, by rw [e]; exact List.mem_append.2 (.inr hx)⟩, by rw [hxp]; exact hh⟩
    · have hh : hasP (meetPV a.p [k]) g = true := by rw [e1, hg, hc]; rfl
      obtain ⟨x, hx, hxp⟩ := pickAt_hit (ids := joinZ a.ids [id]) p1 hh
      exact ⟨x, List.mem_flatMap.2 ⟨a, ha, by rw [e]; exact List.mem_append.2 (.inl hx)⟩, by rw [hxp]; exact hh⟩
def inZ (p : List Cube) (h : BitVec 128) : List Int := ((List.range p.length).filter fun i => hasC (p.getD i ⟨0, 0⟩) h).map fun i => ((i : Nat) : Int)
theorem inZ_snoc (p : List Cube) (k : Cube) (h : BitVec 128) : inZ (p ++ [k]) h = inZ p h ++ if hasC k h then [(p.length : Int)] else [] := by
  unfold inZ
  rw [List.length_append, List.length_singleton, List.range_succ, List.filter_append, List.map_append]
  congr 1
  · congr 1
    refine List.filter_congr fun i hi => ?_
    rw [List.getD_eq_getElem?_getD, List.getD_eq_getElem?_getD, List.getElem?_append_left (by simpa using hi)]
  · rw [List.filter_cons, show (p ++ [k]).getD p.length ⟨0, 0⟩ = k by simp]
    split <;> rfl
theorem inZ_mem {p : List Cube} {h : BitVec 128} {x : Int} (hx : x ∈ inZ p h) : 0 ≤ x ∧ x < (p.length : Int) := by
  unfold inZ at hx
  obtain ⟨i, hi, rfl⟩ := List.mem_map.1 hx
  have := (List.mem_filter.1 hi).1
  simp at this
  omega
theorem inZ_inc (p : List Cube) (h : BitVec 128) : Inc (inZ p h) := by
  unfold inZ Inc
  rw [List.pairwise_map]
  refine List.Pairwise.imp ?_ (List.Pairwise.filter _ List.pairwise_lt_range)
  intro a b hab
  omega
theorem splitAll_ok : ∀ (r q : List Cube) (out : List Atm), (∀ k ∈ r, k.sound = true) → AtOK out (inZ q) → (splitAll r q.length out).2 = 0 → AtOK (splitAll r q.length out).1 (inZ (q ++ r))
  | [], q, out, _, h, _ => by
    unfold splitAll
    rw [List.append_nil]; exact h
  | k :: r, q, out, hs, h, he => by
    unfold splitAll at he ⊢
    split at he
    · rename_i h1; exact absurd he h1
    · rename_i h1
      have h1 : (splitL (q.length : Int) k out []).2 = 0 := by simpa using h1
      rw [if_neg (by simp [h1])]
      have st := splitL_ok h (hs k (by simp)) (fun g => ⟨inZ_inc q g, fun x hx => (inZ_mem hx).2⟩) h1
      have e : (fun g => inZ q g ++ if hasC k g then [(q.length : Int)] else []) = inZ (q ++ [k]) := funext fun g => (inZ_snoc q k g).symm
      rw [e] at st
      have hl : (q ++ [k]).length = q.length + 1 := by simp
      have ih := splitAll_ok r (q ++ [k]) _ (fun x hx => hs x (by simp [hx])) st (by rw [hl]; exact he)
      rw [hl] at ih
      rw [show q ++ k :: r = (q ++ [k]) ++ r by simp]
      exact ih
theorem has_all (h : BitVec 128) : hasC ⟨0, 0⟩ h = true := by
  unfold hasC Cube.sound
  simp
theorem first_ok : AtOK [⟨[], 0, [⟨0, 0⟩]⟩] (inZ []) := by
  refine ⟨fun a ha => ?_, fun a ha h hh => ?_, by simp, fun h => ⟨⟨[], 0, [⟨0, 0⟩]⟩, by simp, by unfold hasP; rw [List.any_cons, has_all]; rfl⟩⟩
  · simp at ha; subst ha
    refine ⟨⟨fun k hk => ?_, by simp, by simp [LeanP]⟩, by simp, by simp⟩
    simp at hk; subst hk; decide
  · simp at ha; subst ha; rfl
theorem splitV_ok {p : List Cube} (he : (splitV p).2 = 0) : (∀ k ∈ p, k.sound = true) ∧ AtOK (splitV p).1 (inZ p) := by
  unfold splitV at he ⊢
  split at he
  · exact absurd he (by decide)
  · rename_i h5
    rw [if_neg h5]
    split at he
    · rename_i hs
      rw [if_pos hs]
      have hs' := List.all_eq_true.1 hs
      have := splitAll_ok p [] _ hs' first_ok he
      exact ⟨hs', this⟩
    · exact absurd he (by decide)
theorem AtOK.one {l : List Atm} {f : BitVec 128 → List Int} (h : AtOK l f) {i j : Nat} (hi : i < l.length) (hj : j < l.length) {g k : BitVec 128} (hg : hasP (l.getD i at0).p g = true) (hk : hasP (l.getD j at0).p k = true) (e : f g = f k) : i = j := by
  have e1 := h.ids _ (getD_in hi at0) g hg
  have e2 := h.ids _ (getD_in hj at0) k hk
  have hd := List.pairwise_iff_getElem.1 h.dis
  rw [List.getD_eq_getElem?_getD, List.getElem?_eq_getElem hi] at e1
  rw [List.getD_eq_getElem?_getD, List.getElem?_eq_getElem hj] at e2
  have e3 : l[i].ids = l[j].ids := by
    have e1 : l[i].ids = f g := e1
    have e2 : l[j].ids = f k := e2
    rw [e1, e2, e]
  by_cases hij : i = j
  · exact hij
  · exfalso
    by_cases hlt : i < j
    · exact hd i j hi hj hlt e3
    · exact hd j i hj hi (by omega) e3.symm
theorem AtOK.find {l : List Atm} {f : BitVec 128 → List Int} (h : AtOK l f) (g : BitVec 128) : ∃ j : Nat, findA l g = j ∧ j < l.length ∧ hasP (l.getD j at0).p g = true := by
  unfold findA
  rcases idxF_find (fun a => hasP a.p g) at0 l 0 with ⟨h1, _⟩ | ⟨j, x, h1, h2, h3, h4⟩
  · exfalso
    obtain ⟨a, ha, hg⟩ := h.ex g
    have := List.find?_eq_none.1 h1 a ha
    exact this hg
  · refine ⟨j, by rw [h2, Nat.zero_add], h3, ?_⟩
    rw [h4]
    have := List.find?_some h1
    exact this
theorem AtOK.same {l : List Atm} {f : BitVec 128 → List Int} (h : AtOK l f) (g k : BitVec 128) : findA l g = findA l k ↔ f g = f k := by
  obtain ⟨i, e1, hi, hg⟩ := h.find g
  obtain ⟨j, e2, hj, hk⟩ := h.find k
  rw [e1, e2]
  constructor
  · intro e
    have : i = j := by omega
    subst this
    rw [← h.ids _ (getD_in hi at0) g hg, ← h.ids _ (getD_in hi at0) k hk]
  · intro e
    rw [h.one hi hj hg hk e]
theorem nodup_lt : ∀ (n : Nat) (L : List Nat), L.Nodup → (∀ x ∈ L, x < n) → L.length ≤ n
  | 0, L, _, h => by
    cases L with
    | nil => exact Nat.le_refl _
    | cons x L => exact absurd (h x (by simp)) (by omega)
  | n + 1, L, hd, h => by
    have ih := nodup_lt n (L.erase n) (hd.erase n) fun x hx => by
      have h1 := h x (List.mem_of_mem_erase hx)
      have h2 : x ≠ n := fun e => by
        subst e
        exact (List.Nodup.not_mem_erase hd) hx
      omega
    by_cases hm : n ∈ L
    · rw [List.length_erase_of_mem hm] at ih; omega
    · rw [List.erase_of_not_mem hm] at ih; omega
theorem AtOK.le {l m : List Atm} {f f' : BitVec 128 → List Int} (h : AtOK l f) (h' : AtOK m f') (hf : ∀ g k, f' g = f' k → f g = f k) : l.length ≤ m.length := by
  have := nodup_lt m.length (l.map fun a => (findA m a.h).toNat) ?_ ?_
  · simpa using this
  · unfold List.Nodup
    rw [List.pairwise_map]
    refine List.Pairwise.imp_of_mem ?_ h.dis
    intro a b ha hb hab e
    obtain ⟨i, e1, hi, _⟩ := h'.find a.h
    obtain ⟨j, e2, hj, _⟩ := h'.find b.h
    have e3 : findA m a.h = findA m b.h := by rw [e1, e2] at e ⊢; omega
    have e4 := hf _ _ ((h'.same _ _).1 e3)
    rw [← h.ids a ha a.h (h.atm a ha).has, ← h.ids b hb b.h (h.atm b hb).has] at e4
    exact hab e4
  · intro x hx
    obtain ⟨a, ha, rfl⟩ := List.mem_map.1 hx
    obtain ⟨i, e1, hi, _⟩ := h'.find a.h
    simp only [e1]; omega
end Go.Proofs.YtemcdefpihkfpaaGreat
set_option linter.unusedSimpArgs false
set_option linter.unusedVariables false
namespace Go.Proofs.YtemcdefpihkfpaaGreat
open Go Go.Proofs.YtemcdefpihkfpaaGreat.AL
theorem meetPE_or {p q : List Cube} (hp : soundP p = true) (hq : soundP q = true) : meetPE p q = 0 ∨ meetPE p q = 10 := by
  unfold meetPE
  rw [hp, hq]
  rcases leanE_or (meetsP p q) with h | ⟨h, _⟩
  · exact .inl h
  · exact .inr h
theorem lessPE_or {p q : List Cube} (hp : soundP p = true) (hq : soundP q = true) : (lessPR p q).2 = 0 ∨ (lessPR p q).2 = 10 := by
  unfold lessPR
  rw [hp, hq]
  rcases lessP_err q p with h | ⟨h, _⟩
  · exact .inl h
  · exact .inr h
theorem partA_err {a : Atm} {id : Int} {k : Cube} (ha : soundP a.p = true) (hk : k.sound = true) : (partA a id [k]).2 = 0 ∨ (partA a id [k]).2 = 10 := by
  have hq : soundP [k] = true := by simp [soundP, hk]
  unfold partA
  rcases meetPE_or ha hq with e | e
  · rw [if_neg (by simp [e])]
    rcases lessPE_or ha hq with e2 | e2
    · rw [if_neg (by simp [e2])]; exact .inl rfl
    · rw [if_pos (by simp [e2])]; exact .inr e2
  · rw [if_pos (by simp [e])]; exact .inr e
theorem splitL_err {id : Int} {k : Cube} (hk : k.sound = true) : ∀ (l out : List Atm), (∀ a ∈ l, soundP a.p = true) → (splitL id k l out).2 = 0 ∨ (((splitL id k l out).2 = 10 ∨ ((splitL id k l out).2 = 11 ∧ 600 < out.length + 2 * l.length)) ∧ (splitL id k l out).1 = [])
  | [], out, _ => by
    unfold splitL
    split
    · exact .inr ⟨.inr ⟨rfl, by simpa using ‹600 < out.length›⟩, rfl⟩
    · exact .inl rfl
  | a :: r, out, h => by
    unfold splitL
    have pl := partA_len a id [k]
    rcases partA_err (id := id) (h a (by simp)) hk with e | e
    · rw [if_neg (by simp [e])]
      rcases splitL_err hk r (out ++ (partA a id [k]).1) (fun b hb => h b (by simp [hb])) with h1 | ⟨h1 | ⟨h1, h2⟩, h3⟩
      · exact .inl h1
      · exact .inr ⟨.inl h1, h3⟩
      · exact .inr ⟨.inr ⟨h1, by simp only [List.length_append, List.length_cons] at h2 ⊢; omega⟩, h3⟩
    · rw [if_pos (by simp [e])]
      exact .inr ⟨.inl e, rfl⟩
theorem splitAll_err : ∀ (r q : List Cube) (out : List Atm), (∀ k ∈ r, k.sound = true) → AtOK out (inZ q) → (splitAll r q.length out).2 = 0 ∨ (((splitAll r q.length out).2 = 10 ∨ (splitAll r q.length out).2 = 11) ∧ (splitAll r q.length out).1 = [])
  | [], q, out, _, _ => by unfold splitAll; exact .inl rfl
  | k :: r, q, out, hs, h => by
    unfold splitAll
    have hsk := hs k (by simp)
    have e := splitL_err (id := (q.length : Int)) hsk out [] fun a ha => (h.atm a ha).pile.sound
    rcases e with e | ⟨e, _⟩
    · rw [if_neg (by simp [e])]
      have st := splitL_ok h hsk (fun g => ⟨inZ_inc q g, fun x hx => (inZ_mem hx).2⟩) e
      have e2 : (fun g => inZ q g ++ if hasC k g then [(q.length : Int)] else []) = inZ (q ++ [k]) := funext fun g => (inZ_snoc q k g).symm
      rw [e2] at st
      have hl : (q ++ [k]).length = q.length + 1 := by simp
      have ih := splitAll_err r (q ++ [k]) _ (fun x hx => hs x (by simp [hx])) st
      rw [hl] at ih
      exact ih
    · rw [if_pos (by rcases e with e | e <;> (first | (rw [e]; decide) | (rw [e.1]; decide)))]
      exact .inr ⟨by rcases e with e | e; exact .inl e; exact .inr e.1, rfl⟩
theorem splitV_err (p : List Cube) (h5 : p.length ≤ 500) : if p.all Cube.sound then (splitV p).2 = 0 ∨ (((splitV p).2 = 10 ∨ (splitV p).2 = 11) ∧ (splitV p).1 = []) else ((splitV p).2 = 2 ∧ (splitV p).1 = []) := by
  unfold splitV
  rw [if_neg (show ¬ 500 < p.length by omega)]
  cases hs : p.all Cube.sound
  · simp
  · simp only [if_true]
    exact splitAll_err p [] _ (List.all_eq_true.1 hs) first_ok
end Go.Proofs.YtemcdefpihkfpaaGreat
set_option linter.unusedSimpArgs false
set_option linter.unusedVariables false
namespace Go.Proofs.YtemcdefpihkfpaaGreat
open Go Go.Proofs.YtemcdefpihkfpaaGreat.AL
theorem few11_c (p : List Cube) (hl : p.length ≤ 1099511627776) : ACalls Tryz.prog 10 [.d (.sl 4 p.length (rowC p))] (· = [.d (.sl 4 (p.take 7).length (rowC (p.take 7)))]) := by
  have rt : ∀ i, i < 7 → rowC p i = rowC (p.take 7) i := fun i hi => by
    unfold rowC
    rw [List.getD_eq_getElem?_getD, List.getD_eq_getElem?_getD, List.getElem?_take_of_lt hi]
  by_cases h : 7 < p.length
  · have e : (p.take 7).length = 7 := by simp; omega
    rw [e]
    refine q10 Tryz.func10 rfl (by decide +kernel) (by rw [Tryz.ntmps10]; simp) ?_; rw [Tryz.ntmps10]; simp only [frOf]
    (repeat (first | refine q0 ?_ | refine j6 rfl ?_ | refine q7 rfl ?_ | refine q6 ?_ | (refine q4 fun K hK => ?_) | (refine x4 (by kernel_rfl) (by kernel_rfl) fun K hK => ?_) | ((first | refine j5 ?_ | refine z6 ?_ | ((first | refine q5 (hK _ ?_) | refine x5 (hK _ _ (j4 (by kernel_rfl)) ?_)); clear hK K)); (first | show AWP _ _ _ _ _ | ((try simp only [x6]); first | show loopQ _ _ _ _ _ _ | show cutQ _ _ _ _ | show AWP _ _ _ _ _))) | ((first | refine z7 [] rfl ?_ | refine x7 [] rfl ?_); simp (maxSteps := 2000000) (disch := omega) only [go_sem, seval, hd, cb, atD, j0]; (repeat (first | refine ⟨by omega, ?_⟩ | refine ⟨True.intro, ?_⟩)))))
    refine awp_slot 2 _ (.p (.d (.sl 4 7 (rowC (p.take 7))))) rfl (le_sl rfl (fun i hi => by simpa using rt i hi)) ?_
    refine j9 ⟨_, ?_, rfl⟩; rw [Tryz.results10]; simp (disch := omega) only [ResVars, ResVar, ptrLoc, go_sem, seval, hd, cb, atD, j0]
  · rw [List.take_of_length_le (by omega)]
    refine q10 Tryz.func10 rfl (by decide +kernel) (by rw [Tryz.ntmps10]; simp) ?_; rw [Tryz.ntmps10]; simp only [frOf]
    (repeat (first | refine q0 ?_ | refine j6 rfl ?_ | refine q7 rfl ?_ | refine q6 ?_ | (refine q4 fun K hK => ?_) | (refine x4 (by kernel_rfl) (by kernel_rfl) fun K hK => ?_) | ((first | refine j5 ?_ | refine z6 ?_ | ((first | refine q5 (hK _ ?_) | refine x5 (hK _ _ (j4 (by kernel_rfl)) ?_)); clear hK K)); (first | show AWP _ _ _ _ _ | ((try simp only [x6]); first | show loopQ _ _ _ _ _ _ | show cutQ _ _ _ _ | show AWP _ _ _ _ _))) | ((first | refine z7 [] rfl ?_ | refine x7 [] rfl ?_); simp (maxSteps := 2000000) (disch := omega) only [go_sem, seval, hd, cb, atD, j0]; (repeat (first | refine ⟨by omega, ?_⟩ | refine ⟨True.intro, ?_⟩)))))
    refine j9 ⟨_, ?_, rfl⟩; rw [Tryz.results10]; simp (disch := omega) only [ResVars, ResVar, ptrLoc, go_sem, seval, hd, cb, atD, j0]
end Go.Proofs.YtemcdefpihkfpaaGreat
set_option linter.unusedSimpArgs false
set_option linter.unusedVariables false
namespace Go.Proofs.YtemcdefpihkfpaaGreat
open Go Go.Proofs.YtemcdefpihkfpaaGreat.AL
theorem splitAll_small : ∀ (r : List Cube) (n : Nat) (out : List Atm), out.length ≤ 600 → (∀ a ∈ out, a.ids.length ≤ n ∧ a.p.length ≤ 200) → (splitAll r n out).1.length ≤ 600 ∧ ∀ a ∈ (splitAll r n out).1, a.ids.length ≤ n + r.length ∧ a.p.length ≤ 200
  | [], n, out, h1, h2 => by unfold splitAll; exact ⟨h1, fun a ha => by have := h2 a ha; simp; omega⟩
  | k :: r, n, out, h1, h2 => by
    unfold splitAll
    split
    · simp
    · have ih := splitAll_small r (n + 1) (splitL (n : Int) k out []).1 (splitL_len _ _ _ _) (splitL_small out [] (fun a ha => (h2 a ha).1) (by simp))
      refine ⟨ih.1, fun a ha => ?_⟩
      have := ih.2 a ha
      simp only [List.length_cons]; omega
theorem splitV_small (p : List Cube) (hp : p.length ≤ 500) : smallA (splitV p).1 ∧ (splitV p).1.length ≤ 600 := by
  unfold splitV
  rw [if_neg (show ¬ 500 < p.length by omega)]
  split
  · have := splitAll_small p 0 [⟨[], 0, [⟨0, 0⟩]⟩] (by simp) (by simp)
    exact ⟨⟨by omega, fun a ha => by have := this.2 a ha; omega⟩, this.1⟩
  · exact ⟨⟨by simp, by simp⟩, by simp⟩
def pAw : List Cube := [⟨1, 1⟩, ⟨2, 2⟩]
theorem aw_a : (splitV pAw).2 = 0 ∧ (splitV pAw).1.length = 4 ∧ ((splitV pAw).1.getD 0 at0).ids.length = 2 := by decide +kernel
theorem aw_b : (coarseV (splitV pAw).1 0).2 = 0 ∧ (coarseV (splitV pAw).1 0).1.length = 2 := by decide +kernel
theorem aw_c : findA (splitV pAw).1 3 = 0 ∧ (ofTo (splitV pAw).1 1 (splitV pAw).1.length).length = 2 := by decide +kernel
set_option maxRecDepth 100000 in
set_option maxHeartbeats 2000000 in
theorem awake11_c : ACalls Tryz.prog 13 [] (· = [.d (.v (.bool true))]) := by
  have k1 := Split_c pAw (by decide)
  obtain ⟨sm, _⟩ := splitV_small pAw (by decide)
  obtain ⟨a1, a2, a3⟩ := aw_a
  obtain ⟨b1, b2⟩ := aw_b
  obtain ⟨c1, c2⟩ := aw_c
  generalize splitV pAw = q at *
  obtain ⟨L, e⟩ := q
  simp only [] at *
  subst a1
  have k2 := Coarsen_c L 0 sm
  rw [b1, b2] at k2
  have k3 := FindA_c L 3 sm
  rw [c1] at k3
  have k4 := OfA_c L 1 sm
  rw [c2] at k4
  rw [show max (0 : Int) 0 = 0 by decide, show decide ((0 : Int) ≥ 0) = true by decide] at k3
  have r0 := rowAt_at L 0
  generalize L.getD 0 at0 = a at r0 a3
  have k1 : ACalls Tryz.prog 12 [.d (.sl 4 2 fun i => [[Dat.v (.int .u64 0), .v (.int .u64 1), .v (.int .u64 0), .v (.int .u64 1)], [Dat.v (.int .u64 0), .v (.int .u64 2), .v (.int .u64 0), .v (.int .u64 2)]].getD i [])] (· = [.d (.sl 4 L.length (rowAt L)), .d (.v (.int .i64 0))]) :=
    acalls_le (.cons (ple_sl rfl fun i (hi' : i < 2) => by
      have : i = 0 ∨ i = 1 := by omega
      rcases this with rfl | rfl
      · show _ = cb ⟨1, 1⟩
        unfold cb
        simp only [show hi 1 = 0 by decide, show lo 1 = 1 by decide]; rfl
      · show _ = cb ⟨2, 2⟩
        unfold cb
        simp only [show hi 2 = 0 by decide, show lo 2 = 2 by decide]; rfl) .nil) k1
  unfold hd at k3
  rw [show hi 3 = 0 by decide, show lo 3 = 3 by decide] at k3
  rw [a2] at k1 k2 k3 k4
  unfold atD at r0
  rw [a3] at r0
  refine q10 Tryz.func13 rfl (by decide +kernel) (by rw [Tryz.ntmps13]; simp) ?_; rw [Tryz.ntmps13]; simp only [frOf]
  (repeat (first | refine q0 ?_ | refine j6 rfl ?_ | refine q7 rfl ?_ | refine q6 ?_ | (refine q4 fun K hK => ?_) | (refine x4 (by kernel_rfl) (by kernel_rfl) fun K hK => ?_) | ((first | refine j5 ?_ | refine z6 ?_ | ((first | refine q5 (hK _ ?_) | refine x5 (hK _ _ (j4 (by kernel_rfl)) ?_)); clear hK K)); (first | show AWP _ _ _ _ _ | ((try simp only [x6]); first | show loopQ _ _ _ _ _ _ | show cutQ _ _ _ _ | show AWP _ _ _ _ _))) | ((first | refine q9 rfl rfl rfl ?_ | refine x9 rfl rfl rfl ?_); simp (maxSteps := 2000000) (disch := omega) only [go_sem, seval, hd, cb, atD, j0, r0]; (first | refine ⟨_, k1, ?_⟩ | refine ⟨_, k2, ?_⟩ | refine ⟨_, k3, ?_⟩ | refine ⟨_, k4, ?_⟩)) | ((first | refine z7 [] rfl ?_ | refine x7 [] rfl ?_); simp (maxSteps := 2000000) (disch := omega) only [go_sem, seval, hd, cb, atD, j0, r0]; (repeat (first | refine ⟨by omega, ?_⟩ | refine ⟨True.intro, ?_⟩)))))
  refine j9 ⟨_, ?_, rfl⟩; rw [Tryz.results13]; simp (disch := omega) only [ResVars, ResVar, ptrLoc, go_sem, seval, hd, cb, atD, j0, r0]
theorem take_snd {p : List Cube} {n : Nat} : (p.take n).length ≤ n := by simp; omega
theorem soundP_take (p : List Cube) (hp : p.length ≤ 200) : soundP p = p.all Cube.sound := by
  unfold soundP; rw [decide_eq_true hp, Bool.true_and]
end Go.Proofs.YtemcdefpihkfpaaGreat
set_option linter.unusedSimpArgs false
set_option linter.unusedVariables false
namespace Go.Proofs.YtemcdefpihkfpaaGreat
open Go Go.Proofs.YtemcdefpihkfpaaGreat.AL
end Go.Proofs.YtemcdefpihkfpaaGreat
set_option linter.unusedSimpArgs false
set_option linter.unusedVariables false
namespace Go.Proofs.YtemcdefpihkfpaaGreat
open Go.Proofs.YtemcdefpihkfpaaGreat.AL
def leanTI (L : List Cube) (s : {s : Nat × List Cube // s.1 ≤ L.length ∧ s.2 = leanTo L s.1}) : ASt :=
  ⟨[(4, .p (.d (.v (.int .i64 (s.val.1 : Int))))), (3, .gr 7 s.val.2.length 1 s.val.2.length (rowT s.val.2)), (0, .p (.d (.sl 1 L.length (rowT L))))], [(7, .grow 9 1 s.val.2.length s.val.2.length)]⟩
def leanTJ (L : List Cube) (i : Nat) (out : List Cube) (s : {s : Nat × Bool // s.1 ≤ L.length ∧ s.2 = (List.range s.1).any (spareBy L i)}) : ASt :=
  ⟨[(6, .p (.d (.v (.int .i64 (s.val.1 : Int))))), (5, .p (.d (.v (.bool s.val.2)))), (4, .p (.d (.v (.int .i64 (i : Int))))), (3, .gr 7 out.length 1 out.length (rowT out)), (0, .p (.d (.sl 1 L.length (rowT L))))], [(7, .grow 9 1 out.length out.length)]⟩
set_option maxRecDepth 100000 in
set_option maxHeartbeats 2000000 in
theorem LeanT_c (L : List Cube) (hs : ∀ k ∈ L, k.sound = true) (hl : L.length ≤ 1099511627776) : ACalls Tryz.prog 20 [.d (.sl 1 L.length (rowT L))] (· = [.d (.sl 1 (leanP L).length (rowT (leanP L)))]) := by
  refine q10 Tryz.func20 rfl (by decide +kernel) (by rw [Tryz.ntmps20]; simp) ?_; rw [Tryz.ntmps20]; simp only [frOf]
  (repeat (first | refine q0 ?_ | refine j6 rfl ?_ | refine q7 rfl ?_ | refine q6 ?_ | (refine q4 fun K hK => ?_) | (refine x4 (by kernel_rfl) (by kernel_rfl) fun K hK => ?_) | ((first | refine j5 ?_ | refine z6 ?_ | ((first | refine q5 (hK _ ?_) | refine x5 (hK _ _ (j4 (by kernel_rfl)) ?_)); clear hK K)); (first | show AWP _ _ _ _ _ | ((try simp only [x6]); first | show loopQ _ _ _ _ _ _ | show cutQ _ _ _ _ | show AWP _ _ _ _ _))) | ((first | refine z7 [7] rfl ?_ | refine x7 [7] rfl ?_); simp (maxSteps := 2000000) (disch := omega) only [go_sem, seval, hd, cb, j0, x3]; (repeat (first | refine ⟨by omega, ?_⟩ | refine ⟨True.intro, ?_⟩)))))
  refine awp_loop (leanTI L) (fun s => L.length - s.val.1) ⟨(0, []), by simp, by simp [leanTo]⟩ ?_ (fun s => ?_)
  · unfold leanTI
    refine Weak.list ?_ ?_; (all_goals simp (disch := omega) only [AllF, AllL, x10, j10, z10, exists_eq_left', Option.some.injEq, go_sem, seval, hd, cb, j0, x3]); (all_goals (repeat' (with_reducible apply And.intro))); (all_goals try (first | exact j7 rfl | (refine q11 ?_; omega) | (refine j7 ?_; simp; done)))
    exact le_grgr rfl rfl (fun i hi => by omega)
  obtain ⟨⟨i, out⟩, hi, he⟩ := s
  unfold leanTI
  simp only [] at hi he
  have ho := leanTo_len L i
  rw [← he] at ho
  by_cases hn : i < L.length
  · have rn := rowT_of L i
    have sn := hs _ (getD_in hn ⟨0, 0⟩)
    have st := leanTo_succ L i
    rw [← he] at st
    obtain ⟨N, hN⟩ : ∃ N, L.getD i ⟨0, 0⟩ = N := ⟨_, rfl⟩
    rw [hN] at rn sn st
    (repeat (first | refine q0 ?_ | refine j6 rfl ?_ | refine q7 rfl ?_ | refine q6 ?_ | (refine q4 fun K hK => ?_) | (refine x4 (by kernel_rfl) (by kernel_rfl) fun K hK => ?_) | ((first | refine j5 ?_ | refine z6 ?_ | ((first | refine q5 (hK _ ?_) | refine x5 (hK _ _ (j4 (by kernel_rfl)) ?_)); clear hK K)); (first | show AWP _ _ _ _ _ | ((try simp only [x6]); first | show loopQ _ _ _ _ _ _ | show cutQ _ _ _ _ | show AWP _ _ _ _ _))) | ((first | refine z7 [7] rfl ?_ | refine x7 [7] rfl ?_); simp (maxSteps := 2000000) (disch := omega) only [go_sem, seval, hd, cb, j0, x3]; (repeat (first | refine ⟨by omega, ?_⟩ | refine ⟨True.intro, ?_⟩)))))
    refine awp_loop (leanTJ L i out) (fun s => L.length - s.val.1) ⟨(0, false), by simp, by simp⟩ ?_ (fun s => ?_)
    · unfold leanTJ
      refine Weak.list ?_ ?_; (all_goals simp (disch := omega) only [AllF, AllL, x10, j10, z10, exists_eq_left', Option.some.injEq, go_sem, seval, hd, cb, j0, x3]); (all_goals (repeat' (with_reducible apply And.intro))); (all_goals try (first | exact j7 rfl | (refine q11 ?_; omega) | (refine j7 ?_; simp; done)))
    obtain ⟨⟨j, sp⟩, hj, he2⟩ := s
    unfold leanTJ
    simp only [] at hj he2
    by_cases hm : j < L.length ∧ sp = false
    · obtain ⟨hm, rfl⟩ := hm
      have rj := rowT_of L j
      have sj := hs _ (getD_in hm ⟨0, 0⟩)
      have sb : spareBy L i j = (j != i && (withinC N (L.getD j ⟨0, 0⟩) && (N != L.getD j ⟨0, 0⟩ || decide (j < i)))) := by unfold spareBy; rw [hN]
      have ar := any_range_succ (spareBy L i) j
      rw [← he2, Bool.false_or] at ar
      generalize L.getD j ⟨0, 0⟩ = K at rj sj sb
      have wt := WithinT_c N K
      have hwo : withinT N K = withinC N K := by unfold withinC withinT; rw [sn, sj]; rfl
      have tb := txt_beq sn sj
      have nb : (N != K) = !(N == K) := rfl
      rw [hwo] at wt
      rw [nb] at sb
      generalize txt N = tN at rn wt tb
      generalize txt K = tK at rj wt tb
      by_cases hji : j = i
      · subst hji
        have h0 : spareBy L j j = false := by rw [sb]; simp
        rw [h0] at ar
        have q : ((j : Int) != (j : Int)) = false := by simp
        (repeat (first | refine q0 ?_ | refine j6 rfl ?_ | refine q7 rfl ?_ | refine q6 ?_ | (refine q4 fun K hK => ?_) | (refine x4 (by kernel_rfl) (by kernel_rfl) fun K hK => ?_) | ((first | refine j5 ?_ | refine z6 ?_ | ((first | refine q5 (hK _ ?_) | refine x5 (hK _ _ (j4 (by kernel_rfl)) ?_)); clear hK K)); (first | show AWP _ _ _ _ _ | ((try simp only [x6]); first | show loopQ _ _ _ _ _ _ | show cutQ _ _ _ _ | show AWP _ _ _ _ _))) | ((first | refine q9 rfl rfl rfl ?_ | refine x9 rfl rfl rfl ?_); simp (maxSteps := 2000000) (disch := omega) only [go_sem, seval, hd, cb, j0, x3, q]; (first | refine ⟨_, wt, ?_⟩)) | ((first | refine z7 [7] rfl ?_ | refine x7 [7] rfl ?_); simp (maxSteps := 2000000) (disch := omega) only [go_sem, seval, hd, cb, j0, x3, q]; (repeat (first | refine ⟨by omega, ?_⟩ | refine ⟨True.intro, ?_⟩)))))
        refine ⟨⟨(j + 1, false), by simp only []; omega, ar.symm⟩, by simp only []; omega, ?_⟩
        refine Weak.list ?_ ?_; (all_goals simp (disch := omega) only [AllF, AllL, x10, j10, z10, exists_eq_left', Option.some.injEq, go_sem, seval, hd, cb, j0, x3, q]); (all_goals (repeat' (with_reducible apply And.intro))); (all_goals try (first | exact j7 rfl | (refine q11 ?_; omega) | (refine j7 ?_; simp; done)))
      · have q : ((j : Int) != (i : Int)) = true := by simp; omega
        have q2 : (j != i) = true := by simpa using hji
        rw [q2, Bool.true_and] at sb
        cases hw : withinC N K
        · rw [hw] at wt sb
          rw [sb] at ar
          (repeat (first | refine q0 ?_ | refine j6 rfl ?_ | refine q7 rfl ?_ | refine q6 ?_ | (refine q4 fun K hK => ?_) | (refine x4 (by kernel_rfl) (by kernel_rfl) fun K hK => ?_) | ((first | refine j5 ?_ | refine z6 ?_ | ((first | refine q5 (hK _ ?_) | refine x5 (hK _ _ (j4 (by kernel_rfl)) ?_)); clear hK K)); (first | show AWP _ _ _ _ _ | ((try simp only [x6]); first | show loopQ _ _ _ _ _ _ | show cutQ _ _ _ _ | show AWP _ _ _ _ _))) | ((first | refine q9 rfl rfl rfl ?_ | refine x9 rfl rfl rfl ?_); simp (maxSteps := 2000000) (disch := omega) only [go_sem, seval, hd, cb, j0, x3, rn, rj, q]; (first | refine ⟨_, wt, ?_⟩)) | ((first | refine z7 [7] rfl ?_ | refine x7 [7] rfl ?_); simp (maxSteps := 2000000) (disch := omega) only [go_sem, seval, hd, cb, j0, x3, rn, rj, q]; (repeat (first | refine ⟨by omega, ?_⟩ | refine ⟨True.intro, ?_⟩)))))
          refine ⟨⟨(j + 1, false), by simp only []; omega, ar.symm⟩, by simp only []; omega, ?_⟩
          refine Weak.list ?_ ?_; (all_goals simp (disch := omega) only [AllF, AllL, x10, j10, z10, exists_eq_left', Option.some.injEq, go_sem, seval, hd, cb, j0, x3, rn, rj, q]); (all_goals (repeat' (with_reducible apply And.intro))); (all_goals try (first | exact j7 rfl | (refine q11 ?_; omega) | (refine j7 ?_; simp; done)))
        · rw [hw] at wt
          rw [hw, Bool.true_and] at sb
          cases hq : (N == K)
          · rw [hq] at tb sb
            rw [sb] at ar
            (repeat (first | refine q0 ?_ | refine j6 rfl ?_ | refine q7 rfl ?_ | refine q6 ?_ | (refine q4 fun K hK => ?_) | (refine x4 (by kernel_rfl) (by kernel_rfl) fun K hK => ?_) | ((first | refine j5 ?_ | refine z6 ?_ | ((first | refine q5 (hK _ ?_) | refine x5 (hK _ _ (j4 (by kernel_rfl)) ?_)); clear hK K)); (first | show AWP _ _ _ _ _ | ((try simp only [x6]); first | show loopQ _ _ _ _ _ _ | show cutQ _ _ _ _ | show AWP _ _ _ _ _))) | ((first | refine q9 rfl rfl rfl ?_ | refine x9 rfl rfl rfl ?_); simp (maxSteps := 2000000) (disch := omega) only [go_sem, seval, hd, cb, j0, x3, rn, rj, q, tb]; (first | refine ⟨_, wt, ?_⟩)) | ((first | refine z7 [7] rfl ?_ | refine x7 [7] rfl ?_); simp (maxSteps := 2000000) (disch := omega) only [go_sem, seval, hd, cb, j0, x3, rn, rj, q, tb]; (repeat (first | refine ⟨by omega, ?_⟩ | refine ⟨True.intro, ?_⟩)))))
            refine ⟨⟨(j + 1, true), by simp only []; omega, ar.symm⟩, by simp only []; omega, ?_⟩
            refine Weak.list ?_ ?_; (all_goals simp (disch := omega) only [AllF, AllL, x10, j10, z10, exists_eq_left', Option.some.injEq, go_sem, seval, hd, cb, j0, x3, rn, rj, q, tb]); (all_goals (repeat' (with_reducible apply And.intro))); (all_goals try (first | exact j7 rfl | (refine q11 ?_; omega) | (refine j7 ?_; simp; done)))
          · rw [hq] at tb sb
            by_cases hl2 : j < i
            · rw [decide_eq_true hl2] at sb
              rw [sb] at ar
              (repeat (first | refine q0 ?_ | refine j6 rfl ?_ | refine q7 rfl ?_ | refine q6 ?_ | (refine q4 fun K hK => ?_) | (refine x4 (by kernel_rfl) (by kernel_rfl) fun K hK => ?_) | ((first | refine j5 ?_ | refine z6 ?_ | ((first | refine q5 (hK _ ?_) | refine x5 (hK _ _ (j4 (by kernel_rfl)) ?_)); clear hK K)); (first | show AWP _ _ _ _ _ | ((try simp only [x6]); first | show loopQ _ _ _ _ _ _ | show cutQ _ _ _ _ | show AWP _ _ _ _ _))) | ((first | refine q9 rfl rfl rfl ?_ | refine x9 rfl rfl rfl ?_); simp (maxSteps := 2000000) (disch := omega) only [go_sem, seval, hd, cb, j0, x3, rn, rj, q, tb]; (first | refine ⟨_, wt, ?_⟩)) | ((first | refine z7 [7] rfl ?_ | refine x7 [7] rfl ?_); simp (maxSteps := 2000000) (disch := omega) only [go_sem, seval, hd, cb, j0, x3, rn, rj, q, tb]; (repeat (first | refine ⟨by omega, ?_⟩ | refine ⟨True.intro, ?_⟩)))))
              refine ⟨⟨(j + 1, true), by simp only []; omega, ar.symm⟩, by simp only []; omega, ?_⟩
              refine Weak.list ?_ ?_; (all_goals simp (disch := omega) only [AllF, AllL, x10, j10, z10, exists_eq_left', Option.some.injEq, go_sem, seval, hd, cb, j0, x3, rn, rj, q, tb]); (all_goals (repeat' (with_reducible apply And.intro))); (all_goals try (first | exact j7 rfl | (refine q11 ?_; omega) | (refine j7 ?_; simp; done)))
            · rw [decide_eq_false hl2] at sb
              rw [sb] at ar
              (repeat (first | refine q0 ?_ | refine j6 rfl ?_ | refine q7 rfl ?_ | refine q6 ?_ | (refine q4 fun K hK => ?_) | (refine x4 (by kernel_rfl) (by kernel_rfl) fun K hK => ?_) | ((first | refine j5 ?_ | refine z6 ?_ | ((first | refine q5 (hK _ ?_) | refine x5 (hK _ _ (j4 (by kernel_rfl)) ?_)); clear hK K)); (first | show AWP _ _ _ _ _ | ((try simp only [x6]); first | show loopQ _ _ _ _ _ _ | show cutQ _ _ _ _ | show AWP _ _ _ _ _))) | ((first | refine q9 rfl rfl rfl ?_ | refine x9 rfl rfl rfl ?_); simp (maxSteps := 2000000) (disch := omega) only [go_sem, seval, hd, cb, j0, x3, rn, rj, q, tb]; (first | refine ⟨_, wt, ?_⟩)) | ((first | refine z7 [7] rfl ?_ | refine x7 [7] rfl ?_); simp (maxSteps := 2000000) (disch := omega) only [go_sem, seval, hd, cb, j0, x3, rn, rj, q, tb]; (repeat (first | refine ⟨by omega, ?_⟩ | refine ⟨True.intro, ?_⟩)))))
              refine ⟨⟨(j + 1, false), by simp only []; omega, ar.symm⟩, by simp only []; omega, ?_⟩
              refine Weak.list ?_ ?_; (all_goals simp (disch := omega) only [AllF, AllL, x10, j10, z10, exists_eq_left', Option.some.injEq, go_sem, seval, hd, cb, j0, x3, rn, rj, q, tb]); (all_goals (repeat' (with_reducible apply And.intro))); (all_goals try (first | exact j7 rfl | (refine q11 ?_; omega) | (refine j7 ?_; simp; done)))
    · have hsp : sp = spareP L i := by
        unfold spareP
        rw [hN, sn]
        simp only [Bool.not_true, Bool.or_false]
        by_cases hjl : j = L.length
        · rw [he2, hjl]
        · have : sp = true := by cases hsp : sp; exact absurd ⟨by omega, hsp⟩ hm; rfl
          rw [this] at he2 ⊢
          symm
          obtain ⟨k, hk, hk2⟩ := List.any_eq_true.1 he2.symm
          have := List.mem_range.1 hk
          exact List.any_eq_true.2 ⟨k, List.mem_range.2 (by omega), hk2⟩
      rw [← hsp] at st
      cases sp
      · have hjl : j = L.length := by
          refine Classical.byContradiction fun hne => hm ⟨by omega, rfl⟩
        subst hjl
        simp only [Bool.false_eq_true, if_false] at st
        (repeat (first | refine q0 ?_ | refine j6 rfl ?_ | refine q7 rfl ?_ | refine q6 ?_ | (refine q4 fun K hK => ?_) | (refine x4 (by kernel_rfl) (by kernel_rfl) fun K hK => ?_) | ((first | refine j5 ?_ | refine z6 ?_ | ((first | refine q5 (hK _ ?_) | refine x5 (hK _ _ (j4 (by kernel_rfl)) ?_)); clear hK K)); (first | show AWP _ _ _ _ _ | ((try simp only [x6]); first | show loopQ _ _ _ _ _ _ | show cutQ _ _ _ _ | show AWP _ _ _ _ _))) | ((first | refine z7 [7] rfl ?_ | refine x7 [7] rfl ?_); simp (maxSteps := 2000000) (disch := omega) only [go_sem, seval, hd, cb, j0, x3, rn]; (repeat (first | refine ⟨by omega, ?_⟩ | refine ⟨True.intro, ?_⟩)))))
        refine ⟨⟨(i + 1, out ++ [N]), by simp only []; omega, st.symm⟩, by simp only []; omega, ?_⟩
        refine Weak.list ?_ ?_; (all_goals simp (disch := omega) only [AllF, AllL, x10, j10, z10, exists_eq_left', Option.some.injEq, go_sem, seval, hd, cb, j0, x3, rn]); (all_goals (repeat' (with_reducible apply And.intro))); (all_goals try (first | exact j7 rfl | (refine q11 ?_; omega) | (refine j7 ?_; simp; done)))
        · exact le_grgr (by simp) (by simp) (fun k hk => rowT_put out N k hk)
        · exact lle_grow (by simp) (by simp)
      · simp only [if_true, List.append_nil] at st
        by_cases hjl : j < L.length
        all_goals
          (repeat (first | refine q0 ?_ | refine j6 rfl ?_ | refine q7 rfl ?_ | refine q6 ?_ | (refine q4 fun K hK => ?_) | (refine x4 (by kernel_rfl) (by kernel_rfl) fun K hK => ?_) | ((first | refine j5 ?_ | refine z6 ?_ | ((first | refine q5 (hK _ ?_) | refine x5 (hK _ _ (j4 (by kernel_rfl)) ?_)); clear hK K)); (first | show AWP _ _ _ _ _ | ((try simp only [x6]); first | show loopQ _ _ _ _ _ _ | show cutQ _ _ _ _ | show AWP _ _ _ _ _))) | ((first | refine z7 [7] rfl ?_ | refine x7 [7] rfl ?_); simp (maxSteps := 2000000) (disch := omega) only [go_sem, seval, hd, cb, j0, x3, rn]; (repeat (first | refine ⟨by omega, ?_⟩ | refine ⟨True.intro, ?_⟩)))))
          refine ⟨⟨(i + 1, out), by simp only []; omega, st.symm⟩, by simp only []; omega, ?_⟩
          refine Weak.list ?_ ?_; (all_goals simp (disch := omega) only [AllF, AllL, x10, j10, z10, exists_eq_left', Option.some.injEq, go_sem, seval, hd, cb, j0, x3, rn]); (all_goals (repeat' (with_reducible apply And.intro))); (all_goals try (first | exact j7 rfl | (refine q11 ?_; omega) | (refine j7 ?_; simp; done)))
  · have hil : i = L.length := by omega
    subst hil
    (repeat (first | refine q0 ?_ | refine j6 rfl ?_ | refine q7 rfl ?_ | refine q6 ?_ | (refine q4 fun K hK => ?_) | (refine x4 (by kernel_rfl) (by kernel_rfl) fun K hK => ?_) | ((first | refine j5 ?_ | refine z6 ?_ | ((first | refine q5 (hK _ ?_) | refine x5 (hK _ _ (j4 (by kernel_rfl)) ?_)); clear hK K)); (first | show AWP _ _ _ _ _ | ((try simp only [x6]); first | show loopQ _ _ _ _ _ _ | show cutQ _ _ _ _ | show AWP _ _ _ _ _))) | ((first | refine z7 [7] rfl ?_ | refine x7 [7] rfl ?_); simp (maxSteps := 2000000) (disch := omega) only [go_sem, seval, hd, cb, j0, x3]; (repeat (first | refine ⟨by omega, ?_⟩ | refine ⟨True.intro, ?_⟩)))))
    refine awp_slot 2 _ (.p (.d (.sl 1 (leanP L).length (rowT (leanP L))))) rfl ?_ ?_
    · unfold leanP
      rw [← he]
      exact le_gr rfl (fun _ _ => rfl)
    refine j9 ⟨_, ?_, rfl⟩; rw [Tryz.results20]; simp (disch := omega) only [ResVars, ResVar, ptrLoc, go_sem, seval, hd, cb, j0, x3]
end Go.Proofs.YtemcdefpihkfpaaGreat
set_option linter.unusedSimpArgs false
set_option linter.unusedVariables false
namespace Go.Proofs.YtemcdefpihkfpaaGreat
open Go.Proofs.YtemcdefpihkfpaaGreat.AL
def sameI (l : List Cube) (i : Fin (l.length + 1)) : ASt :=
  ⟨[(5, .p (.d (.v (.int .i64 (i.val : Int))))), (1, .p (.d (.sl 1 l.length (rowT l)))), (0, .p (.d (.sl 4 l.length (rowC l))))], []⟩
theorem str_refl (s : ByteArray) : (s == s) = true := by
  have : (s.data == s.data) = true := by simp
  exact this
theorem SameR_c (l : List Cube) (hs : ∀ k ∈ l, k.sound = true) (hl : l.length ≤ 1099511627776) : ACalls Tryz.prog 23 [.d (.sl 4 l.length (rowC l)), .d (.sl 1 l.length (rowT l))] (· = [.d (.v (.bool true))]) := by
  refine q10 Tryz.func23 rfl (by decide +kernel) (by rw [Tryz.ntmps23]; simp) ?_; rw [Tryz.ntmps23]; simp only [frOf]
  (repeat (first | refine q0 ?_ | refine j6 rfl ?_ | refine q7 rfl ?_ | refine q6 ?_ | (refine q4 fun K hK => ?_) | (refine x4 (by kernel_rfl) (by kernel_rfl) fun K hK => ?_) | ((first | refine j5 ?_ | refine z6 ?_ | ((first | refine q5 (hK _ ?_) | refine x5 (hK _ _ (j4 (by kernel_rfl)) ?_)); clear hK K)); (first | show AWP _ _ _ _ _ | ((try simp only [x6]); first | show loopQ _ _ _ _ _ _ | show cutQ _ _ _ _ | show AWP _ _ _ _ _))) | ((first | refine z7 [] rfl ?_ | refine x7 [] rfl ?_); simp (maxSteps := 2000000) (disch := omega) only [go_sem, seval, hd, cb, j0, x3, bne_self_eq_false, beq_self_eq_true, Bool.not_true]; (repeat (first | refine ⟨by omega, ?_⟩ | refine ⟨True.intro, ?_⟩)))))
  refine awp_loop (sameI l) (fun i => l.length - i.val) ⟨0, by omega⟩ ?_ (fun s => ?_)
  · unfold sameI
    refine Weak.list ?_ ?_; (all_goals simp (disch := omega) only [AllF, AllL, x10, j10, z10, exists_eq_left', Option.some.injEq, go_sem, seval, hd, cb, j0, x3, bne_self_eq_false, beq_self_eq_true, Bool.not_true]); (all_goals (repeat' (with_reducible apply And.intro))); (all_goals try (first | exact j7 rfl | (refine q11 ?_; omega) | (refine j7 ?_; simp; done)))
  obtain ⟨i, hi⟩ := s
  unfold sameI
  by_cases hn : i < l.length
  · have r1 := rowC_at l i
    have r2 := rowT_of l i
    have sk := hs _ (getD_in hn ⟨0, 0⟩)
    generalize l.getD i ⟨0, 0⟩ = K at r1 r2 sk
    have tx := Text_c K
    rw [sk] at tx
    simp only [if_true] at tx
    have q := str_refl (txt K)
    generalize txt K = s at tx r2 q
    (repeat (first | refine q0 ?_ | refine j6 rfl ?_ | refine q7 rfl ?_ | refine q6 ?_ | (refine q4 fun K hK => ?_) | (refine x4 (by kernel_rfl) (by kernel_rfl) fun K hK => ?_) | ((first | refine j5 ?_ | refine z6 ?_ | ((first | refine q5 (hK _ ?_) | refine x5 (hK _ _ (j4 (by kernel_rfl)) ?_)); clear hK K)); (first | show AWP _ _ _ _ _ | ((try simp only [x6]); first | show loopQ _ _ _ _ _ _ | show cutQ _ _ _ _ | show AWP _ _ _ _ _))) | ((first | refine q9 rfl rfl rfl ?_ | refine x9 rfl rfl rfl ?_); simp (maxSteps := 2000000) (disch := omega) only [go_sem, seval, hd, cb, j0, x3, bne_self_eq_false, beq_self_eq_true, Bool.not_true, r1, r2, q]; (first | refine ⟨_, tx, ?_⟩)) | ((first | refine z7 [] rfl ?_ | refine x7 [] rfl ?_); simp (maxSteps := 2000000) (disch := omega) only [go_sem, seval, hd, cb, j0, x3, bne_self_eq_false, beq_self_eq_true, Bool.not_true, r1, r2, q]; (repeat (first | refine ⟨by omega, ?_⟩ | refine ⟨True.intro, ?_⟩)))))
    refine ⟨⟨i + 1, by omega⟩, by simp only []; omega, ?_⟩
    refine Weak.list ?_ ?_; (all_goals simp (disch := omega) only [AllF, AllL, x10, j10, z10, exists_eq_left', Option.some.injEq, go_sem, seval, hd, cb, j0, x3, bne_self_eq_false, beq_self_eq_true, Bool.not_true, r1, r2, q]); (all_goals (repeat' (with_reducible apply And.intro))); (all_goals try (first | exact j7 rfl | (refine q11 ?_; omega) | (refine j7 ?_; simp; done)))
  · have : i = l.length := by omega
    subst this
    (repeat (first | refine q0 ?_ | refine j6 rfl ?_ | refine q7 rfl ?_ | refine q6 ?_ | (refine q4 fun K hK => ?_) | (refine x4 (by kernel_rfl) (by kernel_rfl) fun K hK => ?_) | ((first | refine j5 ?_ | refine z6 ?_ | ((first | refine q5 (hK _ ?_) | refine x5 (hK _ _ (j4 (by kernel_rfl)) ?_)); clear hK K)); (first | show AWP _ _ _ _ _ | ((try simp only [x6]); first | show loopQ _ _ _ _ _ _ | show cutQ _ _ _ _ | show AWP _ _ _ _ _))) | ((first | refine z7 [] rfl ?_ | refine x7 [] rfl ?_); simp (maxSteps := 2000000) (disch := omega) only [go_sem, seval, hd, cb, j0, x3, bne_self_eq_false, beq_self_eq_true, Bool.not_true]; (repeat (first | refine ⟨by omega, ?_⟩ | refine ⟨True.intro, ?_⟩)))))
    refine j9 ⟨_, ?_, rfl⟩; rw [Tryz.results23]; simp (disch := omega) only [ResVars, ResVar, ptrLoc, go_sem, seval, hd, cb, j0, x3, bne_self_eq_false, beq_self_eq_true, Bool.not_true]
end Go.Proofs.YtemcdefpihkfpaaGreat
set_option linter.unusedSimpArgs false
set_option linter.unusedVariables false
namespace Go.Proofs.YtemcdefpihkfpaaGreat
open Go.Proofs.YtemcdefpihkfpaaGreat.AL
end Go.Proofs.YtemcdefpihkfpaaGreat
set_option linter.unusedSimpArgs false
set_option linter.unusedVariables false
namespace Go.Proofs.YtemcdefpihkfpaaGreat
open Go.Proofs.YtemcdefpihkfpaaGreat.AL
theorem and_sound {k : Cube} (h : k.sound = true) : k.v &&& k.c = k.v := by
  have := (sound_iff k).1 h
  apply BitVec.eq_of_getLsbD_eq
  intro i hlt
  rw [BitVec.getLsbD_and]
  cases hv : k.v.getLsbD i
  · rfl
  · rw [this i hlt hv]; rfl
theorem sound_meet {a b : Cube} (h : meetO a b = true) : (meetV a b).sound = true := by
  unfold meetO at h
  simp only [Bool.and_eq_true] at h
  have ha := (sound_iff a).1 h.1.1; have hb := (sound_iff b).1 h.1.2
  unfold meetV meetO
  rw [h.1.1, h.1.2, h.2]
  refine (sound_iff _).2 fun i hi hv => ?_
  simp only [Bool.and_self, if_true, BitVec.getLsbD_or, Bool.or_eq_true] at hv ⊢
  exact hv.imp (ha i hi) (hb i hi)
theorem meet_text {a b : Cube} (ha : a.sound = true) (hb : b.sound = true) : meetT a b = ⟨a.v ||| b.v, a.c ||| b.c⟩ := by
  unfold meetT; rw [and_sound ha, and_sound hb]
end Go.Proofs.YtemcdefpihkfpaaGreat
set_option linter.unusedSimpArgs false
set_option linter.unusedVariables false
namespace Go.Proofs.YtemcdefpihkfpaaGreat
open Go.Proofs.YtemcdefpihkfpaaGreat.AL
theorem meetO_sound {x y : Cube} (hx : x.sound = true) (hy : y.sound = true) : meetO x y = (apart x y == 0) := by unfold meetO; rw [hx, hy]; rfl
theorem meetT_meetV {x y : Cube} (hx : x.sound = true) (hy : y.sound = true) (h : meetO x y = true) : meetT x y = meetV x y := by
  rw [meet_text hx hy]; unfold meetV; rw [h]; rfl
def meetTI (a b : List Cube) (s : {s : Nat × List Cube // s.1 ≤ a.length ∧ s.2 = (a.take s.1).flatMap (meetRow b) ∧ s.2.length ≤ s.1 * b.length}) : ASt :=
  ⟨[(6, .p (.d (.v (.int .i64 (s.val.1 : Int))))), (5, .gr 10 s.val.2.length 1 s.val.2.length (rowT s.val.2)), (1, .p (.d (.sl 1 b.length (rowT b)))), (0, .p (.d (.sl 1 a.length (rowT a))))],
   [(10, .grow 9 1 s.val.2.length s.val.2.length)]⟩
def meetTJ (a b : List Cube) (x : Cube) (i : Nat) (pre : List Cube) (s : {s : Nat × List Cube // s.1 ≤ b.length ∧ s.2 = pre ++ (b.take s.1).filterMap (meetOne x) ∧ s.2.length ≤ pre.length + s.1}) : ASt :=
  ⟨[(7, .p (.d (.v (.int .i64 (s.val.1 : Int))))), (6, .p (.d (.v (.int .i64 (i : Int))))), (5, .gr 10 s.val.2.length 1 s.val.2.length (rowT s.val.2)), (1, .p (.d (.sl 1 b.length (rowT b)))), (0, .p (.d (.sl 1 a.length (rowT a))))],
   [(10, .grow 9 1 s.val.2.length s.val.2.length)]⟩
set_option maxRecDepth 100000 in
set_option maxHeartbeats 2000000 in
theorem MeetTP_c (a b : List Cube) (sa : ∀ k ∈ a, k.sound = true) (sb : ∀ k ∈ b, k.sound = true) (ha : a.length ≤ 200) (hb : b.length ≤ 200) : ACalls Tryz.prog 21 [.d (.sl 1 a.length (rowT a)), .d (.sl 1 b.length (rowT b))]
    (· = [.d (.sl 1 (meetsP a b).length (rowT (meetsP a b)))]) := by
  refine q10 Tryz.func21 rfl (by decide +kernel) (by rw [Tryz.ntmps21]; simp) ?_; rw [Tryz.ntmps21]; simp only [frOf]
  (repeat (first | refine q0 ?_ | refine j6 rfl ?_ | refine q7 rfl ?_ | refine q6 ?_ | (refine q4 fun K hK => ?_) | (refine x4 (by kernel_rfl) (by kernel_rfl) fun K hK => ?_) | ((first | refine j5 ?_ | refine z6 ?_ | ((first | refine q5 (hK _ ?_) | refine x5 (hK _ _ (j4 (by kernel_rfl)) ?_)); clear hK K)); (first | show AWP _ _ _ _ _ | ((try simp only [x6]); first | show loopQ _ _ _ _ _ _ | show cutQ _ _ _ _ | show AWP _ _ _ _ _))) | ((first | refine z7 [10] rfl ?_ | refine x7 [10] rfl ?_); simp (maxSteps := 2000000) (disch := omega) only [go_sem, seval, hd, cb, j0, x3]; (repeat (first | refine ⟨by omega, ?_⟩ | refine ⟨True.intro, ?_⟩)))))
  refine awp_loop (meetTI a b) (fun s => a.length - s.val.1) ⟨(0, []), by simp, by simp, by simp⟩ ?_ (fun s => ?_)
  · unfold meetTI
    refine Weak.list ?_ ?_; (all_goals simp (disch := omega) only [AllF, AllL, x10, j10, z10, exists_eq_left', Option.some.injEq, go_sem, seval, hd, cb, j0, x3]); (all_goals (repeat' (with_reducible apply And.intro))); (all_goals try (first | exact j7 rfl | (refine q11 ?_; omega) | (refine j7 ?_; simp; done)))
    exact le_grgr rfl rfl (fun i hi => by omega)
  obtain ⟨⟨i, out⟩, hi, he, ho⟩ := s
  unfold meetTI
  simp only [] at hi he ho
  have hio : i * b.length ≤ 200 * 200 := Nat.mul_le_mul (by omega) hb
  by_cases hn : i < a.length
  · have r1 := rowT_of a i
    have st := take_succ_getD a i ⟨0, 0⟩ hn
    have sX := sa _ (getD_in hn ⟨0, 0⟩)
    generalize a.getD i ⟨0, 0⟩ = X at r1 st sX
    (repeat (first | refine q0 ?_ | refine j6 rfl ?_ | refine q7 rfl ?_ | refine q6 ?_ | (refine q4 fun K hK => ?_) | (refine x4 (by kernel_rfl) (by kernel_rfl) fun K hK => ?_) | ((first | refine j5 ?_ | refine z6 ?_ | ((first | refine q5 (hK _ ?_) | refine x5 (hK _ _ (j4 (by kernel_rfl)) ?_)); clear hK K)); (first | show AWP _ _ _ _ _ | ((try simp only [x6]); first | show loopQ _ _ _ _ _ _ | show cutQ _ _ _ _ | show AWP _ _ _ _ _))) | ((first | refine z7 [10] rfl ?_ | refine x7 [10] rfl ?_); simp (maxSteps := 2000000) (disch := omega) only [go_sem, seval, hd, cb, j0, x3]; (repeat (first | refine ⟨by omega, ?_⟩ | refine ⟨True.intro, ?_⟩)))))
    refine awp_loop (meetTJ a b X i out) (fun s => b.length - s.val.1) ⟨(0, out), by simp, by simp, by simp⟩ ?_ (fun s => ?_)
    · unfold meetTJ
      refine Weak.list ?_ ?_; (all_goals simp (disch := omega) only [AllF, AllL, x10, j10, z10, exists_eq_left', Option.some.injEq, go_sem, seval, hd, cb, j0, x3]); (all_goals (repeat' (with_reducible apply And.intro))); (all_goals try (first | exact j7 rfl | (refine q11 ?_; omega) | (refine j7 ?_; simp; done)))
    obtain ⟨⟨j, ou2⟩, hj, he2, ho2⟩ := s
    unfold meetTJ
    simp only [] at hj he2 ho2
    by_cases hm : j < b.length
    · have r2 := rowT_of b j
      have st2 := take_succ_getD b j ⟨0, 0⟩ hm
      have sY := sb _ (getD_in hm ⟨0, 0⟩)
      generalize b.getD j ⟨0, 0⟩ = Y at r2 st2 sY
      have mt := MeetT_c X Y
      have mo := meetO_sound sX sY
      have mv := @meetT_meetV X Y sX sY
      have so : (b.take (j + 1)).filterMap (meetOne X) = (b.take j).filterMap (meetOne X) ++ (if meetO X Y then [meetV X Y] else []) := by
        rw [st2, List.filterMap_append]
        congr 1
        cases h : meetO X Y <;> simp [meetOne, h]
      rw [← mo] at mt
      generalize meetV X Y = V at mv so
      generalize txt X = tX at r1 mt
      generalize txt Y = tY at r2 mt
      cases h : meetO X Y
      · rw [h] at mt so
        simp only [Bool.false_eq_true, if_false, if_true] at mt so
        (repeat (first | refine q0 ?_ | refine j6 rfl ?_ | refine q7 rfl ?_ | refine q6 ?_ | (refine q4 fun K hK => ?_) | (refine x4 (by kernel_rfl) (by kernel_rfl) fun K hK => ?_) | ((first | refine j5 ?_ | refine z6 ?_ | ((first | refine q5 (hK _ ?_) | refine x5 (hK _ _ (j4 (by kernel_rfl)) ?_)); clear hK K)); (first | show AWP _ _ _ _ _ | ((try simp only [x6]); first | show loopQ _ _ _ _ _ _ | show cutQ _ _ _ _ | show AWP _ _ _ _ _))) | ((first | refine q9 rfl rfl rfl ?_ | refine x9 rfl rfl rfl ?_); simp (maxSteps := 2000000) (disch := omega) only [go_sem, seval, hd, cb, j0, x3, r1, r2]; (first | refine ⟨_, mt, ?_⟩)) | ((first | refine z7 [10] rfl ?_ | refine x7 [10] rfl ?_); simp (maxSteps := 2000000) (disch := omega) only [go_sem, seval, hd, cb, j0, x3, r1, r2]; (repeat (first | refine ⟨by omega, ?_⟩ | refine ⟨True.intro, ?_⟩)))))
        refine ⟨⟨(j + 1, ou2), by simp only []; omega, by rw [so, List.append_nil]; exact he2, by simp only []; omega⟩, by simp only []; omega, ?_⟩
        refine Weak.list ?_ ?_; (all_goals simp (disch := omega) only [AllF, AllL, x10, j10, z10, exists_eq_left', Option.some.injEq, go_sem, seval, hd, cb, j0, x3, r1, r2]); (all_goals (repeat' (with_reducible apply And.intro))); (all_goals try (first | exact j7 rfl | (refine q11 ?_; omega) | (refine j7 ?_; simp; done)))
      · rw [h] at mt so
        rw [mv h] at mt
        simp only [Bool.false_eq_true, if_false, if_true] at mt so
        (repeat (first | refine q0 ?_ | refine j6 rfl ?_ | refine q7 rfl ?_ | refine q6 ?_ | (refine q4 fun K hK => ?_) | (refine x4 (by kernel_rfl) (by kernel_rfl) fun K hK => ?_) | ((first | refine j5 ?_ | refine z6 ?_ | ((first | refine q5 (hK _ ?_) | refine x5 (hK _ _ (j4 (by kernel_rfl)) ?_)); clear hK K)); (first | show AWP _ _ _ _ _ | ((try simp only [x6]); first | show loopQ _ _ _ _ _ _ | show cutQ _ _ _ _ | show AWP _ _ _ _ _))) | ((first | refine q9 rfl rfl rfl ?_ | refine x9 rfl rfl rfl ?_); simp (maxSteps := 2000000) (disch := omega) only [go_sem, seval, hd, cb, j0, x3, r1, r2]; (first | refine ⟨_, mt, ?_⟩)) | ((first | refine z7 [10] rfl ?_ | refine x7 [10] rfl ?_); simp (maxSteps := 2000000) (disch := omega) only [go_sem, seval, hd, cb, j0, x3, r1, r2]; (repeat (first | refine ⟨by omega, ?_⟩ | refine ⟨True.intro, ?_⟩)))))
        refine ⟨⟨(j + 1, ou2 ++ [V]), by simp only []; omega, by rw [so, ← List.append_assoc, ← he2], by simp; omega⟩, by simp only []; omega, ?_⟩
        refine Weak.list ?_ ?_; (all_goals simp (disch := omega) only [AllF, AllL, x10, j10, z10, exists_eq_left', Option.some.injEq, go_sem, seval, hd, cb, j0, x3, r1, r2]); (all_goals (repeat' (with_reducible apply And.intro))); (all_goals try (first | exact j7 rfl | (refine q11 ?_; omega) | (refine j7 ?_; simp; done)))
        · exact le_grgr (by simp) (by simp) (fun k hk => rowT_put ou2 V k hk)
        · exact lle_grow (by simp) (by simp)
    · have hjl : j = b.length := by omega
      subst hjl
      (repeat (first | refine q0 ?_ | refine j6 rfl ?_ | refine q7 rfl ?_ | refine q6 ?_ | (refine q4 fun K hK => ?_) | (refine x4 (by kernel_rfl) (by kernel_rfl) fun K hK => ?_) | ((first | refine j5 ?_ | refine z6 ?_ | ((first | refine q5 (hK _ ?_) | refine x5 (hK _ _ (j4 (by kernel_rfl)) ?_)); clear hK K)); (first | show AWP _ _ _ _ _ | ((try simp only [x6]); first | show loopQ _ _ _ _ _ _ | show cutQ _ _ _ _ | show AWP _ _ _ _ _))) | ((first | refine z7 [10] rfl ?_ | refine x7 [10] rfl ?_); simp (maxSteps := 2000000) (disch := omega) only [go_sem, seval, hd, cb, j0, x3, r1]; (repeat (first | refine ⟨by omega, ?_⟩ | refine ⟨True.intro, ?_⟩)))))
      refine ⟨⟨(i + 1, ou2), by simp only []; omega, ?_, ?_⟩, by simp only []; omega, ?_⟩
      · rw [st, List.flatMap_append, ← he, he2, List.take_length]
        simp [meetRow]
      · simp only []
        rw [Nat.add_mul, Nat.one_mul]; omega
      refine Weak.list ?_ ?_; (all_goals simp (disch := omega) only [AllF, AllL, x10, j10, z10, exists_eq_left', Option.some.injEq, go_sem, seval, hd, cb, j0, x3, r1]); (all_goals (repeat' (with_reducible apply And.intro))); (all_goals try (first | exact j7 rfl | (refine q11 ?_; omega) | (refine j7 ?_; simp; done)))
  · have hil : i = a.length := by omega
    subst hil
    rw [List.take_length] at he
    have : out = meetsP a b := he
    rw [← this]
    (repeat (first | refine q0 ?_ | refine j6 rfl ?_ | refine q7 rfl ?_ | refine q6 ?_ | (refine q4 fun K hK => ?_) | (refine x4 (by kernel_rfl) (by kernel_rfl) fun K hK => ?_) | ((first | refine j5 ?_ | refine z6 ?_ | ((first | refine q5 (hK _ ?_) | refine x5 (hK _ _ (j4 (by kernel_rfl)) ?_)); clear hK K)); (first | show AWP _ _ _ _ _ | ((try simp only [x6]); first | show loopQ _ _ _ _ _ _ | show cutQ _ _ _ _ | show AWP _ _ _ _ _))) | ((first | refine z7 [10] rfl ?_ | refine x7 [10] rfl ?_); simp (maxSteps := 2000000) (disch := omega) only [go_sem, seval, hd, cb, j0, x3]; (repeat (first | refine ⟨by omega, ?_⟩ | refine ⟨True.intro, ?_⟩)))))
    refine awp_slot 4 _ (.p (.d (.sl 1 out.length (rowT out)))) rfl (le_gr rfl (fun _ _ => rfl)) ?_
    refine j9 ⟨_, ?_, rfl⟩; rw [Tryz.results21]; simp (disch := omega) only [ResVars, ResVar, ptrLoc, go_sem, seval, hd, cb, j0, x3]
def lessTPI (b : List Cube) (R : List Cube × Int) (s : {s : Nat × List Cube // s.1 ≤ b.length ∧ lessP (b.drop s.1) s.2 = R ∧ s.2.length ≤ 200 ∧ ∀ k ∈ s.2, k.sound = true}) : ASt :=
  ⟨[(6, .p (.d (.v (.int .i64 (s.val.1 : Int))))), (1, .p (.d (.sl 1 b.length (rowT b)))), (0, .p (.d (.sl 1 s.val.2.length (rowT s.val.2))))], []⟩
def lessTPJ (b out : List Cube) (y : Cube) (i : Nat) (s : {s : Nat × List Cube // s.1 ≤ out.length ∧ s.2 = (out.take s.1).flatMap (fun x => lessL x y) ∧ s.2.length ≤ s.1 * 128}) : ASt :=
  ⟨[(8, .p (.d (.v (.int .i64 (s.val.1 : Int))))), (7, .gr 15 s.val.1 1 s.val.2.length (rowT s.val.2)), (6, .p (.d (.v (.int .i64 (i : Int))))), (1, .p (.d (.sl 1 b.length (rowT b)))), (0, .p (.d (.sl 1 out.length (rowT out))))],
   [(15, .grow 9 1 s.val.2.length s.val.1)]⟩
theorem rowT_cat (a b : List Cube) (i : Nat) : catF a.length (rowT a) (rowT b) i = rowT (a ++ b) i := by
  unfold catF rowT
  simp only [List.getD_eq_getElem?_getD]
  split
  · rw [List.getElem?_append_left (by assumption)]
  · rw [List.getElem?_append_right (by omega)]
set_option maxRecDepth 100000 in
set_option maxHeartbeats 2000000 in
theorem LessTP_c (a b : List Cube) (sa : ∀ k ∈ a, k.sound = true) (sb : ∀ k ∈ b, k.sound = true) (ha : a.length ≤ 200) (hb : b.length ≤ 200) (R : List Cube × Int) (hR : lessP b a = R) : ACalls Tryz.prog 22 [.d (.sl 1 a.length (rowT a)), .d (.sl 1 b.length (rowT b))]
    (· = [.d (.sl 1 R.1.length (rowT R.1)), .d (.v (.bool (R.2 == 0)))]) := by
  refine q10 Tryz.func22 rfl (by decide +kernel) (by rw [Tryz.ntmps22]; simp) ?_; rw [Tryz.ntmps22]; simp only [frOf]
  (repeat (first | refine q0 ?_ | refine j6 rfl ?_ | refine q7 rfl ?_ | refine q6 ?_ | (refine q4 fun K hK => ?_) | (refine x4 (by kernel_rfl) (by kernel_rfl) fun K hK => ?_) | ((first | refine j5 ?_ | refine z6 ?_ | ((first | refine q5 (hK _ ?_) | refine x5 (hK _ _ (j4 (by kernel_rfl)) ?_)); clear hK K)); (first | show AWP _ _ _ _ _ | ((try simp only [x6]); first | show loopQ _ _ _ _ _ _ | show cutQ _ _ _ _ | show AWP _ _ _ _ _))) | ((first | refine z7 [15] rfl ?_ | refine x7 [15] rfl ?_); simp (maxSteps := 2000000) (disch := omega) only [go_sem, seval, hd, cb, j0, x3]; (repeat (first | refine ⟨by omega, ?_⟩ | refine ⟨True.intro, ?_⟩)))))
  refine awp_loop (lessTPI b R) (fun s => b.length - s.val.1) ⟨(0, a), by simp, by rw [List.drop_zero]; exact hR, ha, sa⟩ ?_ (fun s => ?_)
  · unfold lessTPI
    refine Weak.list ?_ ?_; (all_goals simp (disch := omega) only [AllF, AllL, x10, j10, z10, exists_eq_left', Option.some.injEq, go_sem, seval, hd, cb, j0, x3]); (all_goals (repeat' (with_reducible apply And.intro))); (all_goals try (first | exact j7 rfl | (refine q11 ?_; omega) | (refine j7 ?_; simp; done)))
  obtain ⟨⟨i, out⟩, hi, he, ho, hs⟩ := s
  unfold lessTPI
  simp only [] at hi he ho hs
  by_cases hn : i < b.length
  · have r1 := rowT_of b i
    rw [drop_getD b i ⟨0, 0⟩ hn] at he
    have sY := sb _ (getD_in hn ⟨0, 0⟩)
    generalize b.getD i ⟨0, 0⟩ = Y at r1 he sY
    (repeat (first | refine q0 ?_ | refine j6 rfl ?_ | refine q7 rfl ?_ | refine q6 ?_ | (refine q4 fun K hK => ?_) | (refine x4 (by kernel_rfl) (by kernel_rfl) fun K hK => ?_) | ((first | refine j5 ?_ | refine z6 ?_ | ((first | refine q5 (hK _ ?_) | refine x5 (hK _ _ (j4 (by kernel_rfl)) ?_)); clear hK K)); (first | show AWP _ _ _ _ _ | ((try simp only [x6]); first | show loopQ _ _ _ _ _ _ | show cutQ _ _ _ _ | show AWP _ _ _ _ _))) | ((first | refine z7 [15] rfl ?_ | refine x7 [15] rfl ?_); simp (maxSteps := 2000000) (disch := omega) only [go_sem, seval, hd, cb, j0, x3, r1]; (repeat (first | refine ⟨by omega, ?_⟩ | refine ⟨True.intro, ?_⟩)))))
    refine awp_loop (lessTPJ b out Y i) (fun s => out.length - s.val.1) ⟨(0, []), by simp, by simp, by simp⟩ ?_ (fun s => ?_)
    · unfold lessTPJ
      refine Weak.list ?_ ?_; (all_goals simp (disch := omega) only [AllF, AllL, x10, j10, z10, exists_eq_left', Option.some.injEq, go_sem, seval, hd, cb, j0, x3, r1]); (all_goals (repeat' (with_reducible apply And.intro))); (all_goals try (first | exact j7 rfl | (refine q11 ?_; omega) | (refine j7 ?_; simp; done)))
      exact le_grgr rfl rfl (fun i hi => by omega)
    obtain ⟨⟨j, rest⟩, hj, he2, ho2⟩ := s
    unfold lessTPJ
    simp only [] at hj he2 ho2
    by_cases hm : j < out.length
    · have r2 := rowT_of out j
      have st2 := take_succ_getD out j ⟨0, 0⟩ hm
      have sX := hs _ (getD_in hm ⟨0, 0⟩)
      generalize out.getD j ⟨0, 0⟩ = X at r2 st2 sX
      have ls := LessT_c X Y sX sY
      have ll := lessL_len' X Y
      have so : (out.take (j + 1)).flatMap (fun x => lessL x Y) = (out.take j).flatMap (fun x => lessL x Y) ++ lessL X Y := by
        rw [st2, List.flatMap_append]; simp
      generalize lessL X Y = K at ls ll so
      generalize txt X = tX at r2 ls
      generalize txt Y = tY at r1 ls
      (repeat (first | refine q0 ?_ | refine j6 rfl ?_ | refine q7 rfl ?_ | refine q6 ?_ | (refine q4 fun K hK => ?_) | (refine x4 (by kernel_rfl) (by kernel_rfl) fun K hK => ?_) | ((first | refine j5 ?_ | refine z6 ?_ | ((first | refine q5 (hK _ ?_) | refine x5 (hK _ _ (j4 (by kernel_rfl)) ?_)); clear hK K)); (first | show AWP _ _ _ _ _ | ((try simp only [x6]); first | show loopQ _ _ _ _ _ _ | show cutQ _ _ _ _ | show AWP _ _ _ _ _))) | ((first | refine q9 rfl rfl rfl ?_ | refine x9 rfl rfl rfl ?_); simp (maxSteps := 2000000) (disch := omega) only [go_sem, seval, hd, cb, j0, x3, r1, r2]; (first | refine ⟨_, ls, ?_⟩)) | ((first | refine z7 [15] rfl ?_ | refine x7 [15] rfl ?_); simp (maxSteps := 2000000) (disch := omega) only [go_sem, seval, hd, cb, j0, x3, r1, r2]; (repeat (first | refine ⟨by omega, ?_⟩ | refine ⟨True.intro, ?_⟩)))))
      refine ⟨⟨(j + 1, rest ++ K), by simp only []; omega, by rw [so, ← he2], by simp; omega⟩, by simp only []; omega, ?_⟩
      refine Weak.list ?_ ?_; (all_goals simp (disch := omega) only [AllF, AllL, x10, j10, z10, exists_eq_left', Option.some.injEq, go_sem, seval, hd, cb, j0, x3, r1, r2]); (all_goals (repeat' (with_reducible apply And.intro))); (all_goals try (first | exact j7 rfl | (refine q11 ?_; omega) | (refine j7 ?_; simp; done)))
      · exact le_grgr rfl (by simp) (fun k hk => rowT_cat rest K k)
      · exact lle_grow (by simp) rfl
    · have hjl : j = out.length := by omega
      subst hjl
      rw [List.take_length] at he2
      have hre : rest = lessRest out Y := he2
      have srest : ∀ k ∈ rest, k.sound = true := by rw [hre]; exact lessRest_sound hs
      have ln := LeanT_c rest srest (by omega)
      have lm : ∀ k ∈ leanP rest, k.sound = true := fun k hk => (leanP_mem hk).2
      unfold lessP at he
      rw [← hre] at he
      by_cases h0 : (leanP rest).length > 200
      · have e1 : leanE rest = 10 := if_pos h0
        rw [e1] at he
        simp only [show ((10 : Int) = 0) = False from by simp, if_false] at he
        subst he
        generalize leanP rest = V at ln lm h0
        (repeat (first | refine q0 ?_ | refine j6 rfl ?_ | refine q7 rfl ?_ | refine q6 ?_ | (refine q4 fun K hK => ?_) | (refine x4 (by kernel_rfl) (by kernel_rfl) fun K hK => ?_) | ((first | refine j5 ?_ | refine z6 ?_ | ((first | refine q5 (hK _ ?_) | refine x5 (hK _ _ (j4 (by kernel_rfl)) ?_)); clear hK K)); (first | show AWP _ _ _ _ _ | ((try simp only [x6]); first | show loopQ _ _ _ _ _ _ | show cutQ _ _ _ _ | show AWP _ _ _ _ _))) | ((first | refine q9 rfl rfl rfl ?_ | refine x9 rfl rfl rfl ?_); simp (maxSteps := 2000000) (disch := omega) only [go_sem, seval, hd, cb, j0, x3, r1]; (first | refine ⟨_, ln, ?_⟩)) | ((first | refine z7 [15] rfl ?_ | refine x7 [15] rfl ?_); simp (maxSteps := 2000000) (disch := omega) only [go_sem, seval, hd, cb, j0, x3, r1]; (repeat (first | refine ⟨by omega, ?_⟩ | refine ⟨True.intro, ?_⟩)))))
        refine awp_slot 4 _ (.p (.d (.sl 1 ([] : List Cube).length (rowT [])))) rfl (le_nil 1 _ _ rfl) ?_
        refine j9 ⟨_, ?_, rfl⟩; rw [Tryz.results22]; simp (disch := omega) only [ResVars, ResVar, ptrLoc, go_sem, seval, hd, cb, j0, x3, r1]
      · have e1 : leanE rest = 0 := if_neg h0
        rw [if_pos e1, leanE_val rest e1] at he
        generalize leanP rest = V at ln lm h0 he
        (repeat (first | refine q0 ?_ | refine j6 rfl ?_ | refine q7 rfl ?_ | refine q6 ?_ | (refine q4 fun K hK => ?_) | (refine x4 (by kernel_rfl) (by kernel_rfl) fun K hK => ?_) | ((first | refine j5 ?_ | refine z6 ?_ | ((first | refine q5 (hK _ ?_) | refine x5 (hK _ _ (j4 (by kernel_rfl)) ?_)); clear hK K)); (first | show AWP _ _ _ _ _ | ((try simp only [x6]); first | show loopQ _ _ _ _ _ _ | show cutQ _ _ _ _ | show AWP _ _ _ _ _))) | ((first | refine q9 rfl rfl rfl ?_ | refine x9 rfl rfl rfl ?_); simp (maxSteps := 2000000) (disch := omega) only [go_sem, seval, hd, cb, j0, x3, r1]; (first | refine ⟨_, ln, ?_⟩)) | ((first | refine z7 [15] rfl ?_ | refine x7 [15] rfl ?_); simp (maxSteps := 2000000) (disch := omega) only [go_sem, seval, hd, cb, j0, x3, r1]; (repeat (first | refine ⟨by omega, ?_⟩ | refine ⟨True.intro, ?_⟩)))))
        refine ⟨⟨(i + 1, V), by simp only []; omega, he, by simp only []; omega, lm⟩, by simp only []; omega, ?_⟩
        refine Weak.list ?_ ?_; (all_goals simp (disch := omega) only [AllF, AllL, x10, j10, z10, exists_eq_left', Option.some.injEq, go_sem, seval, hd, cb, j0, x3, r1]); (all_goals (repeat' (with_reducible apply And.intro))); (all_goals try (first | exact j7 rfl | (refine q11 ?_; omega) | (refine j7 ?_; simp; done)))
  · have hil : i = b.length := by omega
    subst hil
    rw [List.drop_length] at he
    unfold lessP at he
    subst he
    (repeat (first | refine q0 ?_ | refine j6 rfl ?_ | refine q7 rfl ?_ | refine q6 ?_ | (refine q4 fun K hK => ?_) | (refine x4 (by kernel_rfl) (by kernel_rfl) fun K hK => ?_) | ((first | refine j5 ?_ | refine z6 ?_ | ((first | refine q5 (hK _ ?_) | refine x5 (hK _ _ (j4 (by kernel_rfl)) ?_)); clear hK K)); (first | show AWP _ _ _ _ _ | ((try simp only [x6]); first | show loopQ _ _ _ _ _ _ | show cutQ _ _ _ _ | show AWP _ _ _ _ _))) | ((first | refine z7 [15] rfl ?_ | refine x7 [15] rfl ?_); simp (maxSteps := 2000000) (disch := omega) only [go_sem, seval, hd, cb, j0, x3]; (repeat (first | refine ⟨by omega, ?_⟩ | refine ⟨True.intro, ?_⟩)))))
    refine j9 ⟨_, ?_, rfl⟩; rw [Tryz.results22]; simp (disch := omega) only [ResVars, ResVar, ptrLoc, go_sem, seval, hd, cb, j0, x3]
end Go.Proofs.YtemcdefpihkfpaaGreat
set_option linter.unusedSimpArgs false
set_option linter.unusedVariables false
namespace Go.Proofs.YtemcdefpihkfpaaGreat
open Go Go.Proofs.YtemcdefpihkfpaaGreat.AL
def rowTP (ps : List (List Cube)) : Nat → List Dat := fun i => [.sl 1 (ps.getD i []).length (rowT (ps.getD i []))]
theorem rowTP_at (ps : List (List Cube)) (i : Nat) : rowTP ps i = [.sl 1 (ps.getD i []).length (rowT (ps.getD i []))] := rfl
theorem rowTP_put (out : List (List Cube)) (c : List Cube) (i : Nat) (hlt : i < out.length + 1) : catF out.length (rowTP out) (fun i => [[Dat.sl 1 c.length (rowT c)]].getD i []) i = rowTP (out ++ [c]) i :=
  catF_put (fun p : List Cube => [Dat.sl 1 p.length (rowT p)]) [] out c _ rfl i hlt
theorem part_piles {a : Atm} {id : Int} {k : Cube} (ha : AtmOK a) (hk : k.sound = true) (he : (partA a id [k]).2 = 0) :
    meetPV a.p [k] = leanP (meetsP a.p [k]) ∧ lessP [k] a.p = ((lessPR a.p [k]).1, 0) ∧ (partA a id [k]).1.map (·.p) = (if meetPV a.p [k] = [] then [] else [meetPV a.p [k]]) ++ (if (lessPR a.p [k]).1 = [] then [] else [(lessPR a.p [k]).1]) := by
  obtain ⟨p1, p2, _, _, e⟩ := partA_eq ha hk he
  have s : (soundP a.p && soundP [k]) = true := by rw [ha.pile.sound]; simp [soundP, hk]
  unfold partA at he
  split at he
  · rename_i h; exact absurd he h
  rename_i h1
  split at he
  · rename_i h; exact absurd he h
  rename_i h2
  have h1 : meetPE a.p [k] = 0 := by simpa using h1
  have h2 : (lessPR a.p [k]).2 = 0 := by simpa using h2
  refine ⟨?_, ?_, ?_⟩
  · unfold meetPE at h1
    unfold meetPV
    rw [if_pos s] at h1 ⊢
    exact leanE_val _ h1
  · unfold lessPR at h2 ⊢
    rw [if_pos s] at h2 ⊢
    exact Prod.ext rfl h2
  · rw [e, List.map_append, pickAt_ok p1.snd, pickAt_ok p2.snd]
    congr 1 <;> (split <;> rfl)
theorem meetsP_snd (a b : List Cube) : ∀ x ∈ meetsP a b, x.sound = true := by
  intro x hx
  unfold meetsP meetRow at hx
  obtain ⟨y, _, hx⟩ := List.mem_flatMap.1 hx
  obtain ⟨z, _, hx⟩ := List.mem_filterMap.1 hx
  unfold meetOne at hx
  split at hx
  · cases hx; exact sound_meet ‹_›
  · cases hx
def allI (l : List Atm) (p : List Cube) (i : Fin 129) : ASt :=
  ⟨[(8, .p (.d (.v (.int .i64 (i.val : Int))))), (7, .row 40 1 0 128), (5, .p (.d (.sl 4 l.length (rowAt l)))), (3, .p (.d (.sl 1 p.length (rowT p))))], [(40, .arr 5 128 fun j => .v (.int .u8 (if j < i.val then 120 else 0)))]⟩
def exI (l : List Atm) (p : List Cube) (s : {s : Nat × List Atm // s.1 ≤ p.length ∧ AtOK s.2 (inZ (p.take s.1)) ∧ splitAll (p.drop s.1) s.1 s.2 = (l, 0) ∧ s.2.length ≤ 600}) : ASt :=
  ⟨[(10, .p (.d (.v (.int .i64 (s.val.1 : Int))))), (9, .p (.d (.sl 1 s.val.2.length (rowTP (s.val.2.map (·.p)))))), (5, .p (.d (.sl 4 l.length (rowAt l)))), (3, .p (.d (.sl 1 p.length (rowT p))))], []⟩
def exJ (l : List Atm) (p : List Cube) (i : Nat) (k : Cube) (A : List Atm) (s : {s : Nat × List (List Cube) × Nat // s.1 ≤ A.length ∧ s.2.1 = ((A.take s.1).flatMap fun a => (partA a (i : Int) [k]).1).map (·.p) ∧ s.2.1.length ≤ 2 * s.1}) : ASt :=
  ⟨[(12, .p (.d (.v (.int .i64 (s.val.1 : Int))))), (11, .gr 58 s.val.2.2 1 s.val.2.1.length (rowTP s.val.2.1)), (10, .p (.d (.v (.int .i64 (i : Int))))), (9, .p (.d (.sl 1 A.length (rowTP (A.map (·.p)))))), (5, .p (.d (.sl 4 l.length (rowAt l)))), (3, .p (.d (.sl 1 p.length (rowT p))))],
   [(58, .grow 27 1 s.val.2.1.length s.val.2.2)]⟩
def exK (l : List Atm) (i : Fin (l.length + 1)) : ASt :=
  ⟨[(16, .p (.d (.v (.int .i64 (i.val : Int))))), (9, .p (.d (.sl 1 l.length (rowTP (l.map (·.p)))))), (5, .p (.d (.sl 4 l.length (rowAt l))))], []⟩
theorem mapP_getD (l : List Atm) (i : Nat) (h : i < l.length) : (l.map (·.p)).getD i [] = (l.getD i at0).p := by
  rw [List.getD_eq_getElem?_getD, List.getD_eq_getElem?_getD, List.getElem?_map, List.getElem?_eq_getElem h]; rfl
theorem chI_all (n : Nat) : chI ⟨0, 0⟩ n = 120 := by simp [chI]
theorem all_le : Le (.p (.d (.sl 1 1 fun i => [[Dat.sl 1 1 fun i => [[Dat.v (.string (txt ⟨0, 0⟩))]].getD i []]].getD i []))) (.p (.d (.sl 1 1 (rowTP [[⟨0, 0⟩]])))) := by
  refine le_pd (dle_sl rfl fun i (hi' : i < 1) => ?_)
  obtain rfl : i = 0 := by omega
  refine .cons (dle_sl rfl fun i (hi' : i < 1) => ?_) .nil
  obtain rfl : i = 0 := by omega
  exact .of_eq rfl
set_option maxRecDepth 100000 in
set_option maxHeartbeats 16000000 in
theorem AtomsExact_c (p0 : List Cube) (hp0 : p0.length ≤ 1099511627776) : ACalls Tryz.prog 4 [.d (.sl 4 p0.length (rowC p0))] (· = [.d (.v (.bool true))]) := by
  have fw := few11_c p0 hp0
  have hp7 : (p0.take 7).length ≤ 7 := take_snd
  generalize p0.take 7 = p at fw hp7
  have tx := Texts_c p (by omega)
  have sp := Split_c p (by omega)
  obtain ⟨sm, sl⟩ := splitV_small p (by omega)
  have er := splitV_err p (by omega)
  rw [soundP_take p (by omega)] at tx
  by_cases he : (splitV p).2 = 0
  · obtain ⟨hs, hA⟩ := splitV_ok he
    have hs' : p.all Cube.sound = true := List.all_eq_true.2 hs
    have tv : textsV p = p := by unfold textsV; rw [if_pos hs']
    rw [hs', tv] at tx
    rw [he] at sp
    have hall : splitAll p 0 [⟨[], 0, [⟨0, 0⟩]⟩] = ((splitV p).1, 0) := by
      unfold splitV at he ⊢
      rw [if_neg (show ¬ 500 < p.length by omega), if_pos hs'] at he ⊢
      exact Prod.ext rfl he
    clear er he tv
    generalize (splitV p).1 = l at *
    refine q10 Tryz.func4 rfl (by decide +kernel) (by rw [Tryz.ntmps4]; simp) ?_; rw [Tryz.ntmps4]; simp only [frOf]
    (repeat (first | refine q0 ?_ | refine j6 rfl ?_ | refine q7 rfl ?_ | refine q6 ?_ | (refine q4 fun K hK => ?_) | (refine x4 (by kernel_rfl) (by kernel_rfl) fun K hK => ?_) | ((first | refine j5 ?_ | refine z6 ?_ | ((first | refine q5 (hK _ ?_) | refine x5 (hK _ _ (j4 (by kernel_rfl)) ?_)); clear hK K)); (first | show AWP _ _ _ _ _ | ((try simp only [x6]); first | show loopQ _ _ _ _ _ _ | show cutQ _ _ _ _ | show AWP _ _ _ _ _))) | ((first | refine q9 rfl rfl rfl ?_ | refine x9 rfl rfl rfl ?_); simp (maxSteps := 2000000) (disch := omega) only [go_sem, seval, hd, cb, atD]; (first | refine ⟨_, fw, ?_⟩ | refine ⟨_, tx, ?_⟩ | refine ⟨_, sp, ?_⟩)) | ((first | refine z7 [58] rfl ?_ | refine x7 [58] rfl ?_); simp (maxSteps := 2000000) (disch := omega) only [go_sem, seval, hd, cb, atD]; (repeat (first | refine ⟨by omega, ?_⟩ | refine ⟨True.intro, ?_⟩)))))
    refine awp_loop (allI l p) (fun s => 128 - s.val) ⟨0, by omega⟩ ?_ (fun s => ?_)
    · unfold allI
      refine Weak.list ?_ ?_; (all_goals simp (disch := omega) only [AllF, AllL, x10, j10, z10, exists_eq_left', Option.some.injEq, go_sem, seval, hd, cb, atD]); (all_goals (repeat' (with_reducible apply And.intro))); (all_goals try (first | exact j7 rfl | (refine q11 ?_; omega) | (refine j7 ?_; simp; done)))
      all_goals first | exact lle_arr (fun i hi' => by first | rfl | simp) | skip
    obtain ⟨i, hi9⟩ := s
    unfold allI
    simp only []
    by_cases hn : i < 128
    · (repeat (first | refine q0 ?_ | refine j6 rfl ?_ | refine q7 rfl ?_ | refine q6 ?_ | (refine q4 fun K hK => ?_) | (refine x4 (by kernel_rfl) (by kernel_rfl) fun K hK => ?_) | ((first | refine j5 ?_ | refine z6 ?_ | ((first | refine q5 (hK _ ?_) | refine x5 (hK _ _ (j4 (by kernel_rfl)) ?_)); clear hK K)); (first | show AWP _ _ _ _ _ | ((try simp only [x6]); first | show loopQ _ _ _ _ _ _ | show cutQ _ _ _ _ | show AWP _ _ _ _ _))) | ((first | refine z7 [58] rfl ?_ | refine x7 [58] rfl ?_); simp (maxSteps := 2000000) (disch := omega) only [go_sem, seval, hd, cb, atD]; (repeat (first | refine ⟨by omega, ?_⟩ | refine ⟨True.intro, ?_⟩)))))
      refine ⟨⟨i + 1, by omega⟩, by simp only []; omega, ?_⟩
      refine Weak.list ?_ ?_; (all_goals simp (disch := omega) only [AllF, AllL, x10, j10, z10, exists_eq_left', Option.some.injEq, go_sem, seval, hd, cb, atD]); (all_goals (repeat' (with_reducible apply And.intro))); (all_goals try (first | exact j7 rfl | (refine q11 ?_; omega) | (refine j7 ?_; simp; done)))
      refine lle_arr (fun j hj => ?_)
      show _ = Dat.v (.int .u8 (if j < i + 1 then 120 else 0))
      by_cases e : j = i
      · subst e; rw [if_pos rfl, if_pos (by omega)]
      · rw [if_neg e]
        by_cases e2 : j < i
        · rw [if_pos e2, if_pos (by omega)]
        · rw [if_neg e2, if_neg (by omega)]
    have h128 : i = 128 := by omega
    subst h128
    refine awp_arr 40 (fun j => .v (.int .u8 (chI ⟨0, 0⟩ (127 - j)))) rfl (fun j hj => by rw [if_pos hj, chI_all]) ?_
    (repeat ((fail_if_success (show AWP _ _ (.region 12 _ _) _ _)); first | refine q0 ?_ | refine j6 rfl ?_ | refine q7 rfl ?_ | refine q6 ?_ | (refine q4 fun K hK => ?_) | (refine x4 (by kernel_rfl) (by kernel_rfl) fun K hK => ?_) | ((first | refine j5 ?_ | refine z6 ?_ | ((first | refine q5 (hK _ ?_) | refine x5 (hK _ _ (j4 (by kernel_rfl)) ?_)); clear hK K)); (first | show AWP _ _ _ _ _ | ((try simp only [x6]); first | show loopQ _ _ _ _ _ _ | show cutQ _ _ _ _ | show AWP _ _ _ _ _))) | ((first | refine z7 [58] rfl ?_ | refine x7 [58] rfl ?_); simp (maxSteps := 2000000) (disch := omega) only [go_sem, seval, hd, cb, atD]; (repeat (first | refine ⟨by omega, ?_⟩ | refine ⟨True.intro, ?_⟩)))))
    refine awp_slot 9 _ (.p (.d (.sl 1 1 (rowTP [[⟨0, 0⟩]])))) rfl all_le ?_
    (repeat (first | refine q0 ?_ | refine j6 rfl ?_ | refine q7 rfl ?_ | refine q6 ?_ | (refine q4 fun K hK => ?_) | (refine x4 (by kernel_rfl) (by kernel_rfl) fun K hK => ?_) | ((first | refine j5 ?_ | refine z6 ?_ | ((first | refine q5 (hK _ ?_) | refine x5 (hK _ _ (j4 (by kernel_rfl)) ?_)); clear hK K)); (first | show AWP _ _ _ _ _ | ((try simp only [x6]); first | show loopQ _ _ _ _ _ _ | show cutQ _ _ _ _ | show AWP _ _ _ _ _))) | ((first | refine z7 [58] rfl ?_ | refine x7 [58] rfl ?_); simp (maxSteps := 2000000) (disch := omega) only [go_sem, seval, hd, cb, atD]; (repeat (first | refine ⟨by omega, ?_⟩ | refine ⟨True.intro, ?_⟩)))))
    refine awp_loop (exI l p) (fun s => p.length - s.val.1) ⟨(0, [⟨[], 0, [⟨0, 0⟩]⟩]), by omega, first_ok, by rw [List.drop_zero]; exact hall, by simp⟩ ?_ (fun s => ?_)
    · unfold exI
      refine Weak.list ?_ ?_; (all_goals simp (disch := omega) only [AllF, AllL, x10, j10, z10, exists_eq_left', Option.some.injEq, go_sem, seval, hd, cb, atD]); (all_goals (repeat' (with_reducible apply And.intro))); (all_goals try (first | exact j7 rfl | (refine q11 ?_; omega) | (refine j7 ?_; simp; done)))
    obtain ⟨⟨i, A⟩, hi', h1, h2, h3⟩ := s
    simp only [] at hi' h1 h2 h3
    unfold exI
    simp only []
    by_cases hn : i < p.length
    · have sk := hs _ (getD_in hn ⟨0, 0⟩)
      have tks := take_succ_getD p i ⟨0, 0⟩ hn
      rw [drop_getD p i ⟨0, 0⟩ hn] at h2
      unfold splitAll at h2
      have rT : ∀ x, x < 1 → rowT p (i + x) = rowT [p.getD i ⟨0, 0⟩] x := fun x hx => by
        obtain rfl : x = 0 := by omega
        rfl
      generalize p.getD i ⟨0, 0⟩ = k at h2 sk tks rT
      have e0 : (splitL (i : Int) k A []).2 = 0 := by
        by_cases e : (splitL (i : Int) k A []).2 = 0
        · exact e
        · rw [if_pos e] at h2
          exact absurd (congrArg Prod.snd h2) e
      rw [if_neg (by rw [e0]; decide)] at h2
      obtain ⟨hp1, hp2⟩ := splitL_eq A [] e0
      rw [List.nil_append] at hp2
      have nl := splitL_len (i : Int) k A []
      have nA := splitL_ok h1 sk (fun g => ⟨inZ_inc _ g, fun x hx => by
        have := inZ_mem hx
        rw [List.length_take] at this; omega⟩) e0
      have fe : (fun g => inZ (p.take i) g ++ if hasC k g then [(i : Int)] else []) = inZ (p.take (i + 1)) := funext fun g => by
        rw [tks, inZ_snoc, List.length_take, Nat.min_eq_left (by omega)]
      rw [fe] at nA
      rw [hp2] at h2 nl nA
      (repeat (first | refine q0 ?_ | refine j6 rfl ?_ | refine q7 rfl ?_ | refine q6 ?_ | (refine q4 fun K hK => ?_) | (refine x4 (by kernel_rfl) (by kernel_rfl) fun K hK => ?_) | ((first | refine j5 ?_ | refine z6 ?_ | ((first | refine q5 (hK _ ?_) | refine x5 (hK _ _ (j4 (by kernel_rfl)) ?_)); clear hK K)); (first | show AWP _ _ _ _ _ | ((try simp only [x6]); first | show loopQ _ _ _ _ _ _ | show cutQ _ _ _ _ | show AWP _ _ _ _ _))) | ((first | refine z7 [58] rfl ?_ | refine x7 [58] rfl ?_); simp (maxSteps := 2000000) (disch := omega) only [go_sem, seval, hd, cb, atD]; (repeat (first | refine ⟨by omega, ?_⟩ | refine ⟨True.intro, ?_⟩)))))
      refine awp_loop (exJ l p i k A) (fun s => A.length - s.val.1) ⟨(0, [], 0), by omega, rfl, by simp⟩ ?_ (fun s => ?_)
      · unfold exJ
        refine Weak.list ?_ ?_; (all_goals simp (disch := omega) only [AllF, AllL, x10, j10, z10, exists_eq_left', Option.some.injEq, go_sem, seval, hd, cb, atD]); (all_goals (repeat' (with_reducible apply And.intro))); (all_goals try (first | exact j7 rfl | (refine q11 ?_; omega) | (refine j7 ?_; simp; done)))
        exact le_grgr rfl rfl (fun i hi' => by simp at hi')
      obtain ⟨⟨j, N, g⟩, hj, k1, k2⟩ := s
      simp only [] at hj k1 k2
      unfold exJ
      simp only []
      by_cases hm : j < A.length
      · have r1 := rowTP_at (A.map (·.p)) j
        rw [mapP_getD A j hm] at r1
        have ha := h1.atm _ (getD_in hm at0)
        have tj := take_succ_getD A j at0 hm
        have pe := hp1 _ (getD_in hm at0)
        have k3 : ((A.take (j + 1)).flatMap fun a => (partA a (i : Int) [k]).1).map (·.p) = N ++ (partA (A.getD j at0) (i : Int) [k]).1.map (·.p) := by
          rw [tj, List.flatMap_append, List.map_append, ← k1]; simp
        generalize A.getD j at0 = a at r1 ha pe k3
        obtain ⟨m1, m2, m3⟩ := part_piles ha sk pe
        rw [m3] at k3
        have mt := MeetTP_c a.p [k] ha.pile.snd (fun x hx => by simp at hx; rw [hx]; exact sk) ha.pile.len (by simp)
        have mt : ACalls Tryz.prog 21 [.d (.sl 1 a.p.length (rowT a.p)), .d (.sl 1 1 fun x => rowT p (i + x))] (· = [.d (.sl 1 (meetsP a.p [k]).length (rowT (meetsP a.p [k])))]) :=
          acalls_le (.cons (ple_refl _) (.cons (ple_sl rfl rT) .nil)) mt
        have ms : ∀ x ∈ meetsP a.p [k], x.sound = true := meetsP_snd a.p [k]
        have ml : (meetsP a.p [k]).length ≤ 1000 := by
          have e1 := meetsP_len a.p [k]
          have e2 := ha.pile.len
          rw [show [k].length = 1 from rfl, Nat.mul_one] at e1; omega
        have tz : ((i : Int) + 1).toNat - i = 1 := by omega
        have ln := LeanT_c (meetsP a.p [k]) ms (by omega)
        rw [← m1] at ln
        have ls := LessTP_c a.p [k] ha.pile.snd (fun x hx => by simp at hx; rw [hx]; exact sk) ha.pile.len (by simp) _ m2
        have ls : ACalls Tryz.prog 22 [.d (.sl 1 a.p.length (rowT a.p)), .d (.sl 1 1 fun x => rowT p (i + x))] (· = [.d (.sl 1 (lessPR a.p [k]).1.length (rowT (lessPR a.p [k]).1)), .d (.v (.bool ((0 : Int) == 0)))]) :=
          acalls_le (.cons (ple_refl _) (.cons (ple_sl rfl rT) .nil)) ls
        have vl := meetPV_len a.p [k]
        have rl := lessPR_len a.p [k]
        generalize meetPV a.p [k] = V at ln k3 vl
        generalize (lessPR a.p [k]).1 = W at ls k3 rl
        generalize meetsP a.p [k] = Z at mt ln
        by_cases hV : V = [] <;> by_cases hW : W = []
        · subst hV; subst hW
          simp only [if_true, List.append_nil] at k3
          (repeat (first | refine q0 ?_ | refine j6 rfl ?_ | refine q7 rfl ?_ | refine q6 ?_ | (refine q4 fun K hK => ?_) | (refine x4 (by kernel_rfl) (by kernel_rfl) fun K hK => ?_) | ((first | refine j5 ?_ | refine z6 ?_ | ((first | refine q5 (hK _ ?_) | refine x5 (hK _ _ (j4 (by kernel_rfl)) ?_)); clear hK K)); (first | show AWP _ _ _ _ _ | ((try simp only [x6]); first | show loopQ _ _ _ _ _ _ | show cutQ _ _ _ _ | show AWP _ _ _ _ _))) | ((first | refine q9 rfl rfl rfl ?_ | refine x9 rfl rfl rfl ?_); simp (maxSteps := 2000000) (disch := omega) only [go_sem, seval, hd, cb, atD, r1, tz]; (first | refine ⟨_, mt, ?_⟩ | refine ⟨_, ln, ?_⟩ | refine ⟨_, ls, ?_⟩)) | ((first | refine z7 [58] rfl ?_ | refine x7 [58] rfl ?_); simp (maxSteps := 2000000) (disch := omega) only [go_sem, seval, hd, cb, atD, r1, tz]; (repeat (first | refine ⟨by omega, ?_⟩ | refine ⟨True.intro, ?_⟩)))))
          refine ⟨⟨(j + 1, N, g), by simp only []; omega, k3.symm, by simp only []; omega⟩, by simp only []; omega, ?_⟩
          refine Weak.list ?_ ?_; (all_goals simp (disch := omega) only [AllF, AllL, x10, j10, z10, exists_eq_left', Option.some.injEq, go_sem, seval, hd, cb, atD, r1, tz]); (all_goals (repeat' (with_reducible apply And.intro))); (all_goals try (first | exact j7 rfl | (refine q11 ?_; omega) | (refine j7 ?_; simp; done)))
        · subst hV
          rw [if_pos rfl, if_neg hW, List.nil_append] at k3
          have wl : 0 < W.length := List.length_pos_iff.2 hW
          (repeat (first | refine q0 ?_ | refine j6 rfl ?_ | refine q7 rfl ?_ | refine q6 ?_ | (refine q4 fun K hK => ?_) | (refine x4 (by kernel_rfl) (by kernel_rfl) fun K hK => ?_) | ((first | refine j5 ?_ | refine z6 ?_ | ((first | refine q5 (hK _ ?_) | refine x5 (hK _ _ (j4 (by kernel_rfl)) ?_)); clear hK K)); (first | show AWP _ _ _ _ _ | ((try simp only [x6]); first | show loopQ _ _ _ _ _ _ | show cutQ _ _ _ _ | show AWP _ _ _ _ _))) | ((first | refine q9 rfl rfl rfl ?_ | refine x9 rfl rfl rfl ?_); simp (maxSteps := 2000000) (disch := omega) only [go_sem, seval, hd, cb, atD, r1, tz]; (first | refine ⟨_, mt, ?_⟩ | refine ⟨_, ln, ?_⟩ | refine ⟨_, ls, ?_⟩)) | ((first | refine z7 [58] rfl ?_ | refine x7 [58] rfl ?_); simp (maxSteps := 2000000) (disch := omega) only [go_sem, seval, hd, cb, atD, r1, tz]; (repeat (first | refine ⟨by omega, ?_⟩ | refine ⟨True.intro, ?_⟩)))))
          refine ⟨⟨(j + 1, N ++ [W], g + 1), by simp only []; omega, k3.symm, by simp only [List.length_append, List.length_cons, List.length_nil]; omega⟩, by simp only []; omega, ?_⟩
          refine Weak.list ?_ ?_; (all_goals simp (disch := omega) only [AllF, AllL, x10, j10, z10, exists_eq_left', Option.some.injEq, go_sem, seval, hd, cb, atD, r1, tz]); (all_goals (repeat' (with_reducible apply And.intro))); (all_goals try (first | exact j7 rfl | (refine q11 ?_; omega) | (refine j7 ?_; simp; done)))
          · exact le_grgr rfl (by simp) (fun x hx => rowTP_put N W x hx)
          · exact lle_grow (by simp) rfl
        · subst hW
          rw [if_pos rfl, if_neg hV, List.append_nil] at k3
          have wl : 0 < V.length := List.length_pos_iff.2 hV
          (repeat (first | refine q0 ?_ | refine j6 rfl ?_ | refine q7 rfl ?_ | refine q6 ?_ | (refine q4 fun K hK => ?_) | (refine x4 (by kernel_rfl) (by kernel_rfl) fun K hK => ?_) | ((first | refine j5 ?_ | refine z6 ?_ | ((first | refine q5 (hK _ ?_) | refine x5 (hK _ _ (j4 (by kernel_rfl)) ?_)); clear hK K)); (first | show AWP _ _ _ _ _ | ((try simp only [x6]); first | show loopQ _ _ _ _ _ _ | show cutQ _ _ _ _ | show AWP _ _ _ _ _))) | ((first | refine q9 rfl rfl rfl ?_ | refine x9 rfl rfl rfl ?_); simp (maxSteps := 2000000) (disch := omega) only [go_sem, seval, hd, cb, atD, r1, tz]; (first | refine ⟨_, mt, ?_⟩ | refine ⟨_, ln, ?_⟩ | refine ⟨_, ls, ?_⟩)) | ((first | refine z7 [58] rfl ?_ | refine x7 [58] rfl ?_); simp (maxSteps := 2000000) (disch := omega) only [go_sem, seval, hd, cb, atD, r1, tz]; (repeat (first | refine ⟨by omega, ?_⟩ | refine ⟨True.intro, ?_⟩)))))
          refine ⟨⟨(j + 1, N ++ [V], g + 1), by simp only []; omega, k3.symm, by simp only [List.length_append, List.length_cons, List.length_nil]; omega⟩, by simp only []; omega, ?_⟩
          refine Weak.list ?_ ?_; (all_goals simp (disch := omega) only [AllF, AllL, x10, j10, z10, exists_eq_left', Option.some.injEq, go_sem, seval, hd, cb, atD, r1, tz]); (all_goals (repeat' (with_reducible apply And.intro))); (all_goals try (first | exact j7 rfl | (refine q11 ?_; omega) | (refine j7 ?_; simp; done)))
          · exact le_grgr rfl (by simp) (fun x hx => rowTP_put N V x hx)
          · exact lle_grow (by simp) rfl
        · rw [if_neg hV, if_neg hW] at k3
          have wl : 0 < V.length := List.length_pos_iff.2 hV
          have wl2 : 0 < W.length := List.length_pos_iff.2 hW
          (repeat (first | refine q0 ?_ | refine j6 rfl ?_ | refine q7 rfl ?_ | refine q6 ?_ | (refine q4 fun K hK => ?_) | (refine x4 (by kernel_rfl) (by kernel_rfl) fun K hK => ?_) | ((first | refine j5 ?_ | refine z6 ?_ | ((first | refine q5 (hK _ ?_) | refine x5 (hK _ _ (j4 (by kernel_rfl)) ?_)); clear hK K)); (first | show AWP _ _ _ _ _ | ((try simp only [x6]); first | show loopQ _ _ _ _ _ _ | show cutQ _ _ _ _ | show AWP _ _ _ _ _))) | ((first | refine q9 rfl rfl rfl ?_ | refine x9 rfl rfl rfl ?_); simp (maxSteps := 2000000) (disch := omega) only [go_sem, seval, hd, cb, atD, r1, tz]; (first | refine ⟨_, mt, ?_⟩ | refine ⟨_, ln, ?_⟩ | refine ⟨_, ls, ?_⟩)) | ((first | refine z7 [58] rfl ?_ | refine x7 [58] rfl ?_); simp (maxSteps := 2000000) (disch := omega) only [go_sem, seval, hd, cb, atD, r1, tz]; (repeat (first | refine ⟨by omega, ?_⟩ | refine ⟨True.intro, ?_⟩)))))
          refine ⟨⟨(j + 1, N ++ ([V] ++ [W]), g + 2), by simp only []; omega, k3.symm, by simp only [List.length_append, List.length_cons, List.length_nil]; omega⟩, by simp only []; omega, ?_⟩
          refine Weak.list ?_ ?_; (all_goals simp (disch := omega) only [AllF, AllL, x10, j10, z10, exists_eq_left', Option.some.injEq, go_sem, seval, hd, cb, atD, r1, tz]); (all_goals (repeat' (with_reducible apply And.intro))); (all_goals try (first | exact j7 rfl | (refine q11 ?_; omega) | (refine j7 ?_; simp; done)))
          · refine le_grgr rfl (by simp) (fun x hx => ?_)
            rw [show N ++ [V, W] = (N ++ [V]) ++ [W] by simp, ← rowTP_put (N ++ [V]) W x (by simp; omega)]
            unfold catF
            rw [show (N ++ [V]).length = N.length + 1 by simp]
            split
            · rename_i hx2
              have := rowTP_put N V x hx2
              unfold catF at this
              exact this
            · rfl
          · exact lle_grow (by simp) rfl
      · have : j = A.length := by omega
        subst this
        rw [List.take_length] at k1
        subst k1
        (repeat ((fail_if_success (show AWP _ _ (.region 14 _ _) _ _)); first | refine q0 ?_ | refine j6 rfl ?_ | refine q7 rfl ?_ | refine q6 ?_ | (refine q4 fun K hK => ?_) | (refine x4 (by kernel_rfl) (by kernel_rfl) fun K hK => ?_) | ((first | refine j5 ?_ | refine z6 ?_ | ((first | refine q5 (hK _ ?_) | refine x5 (hK _ _ (j4 (by kernel_rfl)) ?_)); clear hK K)); (first | show AWP _ _ _ _ _ | ((try simp only [x6]); first | show loopQ _ _ _ _ _ _ | show cutQ _ _ _ _ | show AWP _ _ _ _ _))) | ((first | refine z7 [58] rfl ?_ | refine x7 [58] rfl ?_); simp (maxSteps := 2000000) (disch := omega) only [go_sem, seval, hd, cb, atD]; (repeat (first | refine ⟨by omega, ?_⟩ | refine ⟨True.intro, ?_⟩)))))
        refine awp_slot 9 _ (.p (.d (.sl 1 (A.flatMap fun a => (partA a (i : Int) [k]).1).length (rowTP ((A.flatMap fun a => (partA a (i : Int) [k]).1).map (·.p)))))) rfl (le_gr (by simp) (fun _ _ => rfl)) ?_
        (repeat (first | refine q0 ?_ | refine j6 rfl ?_ | refine q7 rfl ?_ | refine q6 ?_ | (refine q4 fun K hK => ?_) | (refine x4 (by kernel_rfl) (by kernel_rfl) fun K hK => ?_) | ((first | refine j5 ?_ | refine z6 ?_ | ((first | refine q5 (hK _ ?_) | refine x5 (hK _ _ (j4 (by kernel_rfl)) ?_)); clear hK K)); (first | show AWP _ _ _ _ _ | ((try simp only [x6]); first | show loopQ _ _ _ _ _ _ | show cutQ _ _ _ _ | show AWP _ _ _ _ _))) | ((first | refine z7 [58] rfl ?_ | refine x7 [58] rfl ?_); simp (maxSteps := 2000000) (disch := omega) only [go_sem, seval, hd, cb, atD]; (repeat (first | refine ⟨by omega, ?_⟩ | refine ⟨True.intro, ?_⟩)))))
        refine ⟨⟨(i + 1, A.flatMap fun a => (partA a (i : Int) [k]).1), by simp only []; omega, nA, h2, nl⟩, by simp only []; omega, ?_⟩
        refine Weak.list ?_ ?_; (all_goals simp (disch := omega) only [AllF, AllL, x10, j10, z10, exists_eq_left', Option.some.injEq, go_sem, seval, hd, cb, atD]); (all_goals (repeat' (with_reducible apply And.intro))); (all_goals try (first | exact j7 rfl | (refine q11 ?_; omega) | (refine j7 ?_; simp; done)))
    · have : i = p.length := by omega
      subst this
      rw [List.drop_length] at h2
      unfold splitAll at h2
      simp only [Prod.mk.injEq, and_true] at h2
      subst h2
      have q : ((A.length : Int) != (A.length : Int)) = false := ine_ff rfl
      (repeat (first | refine q0 ?_ | refine j6 rfl ?_ | refine q7 rfl ?_ | refine q6 ?_ | (refine q4 fun K hK => ?_) | (refine x4 (by kernel_rfl) (by kernel_rfl) fun K hK => ?_) | ((first | refine j5 ?_ | refine z6 ?_ | ((first | refine q5 (hK _ ?_) | refine x5 (hK _ _ (j4 (by kernel_rfl)) ?_)); clear hK K)); (first | show AWP _ _ _ _ _ | ((try simp only [x6]); first | show loopQ _ _ _ _ _ _ | show cutQ _ _ _ _ | show AWP _ _ _ _ _))) | ((first | refine z7 [58] rfl ?_ | refine x7 [58] rfl ?_); simp (maxSteps := 2000000) (disch := omega) only [go_sem, seval, hd, cb, atD, q]; (repeat (first | refine ⟨by omega, ?_⟩ | refine ⟨True.intro, ?_⟩)))))
      refine awp_loop (exK A) (fun s => A.length - s.val) ⟨0, by omega⟩ ?_ (fun s => ?_)
      · unfold exK
        refine Weak.list ?_ ?_; (all_goals simp (disch := omega) only [AllF, AllL, x10, j10, z10, exists_eq_left', Option.some.injEq, go_sem, seval, hd, cb, atD, q]); (all_goals (repeat' (with_reducible apply And.intro))); (all_goals try (first | exact j7 rfl | (refine q11 ?_; omega) | (refine j7 ?_; simp; done)))
      obtain ⟨m, hm9⟩ := s
      unfold exK
      simp only []
      by_cases hm : m < A.length
      · have r1 := rowAt_at A m
        have r2 := rowTP_at (A.map (·.p)) m
        rw [mapP_getD A m hm] at r2
        have ha := h1.atm _ (getD_in hm at0)
        generalize A.getD m at0 = a at r1 r2 ha
        have sr := SameR_c a.p ha.pile.snd (by have := ha.pile.len; omega)
        (repeat (first | refine q0 ?_ | refine j6 rfl ?_ | refine q7 rfl ?_ | refine q6 ?_ | (refine q4 fun K hK => ?_) | (refine x4 (by kernel_rfl) (by kernel_rfl) fun K hK => ?_) | ((first | refine j5 ?_ | refine z6 ?_ | ((first | refine q5 (hK _ ?_) | refine x5 (hK _ _ (j4 (by kernel_rfl)) ?_)); clear hK K)); (first | show AWP _ _ _ _ _ | ((try simp only [x6]); first | show loopQ _ _ _ _ _ _ | show cutQ _ _ _ _ | show AWP _ _ _ _ _))) | ((first | refine q9 rfl rfl rfl ?_ | refine x9 rfl rfl rfl ?_); simp (maxSteps := 2000000) (disch := omega) only [go_sem, seval, hd, cb, atD, r1, r2]; (first | refine ⟨_, sr, ?_⟩)) | ((first | refine z7 [58] rfl ?_ | refine x7 [58] rfl ?_); simp (maxSteps := 2000000) (disch := omega) only [go_sem, seval, hd, cb, atD, r1, r2]; (repeat (first | refine ⟨by omega, ?_⟩ | refine ⟨True.intro, ?_⟩)))))
        refine ⟨⟨m + 1, by omega⟩, by simp only []; omega, ?_⟩
        refine Weak.list ?_ ?_; (all_goals simp (disch := omega) only [AllF, AllL, x10, j10, z10, exists_eq_left', Option.some.injEq, go_sem, seval, hd, cb, atD, r1, r2]); (all_goals (repeat' (with_reducible apply And.intro))); (all_goals try (first | exact j7 rfl | (refine q11 ?_; omega) | (refine j7 ?_; simp; done)))
      · have : m = A.length := by omega
        subst this
        (repeat (first | refine q0 ?_ | refine j6 rfl ?_ | refine q7 rfl ?_ | refine q6 ?_ | (refine q4 fun K hK => ?_) | (refine x4 (by kernel_rfl) (by kernel_rfl) fun K hK => ?_) | ((first | refine j5 ?_ | refine z6 ?_ | ((first | refine q5 (hK _ ?_) | refine x5 (hK _ _ (j4 (by kernel_rfl)) ?_)); clear hK K)); (first | show AWP _ _ _ _ _ | ((try simp only [x6]); first | show loopQ _ _ _ _ _ _ | show cutQ _ _ _ _ | show AWP _ _ _ _ _))) | ((first | refine q9 rfl rfl rfl ?_ | refine x9 rfl rfl rfl ?_); simp (maxSteps := 2000000) (disch := omega) only [go_sem, seval, hd, cb, atD]; (first | refine ⟨_, awake11_c, ?_⟩)) | ((first | refine z7 [58] rfl ?_ | refine x7 [58] rfl ?_); simp (maxSteps := 2000000) (disch := omega) only [go_sem, seval, hd, cb, atD]; (repeat (first | refine ⟨by omega, ?_⟩ | refine ⟨True.intro, ?_⟩)))))
        refine j9 ⟨_, ?_, rfl⟩; rw [Tryz.results4]; simp (disch := omega) only [ResVars, ResVar, ptrLoc, go_sem, seval, hd, cb, atD]
  · have q := ine_tt he
    generalize (splitV p).2 = e at *
    generalize (splitV p).1 = l at *
    generalize (textsV p) = tv at *
    cases hs : p.all Cube.sound
    all_goals
      rw [hs] at tx
      refine q10 Tryz.func4 rfl (by decide +kernel) (by rw [Tryz.ntmps4]; simp) ?_; rw [Tryz.ntmps4]; simp only [frOf]
      (repeat (first | refine q0 ?_ | refine j6 rfl ?_ | refine q7 rfl ?_ | refine q6 ?_ | (refine q4 fun K hK => ?_) | (refine x4 (by kernel_rfl) (by kernel_rfl) fun K hK => ?_) | ((first | refine j5 ?_ | refine z6 ?_ | ((first | refine q5 (hK _ ?_) | refine x5 (hK _ _ (j4 (by kernel_rfl)) ?_)); clear hK K)); (first | show AWP _ _ _ _ _ | ((try simp only [x6]); first | show loopQ _ _ _ _ _ _ | show cutQ _ _ _ _ | show AWP _ _ _ _ _))) | ((first | refine q9 rfl rfl rfl ?_ | refine x9 rfl rfl rfl ?_); simp (maxSteps := 2000000) (disch := omega) only [go_sem, seval, hd, cb, atD, q]; (first | refine ⟨_, fw, ?_⟩ | refine ⟨_, tx, ?_⟩ | refine ⟨_, sp, ?_⟩ | refine ⟨_, awake11_c, ?_⟩)) | ((first | refine z7 [58] rfl ?_ | refine x7 [58] rfl ?_); simp (maxSteps := 2000000) (disch := omega) only [go_sem, seval, hd, cb, atD, q]; (repeat (first | refine ⟨by omega, ?_⟩ | refine ⟨True.intro, ?_⟩)))))
      refine j9 ⟨_, ?_, rfl⟩; rw [Tryz.results4]; simp (disch := omega) only [ResVars, ResVar, ptrLoc, go_sem, seval, hd, cb, atD, q]
end Go.Proofs.YtemcdefpihkfpaaGreat
