/- Part 5 of a proof: lemmas beneath the theorem that the last text bears. Conditions: none. -/
import Derived.Test.YtemcdefpihkfpaaGreatKAtomsTurnd
set_option linter.unusedSimpArgs false
set_option linter.unusedVariables false
namespace Go.Proofs.YtemcdefpihkfpaaGreat
open Go Go.Proofs.YtemcdefpihkfpaaGreat.AL
theorem leanP_self {p : List Cube} (hs : ∀ k ∈ p, k.sound = true) (hl : LeanP p) : leanP p = p := by
  rw [leanP_eq]
  exact leanR_self p [] hs (by rw [List.nil_append]; exact hl)
theorem joined {p q : List Cube} (hp : PileOK p) (hq : PileOK q) (hd : ∀ h, hasP p h = true → hasP q h = false) (he : joinE p q = 0) : joinV p q = p ++ q ∧ PileOK (p ++ q) := by
  have cross : ∀ x ∈ p, ∀ y ∈ q, withinC x y = false ∧ withinC y x = false := by
    intro x hx y hy
    have k1 : ∀ {a b : Cube}, a.sound = true → withinC a b = true → hasC b a.v = true := fun ha hw => within_has hw (has_self ha)
    have inq : ∀ h, hasC y h = true → hasP q h = true := fun h hh => List.any_eq_true.2 ⟨y, hy, hh⟩
    have inp : ∀ h, hasC x h = true → hasP p h = true := fun h hh => List.any_eq_true.2 ⟨x, hx, hh⟩
    constructor
    · cases hw : withinC x y
      · rfl
      · have := hd x.v (inp _ (has_self (hp.snd x hx)))
        rw [inq _ (k1 (hp.snd x hx) hw)] at this
        cases this
    · cases hw : withinC y x
      · rfl
      · have := hd y.v (inp _ (k1 (hq.snd y hy) hw))
        rw [inq _ (has_self (hq.snd y hy))] at this
        cases this
  have hs : ∀ k ∈ p ++ q, k.sound = true := fun k hk => by
    rcases List.mem_append.1 hk with hk | hk
    · exact hp.snd k hk
    · exact hq.snd k hk
  have hl : LeanP (p ++ q) := by
    unfold LeanP
    rw [List.pairwise_append]
    exact ⟨hp.lean, hq.lean, cross⟩
  have e : leanP (p ++ q) = p ++ q := leanP_self hs hl
  have s : (soundP p && soundP q) = true := by rw [hp.sound, hq.sound]; rfl
  unfold joinE at he
  unfold joinV
  rw [if_pos s] at he ⊢
  have hv := leanE_val _ he
  have hlen := leanV_len (p ++ q)
  rw [hv, e] at hlen
  exact ⟨by rw [hv, e], hs, hlen, hl⟩
structure CoOK (id : Int) (dn out : List Atm) : Prop where
  atm : ∀ b ∈ out, AtmOK b
  dis : out.Pairwise fun a b => a.ids ≠ b.ids
  fro : ∀ b ∈ out, ∀ h, hasP b.p h = true → ∃ a ∈ dn, hasP a.p h = true ∧ lessZ a.ids [id] = b.ids
  to' : ∀ a ∈ dn, ∀ h, hasP a.p h = true → ∃ b ∈ out, b.ids = lessZ a.ids [id] ∧ hasP b.p h = true
theorem hasP_app (p q : List Cube) (h : BitVec 128) : hasP (p ++ q) h = (hasP p h || hasP q h) := hasP_append p q h
theorem coarse_ok {id : Int} {f : BitVec 128 → List Int} : ∀ (r dn out : List Atm), AtOK (dn ++ r) f → CoOK id dn out → (coarseGo id r out).2 = 0 → CoOK id (dn ++ r) (coarseGo id r out).1
  | [], dn, out, _, h, _ => by
    unfold coarseGo
    rw [List.append_nil]; exact h
  | a :: r, dn, out, hA, h, he => by
    have ha := hA.atm a (by simp)
    have dj : ∀ a0 ∈ dn, ∀ g, hasP a0.p g = true → hasP a.p g = false := fun a0 h0 g hg => by
      cases hc : hasP a.p g
      · rfl
      · exfalso
        have e1 := hA.ids a0 (by simp [h0]) g hg
        have e2 := hA.ids a (by simp) g hc
        have := (List.pairwise_append.1 hA.dis).2.2 a0 h0 a (by simp)
        exact this (by rw [e1, e2])
    have hA2 : AtOK (dn ++ [a] ++ r) f := by rw [List.append_assoc]; exact hA
    unfold coarseGo at he ⊢
    have hp : ∀ b : Atm, sameIds (lessZ a.ids [id]) b = true ↔ b.ids = lessZ a.ids [id] := fun b => by
      unfold sameIds; rw [beq_iff_eq]; exact eq_comm
    rcases idxF_find (sameIds (lessZ a.ids [id])) at0 out 0 with ⟨h1, h2⟩ | ⟨j, b, h1, h2, h3, h4⟩
    · rw [h2] at he ⊢
      rw [if_pos (by decide)] at he ⊢
      have hn : ∀ b ∈ out, b.ids ≠ lessZ a.ids [id] := fun b hb e => List.find?_eq_none.1 h1 b hb ((hp b).2 e)
      rw [show dn ++ a :: r = dn ++ [a] ++ r by simp]
      refine coarse_ok r (dn ++ [a]) _ hA2 ⟨fun b hb => ?_, ?_, fun b hb g hg => ?_, fun a0 h0 g hg => ?_⟩ he
      · rcases List.mem_append.1 hb with hb | hb
        · exact h.atm b hb
        · simp at hb; subst hb
          exact ⟨ha.pile, ha.ne, ha.hd⟩
      · rw [List.pairwise_append]
        exact ⟨h.dis, by simp, fun b hb c hc => by simp at hc; subst hc; exact hn b hb⟩
      · rcases List.mem_append.1 hb with hb | hb
        · obtain ⟨a0, h0, q1, q2⟩ := h.fro b hb g hg
          exact ⟨a0, by simp [h0], q1, q2⟩
        · simp at hb; subst hb
          exact ⟨a, by simp, hg, rfl⟩
      · rcases List.mem_append.1 h0 with h0 | h0
        · obtain ⟨b, hb, q1, q2⟩ := h.to' a0 h0 g hg
          exact ⟨b, by simp [hb], q1, q2⟩
        · simp at h0; subst h0
          exact ⟨⟨lessZ a0.ids [id], a0.h, a0.p⟩, by simp, rfl, hg⟩
    · rw [h2, Nat.zero_add] at he ⊢
      rw [if_neg (by omega), Int.toNat_natCast, h4] at he ⊢
      have hb : b ∈ out := by rw [← h4]; exact getD_in h3 at0
      have hbi : b.ids = lessZ a.ids [id] := (hp b).1 (List.find?_some h1)
      have hbk := h.atm b hb
      split at he
      · rename_i e0; exact absurd he e0
      rename_i e0
      have e0 : joinE b.p a.p = 0 := by simpa using e0
      rw [if_neg (by simp [e0])]
      obtain ⟨jv, jo⟩ := joined hbk.pile ha.pile (fun g hg => by
        obtain ⟨a0, h0, q1, _⟩ := h.fro b hb g hg
        exact dj a0 h0 g q1) e0
      rw [jv] at he ⊢
      rw [show dn ++ a :: r = dn ++ [a] ++ r by simp]
      have hget : out[j]? = some b := by
        rw [List.getD_eq_getElem?_getD, List.getElem?_eq_getElem h3] at h4
        rw [List.getElem?_eq_getElem h3]
        exact congrArg some h4
      have newok : AtmOK ⟨b.ids, b.h, b.p ++ a.p⟩ := by
        refine ⟨jo, by simp [hbk.ne], ?_⟩
        show b.h = ((b.p ++ a.p).getD 0 ⟨0, 0⟩).v
        rw [hbk.hd]
        cases hq : b.p with
        | nil => exact absurd hq hbk.ne
        | cons k t => rfl
      have mem_new : (⟨b.ids, b.h, b.p ++ a.p⟩ : Atm) ∈ out.set j ⟨b.ids, b.h, b.p ++ a.p⟩ := by
        refine List.mem_of_getElem? (i := j) ?_
        rw [List.getElem?_set_self h3]
      refine coarse_ok r (dn ++ [a]) _ hA2 ⟨fun x hx => ?_, ?_, fun x hx g hg => ?_, fun a0 h0 g hg => ?_⟩ he
      · rcases List.mem_or_eq_of_mem_set hx with hx | rfl
        · exact h.atm x hx
        · exact newok
      · rw [List.pairwise_iff_getElem]
        intro i k hi hk hik
        have hi' : i < out.length := by simpa using hi
        have hk' : k < out.length := by simpa using hk
        have ei : (out.set j ⟨b.ids, b.h, b.p ++ a.p⟩)[i].ids = out[i].ids := by
          rw [List.getElem_set]
          split
          · rename_i e; subst e
            rw [List.getElem?_eq_getElem h3] at hget
            cases hget; rfl
          · rfl
        have ek : (out.set j ⟨b.ids, b.h, b.p ++ a.p⟩)[k].ids = out[k].ids := by
          rw [List.getElem_set]
          split
          · rename_i e; subst e
            rw [List.getElem?_eq_getElem h3] at hget
            cases hget; rfl
          · rfl
        rw [ei, ek]
        exact List.pairwise_iff_getElem.1 h.dis i k hi' hk' hik
      · rcases List.mem_or_eq_of_mem_set hx with hx | rfl
        · obtain ⟨a0, h0, q1, q2⟩ := h.fro x hx g hg
          exact ⟨a0, by simp [h0], q1, q2⟩
        · have hg : hasP (b.p ++ a.p) g = true := hg
          rw [hasP_app, Bool.or_eq_true] at hg
          rcases hg with hg | hg
          · obtain ⟨a0, h0, q1, q2⟩ := h.fro b hb g hg
            exact ⟨a0, by simp [h0], q1, q2⟩
          · exact ⟨a, by simp, hg, hbi.symm⟩
      · rcases List.mem_append.1 h0 with h0 | h0
        · obtain ⟨x, hx, q1, q2⟩ := h.to' a0 h0 g hg
          by_cases hxb : x = b
          · subst hxb
            exact ⟨_, mem_new, q1, by show hasP (x.p ++ a.p) g = true; rw [hasP_app, q2]; rfl⟩
          · obtain ⟨i, hi, rfl⟩ := List.getElem_of_mem hx
            refine ⟨out[i], ?_, q1, q2⟩
            refine List.mem_of_getElem? (i := i) ?_
            rw [List.getElem?_set_ne (fun e => hxb (by
              subst e
              rw [List.getElem?_eq_getElem h3] at hget
              cases hget; rfl)), List.getElem?_eq_getElem hi]
        · simp at h0; subst h0
          exact ⟨_, mem_new, hbi, by show hasP (b.p ++ a0.p) g = true; rw [hasP_app, hg, Bool.or_true]⟩
theorem coarseV_ok {l : List Atm} {f : BitVec 128 → List Int} {id : Int} (h : AtOK l f) (he : (coarseV l id).2 = 0) : AtOK (coarseV l id).1 fun g => lessZ (f g) [id] := by
  unfold coarseV at he ⊢
  split at he
  · rename_i hs
    rw [if_pos hs]
    have c := coarse_ok (id := id) l [] [] h ⟨by simp, by simp, by simp, by simp⟩ he
    rw [List.nil_append] at c
    refine ⟨c.atm, fun b hb g hg => ?_, c.dis, fun g => ?_⟩
    · obtain ⟨a, ha, q1, q2⟩ := c.fro b hb g hg
      rw [← q2, h.ids a ha g q1]
    · obtain ⟨a, ha, hg⟩ := h.ex g
      obtain ⟨b, hb, _, q2⟩ := c.to' a ha g hg
      exact ⟨b, hb, q2⟩
  · exact absurd he (by decide)
theorem lessZ_filter {l : List Int} (h : Inc l) (id : Int) : lessZ l [id] = l.filter fun x => x != id := by
  unfold lessZ
  rw [mkZ_eq h fun x => Iff.rfl]
  refine List.filter_congr fun x _ => ?_
  rw [show [id].contains x = (x == id) by rw [List.contains_cons, List.contains_nil, Bool.or_false]]
  rfl
theorem joinE_or {p q : List Cube} (hp : soundP p = true) (hq : soundP q = true) : joinE p q = 0 ∨ joinE p q = 10 := by
  unfold joinE
  rw [hp, hq]
  rcases leanE_or (p ++ q) with h | ⟨h, _⟩
  · exact .inl h
  · exact .inr h
theorem joinV_sound {p q : List Cube} (he : joinE p q = 0) : soundP (joinV p q) = true := by
  unfold joinE at he
  unfold joinV
  split at he
  · rename_i s
    rw [if_pos s]; exact (leanV_ok he).sound
  · cases he
theorem coarse_err {id : Int} : ∀ (r out : List Atm), (∀ a ∈ r, soundP a.p = true) → (∀ a ∈ out, soundP a.p = true) → (coarseGo id r out).2 = 0 ∨ ((coarseGo id r out).2 = 10 ∧ (coarseGo id r out).1 = [])
  | [], out, _, _ => by unfold coarseGo; exact .inl rfl
  | a :: r, out, hr, ho => by
    unfold coarseGo
    split
    · exact coarse_err r _ (fun b hb => hr b (by simp [hb])) fun b hb => by
        rcases List.mem_append.1 hb with hb | hb
        · exact ho b hb
        · simp at hb; subst hb; exact hr a (by simp)
    · rename_i hJ
      rcases idxF_lt (sameIds (lessZ a.ids [id])) out 0 with h | ⟨j, h, -, hj⟩
      · rw [h] at hJ; omega
      · rw [h, Int.toNat_natCast]
        have hb := ho _ (getD_in (show j < out.length by omega) at0)
        rcases joinE_or hb (hr a (by simp)) with e | e
        · rw [if_neg (by rw [e]; decide)]
          exact coarse_err r _ (fun b hb => hr b (by simp [hb])) fun x hx => by
            rcases List.mem_or_eq_of_mem_set hx with hx | rfl
            · exact ho x hx
            · exact joinV_sound e
        · rw [if_pos (by rw [e]; decide)]
          exact .inr ⟨e, rfl⟩
theorem coarseV_err (l : List Atm) (id : Int) : if soundAL l then (coarseV l id).2 = 0 ∨ ((coarseV l id).2 = 10 ∧ (coarseV l id).1 = []) else ((coarseV l id).2 = 2 ∧ (coarseV l id).1 = []) := by
  unfold coarseV
  cases hs : soundAL l
  · simp
  · simp only [if_true]
    exact coarse_err l [] (List.all_eq_true.1 hs) (by simp)
end Go.Proofs.YtemcdefpihkfpaaGreat
set_option linter.unusedSimpArgs false
set_option linter.unusedVariables false
namespace Go.Proofs.YtemcdefpihkfpaaGreat
open Go Go.Proofs.YtemcdefpihkfpaaGreat.AL
theorem few11_c (p : List Cube) (hl : p.length ≤ 1099511627776) : ACalls Tryz.prog 10 [.d (.sl 4 p.length (rowC p))] (· = [.d (.sl 4 (p.take 7).length (rowC (p.take 7)))]) := by
  have rt : ∀ i, i < 7 → rowC p i = rowC (p.take 7) i := fun i hi => by
    unfold rowC
    rw [List.getD_eq_getElem?_getD, List.getD_eq_getElem?_getD, List.getElem?_take_of_lt hi]
  by_cases h : 7 < p.length
  · have e : (p.take 7).length = 7 := by simp; omega
    rw [e]
    refine z11 Tryz.func10 rfl (by decide +kernel) (by rw [Tryz.ntmps10]; simp) ?_; rw [Tryz.ntmps10]; simp only [frOf]
    (repeat (first | refine j0 ?_ | refine x7 rfl ?_ | refine j7 rfl ?_ | refine j6 ?_ | (refine q4 fun K hK => ?_) | (refine j4 (by kernel_rfl) (by kernel_rfl) fun K hK => ?_) | ((first | refine x6 ?_ | refine q7 ?_ | ((first | refine x5 (hK _ ?_) | refine j5 (hK _ _ (q5 (by kernel_rfl)) ?_)); clear hK K)); (first | show AWP _ _ _ _ _ | ((try simp only [z7]); first | show loopQ _ _ _ _ _ _ | show cutQ _ _ _ _ | show AWP _ _ _ _ _))) | ((first | refine z8 [] rfl ?_ | refine j8 [] rfl ?_); simp (maxSteps := 2000000) (disch := omega) only [go_sem, seval, hd, cb, atD, q6]; (repeat (first | refine ⟨by omega, ?_⟩ | refine ⟨True.intro, ?_⟩)))))
    refine awp_slot 2 _ (.p (.d (.sl 4 7 (rowC (p.take 7))))) rfl (le_sl rfl (fun i hi => by simpa using rt i hi)) ?_
    refine j10 ⟨_, ?_, rfl⟩; rw [Tryz.results10]; simp (disch := omega) only [ResVars, ResVar, ptrLoc, go_sem, seval, hd, cb, atD, q6]
  · rw [List.take_of_length_le (by omega)]
    refine z11 Tryz.func10 rfl (by decide +kernel) (by rw [Tryz.ntmps10]; simp) ?_; rw [Tryz.ntmps10]; simp only [frOf]
    (repeat (first | refine j0 ?_ | refine x7 rfl ?_ | refine j7 rfl ?_ | refine j6 ?_ | (refine q4 fun K hK => ?_) | (refine j4 (by kernel_rfl) (by kernel_rfl) fun K hK => ?_) | ((first | refine x6 ?_ | refine q7 ?_ | ((first | refine x5 (hK _ ?_) | refine j5 (hK _ _ (q5 (by kernel_rfl)) ?_)); clear hK K)); (first | show AWP _ _ _ _ _ | ((try simp only [z7]); first | show loopQ _ _ _ _ _ _ | show cutQ _ _ _ _ | show AWP _ _ _ _ _))) | ((first | refine z8 [] rfl ?_ | refine j8 [] rfl ?_); simp (maxSteps := 2000000) (disch := omega) only [go_sem, seval, hd, cb, atD, q6]; (repeat (first | refine ⟨by omega, ?_⟩ | refine ⟨True.intro, ?_⟩)))))
    refine j10 ⟨_, ?_, rfl⟩; rw [Tryz.results10]; simp (disch := omega) only [ResVars, ResVar, ptrLoc, go_sem, seval, hd, cb, atD, q6]
def inI (p : List Cube) (h : BitVec 128) (s : {s : Nat × List Int // s.1 ≤ p.length ∧ s.2 = inZ (p.take s.1) h ∧ s.2.length ≤ s.1}) : ASt :=
  ⟨[(6, .p (.d (.v (.int .i64 (s.val.1 : Int))))), (5, .gr 9 s.val.2.length 1 s.val.2.length (rowZ s.val.2)), (3, .p (.d (.bx (hd h)))), (0, .p (.d (.sl 4 p.length (rowC p))))], [(9, .grow 3 1 s.val.2.length s.val.2.length)]⟩
set_option maxRecDepth 100000 in
set_option maxHeartbeats 2000000 in
theorem in_c (p : List Cube) (h : BitVec 128) (hl : p.length ≤ 1048576) : ACalls Tryz.prog 15 [.d (.sl 4 p.length (rowC p)), .agg (hd h)] (· = [.d (.sl 1 (inZ p h).length (rowZ (inZ p h)))]) := by
  refine z11 Tryz.func15 rfl (by decide +kernel) (by rw [Tryz.ntmps15]; simp) ?_; rw [Tryz.ntmps15]; simp only [frOf]
  (repeat (first | refine j0 ?_ | refine x7 rfl ?_ | refine j7 rfl ?_ | refine j6 ?_ | (refine q4 fun K hK => ?_) | (refine j4 (by kernel_rfl) (by kernel_rfl) fun K hK => ?_) | ((first | refine x6 ?_ | refine q7 ?_ | ((first | refine x5 (hK _ ?_) | refine j5 (hK _ _ (q5 (by kernel_rfl)) ?_)); clear hK K)); (first | show AWP _ _ _ _ _ | ((try simp only [z7]); first | show loopQ _ _ _ _ _ _ | show cutQ _ _ _ _ | show AWP _ _ _ _ _))) | ((first | refine z8 [9] rfl ?_ | refine j8 [9] rfl ?_); simp (maxSteps := 2000000) (disch := omega) only [go_sem, seval, hd, cb, atD, q6]; (repeat (first | refine ⟨by omega, ?_⟩ | refine ⟨True.intro, ?_⟩)))))
  refine awp_loop (inI p h) (fun s => p.length - s.val.1) ⟨(0, []), by omega, rfl, by simp⟩ ?_ (fun s => ?_)
  · unfold inI
    refine Weak.list ?_ ?_; (all_goals simp (disch := omega) only [AllF, AllL, j11, le_top, x11, exists_eq_left', Option.some.injEq, go_sem, seval, hd, cb, atD, q6]); (all_goals (repeat' (with_reducible apply And.intro))); (all_goals try (first | exact j9 rfl | (refine le_int ?_; omega) | (refine j9 ?_; simp; done)))
    exact le_grgr rfl rfl (fun i hi => by simp at hi)
  obtain ⟨⟨i, out⟩, hi', h1, h2⟩ := s
  simp only [] at hi' h1 h2
  unfold inI
  simp only []
  by_cases hn : i < p.length
  · have r1 := rowC_at p i
    have e : inZ (p.take (i + 1)) h = inZ (p.take i) h ++ if hasC (p.getD i ⟨0, 0⟩) h then [(i : Int)] else [] := by
      rw [take_succ_getD p i ⟨0, 0⟩ hn, inZ_snoc]
      rw [List.length_take, Nat.min_eq_left (by omega)]
    generalize p.getD i ⟨0, 0⟩ = k at r1 e
    have tx := Text_c k
    have ht := Hast_c k h
    cases hs : k.sound
    · rw [hs] at tx
      simp only [Bool.false_eq_true, if_false] at tx
      have hc : hasC k h = false := by unfold hasC; rw [hs]; rfl
      rw [hc] at e
      simp only [Bool.false_eq_true, if_false, List.append_nil] at e
      (repeat (first | refine j0 ?_ | refine x7 rfl ?_ | refine j7 rfl ?_ | refine j6 ?_ | (refine q4 fun K hK => ?_) | (refine j4 (by kernel_rfl) (by kernel_rfl) fun K hK => ?_) | ((first | refine x6 ?_ | refine q7 ?_ | ((first | refine x5 (hK _ ?_) | refine j5 (hK _ _ (q5 (by kernel_rfl)) ?_)); clear hK K)); (first | show AWP _ _ _ _ _ | ((try simp only [z7]); first | show loopQ _ _ _ _ _ _ | show cutQ _ _ _ _ | show AWP _ _ _ _ _))) | ((first | refine z10 rfl rfl rfl ?_ | refine x10 rfl rfl rfl ?_); simp (maxSteps := 2000000) (disch := omega) only [go_sem, seval, hd, cb, atD, q6, r1]; (first | refine ⟨_, tx, ?_⟩)) | ((first | refine z8 [9] rfl ?_ | refine j8 [9] rfl ?_); simp (maxSteps := 2000000) (disch := omega) only [go_sem, seval, hd, cb, atD, q6, r1]; (repeat (first | refine ⟨by omega, ?_⟩ | refine ⟨True.intro, ?_⟩)))))
      refine ⟨⟨(i + 1, out), by simp only []; omega, by simp only []; rw [e]; exact h1, by simp only []; omega⟩, by simp only []; omega, ?_⟩
      refine Weak.list ?_ ?_; (all_goals simp (disch := omega) only [AllF, AllL, j11, le_top, x11, exists_eq_left', Option.some.injEq, go_sem, seval, hd, cb, atD, q6, r1]); (all_goals (repeat' (with_reducible apply And.intro))); (all_goals try (first | exact j9 rfl | (refine le_int ?_; omega) | (refine j9 ?_; simp; done)))
    · rw [hs] at tx
      simp only [if_true] at tx
      rw [hasT_sound hs] at ht
      cases hc : hasC k h
      all_goals
        rw [hc] at e ht
        simp only [Bool.false_eq_true, if_false, if_true, List.append_nil] at e
        (repeat (first | refine j0 ?_ | refine x7 rfl ?_ | refine j7 rfl ?_ | refine j6 ?_ | (refine q4 fun K hK => ?_) | (refine j4 (by kernel_rfl) (by kernel_rfl) fun K hK => ?_) | ((first | refine x6 ?_ | refine q7 ?_ | ((first | refine x5 (hK _ ?_) | refine j5 (hK _ _ (q5 (by kernel_rfl)) ?_)); clear hK K)); (first | show AWP _ _ _ _ _ | ((try simp only [z7]); first | show loopQ _ _ _ _ _ _ | show cutQ _ _ _ _ | show AWP _ _ _ _ _))) | ((first | refine z10 rfl rfl rfl ?_ | refine x10 rfl rfl rfl ?_); simp (maxSteps := 2000000) (disch := omega) only [go_sem, seval, hd, cb, atD, q6, r1]; (first | refine ⟨_, tx, ?_⟩ | refine ⟨_, ht, ?_⟩)) | ((first | refine z8 [9] rfl ?_ | refine j8 [9] rfl ?_); simp (maxSteps := 2000000) (disch := omega) only [go_sem, seval, hd, cb, atD, q6, r1]; (repeat (first | refine ⟨by omega, ?_⟩ | refine ⟨True.intro, ?_⟩)))))
      · refine ⟨⟨(i + 1, out), by simp only []; omega, by simp only []; rw [e]; exact h1, by simp only []; omega⟩, by simp only []; omega, ?_⟩
        refine Weak.list ?_ ?_; (all_goals simp (disch := omega) only [AllF, AllL, j11, le_top, x11, exists_eq_left', Option.some.injEq, go_sem, seval, hd, cb, atD, q6, r1]); (all_goals (repeat' (with_reducible apply And.intro))); (all_goals try (first | exact j9 rfl | (refine le_int ?_; omega) | (refine j9 ?_; simp; done)))
      · refine ⟨⟨(i + 1, out ++ [(i : Int)]), by simp only []; omega, by simp only []; rw [e, ← h1], by simp only [List.length_append, List.length_cons, List.length_nil]; omega⟩, by simp only []; omega, ?_⟩
        refine Weak.list ?_ ?_; (all_goals simp (disch := omega) only [AllF, AllL, j11, le_top, x11, exists_eq_left', Option.some.injEq, go_sem, seval, hd, cb, atD, q6, r1]); (all_goals (repeat' (with_reducible apply And.intro))); (all_goals try (first | exact j9 rfl | (refine le_int ?_; omega) | (refine j9 ?_; simp; done)))
        · exact le_grgr (by simp) (by simp) (fun j hj => rowZ_put out (i : Int) j hj)
        · exact lle_grow (by simp) (by simp)
  · have : i = p.length := by omega
    subst this
    rw [List.take_length] at h1
    subst h1
    (repeat (first | refine j0 ?_ | refine x7 rfl ?_ | refine j7 rfl ?_ | refine j6 ?_ | (refine q4 fun K hK => ?_) | (refine j4 (by kernel_rfl) (by kernel_rfl) fun K hK => ?_) | ((first | refine x6 ?_ | refine q7 ?_ | ((first | refine x5 (hK _ ?_) | refine j5 (hK _ _ (q5 (by kernel_rfl)) ?_)); clear hK K)); (first | show AWP _ _ _ _ _ | ((try simp only [z7]); first | show loopQ _ _ _ _ _ _ | show cutQ _ _ _ _ | show AWP _ _ _ _ _))) | ((first | refine z8 [9] rfl ?_ | refine j8 [9] rfl ?_); simp (maxSteps := 2000000) (disch := omega) only [go_sem, seval, hd, cb, atD, q6]; (repeat (first | refine ⟨by omega, ?_⟩ | refine ⟨True.intro, ?_⟩)))))
    refine awp_slot 4 _ (.p (.d (.sl 1 (inZ p h).length (rowZ (inZ p h))))) rfl (le_gr rfl (fun _ _ => rfl)) ?_
    refine j10 ⟨_, ?_, rfl⟩; rw [Tryz.results15]; simp (disch := omega) only [ResVars, ResVar, ptrLoc, go_sem, seval, hd, cb, atD, q6]
theorem eqI_rf : ∀ l : List Int, eqI l l = true
  | [] => rfl
  | x :: l => by simp [eqI, eqI_rf l]
def rightI (l : List Atm) (h : BitVec 128) (want : List Int) (j : Nat) (i : Fin (l.length + 1)) : ASt :=
  ⟨[(8, .p (.d (.v (.int .i64 (i.val : Int))))), (7, .p (.d (.v (.int .i64 (if j < i.val then 1 else 0))))), (4, .p (.d (.bx (hd h)))), (2, .p (.d (.sl 1 want.length (rowZ want)))), (0, .p (.d (.sl 4 l.length (rowAt l))))], []⟩
def rightJ (l : List Atm) (h : BitVec 128) (want : List Int) (n : Int) (i : Nat) (k : Fin (i + 1)) : ASt :=
  ⟨[(11, .p (.d (.v (.int .i64 (k.val : Int))))), (8, .p (.d (.v (.int .i64 (i : Int))))), (7, .p (.d (.v (.int .i64 n)))), (4, .p (.d (.bx (hd h)))), (2, .p (.d (.sl 1 want.length (rowZ want)))), (0, .p (.d (.sl 4 l.length (rowAt l))))], []⟩
set_option maxRecDepth 100000 in
set_option maxHeartbeats 8000000 in
theorem rightA_c (l : List Atm) (f : BitVec 128 → List Int) (h : BitVec 128) (want : List Int) (hA : AtOK l f) (hw : f h = want) (hl : smallA l) (hwl : want.length ≤ 1048576) :
    ACalls Tryz.prog 14 [.d (.sl 4 l.length (rowAt l)), .agg (hd h), .d (.sl 1 want.length (rowZ want))] (· = [.d (.v (.bool true))]) := by
  obtain ⟨j, hj1, hj2, hj3⟩ := hA.find h
  clear hj1
  have hhas : ∀ i, i < l.length → hasP (l.getD i at0).p h = decide (i = j) := fun i hi => by
    by_cases e : i = j
    · subst e; rw [hj3]; simp
    · rw [decide_eq_false e]
      cases hc : hasP (l.getD i at0).p h
      · rfl
      · exact absurd (hA.one hi hj2 hc hj3 rfl) e
  have hids : (l.getD j at0).ids = want := by rw [hA.ids _ (getD_in hj2 at0) h hj3, hw]
  have hdis : ∀ i k, k < i → i < l.length → ((l.getD i at0).ids == (l.getD k at0).ids) = false := fun i k hk hi => by
    rw [beq_eq_false_iff_ne]
    have := List.pairwise_iff_getElem.1 hA.dis k i (by omega) hi hk
    rw [List.getD_eq_getElem?_getD, List.getD_eq_getElem?_getD, List.getElem?_eq_getElem hi, List.getElem?_eq_getElem (show k < l.length by omega)]
    exact fun e => this e.symm
  obtain ⟨l1, l2⟩ := hl
  refine z11 Tryz.func14 rfl (by decide +kernel) (by rw [Tryz.ntmps14]; simp) ?_; rw [Tryz.ntmps14]; simp only [frOf]
  (repeat (first | refine j0 ?_ | refine x7 rfl ?_ | refine j7 rfl ?_ | refine j6 ?_ | (refine q4 fun K hK => ?_) | (refine j4 (by kernel_rfl) (by kernel_rfl) fun K hK => ?_) | ((first | refine x6 ?_ | refine q7 ?_ | ((first | refine x5 (hK _ ?_) | refine j5 (hK _ _ (q5 (by kernel_rfl)) ?_)); clear hK K)); (first | show AWP _ _ _ _ _ | ((try simp only [z7]); first | show loopQ _ _ _ _ _ _ | show cutQ _ _ _ _ | show AWP _ _ _ _ _))) | ((first | refine z8 [] rfl ?_ | refine j8 [] rfl ?_); simp (maxSteps := 2000000) (disch := omega) only [go_sem, seval, hd, cb, atD, q6]; (repeat (first | refine ⟨by omega, ?_⟩ | refine ⟨True.intro, ?_⟩)))))
  refine awp_loop (rightI l h want j) (fun s => l.length - s.val) ⟨0, by omega⟩ ?_ (fun s => ?_)
  · unfold rightI
    refine Weak.list ?_ ?_; (all_goals simp (disch := omega) only [AllF, AllL, j11, le_top, x11, exists_eq_left', Option.some.injEq, go_sem, seval, hd, cb, atD, q6]); (all_goals (repeat' (with_reducible apply And.intro))); (all_goals try (first | exact j9 rfl | (refine le_int ?_; omega) | (refine j9 ?_; simp; done)))
  obtain ⟨i, hi9⟩ := s
  unfold rightI
  simp only []
  by_cases hn : i < l.length
  · have r1 := rowAt_at l i
    obtain ⟨b1, b2⟩ := l2 _ (getD_in hn at0)
    have ok := hA.atm _ (getD_in hn at0)
    have hh := hhas i hn
    have hd' := hdis i
    have hij : i = j → (l.getD i at0).ids = want := fun e => by rw [e]; exact hids
    generalize l.getD i at0 = a at r1 b1 b2 ok hh hd' hij
    have hself := ok.has
    obtain ⟨⟨snd, len, _⟩, ne, e0⟩ := ok
    obtain ⟨ids, h0, p⟩ := a
    simp only [] at *
    have hp0 : 0 < p.length := by
      cases p with
      | nil => exact absurd rfl ne
      | cons => simp
    have r2 := rowC_at p 0
    have sk := snd _ (getD_in hp0 ⟨0, 0⟩)
    have c1 := HasR_c p h0 (by omega)
    have c5 := HasR_c p h (by omega)
    rw [hself] at c1
    generalize p.getD 0 ⟨0, 0⟩ = k at r2 sk e0
    subst e0
    have c2 := Text_c k
    rw [sk, if_pos rfl] at c2
    have c3 := Hast_c k k.v
    rw [hasT_sound sk, has_self sk] at c3
    have q1 : ((p.length : Int) == 0) = false := ieq_ff (by omega)
    have q2 : eqI [hi k.v, lo k.v] [hi k.v, lo k.v] = true := eqI_rf _
    have c6 := Ints_c ids want (by omega) (by omega)
    by_cases hji : i = j
    · subst hji
      rw [hh, decide_eq_true rfl] at c5
      rw [hij rfl, beq_self_eq_true] at c6
      rw [hij rfl] at r1
      have hd2 := hd' 
      rw [hij rfl] at hd2
      rw [if_neg (Nat.lt_irrefl i)]
      (repeat (first | refine j0 ?_ | refine x7 rfl ?_ | refine j7 rfl ?_ | refine j6 ?_ | (refine q4 fun K hK => ?_) | (refine j4 (by kernel_rfl) (by kernel_rfl) fun K hK => ?_) | ((first | refine x6 ?_ | refine q7 ?_ | ((first | refine x5 (hK _ ?_) | refine j5 (hK _ _ (q5 (by kernel_rfl)) ?_)); clear hK K)); (first | show AWP _ _ _ _ _ | ((try simp only [z7]); first | show loopQ _ _ _ _ _ _ | show cutQ _ _ _ _ | show AWP _ _ _ _ _))) | ((first | refine z10 rfl rfl rfl ?_ | refine x10 rfl rfl rfl ?_); simp (maxSteps := 2000000) (disch := omega) only [go_sem, seval, hd, cb, atD, q6, r1, r2, q1, q2]; (first | refine ⟨_, c1, ?_⟩ | refine ⟨_, c2, ?_⟩ | refine ⟨_, c3, ?_⟩ | refine ⟨_, c5, ?_⟩ | refine ⟨_, c6, ?_⟩)) | ((first | refine z8 [] rfl ?_ | refine j8 [] rfl ?_); simp (maxSteps := 2000000) (disch := omega) only [go_sem, seval, hd, cb, atD, q6, r1, r2, q1, q2]; (repeat (first | refine ⟨by omega, ?_⟩ | refine ⟨True.intro, ?_⟩)))))
      refine awp_loop (rightJ l h want 1 i) (fun s => i - s.val) ⟨0, by omega⟩ ?_ (fun s => ?_)
      · unfold rightJ
        refine Weak.list ?_ ?_; (all_goals simp (disch := omega) only [AllF, AllL, j11, le_top, x11, exists_eq_left', Option.some.injEq, go_sem, seval, hd, cb, atD, q6, r1, r2, q1, q2]); (all_goals (repeat' (with_reducible apply And.intro))); (all_goals try (first | exact j9 rfl | (refine le_int ?_; omega) | (refine j9 ?_; simp; done)))
      obtain ⟨m, hm9⟩ := s
      unfold rightJ
      simp only []
      by_cases hm : m < i
      · have r3 := rowAt_at l m
        have dd := hd2 m hm hn
        obtain ⟨d1, d2⟩ := l2 _ (getD_in (show m < l.length by omega) at0)
        generalize l.getD m at0 = b at r3 dd d1 d2
        have c7 := Ints_c want b.ids (by omega) (by omega)
        rw [dd] at c7
        (repeat (first | refine j0 ?_ | refine x7 rfl ?_ | refine j7 rfl ?_ | refine j6 ?_ | (refine q4 fun K hK => ?_) | (refine j4 (by kernel_rfl) (by kernel_rfl) fun K hK => ?_) | ((first | refine x6 ?_ | refine q7 ?_ | ((first | refine x5 (hK _ ?_) | refine j5 (hK _ _ (q5 (by kernel_rfl)) ?_)); clear hK K)); (first | show AWP _ _ _ _ _ | ((try simp only [z7]); first | show loopQ _ _ _ _ _ _ | show cutQ _ _ _ _ | show AWP _ _ _ _ _))) | ((first | refine z10 rfl rfl rfl ?_ | refine x10 rfl rfl rfl ?_); simp (maxSteps := 2000000) (disch := omega) only [go_sem, seval, hd, cb, atD, q6, r1, r3]; (first | refine ⟨_, c7, ?_⟩)) | ((first | refine z8 [] rfl ?_ | refine j8 [] rfl ?_); simp (maxSteps := 2000000) (disch := omega) only [go_sem, seval, hd, cb, atD, q6, r1, r3]; (repeat (first | refine ⟨by omega, ?_⟩ | refine ⟨True.intro, ?_⟩)))))
        refine ⟨⟨m + 1, by omega⟩, by simp only []; omega, ?_⟩
        refine Weak.list ?_ ?_; (all_goals simp (disch := omega) only [AllF, AllL, j11, le_top, x11, exists_eq_left', Option.some.injEq, go_sem, seval, hd, cb, atD, q6, r1, r3]); (all_goals (repeat' (with_reducible apply And.intro))); (all_goals try (first | exact j9 rfl | (refine le_int ?_; omega) | (refine j9 ?_; simp; done)))
      · have : m = i := by omega
        subst this
        (repeat (first | refine j0 ?_ | refine x7 rfl ?_ | refine j7 rfl ?_ | refine j6 ?_ | (refine q4 fun K hK => ?_) | (refine j4 (by kernel_rfl) (by kernel_rfl) fun K hK => ?_) | ((first | refine x6 ?_ | refine q7 ?_ | ((first | refine x5 (hK _ ?_) | refine j5 (hK _ _ (q5 (by kernel_rfl)) ?_)); clear hK K)); (first | show AWP _ _ _ _ _ | ((try simp only [z7]); first | show loopQ _ _ _ _ _ _ | show cutQ _ _ _ _ | show AWP _ _ _ _ _))) | ((first | refine z8 [] rfl ?_ | refine j8 [] rfl ?_); simp (maxSteps := 2000000) (disch := omega) only [go_sem, seval, hd, cb, atD, q6, r1]; (repeat (first | refine ⟨by omega, ?_⟩ | refine ⟨True.intro, ?_⟩)))))
        refine ⟨⟨m + 1, by omega⟩, by simp only []; omega, ?_⟩
        have e2 : (if m < m + 1 then (1 : Int) else 0) = 1 := by rw [if_pos (by omega)]
        simp only [e2]
        refine Weak.list ?_ ?_; (all_goals simp (disch := omega) only [AllF, AllL, j11, le_top, x11, exists_eq_left', Option.some.injEq, go_sem, seval, hd, cb, atD, q6, r1]); (all_goals (repeat' (with_reducible apply And.intro))); (all_goals try (first | exact j9 rfl | (refine le_int ?_; omega) | (refine j9 ?_; simp; done)))
    · rw [hh, decide_eq_false hji] at c5
      obtain ⟨n, hnn⟩ : ∃ n : Int, (if j < i then (1 : Int) else 0) = n := ⟨_, rfl⟩
      rw [hnn]
      (repeat (first | refine j0 ?_ | refine x7 rfl ?_ | refine j7 rfl ?_ | refine j6 ?_ | (refine q4 fun K hK => ?_) | (refine j4 (by kernel_rfl) (by kernel_rfl) fun K hK => ?_) | ((first | refine x6 ?_ | refine q7 ?_ | ((first | refine x5 (hK _ ?_) | refine j5 (hK _ _ (q5 (by kernel_rfl)) ?_)); clear hK K)); (first | show AWP _ _ _ _ _ | ((try simp only [z7]); first | show loopQ _ _ _ _ _ _ | show cutQ _ _ _ _ | show AWP _ _ _ _ _))) | ((first | refine z10 rfl rfl rfl ?_ | refine x10 rfl rfl rfl ?_); simp (maxSteps := 2000000) (disch := omega) only [go_sem, seval, hd, cb, atD, q6, r1, r2, q1, q2]; (first | refine ⟨_, c1, ?_⟩ | refine ⟨_, c2, ?_⟩ | refine ⟨_, c3, ?_⟩ | refine ⟨_, c5, ?_⟩)) | ((first | refine z8 [] rfl ?_ | refine j8 [] rfl ?_); simp (maxSteps := 2000000) (disch := omega) only [go_sem, seval, hd, cb, atD, q6, r1, r2, q1, q2]; (repeat (first | refine ⟨by omega, ?_⟩ | refine ⟨True.intro, ?_⟩)))))
      refine awp_loop (rightJ l h want n i) (fun s => i - s.val) ⟨0, by omega⟩ ?_ (fun s => ?_)
      · unfold rightJ
        refine Weak.list ?_ ?_; (all_goals simp (disch := omega) only [AllF, AllL, j11, le_top, x11, exists_eq_left', Option.some.injEq, go_sem, seval, hd, cb, atD, q6, r1, r2, q1, q2]); (all_goals (repeat' (with_reducible apply And.intro))); (all_goals try (first | exact j9 rfl | (refine le_int ?_; omega) | (refine j9 ?_; simp; done)))
      obtain ⟨m, hm9⟩ := s
      unfold rightJ
      simp only []
      by_cases hm : m < i
      · have r3 := rowAt_at l m
        have dd := hd' m hm hn
        obtain ⟨d1, d2⟩ := l2 _ (getD_in (show m < l.length by omega) at0)
        generalize l.getD m at0 = b at r3 dd d1 d2
        have c7 := Ints_c ids b.ids (by omega) (by omega)
        rw [dd] at c7
        (repeat (first | refine j0 ?_ | refine x7 rfl ?_ | refine j7 rfl ?_ | refine j6 ?_ | (refine q4 fun K hK => ?_) | (refine j4 (by kernel_rfl) (by kernel_rfl) fun K hK => ?_) | ((first | refine x6 ?_ | refine q7 ?_ | ((first | refine x5 (hK _ ?_) | refine j5 (hK _ _ (q5 (by kernel_rfl)) ?_)); clear hK K)); (first | show AWP _ _ _ _ _ | ((try simp only [z7]); first | show loopQ _ _ _ _ _ _ | show cutQ _ _ _ _ | show AWP _ _ _ _ _))) | ((first | refine z10 rfl rfl rfl ?_ | refine x10 rfl rfl rfl ?_); simp (maxSteps := 2000000) (disch := omega) only [go_sem, seval, hd, cb, atD, q6, r1, r3]; (first | refine ⟨_, c7, ?_⟩)) | ((first | refine z8 [] rfl ?_ | refine j8 [] rfl ?_); simp (maxSteps := 2000000) (disch := omega) only [go_sem, seval, hd, cb, atD, q6, r1, r3]; (repeat (first | refine ⟨by omega, ?_⟩ | refine ⟨True.intro, ?_⟩)))))
        refine ⟨⟨m + 1, by omega⟩, by simp only []; omega, ?_⟩
        refine Weak.list ?_ ?_; (all_goals simp (disch := omega) only [AllF, AllL, j11, le_top, x11, exists_eq_left', Option.some.injEq, go_sem, seval, hd, cb, atD, q6, r1, r3]); (all_goals (repeat' (with_reducible apply And.intro))); (all_goals try (first | exact j9 rfl | (refine le_int ?_; omega) | (refine j9 ?_; simp; done)))
      · have : m = i := by omega
        subst this
        (repeat (first | refine j0 ?_ | refine x7 rfl ?_ | refine j7 rfl ?_ | refine j6 ?_ | (refine q4 fun K hK => ?_) | (refine j4 (by kernel_rfl) (by kernel_rfl) fun K hK => ?_) | ((first | refine x6 ?_ | refine q7 ?_ | ((first | refine x5 (hK _ ?_) | refine j5 (hK _ _ (q5 (by kernel_rfl)) ?_)); clear hK K)); (first | show AWP _ _ _ _ _ | ((try simp only [z7]); first | show loopQ _ _ _ _ _ _ | show cutQ _ _ _ _ | show AWP _ _ _ _ _))) | ((first | refine z8 [] rfl ?_ | refine j8 [] rfl ?_); simp (maxSteps := 2000000) (disch := omega) only [go_sem, seval, hd, cb, atD, q6, r1]; (repeat (first | refine ⟨by omega, ?_⟩ | refine ⟨True.intro, ?_⟩)))))
        refine ⟨⟨m + 1, by omega⟩, by simp only []; omega, ?_⟩
        have e2 : (if j < m + 1 then (1 : Int) else 0) = n := by
          rw [← hnn]
          by_cases hjm : j < m
          · rw [if_pos hjm, if_pos (by omega)]
          · rw [if_neg hjm, if_neg (by omega)]
        simp only [e2]
        refine Weak.list ?_ ?_; (all_goals simp (disch := omega) only [AllF, AllL, j11, le_top, x11, exists_eq_left', Option.some.injEq, go_sem, seval, hd, cb, atD, q6, r1]); (all_goals (repeat' (with_reducible apply And.intro))); (all_goals try (first | exact j9 rfl | (refine le_int ?_; omega) | (refine j9 ?_; simp; done)))
  · have : i = l.length := by omega
    subst this
    rw [if_pos hj2]
    (repeat (first | refine j0 ?_ | refine x7 rfl ?_ | refine j7 rfl ?_ | refine j6 ?_ | (refine q4 fun K hK => ?_) | (refine j4 (by kernel_rfl) (by kernel_rfl) fun K hK => ?_) | ((first | refine x6 ?_ | refine q7 ?_ | ((first | refine x5 (hK _ ?_) | refine j5 (hK _ _ (q5 (by kernel_rfl)) ?_)); clear hK K)); (first | show AWP _ _ _ _ _ | ((try simp only [z7]); first | show loopQ _ _ _ _ _ _ | show cutQ _ _ _ _ | show AWP _ _ _ _ _))) | ((first | refine z8 [] rfl ?_ | refine j8 [] rfl ?_); simp (maxSteps := 2000000) (disch := omega) only [go_sem, seval, hd, cb, atD, q6]; (repeat (first | refine ⟨by omega, ?_⟩ | refine ⟨True.intro, ?_⟩)))))
    refine j10 ⟨_, ?_, rfl⟩; rw [Tryz.results14]; simp (disch := omega) only [ResVars, ResVar, ptrLoc, go_sem, seval, hd, cb, atD, q6]
end Go.Proofs.YtemcdefpihkfpaaGreat
set_option linter.unusedSimpArgs false
set_option linter.unusedVariables false
namespace Go.Proofs.YtemcdefpihkfpaaGreat
open Go Go.Proofs.YtemcdefpihkfpaaGreat.AL
theorem splitAll_small : ∀ (r : List Cube) (n : Nat) (out : List Atm), out.length ≤ 600 → (∀ a ∈ out, a.ids.length ≤ n ∧ a.p.length ≤ 200) → (splitAll r n out).1.length ≤ 600 ∧ ∀ a ∈ (splitAll r n out).1, a.ids.length ≤ n + r.length ∧ a.p.length ≤ 200
  | [], n, out, h1, h2 => by unfold splitAll; exact ⟨h1, fun a ha => by have := h2 a ha; simp; omega⟩
  | k :: r, n, out, h1, h2 => by
    unfold splitAll
    split
    · simp
    · have ih := splitAll_small r (n + 1) (splitL (n : Int) k out []).1 (splitL_len _ _ _ _) (splitL_small out [] (fun a ha => (h2 a ha).1) (by simp))
      refine ⟨ih.1, fun a ha => ?_⟩
      have := ih.2 a ha
      simp only [List.length_cons]; omega
theorem splitV_small (p : List Cube) (hp : p.length ≤ 500) : smallA (splitV p).1 ∧ (splitV p).1.length ≤ 600 := by
  unfold splitV
  rw [if_neg (show ¬ 500 < p.length by omega)]
  split
  · have := splitAll_small p 0 [⟨[], 0, [⟨0, 0⟩]⟩] (by simp) (by simp)
    exact ⟨⟨by omega, fun a ha => by have := this.2 a ha; omega⟩, this.1⟩
  · exact ⟨⟨by simp, by simp⟩, by simp⟩
def pAw : List Cube := [⟨1, 1⟩, ⟨2, 2⟩]
theorem aw_a : (splitV pAw).2 = 0 ∧ (splitV pAw).1.length = 4 ∧ ((splitV pAw).1.getD 0 at0).ids.length = 2 := by decide +kernel
theorem aw_b : (coarseV (splitV pAw).1 0).2 = 0 ∧ (coarseV (splitV pAw).1 0).1.length = 2 := by decide +kernel
theorem aw_c : findA (splitV pAw).1 3 = 0 ∧ (ofTo (splitV pAw).1 1 (splitV pAw).1.length).length = 2 := by decide +kernel
set_option maxRecDepth 100000 in
set_option maxHeartbeats 2000000 in
theorem awake11_c : ACalls Tryz.prog 13 [] (· = [.d (.v (.bool true))]) := by
  have k1 := Split_c pAw (by decide)
  obtain ⟨sm, _⟩ := splitV_small pAw (by decide)
  obtain ⟨a1, a2, a3⟩ := aw_a
  obtain ⟨b1, b2⟩ := aw_b
  obtain ⟨c1, c2⟩ := aw_c
  generalize splitV pAw = q at *
  obtain ⟨L, e⟩ := q
  simp only [] at *
  subst a1
  have k2 := Coarsen_c L 0 sm
  rw [b1, b2] at k2
  have k3 := FindA_c L 3 sm
  rw [c1] at k3
  have k4 := OfA_c L 1 sm
  rw [c2] at k4
  rw [show max (0 : Int) 0 = 0 by decide, show decide ((0 : Int) ≥ 0) = true by decide] at k3
  have r0 := rowAt_at L 0
  generalize L.getD 0 at0 = a at r0 a3
  have k1 : ACalls Tryz.prog 12 [.d (.sl 4 2 fun i => [[Dat.v (.int .u64 0), .v (.int .u64 1), .v (.int .u64 0), .v (.int .u64 1)], [Dat.v (.int .u64 0), .v (.int .u64 2), .v (.int .u64 0), .v (.int .u64 2)]].getD i [])] (· = [.d (.sl 4 L.length (rowAt L)), .d (.v (.int .i64 0))]) :=
    acalls_le (.cons (ple_sl rfl fun i (hi' : i < 2) => by
      have : i = 0 ∨ i = 1 := by omega
      rcases this with rfl | rfl
      · show _ = cb ⟨1, 1⟩
        unfold cb
        simp only [show hi 1 = 0 by decide, show lo 1 = 1 by decide]; rfl
      · show _ = cb ⟨2, 2⟩
        unfold cb
        simp only [show hi 2 = 0 by decide, show lo 2 = 2 by decide]; rfl) .nil) k1
  unfold hd at k3
  rw [show hi 3 = 0 by decide, show lo 3 = 3 by decide] at k3
  rw [a2] at k1 k2 k3 k4
  unfold atD at r0
  rw [a3] at r0
  refine z11 Tryz.func13 rfl (by decide +kernel) (by rw [Tryz.ntmps13]; simp) ?_; rw [Tryz.ntmps13]; simp only [frOf]
  (repeat (first | refine j0 ?_ | refine x7 rfl ?_ | refine j7 rfl ?_ | refine j6 ?_ | (refine q4 fun K hK => ?_) | (refine j4 (by kernel_rfl) (by kernel_rfl) fun K hK => ?_) | ((first | refine x6 ?_ | refine q7 ?_ | ((first | refine x5 (hK _ ?_) | refine j5 (hK _ _ (q5 (by kernel_rfl)) ?_)); clear hK K)); (first | show AWP _ _ _ _ _ | ((try simp only [z7]); first | show loopQ _ _ _ _ _ _ | show cutQ _ _ _ _ | show AWP _ _ _ _ _))) | ((first | refine z10 rfl rfl rfl ?_ | refine x10 rfl rfl rfl ?_); simp (maxSteps := 2000000) (disch := omega) only [go_sem, seval, hd, cb, atD, q6, r0]; (first | refine ⟨_, k1, ?_⟩ | refine ⟨_, k2, ?_⟩ | refine ⟨_, k3, ?_⟩ | refine ⟨_, k4, ?_⟩)) | ((first | refine z8 [] rfl ?_ | refine j8 [] rfl ?_); simp (maxSteps := 2000000) (disch := omega) only [go_sem, seval, hd, cb, atD, q6, r0]; (repeat (first | refine ⟨by omega, ?_⟩ | refine ⟨True.intro, ?_⟩)))))
  refine j10 ⟨_, ?_, rfl⟩; rw [Tryz.results13]; simp (disch := omega) only [ResVars, ResVar, ptrLoc, go_sem, seval, hd, cb, atD, q6, r0]
theorem take_snd {p : List Cube} {n : Nat} : (p.take n).length ≤ n := by simp; omega
end Go.Proofs.YtemcdefpihkfpaaGreat
set_option linter.unusedSimpArgs false
set_option linter.unusedVariables false
namespace Go.Proofs.YtemcdefpihkfpaaGreat
open Go Go.Proofs.YtemcdefpihkfpaaGreat.AL
theorem inZ_len (p : List Cube) (h : BitVec 128) : (inZ p h).length ≤ p.length := by
  unfold inZ
  rw [List.length_map]
  have := List.length_filter_le (fun i => hasC (p.getD i ⟨0, 0⟩) h) (List.range p.length)
  rw [List.length_range] at this; exact this
theorem inZ_one (k : Cube) (h : BitVec 128) : inZ [k] h = if hasC k h then [0] else [] := by
  have := inZ_snoc [] k h
  rw [List.nil_append, inZ_nil, List.nil_append] at this
  rw [this]; rfl
theorem smallA_of {l : List Atm} {f : BitVec 128 → List Int} (h : AtOK l f) (hl : l.length ≤ 1048576) (hf : ∀ g, (f g).length ≤ 1048576) : smallA l :=
  ⟨hl, fun a ha => ⟨by rw [h.ids a ha a.h (h.atm a ha).has]; exact hf _, by have := (h.atm a ha).pile.len; omega⟩⟩
theorem coarseGo_len (id : Int) : ∀ (r out : List Atm), (coarseGo id r out).1.length ≤ out.length + r.length
  | [], out => by unfold coarseGo; simp
  | a :: r, out => by
    unfold coarseGo
    split
    · have := coarseGo_len id r (out ++ [⟨lessZ a.ids [id], a.h, a.p⟩])
      simp only [List.length_append, List.length_cons, List.length_nil] at this ⊢; omega
    · split
      · simp
      · have := coarseGo_len id r (out.set (idxF (sameIds (lessZ a.ids [id])) out 0).toNat ⟨(out.getD (idxF (sameIds (lessZ a.ids [id])) out 0).toNat at0).ids, (out.getD (idxF (sameIds (lessZ a.ids [id])) out 0).toNat at0).h, joinV (out.getD (idxF (sameIds (lessZ a.ids [id])) out 0).toNat at0).p a.p⟩)
        simp only [List.length_set, List.length_cons] at this ⊢; omega
theorem coarseV_len (l : List Atm) (id : Int) : (coarseV l id).1.length ≤ l.length := by
  unfold coarseV
  split
  · have := coarseGo_len id l []
    simpa using this
  · simp
theorem atoms_sound {l : List Atm} {f : BitVec 128 → List Int} (h : AtOK l f) : soundAL l = true := List.all_eq_true.2 fun a ha => (h.atm a ha).pile.sound
theorem no_hundred {p : List Cube} {l : List Atm} (h : AtOK l (inZ p)) (hp : p.length ≤ 7) : (l.any fun a => a.ids.contains 100) = false := by
  rw [List.any_eq_false]
  intro a ha hc
  have hm : (100 : Int) ∈ a.ids := by simpa using hc
  rw [h.ids a ha a.h (h.atm a ha).has] at hm
  have := inZ_mem hm
  omega
theorem refine_at {p : List Cube} {l : List Atm} (h : AtOK l (inZ p)) (hp : p.length ≤ 7) (k : Cube) : refineV l 100 k = if k.sound then splitL 100 k l [] else ([], 2) := by
  unfold refineV
  rw [if_neg (by decide), atoms_sound h, Bool.and_true, no_hundred h hp]
  cases k.sound <;> simp
theorem refine_ok {p : List Cube} {l : List Atm} (h : AtOK l (inZ p)) (hp : p.length ≤ 7) {k : Cube} (hk : k.sound = true) (he : (splitL 100 k l []).2 = 0) : AtOK (splitL 100 k l []).1 fun g => inZ p g ++ if hasC k g then [100] else [] :=
  splitL_ok h hk (fun g => ⟨inZ_inc p g, fun x hx => by have := inZ_mem hx; omega⟩) he
theorem splitL_sm (id : Int) (k : Cube) {l : List Atm} (hl : smallA l) (hn : ∀ a ∈ l, a.ids.length ≤ 1000) : smallA (splitL id k l []).1 := by
  have h1 := splitL_len id k l []
  have h2 := splitL_small (id := id) (k := k) (N := 1000) l [] hn (by simp)
  exact ⟨by omega, fun a ha => by have := h2 a ha; omega⟩
end Go.Proofs.YtemcdefpihkfpaaGreat
set_option linter.unusedSimpArgs false
set_option linter.unusedVariables false
namespace Go.Proofs.YtemcdefpihkfpaaGreat
open Go Go.Proofs.YtemcdefpihkfpaaGreat.AL
theorem filter_step (W : List Int) (k : Int) (i : Nat) (h : i < W.length) : (W.take (i + 1)).filter (fun x => x != k) = (W.take i).filter (fun x => x != k) ++ if (W.getD i 0 != k) = true then [W.getD i 0] else [] := by
  rw [take_succ_getD W i 0 h, List.filter_append]
  congr 1
  rw [List.filter_cons]
  split <;> rfl
def turnI (b : List Atm) (e : Int) (k : Nat) (h : BitVec 128) (W : List Int) (s : {s : Nat × List Int × Nat // s.1 ≤ W.length ∧ s.2.1 = (W.take s.1).filter (fun x => x != (k : Int)) ∧ s.2.1.length ≤ s.1}) : ASt :=
  ⟨[(23, .p (.d (.v (.int .i64 (s.val.1 : Int))))), (22, .gr 103 s.val.2.2 1 s.val.2.1.length (rowZ s.val.2.1)), (21, .p (.d (.v (.int .i64 e)))), (20, .p (.d (.sl 4 b.length (rowAt b)))), (19, .p (.d (.v (.int .i64 (k : Int))))), (15, .p (.d (.sl 1 W.length (rowZ W)))), (7, .p (.d (.bx (hd h))))],
   [(103, .grow 3 1 s.val.2.1.length s.val.2.2)]⟩
set_option maxRecDepth 100000 in
set_option maxHeartbeats 16000000 in
theorem AtomsTurn_c (p0 : List Cube) (more : Cube) (idn : Nat) (h : BitVec 128) (hp0 : p0.length ≤ 1099511627776) (hid : idn ≤ 255) : ACalls Tryz.prog 5 [.d (.sl 4 p0.length (rowC p0)), .agg (cb more), .d (.v (.int .u8 (idn : Int))), .agg (hd h)] (· = [.d (.v (.bool true))]) := by
  have fw := few11_c p0 hp0
  have hp7 : (p0.take 7).length ≤ 7 := take_snd
  generalize p0.take 7 = p at fw hp7
  have sp := Split_c p (by omega)
  obtain ⟨sm, sl⟩ := splitV_small p (by omega)
  have ic := in_c p h (by omega)
  have hwl := inZ_len p h
  have tm := Text_c more
  by_cases he : (splitV p).2 = 0
  · obtain ⟨-, hA⟩ := splitV_ok he
    rw [he] at sp
    generalize (splitV p).1 = l at *
    have rf := Refine_c l 100 more sm
    rw [refine_at hA hp7] at rf
    obtain ⟨k, hk⟩ : ∃ k, idn % 9 = k := ⟨_, rfl⟩
    have qk : ((idn : Int)).tmod 9 = (k : Int) := by
      rw [Int.tmod_eq_emod_of_nonneg (by omega)]; omega
    have hk9 : k < 9 := by omega
    have co := Coarsen_c l k sm
    have ce := coarseV_err l k
    rw [if_pos (atoms_sound hA)] at ce
    have tl : ∀ b e, (coarseV l k).1 = b → (coarseV l k).2 = e → (e = 10 ∨ (e = 0 ∧ ACalls Tryz.prog 14 [.d (.sl 4 b.length (rowAt b)), .agg (hd h), .d (.sl 1 ((inZ p h).filter fun x => x != (k : Int)).length (rowZ ((inZ p h).filter fun x => x != (k : Int))))] (· = [.d (.v (.bool true))]))) := by
      intro b e hb hE
      rcases ce with e1 | ⟨e1, _⟩
      · refine .inr ⟨by rw [← hE, e1], ?_⟩
        have hB := coarseV_ok hA e1
        rw [hb] at hB
        have hbl := coarseV_len l k
        rw [hb] at hbl
        have hfl : ∀ g, (lessZ (inZ p g) [(k : Int)]).length ≤ 1048576 := fun g => by
          rw [lessZ_filter (inZ_inc p g)]
          have := List.length_filter_le (fun x => x != (k : Int)) (inZ p g)
          have := inZ_len p g
          omega
        exact rightA_c b _ h _ hB (lessZ_filter (inZ_inc p h) k) (smallA_of hB (by omega) hfl) (by
          have := List.length_filter_le (fun x => x != (k : Int)) (inZ p h); omega)
      · exact .inl (by rw [← hE, e1])
    obtain ⟨b, hb⟩ : ∃ b, (coarseV l k).1 = b := ⟨_, rfl⟩
    obtain ⟨e, hE⟩ : ∃ e, (coarseV l k).2 = e := ⟨_, rfl⟩
    have tl := tl b e hb hE
    rw [hb, hE] at co
    clear ce hb hE
    cases hm : more.sound
    · rw [hm] at tm rf
      simp only [Bool.false_eq_true, if_false, List.length_nil] at tm rf
      refine z11 Tryz.func5 rfl (by decide +kernel) (by rw [Tryz.ntmps5]; simp) ?_; rw [Tryz.ntmps5]; simp only [frOf]
      (repeat (first | refine j0 ?_ | refine x7 rfl ?_ | refine j7 rfl ?_ | refine j6 ?_ | (refine q4 fun K hK => ?_) | (refine j4 (by kernel_rfl) (by kernel_rfl) fun K hK => ?_) | ((first | refine x6 ?_ | refine q7 ?_ | ((first | refine x5 (hK _ ?_) | refine j5 (hK _ _ (q5 (by kernel_rfl)) ?_)); clear hK K)); (first | show AWP _ _ _ _ _ | ((try simp only [z7]); first | show loopQ _ _ _ _ _ _ | show cutQ _ _ _ _ | show AWP _ _ _ _ _))) | ((first | refine z10 rfl rfl rfl ?_ | refine x10 rfl rfl rfl ?_); simp (maxSteps := 2000000) (disch := omega) only [go_sem, seval, hd, cb, atD]; (first | refine ⟨_, fw, ?_⟩ | refine ⟨_, sp, ?_⟩ | refine ⟨_, awake11_c, ?_⟩ | refine ⟨_, tm, ?_⟩ | refine ⟨_, rf, ?_⟩)) | ((first | refine z8 [63, 103] rfl ?_ | refine j8 [63, 103] rfl ?_); simp (maxSteps := 2000000) (disch := omega) only [go_sem, seval, hd, cb, atD]; (repeat (first | refine ⟨by omega, ?_⟩ | refine ⟨True.intro, ?_⟩)))))
      refine j10 ⟨_, ?_, rfl⟩; rw [Tryz.results5]; simp (disch := omega) only [ResVars, ResVar, ptrLoc, go_sem, seval, hd, cb, atD]
    rw [hm] at tm rf
    simp only [if_true] at tm rf
    by_cases hf : (splitL 100 more l []).2 = 0
    · have hB := refine_ok hA hp7 hm hf
      have sm2 := splitL_sm 100 more sm (fun a ha => by
        rw [hA.ids a ha a.h (hA.atm a ha).has]
        have := inZ_len p a.h; omega)
      rw [hf] at rf
      generalize (splitL 100 more l []).1 = a2 at *
      have io := in_c [more] h (by simp)
      have io : ACalls Tryz.prog 15 [.d (.sl 4 1 fun i => [cb more].getD i []), .agg (hd h)] (· = [.d (.sl 1 (inZ [more] h).length (rowZ (inZ [more] h)))]) :=
        acalls_le (.cons (ple_sl rfl fun i hi' => by
          obtain rfl : i = 0 := by omega
          rfl) (.cons (ple_refl _) .nil)) io
      rw [inZ_one] at io
      have rg := rightA_c a2 _ h _ hB rfl sm2 (by
        have := inZ_len p h
        rw [List.length_append]; split <;> simp <;> omega)
      have ag := Refine_c a2 100 more sm2
      have oa := OfA_c a2 100 sm2
      have hor : (refineV a2 100 more).2 = 8 ∨ (ofTo a2 100 a2.length).length = 0 := by
        by_cases hany : (a2.any fun a => a.ids.contains 100) = true
        · left
          unfold refineV
          rw [if_neg (by decide), hm, atoms_sound hB, if_neg (by decide), if_pos hany]
        · right
          have hany : (a2.any fun a => a.ids.contains 100) = false := by simpa using hany
          rw [List.any_eq_false] at hany
          unfold ofTo
          rw [List.length_map, List.length_eq_zero_iff, List.filter_eq_nil_iff]
          intro i hi'
          exact hany _ (getD_in (List.mem_range.1 hi') at0)
      have ol := ofTo_len a2 100 a2.length
      generalize (refineV a2 100 more).2 = e8 at ag hor
      generalize (refineV a2 100 more).1 = x8 at ag
      obtain ⟨n8, hn8⟩ : ∃ n, (ofTo a2 100 a2.length).length = n := ⟨_, rfl⟩
      rw [hn8] at oa hor ol
      unfold cb hd at io
      generalize inZ p h = W at *
      cases hc : hasC more h
      all_goals
        rw [hc] at io rg
        simp only [Bool.false_eq_true, if_false, if_true, List.length_nil, List.length_cons, List.append_nil, Nat.zero_add] at io rg
        refine z11 Tryz.func5 rfl (by decide +kernel) (by rw [Tryz.ntmps5]; simp) ?_; rw [Tryz.ntmps5]; simp only [frOf]
        (repeat ((fail_if_success (show AWP _ _ (.region 14 _ _) _ _)); first | refine j0 ?_ | refine x7 rfl ?_ | refine j7 rfl ?_ | refine j6 ?_ | (refine q4 fun K hK => ?_) | (refine j4 (by kernel_rfl) (by kernel_rfl) fun K hK => ?_) | ((first | refine x6 ?_ | refine q7 ?_ | ((first | refine x5 (hK _ ?_) | refine j5 (hK _ _ (q5 (by kernel_rfl)) ?_)); clear hK K)); (first | show AWP _ _ _ _ _ | ((try simp only [z7]); first | show loopQ _ _ _ _ _ _ | show cutQ _ _ _ _ | show AWP _ _ _ _ _))) | ((first | refine z10 rfl rfl rfl ?_ | refine x10 rfl rfl rfl ?_); simp (maxSteps := 2000000) (disch := omega) only [go_sem, seval, hd, cb, atD]; (first | refine ⟨_, fw, ?_⟩ | refine ⟨_, sp, ?_⟩ | refine ⟨_, awake11_c, ?_⟩ | refine ⟨_, tm, ?_⟩ | refine ⟨_, rf, ?_⟩ | refine ⟨_, ic, ?_⟩ | refine ⟨_, io, ?_⟩)) | ((first | refine z8 [63, 103] rfl ?_ | refine j8 [63, 103] rfl ?_); simp (maxSteps := 2000000) (disch := omega) only [go_sem, seval, hd, cb, atD]; (repeat (first | refine ⟨by omega, ?_⟩ | refine ⟨True.intro, ?_⟩)))))
      · refine awp_slot 16 _ (.p (.d (.sl 1 W.length (rowZ W)))) rfl (le_gr (by simp) (fun i hi' => by simp [catF])) ?_
        by_cases h8 : e8 = 8
        · have q8 : (e8 != 8) = false := ine_ff h8
          (repeat (first | refine j0 ?_ | refine x7 rfl ?_ | refine j7 rfl ?_ | refine j6 ?_ | (refine q4 fun K hK => ?_) | (refine j4 (by kernel_rfl) (by kernel_rfl) fun K hK => ?_) | ((first | refine x6 ?_ | refine q7 ?_ | ((first | refine x5 (hK _ ?_) | refine j5 (hK _ _ (q5 (by kernel_rfl)) ?_)); clear hK K)); (first | show AWP _ _ _ _ _ | ((try simp only [z7]); first | show loopQ _ _ _ _ _ _ | show cutQ _ _ _ _ | show AWP _ _ _ _ _))) | ((first | refine z10 rfl rfl rfl ?_ | refine x10 rfl rfl rfl ?_); simp (maxSteps := 2000000) (disch := omega) only [go_sem, seval, hd, cb, atD, q8, qk]; (first | refine ⟨_, rg, ?_⟩ | refine ⟨_, ag, ?_⟩ | refine ⟨_, co, ?_⟩)) | ((first | refine z8 [63, 103] rfl ?_ | refine j8 [63, 103] rfl ?_); simp (maxSteps := 2000000) (disch := omega) only [go_sem, seval, hd, cb, atD, q8, qk]; (repeat (first | refine ⟨by omega, ?_⟩ | refine ⟨True.intro, ?_⟩)))))
          refine awp_loop (turnI b e k h W) (fun s => W.length - s.val.1) ⟨(0, [], 0), by omega, by simp, by simp⟩ ?_ (fun s => ?_)
          · unfold turnI
            refine Weak.list ?_ ?_; (all_goals simp (disch := omega) only [AllF, AllL, j11, le_top, x11, exists_eq_left', Option.some.injEq, go_sem, seval, hd, cb, atD, q8, qk]); (all_goals (repeat' (with_reducible apply And.intro))); (all_goals try (first | exact j9 rfl | (refine le_int ?_; omega) | (refine j9 ?_; simp; done)))
            exact le_grgr rfl rfl (fun i hi' => by simp at hi')
          obtain ⟨⟨i, out, g⟩, hi', h1, h2⟩ := s
          simp only [] at hi' h1 h2
          unfold turnI
          simp only []
          by_cases hn : i < W.length
          · have r1 := rowZ_at W i
            have fs := filter_step W k i hn
            generalize W.getD i 0 = x at r1 fs
            cases hx : (x != (k : Int))
            all_goals
              rw [hx] at fs
              simp only [Bool.false_eq_true, if_false, if_true, List.append_nil] at fs
              (repeat (first | refine j0 ?_ | refine x7 rfl ?_ | refine j7 rfl ?_ | refine j6 ?_ | (refine q4 fun K hK => ?_) | (refine j4 (by kernel_rfl) (by kernel_rfl) fun K hK => ?_) | ((first | refine x6 ?_ | refine q7 ?_ | ((first | refine x5 (hK _ ?_) | refine j5 (hK _ _ (q5 (by kernel_rfl)) ?_)); clear hK K)); (first | show AWP _ _ _ _ _ | ((try simp only [z7]); first | show loopQ _ _ _ _ _ _ | show cutQ _ _ _ _ | show AWP _ _ _ _ _))) | ((first | refine z8 [63, 103] rfl ?_ | refine j8 [63, 103] rfl ?_); simp (maxSteps := 2000000) (disch := omega) only [go_sem, seval, hd, cb, atD, r1, hx]; (repeat (first | refine ⟨by omega, ?_⟩ | refine ⟨True.intro, ?_⟩)))))
            · refine ⟨⟨(i + 1, out, g), by simp only []; omega, by simp only []; rw [fs]; exact h1, by simp only []; omega⟩, by simp only []; omega, ?_⟩
              refine Weak.list ?_ ?_; (all_goals simp (disch := omega) only [AllF, AllL, j11, le_top, x11, exists_eq_left', Option.some.injEq, go_sem, seval, hd, cb, atD, r1, hx]); (all_goals (repeat' (with_reducible apply And.intro))); (all_goals try (first | exact j9 rfl | (refine le_int ?_; omega) | (refine j9 ?_; simp; done)))
            · refine ⟨⟨(i + 1, out ++ [x], g + 1), by simp only []; omega, by simp only []; rw [fs, ← h1], by simp only [List.length_append, List.length_cons, List.length_nil]; omega⟩, by simp only []; omega, ?_⟩
              refine Weak.list ?_ ?_; (all_goals simp (disch := omega) only [AllF, AllL, j11, le_top, x11, exists_eq_left', Option.some.injEq, go_sem, seval, hd, cb, atD, r1, hx]); (all_goals (repeat' (with_reducible apply And.intro))); (all_goals try (first | exact j9 rfl | (refine le_int ?_; omega) | (refine j9 ?_; simp; done)))
              · exact le_grgr rfl (by simp) (fun j hj => rowZ_put out x j hj)
              · exact lle_grow (by simp) rfl
          · have : i = W.length := by omega
            subst this
            rw [List.take_length] at h1
            subst h1
            (repeat ((fail_if_success (show AWP _ _ (.region 27 _ _) _ _)); first | refine j0 ?_ | refine x7 rfl ?_ | refine j7 rfl ?_ | refine j6 ?_ | (refine q4 fun K hK => ?_) | (refine j4 (by kernel_rfl) (by kernel_rfl) fun K hK => ?_) | ((first | refine x6 ?_ | refine q7 ?_ | ((first | refine x5 (hK _ ?_) | refine j5 (hK _ _ (q5 (by kernel_rfl)) ?_)); clear hK K)); (first | show AWP _ _ _ _ _ | ((try simp only [z7]); first | show loopQ _ _ _ _ _ _ | show cutQ _ _ _ _ | show AWP _ _ _ _ _))) | ((first | refine z8 [63, 103] rfl ?_ | refine j8 [63, 103] rfl ?_); simp (maxSteps := 2000000) (disch := omega) only [go_sem, seval, hd, cb, atD]; (repeat (first | refine ⟨by omega, ?_⟩ | refine ⟨True.intro, ?_⟩)))))
            refine awp_slot 22 _ (.p (.d (.sl 1 (W.filter fun x => x != (k : Int)).length (rowZ (W.filter fun x => x != (k : Int)))))) rfl (le_gr rfl (fun _ _ => rfl)) ?_
            rcases tl with rfl | ⟨rfl, tl⟩
            · (repeat (first | refine j0 ?_ | refine x7 rfl ?_ | refine j7 rfl ?_ | refine j6 ?_ | (refine q4 fun K hK => ?_) | (refine j4 (by kernel_rfl) (by kernel_rfl) fun K hK => ?_) | ((first | refine x6 ?_ | refine q7 ?_ | ((first | refine x5 (hK _ ?_) | refine j5 (hK _ _ (q5 (by kernel_rfl)) ?_)); clear hK K)); (first | show AWP _ _ _ _ _ | ((try simp only [z7]); first | show loopQ _ _ _ _ _ _ | show cutQ _ _ _ _ | show AWP _ _ _ _ _))) | ((first | refine z8 [63, 103] rfl ?_ | refine j8 [63, 103] rfl ?_); simp (maxSteps := 2000000) (disch := omega) only [go_sem, seval, hd, cb, atD]; (repeat (first | refine ⟨by omega, ?_⟩ | refine ⟨True.intro, ?_⟩)))))
              refine j10 ⟨_, ?_, rfl⟩; rw [Tryz.results5]; simp (disch := omega) only [ResVars, ResVar, ptrLoc, go_sem, seval, hd, cb, atD]
            · (repeat (first | refine j0 ?_ | refine x7 rfl ?_ | refine j7 rfl ?_ | refine j6 ?_ | (refine q4 fun K hK => ?_) | (refine j4 (by kernel_rfl) (by kernel_rfl) fun K hK => ?_) | ((first | refine x6 ?_ | refine q7 ?_ | ((first | refine x5 (hK _ ?_) | refine j5 (hK _ _ (q5 (by kernel_rfl)) ?_)); clear hK K)); (first | show AWP _ _ _ _ _ | ((try simp only [z7]); first | show loopQ _ _ _ _ _ _ | show cutQ _ _ _ _ | show AWP _ _ _ _ _))) | ((first | refine z10 rfl rfl rfl ?_ | refine x10 rfl rfl rfl ?_); simp (maxSteps := 2000000) (disch := omega) only [go_sem, seval, hd, cb, atD]; (first | refine ⟨_, tl, ?_⟩)) | ((first | refine z8 [63, 103] rfl ?_ | refine j8 [63, 103] rfl ?_); simp (maxSteps := 2000000) (disch := omega) only [go_sem, seval, hd, cb, atD]; (repeat (first | refine ⟨by omega, ?_⟩ | refine ⟨True.intro, ?_⟩)))))
              refine j10 ⟨_, ?_, rfl⟩; rw [Tryz.results5]; simp (disch := omega) only [ResVars, ResVar, ptrLoc, go_sem, seval, hd, cb, atD]
        · have q8 : (e8 != 8) = true := ine_tt h8
          have hn0 : n8 = 0 := hor.resolve_left h8
          subst hn0
          (repeat (first | refine j0 ?_ | refine x7 rfl ?_ | refine j7 rfl ?_ | refine j6 ?_ | (refine q4 fun K hK => ?_) | (refine j4 (by kernel_rfl) (by kernel_rfl) fun K hK => ?_) | ((first | refine x6 ?_ | refine q7 ?_ | ((first | refine x5 (hK _ ?_) | refine j5 (hK _ _ (q5 (by kernel_rfl)) ?_)); clear hK K)); (first | show AWP _ _ _ _ _ | ((try simp only [z7]); first | show loopQ _ _ _ _ _ _ | show cutQ _ _ _ _ | show AWP _ _ _ _ _))) | ((first | refine z10 rfl rfl rfl ?_ | refine x10 rfl rfl rfl ?_); simp (maxSteps := 2000000) (disch := omega) only [go_sem, seval, hd, cb, atD, q8, qk]; (first | refine ⟨_, rg, ?_⟩ | refine ⟨_, ag, ?_⟩ | refine ⟨_, oa, ?_⟩ | refine ⟨_, co, ?_⟩)) | ((first | refine z8 [63, 103] rfl ?_ | refine j8 [63, 103] rfl ?_); simp (maxSteps := 2000000) (disch := omega) only [go_sem, seval, hd, cb, atD, q8, qk]; (repeat (first | refine ⟨by omega, ?_⟩ | refine ⟨True.intro, ?_⟩)))))
          refine awp_loop (turnI b e k h W) (fun s => W.length - s.val.1) ⟨(0, [], 0), by omega, by simp, by simp⟩ ?_ (fun s => ?_)
          · unfold turnI
            refine Weak.list ?_ ?_; (all_goals simp (disch := omega) only [AllF, AllL, j11, le_top, x11, exists_eq_left', Option.some.injEq, go_sem, seval, hd, cb, atD, q8, qk]); (all_goals (repeat' (with_reducible apply And.intro))); (all_goals try (first | exact j9 rfl | (refine le_int ?_; omega) | (refine j9 ?_; simp; done)))
            exact le_grgr rfl rfl (fun i hi' => by simp at hi')
          obtain ⟨⟨i, out, g⟩, hi', h1, h2⟩ := s
          simp only [] at hi' h1 h2
          unfold turnI
          simp only []
          by_cases hn : i < W.length
          · have r1 := rowZ_at W i
            have fs := filter_step W k i hn
            generalize W.getD i 0 = x at r1 fs
            cases hx : (x != (k : Int))
            all_goals
              rw [hx] at fs
              simp only [Bool.false_eq_true, if_false, if_true, List.append_nil] at fs
              (repeat (first | refine j0 ?_ | refine x7 rfl ?_ | refine j7 rfl ?_ | refine j6 ?_ | (refine q4 fun K hK => ?_) | (refine j4 (by kernel_rfl) (by kernel_rfl) fun K hK => ?_) | ((first | refine x6 ?_ | refine q7 ?_ | ((first | refine x5 (hK _ ?_) | refine j5 (hK _ _ (q5 (by kernel_rfl)) ?_)); clear hK K)); (first | show AWP _ _ _ _ _ | ((try simp only [z7]); first | show loopQ _ _ _ _ _ _ | show cutQ _ _ _ _ | show AWP _ _ _ _ _))) | ((first | refine z8 [63, 103] rfl ?_ | refine j8 [63, 103] rfl ?_); simp (maxSteps := 2000000) (disch := omega) only [go_sem, seval, hd, cb, atD, r1, hx]; (repeat (first | refine ⟨by omega, ?_⟩ | refine ⟨True.intro, ?_⟩)))))
            · refine ⟨⟨(i + 1, out, g), by simp only []; omega, by simp only []; rw [fs]; exact h1, by simp only []; omega⟩, by simp only []; omega, ?_⟩
              refine Weak.list ?_ ?_; (all_goals simp (disch := omega) only [AllF, AllL, j11, le_top, x11, exists_eq_left', Option.some.injEq, go_sem, seval, hd, cb, atD, r1, hx]); (all_goals (repeat' (with_reducible apply And.intro))); (all_goals try (first | exact j9 rfl | (refine le_int ?_; omega) | (refine j9 ?_; simp; done)))
            · refine ⟨⟨(i + 1, out ++ [x], g + 1), by simp only []; omega, by simp only []; rw [fs, ← h1], by simp only [List.length_append, List.length_cons, List.length_nil]; omega⟩, by simp only []; omega, ?_⟩
              refine Weak.list ?_ ?_; (all_goals simp (disch := omega) only [AllF, AllL, j11, le_top, x11, exists_eq_left', Option.some.injEq, go_sem, seval, hd, cb, atD, r1, hx]); (all_goals (repeat' (with_reducible apply And.intro))); (all_goals try (first | exact j9 rfl | (refine le_int ?_; omega) | (refine j9 ?_; simp; done)))
              · exact le_grgr rfl (by simp) (fun j hj => rowZ_put out x j hj)
              · exact lle_grow (by simp) rfl
          · have : i = W.length := by omega
            subst this
            rw [List.take_length] at h1
            subst h1
            (repeat ((fail_if_success (show AWP _ _ (.region 27 _ _) _ _)); first | refine j0 ?_ | refine x7 rfl ?_ | refine j7 rfl ?_ | refine j6 ?_ | (refine q4 fun K hK => ?_) | (refine j4 (by kernel_rfl) (by kernel_rfl) fun K hK => ?_) | ((first | refine x6 ?_ | refine q7 ?_ | ((first | refine x5 (hK _ ?_) | refine j5 (hK _ _ (q5 (by kernel_rfl)) ?_)); clear hK K)); (first | show AWP _ _ _ _ _ | ((try simp only [z7]); first | show loopQ _ _ _ _ _ _ | show cutQ _ _ _ _ | show AWP _ _ _ _ _))) | ((first | refine z8 [63, 103] rfl ?_ | refine j8 [63, 103] rfl ?_); simp (maxSteps := 2000000) (disch := omega) only [go_sem, seval, hd, cb, atD]; (repeat (first | refine ⟨by omega, ?_⟩ | refine ⟨True.intro, ?_⟩)))))
            refine awp_slot 22 _ (.p (.d (.sl 1 (W.filter fun x => x != (k : Int)).length (rowZ (W.filter fun x => x != (k : Int)))))) rfl (le_gr rfl (fun _ _ => rfl)) ?_
            rcases tl with rfl | ⟨rfl, tl⟩
            · (repeat (first | refine j0 ?_ | refine x7 rfl ?_ | refine j7 rfl ?_ | refine j6 ?_ | (refine q4 fun K hK => ?_) | (refine j4 (by kernel_rfl) (by kernel_rfl) fun K hK => ?_) | ((first | refine x6 ?_ | refine q7 ?_ | ((first | refine x5 (hK _ ?_) | refine j5 (hK _ _ (q5 (by kernel_rfl)) ?_)); clear hK K)); (first | show AWP _ _ _ _ _ | ((try simp only [z7]); first | show loopQ _ _ _ _ _ _ | show cutQ _ _ _ _ | show AWP _ _ _ _ _))) | ((first | refine z8 [63, 103] rfl ?_ | refine j8 [63, 103] rfl ?_); simp (maxSteps := 2000000) (disch := omega) only [go_sem, seval, hd, cb, atD]; (repeat (first | refine ⟨by omega, ?_⟩ | refine ⟨True.intro, ?_⟩)))))
              refine j10 ⟨_, ?_, rfl⟩; rw [Tryz.results5]; simp (disch := omega) only [ResVars, ResVar, ptrLoc, go_sem, seval, hd, cb, atD]
            · (repeat (first | refine j0 ?_ | refine x7 rfl ?_ | refine j7 rfl ?_ | refine j6 ?_ | (refine q4 fun K hK => ?_) | (refine j4 (by kernel_rfl) (by kernel_rfl) fun K hK => ?_) | ((first | refine x6 ?_ | refine q7 ?_ | ((first | refine x5 (hK _ ?_) | refine j5 (hK _ _ (q5 (by kernel_rfl)) ?_)); clear hK K)); (first | show AWP _ _ _ _ _ | ((try simp only [z7]); first | show loopQ _ _ _ _ _ _ | show cutQ _ _ _ _ | show AWP _ _ _ _ _))) | ((first | refine z10 rfl rfl rfl ?_ | refine x10 rfl rfl rfl ?_); simp (maxSteps := 2000000) (disch := omega) only [go_sem, seval, hd, cb, atD]; (first | refine ⟨_, tl, ?_⟩)) | ((first | refine z8 [63, 103] rfl ?_ | refine j8 [63, 103] rfl ?_); simp (maxSteps := 2000000) (disch := omega) only [go_sem, seval, hd, cb, atD]; (repeat (first | refine ⟨by omega, ?_⟩ | refine ⟨True.intro, ?_⟩)))))
              refine j10 ⟨_, ?_, rfl⟩; rw [Tryz.results5]; simp (disch := omega) only [ResVars, ResVar, ptrLoc, go_sem, seval, hd, cb, atD]
      · refine awp_slot 16 _ (.p (.d (.sl 1 (W ++ [100]).length (rowZ (W ++ [100]))))) rfl (le_gr (by simp) (fun i hi' => by
          rw [← rowZ_put W 100 i (by simpa using hi')]
          unfold catF
          split
          · simp
          · rfl)) ?_
        by_cases h8 : e8 = 8
        · have q8 : (e8 != 8) = false := ine_ff h8
          (repeat (first | refine j0 ?_ | refine x7 rfl ?_ | refine j7 rfl ?_ | refine j6 ?_ | (refine q4 fun K hK => ?_) | (refine j4 (by kernel_rfl) (by kernel_rfl) fun K hK => ?_) | ((first | refine x6 ?_ | refine q7 ?_ | ((first | refine x5 (hK _ ?_) | refine j5 (hK _ _ (q5 (by kernel_rfl)) ?_)); clear hK K)); (first | show AWP _ _ _ _ _ | ((try simp only [z7]); first | show loopQ _ _ _ _ _ _ | show cutQ _ _ _ _ | show AWP _ _ _ _ _))) | ((first | refine z10 rfl rfl rfl ?_ | refine x10 rfl rfl rfl ?_); simp (maxSteps := 2000000) (disch := omega) only [go_sem, seval, hd, cb, atD, q8, qk]; (first | refine ⟨_, rg, ?_⟩ | refine ⟨_, ag, ?_⟩ | refine ⟨_, co, ?_⟩)) | ((first | refine z8 [63, 103] rfl ?_ | refine j8 [63, 103] rfl ?_); simp (maxSteps := 2000000) (disch := omega) only [go_sem, seval, hd, cb, atD, q8, qk]; (repeat (first | refine ⟨by omega, ?_⟩ | refine ⟨True.intro, ?_⟩)))))
          refine awp_loop (turnI b e k h W) (fun s => W.length - s.val.1) ⟨(0, [], 0), by omega, by simp, by simp⟩ ?_ (fun s => ?_)
          · unfold turnI
            refine Weak.list ?_ ?_; (all_goals simp (disch := omega) only [AllF, AllL, j11, le_top, x11, exists_eq_left', Option.some.injEq, go_sem, seval, hd, cb, atD, q8, qk]); (all_goals (repeat' (with_reducible apply And.intro))); (all_goals try (first | exact j9 rfl | (refine le_int ?_; omega) | (refine j9 ?_; simp; done)))
            exact le_grgr rfl rfl (fun i hi' => by simp at hi')
          obtain ⟨⟨i, out, g⟩, hi', h1, h2⟩ := s
          simp only [] at hi' h1 h2
          unfold turnI
          simp only []
          by_cases hn : i < W.length
          · have r1 := rowZ_at W i
            have fs := filter_step W k i hn
            generalize W.getD i 0 = x at r1 fs
            cases hx : (x != (k : Int))
            all_goals
              rw [hx] at fs
              simp only [Bool.false_eq_true, if_false, if_true, List.append_nil] at fs
              (repeat (first | refine j0 ?_ | refine x7 rfl ?_ | refine j7 rfl ?_ | refine j6 ?_ | (refine q4 fun K hK => ?_) | (refine j4 (by kernel_rfl) (by kernel_rfl) fun K hK => ?_) | ((first | refine x6 ?_ | refine q7 ?_ | ((first | refine x5 (hK _ ?_) | refine j5 (hK _ _ (q5 (by kernel_rfl)) ?_)); clear hK K)); (first | show AWP _ _ _ _ _ | ((try simp only [z7]); first | show loopQ _ _ _ _ _ _ | show cutQ _ _ _ _ | show AWP _ _ _ _ _))) | ((first | refine z8 [63, 103] rfl ?_ | refine j8 [63, 103] rfl ?_); simp (maxSteps := 2000000) (disch := omega) only [go_sem, seval, hd, cb, atD, r1, hx]; (repeat (first | refine ⟨by omega, ?_⟩ | refine ⟨True.intro, ?_⟩)))))
            · refine ⟨⟨(i + 1, out, g), by simp only []; omega, by simp only []; rw [fs]; exact h1, by simp only []; omega⟩, by simp only []; omega, ?_⟩
              refine Weak.list ?_ ?_; (all_goals simp (disch := omega) only [AllF, AllL, j11, le_top, x11, exists_eq_left', Option.some.injEq, go_sem, seval, hd, cb, atD, r1, hx]); (all_goals (repeat' (with_reducible apply And.intro))); (all_goals try (first | exact j9 rfl | (refine le_int ?_; omega) | (refine j9 ?_; simp; done)))
            · refine ⟨⟨(i + 1, out ++ [x], g + 1), by simp only []; omega, by simp only []; rw [fs, ← h1], by simp only [List.length_append, List.length_cons, List.length_nil]; omega⟩, by simp only []; omega, ?_⟩
              refine Weak.list ?_ ?_; (all_goals simp (disch := omega) only [AllF, AllL, j11, le_top, x11, exists_eq_left', Option.some.injEq, go_sem, seval, hd, cb, atD, r1, hx]); (all_goals (repeat' (with_reducible apply And.intro))); (all_goals try (first | exact j9 rfl | (refine le_int ?_; omega) | (refine j9 ?_; simp; done)))
              · exact le_grgr rfl (by simp) (fun j hj => rowZ_put out x j hj)
              · exact lle_grow (by simp) rfl
          · have : i = W.length := by omega
            subst this
            rw [List.take_length] at h1
            subst h1
            (repeat ((fail_if_success (show AWP _ _ (.region 27 _ _) _ _)); first | refine j0 ?_ | refine x7 rfl ?_ | refine j7 rfl ?_ | refine j6 ?_ | (refine q4 fun K hK => ?_) | (refine j4 (by kernel_rfl) (by kernel_rfl) fun K hK => ?_) | ((first | refine x6 ?_ | refine q7 ?_ | ((first | refine x5 (hK _ ?_) | refine j5 (hK _ _ (q5 (by kernel_rfl)) ?_)); clear hK K)); (first | show AWP _ _ _ _ _ | ((try simp only [z7]); first | show loopQ _ _ _ _ _ _ | show cutQ _ _ _ _ | show AWP _ _ _ _ _))) | ((first | refine z8 [63, 103] rfl ?_ | refine j8 [63, 103] rfl ?_); simp (maxSteps := 2000000) (disch := omega) only [go_sem, seval, hd, cb, atD]; (repeat (first | refine ⟨by omega, ?_⟩ | refine ⟨True.intro, ?_⟩)))))
            refine awp_slot 22 _ (.p (.d (.sl 1 (W.filter fun x => x != (k : Int)).length (rowZ (W.filter fun x => x != (k : Int)))))) rfl (le_gr rfl (fun _ _ => rfl)) ?_
            rcases tl with rfl | ⟨rfl, tl⟩
            · (repeat (first | refine j0 ?_ | refine x7 rfl ?_ | refine j7 rfl ?_ | refine j6 ?_ | (refine q4 fun K hK => ?_) | (refine j4 (by kernel_rfl) (by kernel_rfl) fun K hK => ?_) | ((first | refine x6 ?_ | refine q7 ?_ | ((first | refine x5 (hK _ ?_) | refine j5 (hK _ _ (q5 (by kernel_rfl)) ?_)); clear hK K)); (first | show AWP _ _ _ _ _ | ((try simp only [z7]); first | show loopQ _ _ _ _ _ _ | show cutQ _ _ _ _ | show AWP _ _ _ _ _))) | ((first | refine z8 [63, 103] rfl ?_ | refine j8 [63, 103] rfl ?_); simp (maxSteps := 2000000) (disch := omega) only [go_sem, seval, hd, cb, atD]; (repeat (first | refine ⟨by omega, ?_⟩ | refine ⟨True.intro, ?_⟩)))))
              refine j10 ⟨_, ?_, rfl⟩; rw [Tryz.results5]; simp (disch := omega) only [ResVars, ResVar, ptrLoc, go_sem, seval, hd, cb, atD]
            · (repeat (first | refine j0 ?_ | refine x7 rfl ?_ | refine j7 rfl ?_ | refine j6 ?_ | (refine q4 fun K hK => ?_) | (refine j4 (by kernel_rfl) (by kernel_rfl) fun K hK => ?_) | ((first | refine x6 ?_ | refine q7 ?_ | ((first | refine x5 (hK _ ?_) | refine j5 (hK _ _ (q5 (by kernel_rfl)) ?_)); clear hK K)); (first | show AWP _ _ _ _ _ | ((try simp only [z7]); first | show loopQ _ _ _ _ _ _ | show cutQ _ _ _ _ | show AWP _ _ _ _ _))) | ((first | refine z10 rfl rfl rfl ?_ | refine x10 rfl rfl rfl ?_); simp (maxSteps := 2000000) (disch := omega) only [go_sem, seval, hd, cb, atD]; (first | refine ⟨_, tl, ?_⟩)) | ((first | refine z8 [63, 103] rfl ?_ | refine j8 [63, 103] rfl ?_); simp (maxSteps := 2000000) (disch := omega) only [go_sem, seval, hd, cb, atD]; (repeat (first | refine ⟨by omega, ?_⟩ | refine ⟨True.intro, ?_⟩)))))
              refine j10 ⟨_, ?_, rfl⟩; rw [Tryz.results5]; simp (disch := omega) only [ResVars, ResVar, ptrLoc, go_sem, seval, hd, cb, atD]
        · have q8 : (e8 != 8) = true := ine_tt h8
          have hn0 : n8 = 0 := hor.resolve_left h8
          subst hn0
          (repeat (first | refine j0 ?_ | refine x7 rfl ?_ | refine j7 rfl ?_ | refine j6 ?_ | (refine q4 fun K hK => ?_) | (refine j4 (by kernel_rfl) (by kernel_rfl) fun K hK => ?_) | ((first | refine x6 ?_ | refine q7 ?_ | ((first | refine x5 (hK _ ?_) | refine j5 (hK _ _ (q5 (by kernel_rfl)) ?_)); clear hK K)); (first | show AWP _ _ _ _ _ | ((try simp only [z7]); first | show loopQ _ _ _ _ _ _ | show cutQ _ _ _ _ | show AWP _ _ _ _ _))) | ((first | refine z10 rfl rfl rfl ?_ | refine x10 rfl rfl rfl ?_); simp (maxSteps := 2000000) (disch := omega) only [go_sem, seval, hd, cb, atD, q8, qk]; (first | refine ⟨_, rg, ?_⟩ | refine ⟨_, ag, ?_⟩ | refine ⟨_, oa, ?_⟩ | refine ⟨_, co, ?_⟩)) | ((first | refine z8 [63, 103] rfl ?_ | refine j8 [63, 103] rfl ?_); simp (maxSteps := 2000000) (disch := omega) only [go_sem, seval, hd, cb, atD, q8, qk]; (repeat (first | refine ⟨by omega, ?_⟩ | refine ⟨True.intro, ?_⟩)))))
          refine awp_loop (turnI b e k h W) (fun s => W.length - s.val.1) ⟨(0, [], 0), by omega, by simp, by simp⟩ ?_ (fun s => ?_)
          · unfold turnI
            refine Weak.list ?_ ?_; (all_goals simp (disch := omega) only [AllF, AllL, j11, le_top, x11, exists_eq_left', Option.some.injEq, go_sem, seval, hd, cb, atD, q8, qk]); (all_goals (repeat' (with_reducible apply And.intro))); (all_goals try (first | exact j9 rfl | (refine le_int ?_; omega) | (refine j9 ?_; simp; done)))
            exact le_grgr rfl rfl (fun i hi' => by simp at hi')
          obtain ⟨⟨i, out, g⟩, hi', h1, h2⟩ := s
          simp only [] at hi' h1 h2
          unfold turnI
          simp only []
          by_cases hn : i < W.length
          · have r1 := rowZ_at W i
            have fs := filter_step W k i hn
            generalize W.getD i 0 = x at r1 fs
            cases hx : (x != (k : Int))
            all_goals
              rw [hx] at fs
              simp only [Bool.false_eq_true, if_false, if_true, List.append_nil] at fs
              (repeat (first | refine j0 ?_ | refine x7 rfl ?_ | refine j7 rfl ?_ | refine j6 ?_ | (refine q4 fun K hK => ?_) | (refine j4 (by kernel_rfl) (by kernel_rfl) fun K hK => ?_) | ((first | refine x6 ?_ | refine q7 ?_ | ((first | refine x5 (hK _ ?_) | refine j5 (hK _ _ (q5 (by kernel_rfl)) ?_)); clear hK K)); (first | show AWP _ _ _ _ _ | ((try simp only [z7]); first | show loopQ _ _ _ _ _ _ | show cutQ _ _ _ _ | show AWP _ _ _ _ _))) | ((first | refine z8 [63, 103] rfl ?_ | refine j8 [63, 103] rfl ?_); simp (maxSteps := 2000000) (disch := omega) only [go_sem, seval, hd, cb, atD, r1, hx]; (repeat (first | refine ⟨by omega, ?_⟩ | refine ⟨True.intro, ?_⟩)))))
            · refine ⟨⟨(i + 1, out, g), by simp only []; omega, by simp only []; rw [fs]; exact h1, by simp only []; omega⟩, by simp only []; omega, ?_⟩
              refine Weak.list ?_ ?_; (all_goals simp (disch := omega) only [AllF, AllL, j11, le_top, x11, exists_eq_left', Option.some.injEq, go_sem, seval, hd, cb, atD, r1, hx]); (all_goals (repeat' (with_reducible apply And.intro))); (all_goals try (first | exact j9 rfl | (refine le_int ?_; omega) | (refine j9 ?_; simp; done)))
            · refine ⟨⟨(i + 1, out ++ [x], g + 1), by simp only []; omega, by simp only []; rw [fs, ← h1], by simp only [List.length_append, List.length_cons, List.length_nil]; omega⟩, by simp only []; omega, ?_⟩
              refine Weak.list ?_ ?_; (all_goals simp (disch := omega) only [AllF, AllL, j11, le_top, x11, exists_eq_left', Option.some.injEq, go_sem, seval, hd, cb, atD, r1, hx]); (all_goals (repeat' (with_reducible apply And.intro))); (all_goals try (first | exact j9 rfl | (refine le_int ?_; omega) | (refine j9 ?_; simp; done)))
              · exact le_grgr rfl (by simp) (fun j hj => rowZ_put out x j hj)
              · exact lle_grow (by simp) rfl
          · have : i = W.length := by omega
            subst this
            rw [List.take_length] at h1
            subst h1
            (repeat ((fail_if_success (show AWP _ _ (.region 27 _ _) _ _)); first | refine j0 ?_ | refine x7 rfl ?_ | refine j7 rfl ?_ | refine j6 ?_ | (refine q4 fun K hK => ?_) | (refine j4 (by kernel_rfl) (by kernel_rfl) fun K hK => ?_) | ((first | refine x6 ?_ | refine q7 ?_ | ((first | refine x5 (hK _ ?_) | refine j5 (hK _ _ (q5 (by kernel_rfl)) ?_)); clear hK K)); (first | show AWP _ _ _ _ _ | ((try simp only [z7]); first | show loopQ _ _ _ _ _ _ | show cutQ _ _ _ _ | show AWP _ _ _ _ _))) | ((first | refine z8 [63, 103] rfl ?_ | refine j8 [63, 103] rfl ?_); simp (maxSteps := 2000000) (disch := omega) only [go_sem, seval, hd, cb, atD]; (repeat (first | refine ⟨by omega, ?_⟩ | refine ⟨True.intro, ?_⟩)))))
            refine awp_slot 22 _ (.p (.d (.sl 1 (W.filter fun x => x != (k : Int)).length (rowZ (W.filter fun x => x != (k : Int)))))) rfl (le_gr rfl (fun _ _ => rfl)) ?_
            rcases tl with rfl | ⟨rfl, tl⟩
            · (repeat (first | refine j0 ?_ | refine x7 rfl ?_ | refine j7 rfl ?_ | refine j6 ?_ | (refine q4 fun K hK => ?_) | (refine j4 (by kernel_rfl) (by kernel_rfl) fun K hK => ?_) | ((first | refine x6 ?_ | refine q7 ?_ | ((first | refine x5 (hK _ ?_) | refine j5 (hK _ _ (q5 (by kernel_rfl)) ?_)); clear hK K)); (first | show AWP _ _ _ _ _ | ((try simp only [z7]); first | show loopQ _ _ _ _ _ _ | show cutQ _ _ _ _ | show AWP _ _ _ _ _))) | ((first | refine z8 [63, 103] rfl ?_ | refine j8 [63, 103] rfl ?_); simp (maxSteps := 2000000) (disch := omega) only [go_sem, seval, hd, cb, atD]; (repeat (first | refine ⟨by omega, ?_⟩ | refine ⟨True.intro, ?_⟩)))))
              refine j10 ⟨_, ?_, rfl⟩; rw [Tryz.results5]; simp (disch := omega) only [ResVars, ResVar, ptrLoc, go_sem, seval, hd, cb, atD]
            · (repeat (first | refine j0 ?_ | refine x7 rfl ?_ | refine j7 rfl ?_ | refine j6 ?_ | (refine q4 fun K hK => ?_) | (refine j4 (by kernel_rfl) (by kernel_rfl) fun K hK => ?_) | ((first | refine x6 ?_ | refine q7 ?_ | ((first | refine x5 (hK _ ?_) | refine j5 (hK _ _ (q5 (by kernel_rfl)) ?_)); clear hK K)); (first | show AWP _ _ _ _ _ | ((try simp only [z7]); first | show loopQ _ _ _ _ _ _ | show cutQ _ _ _ _ | show AWP _ _ _ _ _))) | ((first | refine z10 rfl rfl rfl ?_ | refine x10 rfl rfl rfl ?_); simp (maxSteps := 2000000) (disch := omega) only [go_sem, seval, hd, cb, atD]; (first | refine ⟨_, tl, ?_⟩)) | ((first | refine z8 [63, 103] rfl ?_ | refine j8 [63, 103] rfl ?_); simp (maxSteps := 2000000) (disch := omega) only [go_sem, seval, hd, cb, atD]; (repeat (first | refine ⟨by omega, ?_⟩ | refine ⟨True.intro, ?_⟩)))))
              refine j10 ⟨_, ?_, rfl⟩; rw [Tryz.results5]; simp (disch := omega) only [ResVars, ResVar, ptrLoc, go_sem, seval, hd, cb, atD]
    · have qf : ((splitL 100 more l []).2 == 0) = false := ieq_ff hf
      generalize (splitL 100 more l []).2 = ef at *
      generalize (splitL 100 more l []).1 = a2 at *
      generalize inZ p h = W at *
      refine z11 Tryz.func5 rfl (by decide +kernel) (by rw [Tryz.ntmps5]; simp) ?_; rw [Tryz.ntmps5]; simp only [frOf]
      (repeat (first | refine j0 ?_ | refine x7 rfl ?_ | refine j7 rfl ?_ | refine j6 ?_ | (refine q4 fun K hK => ?_) | (refine j4 (by kernel_rfl) (by kernel_rfl) fun K hK => ?_) | ((first | refine x6 ?_ | refine q7 ?_ | ((first | refine x5 (hK _ ?_) | refine j5 (hK _ _ (q5 (by kernel_rfl)) ?_)); clear hK K)); (first | show AWP _ _ _ _ _ | ((try simp only [z7]); first | show loopQ _ _ _ _ _ _ | show cutQ _ _ _ _ | show AWP _ _ _ _ _))) | ((first | refine z10 rfl rfl rfl ?_ | refine x10 rfl rfl rfl ?_); simp (maxSteps := 2000000) (disch := omega) only [go_sem, seval, hd, cb, atD, qf, qk]; (first | refine ⟨_, fw, ?_⟩ | refine ⟨_, sp, ?_⟩ | refine ⟨_, awake11_c, ?_⟩ | refine ⟨_, tm, ?_⟩ | refine ⟨_, rf, ?_⟩ | refine ⟨_, ic, ?_⟩ | refine ⟨_, co, ?_⟩)) | ((first | refine z8 [63, 103] rfl ?_ | refine j8 [63, 103] rfl ?_); simp (maxSteps := 2000000) (disch := omega) only [go_sem, seval, hd, cb, atD, qf, qk]; (repeat (first | refine ⟨by omega, ?_⟩ | refine ⟨True.intro, ?_⟩)))))
      refine awp_loop (turnI b e k h W) (fun s => W.length - s.val.1) ⟨(0, [], 0), by omega, by simp, by simp⟩ ?_ (fun s => ?_)
      · unfold turnI
        refine Weak.list ?_ ?_; (all_goals simp (disch := omega) only [AllF, AllL, j11, le_top, x11, exists_eq_left', Option.some.injEq, go_sem, seval, hd, cb, atD, qf, qk]); (all_goals (repeat' (with_reducible apply And.intro))); (all_goals try (first | exact j9 rfl | (refine le_int ?_; omega) | (refine j9 ?_; simp; done)))
        exact le_grgr rfl rfl (fun i hi' => by simp at hi')
      obtain ⟨⟨i, out, g⟩, hi', h1, h2⟩ := s
      simp only [] at hi' h1 h2
      unfold turnI
      simp only []
      by_cases hn : i < W.length
      · have r1 := rowZ_at W i
        have fs := filter_step W k i hn
        generalize W.getD i 0 = x at r1 fs
        cases hx : (x != (k : Int))
        all_goals
          rw [hx] at fs
          simp only [Bool.false_eq_true, if_false, if_true, List.append_nil] at fs
          (repeat (first | refine j0 ?_ | refine x7 rfl ?_ | refine j7 rfl ?_ | refine j6 ?_ | (refine q4 fun K hK => ?_) | (refine j4 (by kernel_rfl) (by kernel_rfl) fun K hK => ?_) | ((first | refine x6 ?_ | refine q7 ?_ | ((first | refine x5 (hK _ ?_) | refine j5 (hK _ _ (q5 (by kernel_rfl)) ?_)); clear hK K)); (first | show AWP _ _ _ _ _ | ((try simp only [z7]); first | show loopQ _ _ _ _ _ _ | show cutQ _ _ _ _ | show AWP _ _ _ _ _))) | ((first | refine z8 [63, 103] rfl ?_ | refine j8 [63, 103] rfl ?_); simp (maxSteps := 2000000) (disch := omega) only [go_sem, seval, hd, cb, atD, r1, hx]; (repeat (first | refine ⟨by omega, ?_⟩ | refine ⟨True.intro, ?_⟩)))))
        · refine ⟨⟨(i + 1, out, g), by simp only []; omega, by simp only []; rw [fs]; exact h1, by simp only []; omega⟩, by simp only []; omega, ?_⟩
          refine Weak.list ?_ ?_; (all_goals simp (disch := omega) only [AllF, AllL, j11, le_top, x11, exists_eq_left', Option.some.injEq, go_sem, seval, hd, cb, atD, r1, hx]); (all_goals (repeat' (with_reducible apply And.intro))); (all_goals try (first | exact j9 rfl | (refine le_int ?_; omega) | (refine j9 ?_; simp; done)))
        · refine ⟨⟨(i + 1, out ++ [x], g + 1), by simp only []; omega, by simp only []; rw [fs, ← h1], by simp only [List.length_append, List.length_cons, List.length_nil]; omega⟩, by simp only []; omega, ?_⟩
          refine Weak.list ?_ ?_; (all_goals simp (disch := omega) only [AllF, AllL, j11, le_top, x11, exists_eq_left', Option.some.injEq, go_sem, seval, hd, cb, atD, r1, hx]); (all_goals (repeat' (with_reducible apply And.intro))); (all_goals try (first | exact j9 rfl | (refine le_int ?_; omega) | (refine j9 ?_; simp; done)))
          · exact le_grgr rfl (by simp) (fun j hj => rowZ_put out x j hj)
          · exact lle_grow (by simp) rfl
      · have : i = W.length := by omega
        subst this
        rw [List.take_length] at h1
        subst h1
        (repeat ((fail_if_success (show AWP _ _ (.region 27 _ _) _ _)); first | refine j0 ?_ | refine x7 rfl ?_ | refine j7 rfl ?_ | refine j6 ?_ | (refine q4 fun K hK => ?_) | (refine j4 (by kernel_rfl) (by kernel_rfl) fun K hK => ?_) | ((first | refine x6 ?_ | refine q7 ?_ | ((first | refine x5 (hK _ ?_) | refine j5 (hK _ _ (q5 (by kernel_rfl)) ?_)); clear hK K)); (first | show AWP _ _ _ _ _ | ((try simp only [z7]); first | show loopQ _ _ _ _ _ _ | show cutQ _ _ _ _ | show AWP _ _ _ _ _))) | ((first | refine z8 [63, 103] rfl ?_ | refine j8 [63, 103] rfl ?_); simp (maxSteps := 2000000) (disch := omega) only [go_sem, seval, hd, cb, atD]; (repeat (first | refine ⟨by omega, ?_⟩ | refine ⟨True.intro, ?_⟩)))))
        refine awp_slot 22 _ (.p (.d (.sl 1 (W.filter fun x => x != (k : Int)).length (rowZ (W.filter fun x => x != (k : Int)))))) rfl (le_gr rfl (fun _ _ => rfl)) ?_
        rcases tl with rfl | ⟨rfl, tl⟩
        · (repeat (first | refine j0 ?_ | refine x7 rfl ?_ | refine j7 rfl ?_ | refine j6 ?_ | (refine q4 fun K hK => ?_) | (refine j4 (by kernel_rfl) (by kernel_rfl) fun K hK => ?_) | ((first | refine x6 ?_ | refine q7 ?_ | ((first | refine x5 (hK _ ?_) | refine j5 (hK _ _ (q5 (by kernel_rfl)) ?_)); clear hK K)); (first | show AWP _ _ _ _ _ | ((try simp only [z7]); first | show loopQ _ _ _ _ _ _ | show cutQ _ _ _ _ | show AWP _ _ _ _ _))) | ((first | refine z8 [63, 103] rfl ?_ | refine j8 [63, 103] rfl ?_); simp (maxSteps := 2000000) (disch := omega) only [go_sem, seval, hd, cb, atD]; (repeat (first | refine ⟨by omega, ?_⟩ | refine ⟨True.intro, ?_⟩)))))
          refine j10 ⟨_, ?_, rfl⟩; rw [Tryz.results5]; simp (disch := omega) only [ResVars, ResVar, ptrLoc, go_sem, seval, hd, cb, atD]
        · (repeat (first | refine j0 ?_ | refine x7 rfl ?_ | refine j7 rfl ?_ | refine j6 ?_ | (refine q4 fun K hK => ?_) | (refine j4 (by kernel_rfl) (by kernel_rfl) fun K hK => ?_) | ((first | refine x6 ?_ | refine q7 ?_ | ((first | refine x5 (hK _ ?_) | refine j5 (hK _ _ (q5 (by kernel_rfl)) ?_)); clear hK K)); (first | show AWP _ _ _ _ _ | ((try simp only [z7]); first | show loopQ _ _ _ _ _ _ | show cutQ _ _ _ _ | show AWP _ _ _ _ _))) | ((first | refine z10 rfl rfl rfl ?_ | refine x10 rfl rfl rfl ?_); simp (maxSteps := 2000000) (disch := omega) only [go_sem, seval, hd, cb, atD]; (first | refine ⟨_, tl, ?_⟩)) | ((first | refine z8 [63, 103] rfl ?_ | refine j8 [63, 103] rfl ?_); simp (maxSteps := 2000000) (disch := omega) only [go_sem, seval, hd, cb, atD]; (repeat (first | refine ⟨by omega, ?_⟩ | refine ⟨True.intro, ?_⟩)))))
          refine j10 ⟨_, ?_, rfl⟩; rw [Tryz.results5]; simp (disch := omega) only [ResVars, ResVar, ptrLoc, go_sem, seval, hd, cb, atD]
  · have q : ((splitV p).2 != 0) = true := ine_tt he
    generalize (splitV p).2 = e at *
    generalize (splitV p).1 = l at *
    refine z11 Tryz.func5 rfl (by decide +kernel) (by rw [Tryz.ntmps5]; simp) ?_; rw [Tryz.ntmps5]; simp only [frOf]
    (repeat (first | refine j0 ?_ | refine x7 rfl ?_ | refine j7 rfl ?_ | refine j6 ?_ | (refine q4 fun K hK => ?_) | (refine j4 (by kernel_rfl) (by kernel_rfl) fun K hK => ?_) | ((first | refine x6 ?_ | refine q7 ?_ | ((first | refine x5 (hK _ ?_) | refine j5 (hK _ _ (q5 (by kernel_rfl)) ?_)); clear hK K)); (first | show AWP _ _ _ _ _ | ((try simp only [z7]); first | show loopQ _ _ _ _ _ _ | show cutQ _ _ _ _ | show AWP _ _ _ _ _))) | ((first | refine z10 rfl rfl rfl ?_ | refine x10 rfl rfl rfl ?_); simp (maxSteps := 2000000) (disch := omega) only [go_sem, seval, hd, cb, atD, q]; (first | refine ⟨_, fw, ?_⟩ | refine ⟨_, sp, ?_⟩ | refine ⟨_, awake11_c, ?_⟩)) | ((first | refine z8 [63, 103] rfl ?_ | refine j8 [63, 103] rfl ?_); simp (maxSteps := 2000000) (disch := omega) only [go_sem, seval, hd, cb, atD, q]; (repeat (first | refine ⟨by omega, ?_⟩ | refine ⟨True.intro, ?_⟩)))))
    refine j10 ⟨_, ?_, rfl⟩; rw [Tryz.results5]; simp (disch := omega) only [ResVars, ResVar, ptrLoc, go_sem, seval, hd, cb, atD, q]
end Go.Proofs.YtemcdefpihkfpaaGreat
