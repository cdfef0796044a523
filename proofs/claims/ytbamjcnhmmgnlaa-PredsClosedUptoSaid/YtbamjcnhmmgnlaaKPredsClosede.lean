/- Part 5 of a proof: lemmas beneath the theorem that the last text bears. Conditions: none. -/
import Derived.Test.YtbamjcnhmmgnlaaKPredsClosedd
import Derived.Shelf.Small.Bits
import Derived.Lib.ItoaNum
import Derived.Shelf.Spec.SlicesGrow
set_option linter.unusedSimpArgs false
set_option linter.unusedVariables false
namespace Go.Proofs.Ytbamjcnhmmgnlaa
open Go Go.Proofs.Ytbamjcnhmmgnlaa.AL
def dropK (a b : Cube) : Cube := ⟨a.v, a.c &&& ~~~b.c⟩
theorem dropK_x {a b : Cube} {n : Nat} (h : b.c.getLsbD n = true) : chI (dropK a b) n = 120 := by
  simp [chI, dropK, h]
theorem dropK_a {a b : Cube} {n : Nat} (hn : n < 128) (h : b.c.getLsbD n = false) : chI (dropK a b) n = chI a n := by
  simp only [chI, dropK, BitVec.getLsbD_and, BitVec.getLsbD_not, h, Bool.not_false, Bool.and_true, hn, decide_true]
  rfl
theorem drop_step (a b : Cube) (c : Int) (i j : Nat) (hc : chI (dropK a b) (127 - i) = c) :
    (if j = i then Dat.v (.int .u8 c) else Dat.v (.int .u8 (if j < i then chI (dropK a b) (127 - j) else chI a (127 - j)))) = Dat.v (.int .u8 (if j < i + 1 then chI (dropK a b) (127 - j) else chI a (127 - j))) := by
  by_cases h : j = i
  · subst h; rw [if_pos rfl, if_pos (by omega), hc]
  · rw [if_neg h]
    by_cases h2 : j < i
    · rw [if_pos h2, if_pos (by omega)]
    · rw [if_neg h2, if_neg (by omega)]
theorem drop_stay (a b : Cube) (i j : Nat) (hc : chI (dropK a b) (127 - i) = chI a (127 - i)) :
    Dat.v (.int .u8 (if j < i then chI (dropK a b) (127 - j) else chI a (127 - j))) = Dat.v (.int .u8 (if j < i + 1 then chI (dropK a b) (127 - j) else chI a (127 - j))) := by
  by_cases h : j = i
  · subst h; rw [if_neg (by omega), if_pos (by omega), hc]
  · by_cases h2 : j < i
    · rw [if_pos h2, if_pos (by omega)]
    · rw [if_neg h2, if_neg (by omega)]
def befRI (a b : Cube) (s : {i : Fin 129 // ∀ j, j < i.val → a.c.getLsbD (127 - j) = true → b.c.getLsbD (127 - j) = true → a.v.getLsbD (127 - j) = b.v.getLsbD (127 - j)}) : ASt :=
  ⟨[(11, .p (.d (.v (.int .i64 (s.val.val : Int))))), (10, .row 23 1 0 128), (8, .p (.d (.v (.string (txt b))))), (4, .loc 4 0)],
   [(4, .cells 27 [.p (.d (.v (.int .u64 0))), .p (.d (.v (.int .u64 0))), .p (.d (.v (.int .u64 0))), .p (.d (.v (.int .u64 0)))]), (23, .arr 5 128 fun j => .v (.int .u8 (if j < s.val.val then chI (dropK a b) (127 - j) else chI a (127 - j))))]⟩
theorem mkC_self {k : Cube} (h : k.sound = true) : mkC k.v k.c = k := by
  have := (sound_iff k).1 h
  unfold mkC
  have e : k.v &&& k.c = k.v := by
    apply BitVec.eq_of_getLsbD_eq
    intro i hlt
    rw [BitVec.getLsbD_and]
    cases hv : k.v.getLsbD i
    · rfl
    · rw [this i hlt hv]; rfl
  rw [e]
set_option maxRecDepth 100000 in
set_option maxHeartbeats 2000000 in
theorem beforeR_c (a b : Cube) (ha : a.sound = true) (hb : b.sound = true) : ACalls Try.prog 31 [.agg (cb a), .agg (cb b)] (· = [.agg (cb (beforeV a b)), .d (.v (.bool (beforeO a b)))]) := by
  have ta := Text_c a
  have tb := Text_c b
  rw [ha, if_pos rfl] at ta
  rw [hb, if_pos rfl] at tb
  have sz := txt_size a
  have sb := txt_size b
  have eO : beforeO a b = (apart a b == 0) := by unfold beforeO; rw [ha, mkC_self hb, Bool.true_and]
  unfold beforeV
  rw [eO]
  refine z9 Try.func31 rfl (by decide +kernel) (by rw [Try.ntmps31]; simp) ?_; rw [Try.ntmps31]; simp only [frOf]
  (repeat (first | refine q0 ?_ | refine q6 rfl ?_ | refine z6 rfl ?_ | refine x5 ?_ | (refine x4 fun K hK => ?_) | (refine j4 (by kernel_rfl) (by kernel_rfl) fun K hK => ?_) | ((first | refine q5 ?_ | refine z5 ?_ | ((first | refine j0 (hK _ ?_) | refine z4 (hK _ _ (z3 (by kernel_rfl)) ?_)); clear hK K)); (first | show AWP _ _ _ _ _ | ((try simp only [j5]); first | show loopQ _ _ _ _ _ _ | show cutQ _ _ _ _ | show AWP _ _ _ _ _))) | ((first | refine x8 rfl rfl rfl ?_ | refine j8 rfl rfl rfl ?_); simp (maxSteps := 2000000) (disch := omega) only [go_sem, seval, hd, cb, sz, sb]; (first | refine ⟨_, ta, ?_⟩ | refine ⟨_, tb, ?_⟩)) | ((first | refine x6 [4] rfl ?_ | refine j6 [4] rfl ?_); simp (maxSteps := 2000000) (disch := omega) only [go_sem, seval, hd, cb, sz, sb]; (repeat (first | refine ⟨by omega, ?_⟩ | refine ⟨True.intro, ?_⟩)))))
  refine awp_loop (befRI a b) (fun s => 128 - s.val.val) ⟨⟨0, by omega⟩, fun j hj => by simp at hj⟩ ?_ (fun s => ?_)
  · unfold befRI
    refine Weak.list ?_ ?_; (all_goals simp (disch := omega) only [AllF, AllL, q9, le_top, z8, exists_eq_left', Option.some.injEq, go_sem, seval, hd, cb, sz, sb]); (all_goals (repeat' (with_reducible apply And.intro))); (all_goals try (first | exact q7 rfl | (refine le_int ?_; omega) | (refine q7 ?_; simp; done)))
    exact ⟨rfl, rfl, fun j hj => by
      have := txt_at a j hj
      simp only [this]
      simp⟩
  obtain ⟨⟨i, hi9⟩, hs⟩ := s
  unfold befRI
  simp only [] at hs
  by_cases hn : i < 128
  · have ai := txt_at a i hn
    have bi := txt_at b i hn
    cases hbc : b.c.getLsbD (127 - i)
    · have mg : chI (dropK a b) (127 - i) = chI a (127 - i) := dropK_a (by omega) hbc
      rw [show chI b (127 - i) = 120 from by simp [chI, hbc]] at bi
      (repeat (first | refine q0 ?_ | refine q6 rfl ?_ | refine z6 rfl ?_ | refine x5 ?_ | (refine x4 fun K hK => ?_) | (refine j4 (by kernel_rfl) (by kernel_rfl) fun K hK => ?_) | ((first | refine q5 ?_ | refine z5 ?_ | ((first | refine j0 (hK _ ?_) | refine z4 (hK _ _ (z3 (by kernel_rfl)) ?_)); clear hK K)); (first | show AWP _ _ _ _ _ | ((try simp only [j5]); first | show loopQ _ _ _ _ _ _ | show cutQ _ _ _ _ | show AWP _ _ _ _ _))) | ((first | refine x6 [4] rfl ?_ | refine j6 [4] rfl ?_); simp (maxSteps := 2000000) (disch := omega) only [go_sem, seval, hd, cb, sz, sb, ai, bi]; (repeat (first | refine ⟨by omega, ?_⟩ | refine ⟨True.intro, ?_⟩)))))
      refine ⟨⟨⟨i + 1, by omega⟩, fun j hj h1 h2 => ?_⟩, by simp only []; omega, ?_⟩
      · by_cases e : j = i
        · subst e; rw [hbc] at h2; cases h2
        · exact hs j (by simp at hj; omega) h1 h2
      refine Weak.list ?_ ?_; (all_goals simp (disch := omega) only [AllF, AllL, q9, le_top, z8, exists_eq_left', Option.some.injEq, go_sem, seval, hd, cb, sz, sb, ai, bi]); (all_goals (repeat' (with_reducible apply And.intro))); (all_goals try (first | exact q7 rfl | (refine le_int ?_; omega) | (refine q7 ?_; simp; done)))
      exact ⟨rfl, rfl, fun j hj => drop_stay a b i j mg⟩
    · have mg : chI (dropK a b) (127 - i) = 120 := dropK_x hbc
      cases hac : a.c.getLsbD (127 - i)
      · cases hbv : b.v.getLsbD (127 - i)
        all_goals
          have oi : (if i < i then chI (dropK a b) (127 - i) else chI a (127 - i)) = 120 := by rw [if_neg (Nat.lt_irrefl i)]; simp [chI, hac]
          simp only [chI, hac, hbc, hbv, if_true, if_false, Bool.false_eq_true] at ai bi
          (repeat (first | refine q0 ?_ | refine q6 rfl ?_ | refine z6 rfl ?_ | refine x5 ?_ | (refine x4 fun K hK => ?_) | (refine j4 (by kernel_rfl) (by kernel_rfl) fun K hK => ?_) | ((first | refine q5 ?_ | refine z5 ?_ | ((first | refine j0 (hK _ ?_) | refine z4 (hK _ _ (z3 (by kernel_rfl)) ?_)); clear hK K)); (first | show AWP _ _ _ _ _ | ((try simp only [j5]); first | show loopQ _ _ _ _ _ _ | show cutQ _ _ _ _ | show AWP _ _ _ _ _))) | ((first | refine x6 [4] rfl ?_ | refine j6 [4] rfl ?_); simp (maxSteps := 2000000) (disch := omega) only [go_sem, seval, hd, cb, sz, sb, ai, bi, oi]; (repeat (first | refine ⟨by omega, ?_⟩ | refine ⟨True.intro, ?_⟩)))))
          refine ⟨⟨⟨i + 1, by omega⟩, fun j hj h1 h2 => ?_⟩, by simp only []; omega, ?_⟩
          · by_cases e : j = i
            · subst e; rw [hac] at h1; cases h1
            · exact hs j (by simp at hj; omega) h1 h2
          refine Weak.list ?_ ?_; (all_goals simp (disch := omega) only [AllF, AllL, q9, le_top, z8, exists_eq_left', Option.some.injEq, go_sem, seval, hd, cb, sz, sb, ai, bi, oi]); (all_goals (repeat' (with_reducible apply And.intro))); (all_goals try (first | exact q7 rfl | (refine le_int ?_; omega) | (refine q7 ?_; simp; done)))
          exact ⟨rfl, rfl, fun j hj => drop_step a b _ i j mg⟩
      · cases hav : a.v.getLsbD (127 - i) <;> cases hbv : b.v.getLsbD (127 - i)
        all_goals
          have oi : (if i < i then chI (dropK a b) (127 - i) else chI a (127 - i)) = if a.v.getLsbD (127 - i) then 49 else 48 := by rw [if_neg (Nat.lt_irrefl i)]; simp [chI, hac]
          simp only [hav, if_true, if_false, Bool.false_eq_true] at oi
          simp only [chI, hac, hav, hbc, hbv, if_true, if_false, Bool.false_eq_true] at ai bi
          (repeat (first | refine q0 ?_ | refine q6 rfl ?_ | refine z6 rfl ?_ | refine x5 ?_ | (refine x4 fun K hK => ?_) | (refine j4 (by kernel_rfl) (by kernel_rfl) fun K hK => ?_) | ((first | refine q5 ?_ | refine z5 ?_ | ((first | refine j0 (hK _ ?_) | refine z4 (hK _ _ (z3 (by kernel_rfl)) ?_)); clear hK K)); (first | show AWP _ _ _ _ _ | ((try simp only [j5]); first | show loopQ _ _ _ _ _ _ | show cutQ _ _ _ _ | show AWP _ _ _ _ _))) | ((first | refine x6 [4] rfl ?_ | refine j6 [4] rfl ?_); simp (maxSteps := 2000000) (disch := omega) only [go_sem, seval, hd, cb, sz, sb, ai, bi, oi]; (repeat (first | refine ⟨by omega, ?_⟩ | refine ⟨True.intro, ?_⟩)))))
        all_goals first
          | skip
            refine ⟨⟨⟨i + 1, by omega⟩, fun j hj h1 h2 => ?_⟩, by simp only []; omega, ?_⟩
            · by_cases e : j = i
              · subst e; rw [hav, hbv]
              · exact hs j (by simp at hj; omega) h1 h2
            refine Weak.list ?_ ?_; (all_goals simp (disch := omega) only [AllF, AllL, q9, le_top, z8, exists_eq_left', Option.some.injEq, go_sem, seval, hd, cb, sz, sb, ai, bi, oi]); (all_goals (repeat' (with_reducible apply And.intro))); (all_goals try (first | exact q7 rfl | (refine le_int ?_; omega) | (refine q7 ?_; simp; done)))
            exact ⟨rfl, rfl, fun j hj => drop_step a b _ i j mg⟩
          | skip
            have hf : (apart a b == 0) = false := by
              cases hf : (apart a b == 0)
              · rfl
              · have := (apart_iff a b).1 hf (127 - i) (by omega) hac hbc
                rw [hav, hbv] at this; cases this
            rw [hf]
            simp only [Bool.false_eq_true, if_false, cb_none]
            refine q8 ⟨_, ?_, rfl⟩; rw [Try.results31]; simp (disch := omega) only [ResVars, ResVar, ptrLoc, go_sem, seval, hd, cb, sz, sb, ai, bi, oi]
            try rfl
  · have h128 : i = 128 := by omega
    subst h128
    have hf : (apart a b == 0) = true := (apart_iff a b).2 fun j hj h1 h2 => by
      have := hs (127 - j) (by omega)
      rw [show 127 - (127 - j) = j from by omega] at this
      exact this h1 h2
    rw [hf, if_pos rfl]
    refine awp_arr 23 (fun j => .v (.int .u8 (chI (dropK a b) (127 - j)))) rfl (fun j hj => by rw [if_pos hj]) ?_
    have ct := CubeT_c (dropK a b)
    (repeat (first | refine q0 ?_ | refine q6 rfl ?_ | refine z6 rfl ?_ | refine x5 ?_ | (refine x4 fun K hK => ?_) | (refine j4 (by kernel_rfl) (by kernel_rfl) fun K hK => ?_) | ((first | refine q5 ?_ | refine z5 ?_ | ((first | refine j0 (hK _ ?_) | refine z4 (hK _ _ (z3 (by kernel_rfl)) ?_)); clear hK K)); (first | show AWP _ _ _ _ _ | ((try simp only [j5]); first | show loopQ _ _ _ _ _ _ | show cutQ _ _ _ _ | show AWP _ _ _ _ _))) | ((first | refine x8 rfl rfl rfl ?_ | refine j8 rfl rfl rfl ?_); simp (maxSteps := 2000000) (disch := omega) only [go_sem, seval, hd, cb, sz, sb]; (first | refine ⟨_, ct, ?_⟩)) | ((first | refine x6 [4] rfl ?_ | refine j6 [4] rfl ?_); simp (maxSteps := 2000000) (disch := omega) only [go_sem, seval, hd, cb, sz, sb]; (repeat (first | refine ⟨by omega, ?_⟩ | refine ⟨True.intro, ?_⟩)))))
    refine q8 ⟨_, ?_, rfl⟩; rw [Try.results31]; simp (disch := omega) only [ResVars, ResVar, ptrLoc, go_sem, seval, hd, cb, sz, sb]
    rfl
end Go.Proofs.Ytbamjcnhmmgnlaa
set_option linter.unusedSimpArgs false
set_option linter.unusedVariables false
namespace Go.Proofs.Ytbamjcnhmmgnlaa
open Go.Proofs.Ytbamjcnhmmgnlaa.AL
end Go.Proofs.Ytbamjcnhmmgnlaa
set_option linter.unusedSimpArgs false
set_option linter.unusedVariables false
namespace Go.Proofs.Ytbamjcnhmmgnlaa
open Go.Proofs.Ytbamjcnhmmgnlaa.AL
end Go.Proofs.Ytbamjcnhmmgnlaa
set_option linter.unusedSimpArgs false
set_option linter.unusedVariables false
namespace Go.Proofs.Ytbamjcnhmmgnlaa
open Go.Proofs.Ytbamjcnhmmgnlaa.AL
end Go.Proofs.Ytbamjcnhmmgnlaa
set_option linter.unusedSimpArgs false
set_option linter.unusedVariables false
namespace Go.Proofs.Ytbamjcnhmmgnlaa
open Go.Proofs.Ytbamjcnhmmgnlaa.AL
def keyR (r : Rule) : Int := -r.pr
def sortR (l : List Rule) : List Rule := isort keyR l
def bestTo (u : Nat → Bool) (x : Nat → Rule) : Nat → Option Nat
  | 0 => none
  | i + 1 => match bestTo u x i with
    | none => if u i then none else some i
    | some b => if u i then some b else if (x b).pr < (x i).pr then some i else some b
theorem bestTo_spec (u : Nat → Bool) (x : Nat → Rule) : ∀ i, match bestTo u x i with
    | none => ∀ q, q < i → u q = true
    | some p => p < i ∧ u p = false ∧ ∀ q, q < i → u q = false → (x q).pr ≤ (x p).pr ∧ (q < p → (x q).pr < (x p).pr)
  | 0 => fun q h => by omega
  | i + 1 => by
    have ih := bestTo_spec u x i
    unfold bestTo
    cases hb : bestTo u x i with
    | none =>
      rw [hb] at ih
      cases hu : u i
      · simp only [Bool.false_eq_true, if_false]
        refine ⟨by omega, hu, fun q hq hq2 => ?_⟩
        have : q = i := by
          refine Classical.byContradiction fun hne => ?_
          have := ih q (by omega)
          rw [hq2] at this; cases this
        subst this
        exact ⟨Int.le_refl _, fun h => by omega⟩
      · simp only [if_true]
        intro q hq
        by_cases h : q = i
        · rw [h]; exact hu
        · exact ih q (by omega)
    | some b =>
      rw [hb] at ih
      obtain ⟨h1, h2, h3⟩ := ih
      cases hu : u i
      · simp only [Bool.false_eq_true, if_false]
        split
        · rename_i p hp
          split at hp <;> cases hp
        · rename_i p hp
          split at hp
          · rename_i hlt
            cases hp
            refine ⟨by omega, hu, fun q hq hq2 => ?_⟩
            by_cases h : q = i
            · subst h; exact ⟨Int.le_refl _, fun h => by omega⟩
            · have := (h3 q (by omega) hq2).1
              exact ⟨by omega, fun _ => by omega⟩
          · rename_i hlt
            cases hp
            refine ⟨by omega, h2, fun q hq hq2 => ?_⟩
            by_cases h : q = i
            · subst h; exact ⟨by omega, fun h => by omega⟩
            · exact h3 q (by omega) hq2
      · simp only [if_true]
        refine ⟨by omega, h2, fun q hq hq2 => ?_⟩
        by_cases h : q = i
        · subst h; rw [hu] at hq2; cases hq2
        · exact h3 q (by omega) hq2
def rem (n : Nat) (out : List Nat) : List Nat := (List.range n).filter fun i => !out.contains i
theorem isort_pick {α : Type} {key : α → Int} (x : Nat → α) {r : List Nat} {p : Nat} (hr : r.Pairwise (· < ·)) (hp : p ∈ r) (hmin : ∀ q ∈ r, key (x p) ≤ key (x q) ∧ (q < p → key (x p) < key (x q))) :
    isort key (r.map x) = x p :: isort key ((r.filter (· != p)).map x) := by
  obtain ⟨r1, r2, rfl⟩ := List.append_of_mem hp
  have ⟨q1, q2, q3⟩ := List.pairwise_append.1 hr
  have q4 := List.pairwise_cons.1 q2
  have n1 : ∀ q ∈ r1, q < p := fun q hq => q3 q hq p (by simp)
  have n2 : ∀ q ∈ r2, p < q := fun q hq => q4.1 q hq
  have hf : (r1 ++ p :: r2).filter (· != p) = r1 ++ r2 := by
    rw [List.filter_append, List.filter_cons]
    simp only [bne_self_eq_false, Bool.false_eq_true, if_false]
    rw [List.filter_eq_self.2 fun q hq => by have := n1 q hq; simp; omega, List.filter_eq_self.2 fun q hq => by have := n2 q hq; simp; omega]
  rw [hf]
  refine filter_unique (isort_sorted _) (List.pairwise_cons.2 ⟨fun e he => ?_, isort_sorted _⟩) fun k => ?_
  · have : e ∈ (isort key ((r1 ++ r2).map x)).filter (fun z => key z == key e) := List.mem_filter.2 ⟨he, by simp⟩
    rw [isort_filter] at this
    obtain ⟨q, hq, rfl⟩ := List.mem_map.1 (List.mem_filter.1 this).1
    refine (hmin q ?_).1
    rcases List.mem_append.1 hq with h | h
    · simp [h]
    · simp [h]
  · rw [isort_filter, List.filter_cons, isort_filter]
    simp only [List.map_append, List.map_cons, List.filter_append, List.filter_cons]
    by_cases hk : key (x p) = k
    · have : (r1.map x).filter (fun e => key e == k) = [] := by
        rw [List.filter_eq_nil_iff]
        intro e he hk2
        obtain ⟨q, hq, rfl⟩ := List.mem_map.1 he
        have := (hmin q (by simp [hq])).2 (n1 q hq)
        have := beq_iff_eq.1 hk2
        omega
      rw [this]; simp [hk]
    · simp [hk]
theorem rem_step {n : Nat} {out : List Nat} {p : Nat} : rem n (out ++ [p]) = (rem n out).filter (· != p) := by
  unfold rem
  rw [List.filter_filter]
  refine List.filter_congr fun i hi => ?_
  simp only [List.contains_append, List.contains_cons, List.contains_nil, Bool.or_false]
  cases out.contains i <;> simp [bne]
theorem rem_mem {n : Nat} {out : List Nat} {i : Nat} : i ∈ rem n out ↔ i < n ∧ i ∉ out := by
  unfold rem
  rw [List.mem_filter, List.mem_range]
  simp
theorem rem_len {n : Nat} : ∀ {r : List Nat} {p : Nat}, r.Pairwise (· < ·) → p ∈ r → (r.filter (· != p)).length + 1 = r.length
  | [], p, _, h => by cases h
  | q :: r, p, h, hp => by
    have ⟨h1, h2⟩ := List.pairwise_cons.1 h
    rw [List.filter_cons]
    rcases List.mem_cons.1 hp with rfl | hp
    · simp only [bne_self_eq_false, Bool.false_eq_true, if_false]
      rw [List.filter_eq_self.2 fun q hq => by have := h1 q hq; simp; omega]; rfl
    · have := h1 p hp
      have hq : (q != p) = true := by simp; omega
      rw [if_pos hq, List.length_cons, List.length_cons, rem_len (n := n) h2 hp]
theorem rem_sorted (n : Nat) (out : List Nat) : (rem n out).Pairwise (· < ·) := List.Pairwise.filter _ List.pairwise_lt_range
structure Ord (l : List Rule) (out : List Nat) : Prop where
  lt : ∀ i ∈ out, i < l.length
  len : out.length + (rem l.length out).length = l.length
  eq : out.map (fun i => l.getD i r0) ++ sortR ((rem l.length out).map fun i => l.getD i r0) = sortR l
theorem Ord.start (l : List Rule) : Ord l [] := by
  have e : rem l.length [] = List.range l.length := by unfold rem; exact List.filter_eq_self.2 fun _ _ => rfl
  refine ⟨fun i h => (by cases h), by rw [e]; simp, ?_⟩
  rw [e]
  have : (List.range l.length).map (fun i => l.getD i r0) = l := by
    apply List.ext_getElem
    · simp
    · intro k h1 h2; simp [h2]
  rw [this]; rfl
theorem Ord.step {l : List Rule} {out : List Nat} (h : Ord l out) (hlt : out.length < l.length) : ∃ p, bestTo (fun i => out.contains i) (fun i => l.getD i r0) l.length = some p ∧ p < l.length ∧ p ∉ out ∧ Ord l (out ++ [p]) := by
  have sp := bestTo_spec (fun i => out.contains i) (fun i => l.getD i r0) l.length
  cases hb : bestTo (fun i => out.contains i) (fun i => l.getD i r0) l.length with
  | none =>
    rw [hb] at sp
    have : rem l.length out = [] := by
      rw [List.eq_nil_iff_forall_not_mem]
      intro i hi
      obtain ⟨h1, h2⟩ := rem_mem.1 hi
      have := sp i h1
      simp at this
      exact h2 this
    have := h.len
    rw [‹rem l.length out = []›] at this
    simp at this
    omega
  | some p =>
    rw [hb] at sp
    obtain ⟨h1, h2, h3⟩ := sp
    have hno : p ∉ out := by simpa using h2
    have hp : p ∈ rem l.length out := rem_mem.2 ⟨h1, hno⟩
    refine ⟨p, rfl, h1, hno, ⟨fun i hi => ?_, ?_, ?_⟩⟩
    · rcases List.mem_append.1 hi with hi | hi
      · exact h.lt i hi
      · simp at hi; subst hi; exact h1
    · rw [rem_step, List.length_append]
      have := rem_len (n := l.length) (rem_sorted l.length out) hp
      have := h.len
      simp; omega
    · rw [rem_step, ← h.eq, List.map_append, List.append_assoc]
      congr 1
      unfold sortR
      rw [isort_pick (key := keyR) (fun i => l.getD i r0) (rem_sorted l.length out) hp fun q hq => ?_]
      · rfl
      · obtain ⟨q1, q2⟩ := rem_mem.1 hq
        have := h3 q q1 (by simpa using q2)
        unfold keyR
        exact ⟨by have := this.1; omega, fun hlt => by have := this.2 hlt; omega⟩
theorem Ord.done {l : List Rule} {out : List Nat} (h : Ord l out) (hl : ¬ out.length < l.length) : out.length = l.length ∧ out.map (fun i => l.getD i r0) = sortR l := by
  have := h.len
  have e : rem l.length out = [] := List.eq_nil_of_length_eq_zero (by omega)
  refine ⟨by omega, ?_⟩
  have := h.eq
  rw [e] at this
  simpa [sortR, isort] using this
def rowI (l : List Nat) : Nat → List Dat := fun i => [.v (.int .i64 ((l.getD i 0 : Nat) : Int))]
def ordTo (l : List Rule) : Nat → List Nat
  | 0 => []
  | k + 1 => match bestTo (fun i => (ordTo l k).contains i) (fun i => l.getD i r0) l.length with
    | some p => ordTo l k ++ [p]
    | none => ordTo l k
def orderR (l : List Rule) : List Nat := ordTo l l.length
end Go.Proofs.Ytbamjcnhmmgnlaa
set_option linter.unusedSimpArgs false
set_option linter.unusedVariables false
namespace Go.Proofs.Ytbamjcnhmmgnlaa
open Go.Proofs.Ytbamjcnhmmgnlaa.AL
section
variable {α : Type}
def swp (x : Nat → α) (i j : Nat) : Nat → α := fun k => if k = j then x i else if k = i then x j else x k
theorem swp_self (x : Nat → α) (i : Nat) : swp x i i = x := by
  funext k; unfold swp
  by_cases h : k = i
  · rw [if_pos h, h]
  · rw [if_neg h, if_neg h]
theorem swp_comm (x : Nat → α) (i j : Nat) : swp x i j = swp x j i := by
  funext k; unfold swp
  by_cases h : k = j
  · by_cases h2 : k = i
    · rw [if_pos h, if_pos h2]; congr 1; omega
    · rw [if_pos h, if_neg h2, if_pos h]
  · by_cases h2 : k = i
    · rw [if_neg h, if_pos h2, if_pos h2]
    · rw [if_neg h, if_neg h2, if_neg h2, if_neg h]
theorem swp_l (x : Nat → α) (i j : Nat) : swp x i j i = x j := by
  unfold swp
  by_cases h : i = j
  · rw [if_pos h, h]
  · rw [if_neg h, if_pos rfl]
theorem swp_r (x : Nat → α) (i j : Nat) : swp x i j j = x i := by unfold swp; rw [if_pos rfl]
theorem swp_o (x : Nat → α) {i j k : Nat} (h1 : k ≠ i) (h2 : k ≠ j) : swp x i j k = x k := by unfold swp; rw [if_neg h2, if_neg h1]
theorem seg_one (x : Nat → α) (a : Nat) : seg x a (a + 1) = [x a] := by
  unfold seg; rw [show a + 1 - a = 1 from by omega]; rfl
structure PE (a b : Nat) (x y : Nat → α) : Prop where
  out : ∀ k, ¬ (a ≤ k ∧ k < b) → y k = x k
  perm : (seg y a b).Perm (seg x a b)
theorem PE.refl (a b : Nat) (x : Nat → α) : PE a b x x := ⟨fun _ _ => rfl, List.Perm.refl _⟩
theorem PE.trans {a b : Nat} {x y z : Nat → α} (h : PE a b x y) (k : PE a b y z) : PE a b x z :=
  ⟨fun i hi => (k.out i hi).trans (h.out i hi), k.perm.trans h.perm⟩
theorem PE.widen {a b a' b' : Nat} {x y : Nat → α} (h : PE a b x y) (h1 : a' ≤ a) (hab : a ≤ b) (h2 : b ≤ b') : PE a' b' x y := by
  refine ⟨fun k hk => h.out k (by omega), ?_⟩
  rw [seg_split y (show a' ≤ b by omega) h2, seg_split y h1 hab, seg_split x (show a' ≤ b by omega) h2, seg_split x h1 hab]
  rw [seg_congr (x := y) (y := x) (a := a') (b := a) (fun k _ hk => h.out k (by omega)), seg_congr (x := y) (y := x) (a := b) (b := b') (fun k hk _ => h.out k (by omega))]
  exact (h.perm.append_left _).append_right _
theorem PE.mem {a b : Nat} {x y : Nat → α} (h : PE a b x y) {k : Nat} (h1 : a ≤ k) (h2 : k < b) : ∃ k', a ≤ k' ∧ k' < b ∧ y k = x k' := by
  have : y k ∈ seg y a b := mem_seg.2 ⟨k, h1, h2, rfl⟩
  obtain ⟨k', a1, a2, a3⟩ := mem_seg.1 (h.perm.mem_iff.1 this)
  exact ⟨k', a1, a2, a3.symm⟩
theorem PE.swp_lt {x : Nat → α} {a b i j : Nat} (h1 : a ≤ i) (h2 : i < j) (h3 : j < b) : PE a b x (swp x i j) := by
  refine ⟨fun k hk => swp_o x (by omega) (by omega), ?_⟩
  have e : ∀ y : Nat → α, seg y a b = seg y a i ++ (seg y i (i + 1) ++ (seg y (i + 1) j ++ (seg y j (j + 1) ++ seg y (j + 1) b))) := by
    intro y
    rw [seg_split y h1 (show i ≤ b by omega), seg_split y (show i ≤ i + 1 by omega) (show i + 1 ≤ b by omega), seg_split y (show i + 1 ≤ j by omega) (show j ≤ b by omega), seg_split y (show j ≤ j + 1 by omega) (show j + 1 ≤ b by omega)]
  rw [e, e, seg_one, seg_one, seg_one, seg_one, swp_l, swp_r]
  rw [seg_congr (x := swp x i j) (y := x) (a := a) (b := i) (fun k _ _ => swp_o x (by omega) (by omega)),
    seg_congr (x := swp x i j) (y := x) (a := i + 1) (b := j) (fun k _ _ => swp_o x (by omega) (by omega)),
    seg_congr (x := swp x i j) (y := x) (a := j + 1) (b := b) (fun k _ _ => swp_o x (by omega) (by omega))]
  refine List.Perm.append_left _ ?_
  simp only [List.singleton_append]
  refine (List.Perm.cons _ List.perm_middle).trans ?_
  exact (List.Perm.swap _ _ _).trans (List.Perm.cons _ List.perm_middle.symm)
theorem PE.swp {x : Nat → α} {a b i j : Nat} (h1 : a ≤ i) (h2 : i < b) (h3 : a ≤ j) (h4 : j < b) : PE a b x (swp x i j) := by
  by_cases h : i = j
  · subst h; rw [swp_self]; exact PE.refl _ _ _
  · by_cases h' : i < j
    · exact PE.swp_lt h1 h' h4
    · rw [swp_comm]; exact PE.swp_lt h3 (by omega) h2
structure Dom (n N : Nat) (x : Nat → Nat) : Prop where
  lt : ∀ k, k < n → x k < N
  nd : (seg x 0 n).Nodup
theorem Dom.pe {n N a b : Nat} {x y : Nat → Nat} (h : Dom n N x) (p : PE a b x y) (hab : a ≤ b) (hb : b ≤ n) : Dom n N y := by
  have p' := p.widen (Nat.zero_le a) hab hb
  refine ⟨fun k hk => ?_, p'.perm.nodup_iff.2 h.nd⟩
  obtain ⟨k', _, h2, h3⟩ := p'.mem (Nat.zero_le k) hk
  rw [h3]; exact h.lt k' h2
theorem Dom.inj {n N : Nat} {x : Nat → Nat} (h : Dom n N x) {i j : Nat} (hi : i < n) (hj : j < n) (e : x i = x j) : i = j := by
  have hn := h.nd
  unfold seg at hn
  rw [List.Nodup, List.pairwise_map, List.pairwise_iff_getElem] at hn
  apply Classical.byContradiction
  intro hne
  rcases Nat.lt_or_gt_of_ne hne with hlt | hlt
  · have := hn i j (by simpa using hi) (by simpa using hj) hlt
    simp at this; exact this e
  · have := hn j i (by simpa using hj) (by simpa using hi) hlt
    simp at this; exact this e.symm
end
end Go.Proofs.Ytbamjcnhmmgnlaa
set_option linter.unusedSimpArgs false
set_option linter.unusedVariables false
namespace Go.Proofs.Ytbamjcnhmmgnlaa
open Go.Proofs.Ytbamjcnhmmgnlaa.AL
end Go.Proofs.Ytbamjcnhmmgnlaa
set_option linter.unusedSimpArgs false
set_option linter.unusedVariables false
namespace Go.Proofs.Ytbamjcnhmmgnlaa
open Go.Proofs.Ytbamjcnhmmgnlaa.AL
end Go.Proofs.Ytbamjcnhmmgnlaa
set_option linter.unusedSimpArgs false
set_option linter.unusedVariables false
namespace Go.Proofs.Ytbamjcnhmmgnlaa
open Go.Proofs.Ytbamjcnhmmgnlaa.AL
section
variable {key : Nat → Int}
def Hp (key : Nat → Int) (f : Nat) (x : Nat → Nat) (lo hi : Nat) : Prop := ∀ p c, lo ≤ p → (c = 2 * p + 1 ∨ c = 2 * p + 2) → c < hi → key (x (f + c)) ≤ key (x (f + p))
structure HpX (key : Nat → Int) (f : Nat) (x : Nat → Nat) (lo hi r : Nat) : Prop where
  oth : ∀ p c, lo ≤ p → p ≠ r → (c = 2 * p + 1 ∨ c = 2 * p + 2) → c < hi → key (x (f + c)) ≤ key (x (f + p))
  up : ∀ p c, lo ≤ p → (r = 2 * p + 1 ∨ r = 2 * p + 2) → (c = 2 * r + 1 ∨ c = 2 * r + 2) → c < hi → key (x (f + c)) ≤ key (x (f + p))
theorem HpX.start {f lo hi : Nat} {x : Nat → Nat} (h : Hp key f x (lo + 1) hi) : HpX key f x lo hi lo :=
  ⟨fun p c h1 h2 h3 h4 => h p c (by omega) h3 h4, fun p c h1 h2 _ _ => by omega⟩
theorem HpX.done {f lo hi r : Nat} {x : Nat → Nat} (h : HpX key f x lo hi r) (hr : ∀ c, (c = 2 * r + 1 ∨ c = 2 * r + 2) → c < hi → key (x (f + c)) ≤ key (x (f + r))) : Hp key f x lo hi := by
  intro p c h1 h2 h3
  by_cases e : p = r
  · subst e; exact hr c h2 h3
  · exact h.oth p c h1 e h2 h3
theorem HpX.step {f lo hi r c : Nat} {x : Nat → Nat} (h : HpX key f x lo hi r) (hlo : lo ≤ r) (hc : c = 2 * r + 1 ∨ c = 2 * r + 2) (hch : c < hi) (hlt : key (x (f + r)) ≤ key (x (f + c)))
    (hmax : ∀ d, (d = 2 * r + 1 ∨ d = 2 * r + 2) → d < hi → key (x (f + d)) ≤ key (x (f + c))) : HpX key f (swp x (f + r) (f + c)) lo hi c := by
  have sr : swp x (f + r) (f + c) (f + r) = x (f + c) := swp_l _ _ _
  have sc : swp x (f + r) (f + c) (f + c) = x (f + r) := swp_r _ _ _
  have so : ∀ k, k ≠ r → k ≠ c → swp x (f + r) (f + c) (f + k) = x (f + k) := fun k h1 h2 => swp_o _ (by omega) (by omega)
  refine ⟨fun p d h1 h2 h3 h4 => ?_, fun p d h1 h2 h3 h4 => ?_⟩
  · by_cases e : p = r
    · subst e
      rw [sr]
      by_cases e2 : d = c
      · subst e2; rw [sc]; exact hlt
      · rw [so d (by omega) e2]; exact hmax d h3 h4
    · rw [so p e h2]
      by_cases e2 : d = r
      · subst e2; rw [sr]; exact h.up p c h1 h3 hc hch
      · by_cases e3 : d = c
        · omega
        · rw [so d e2 e3]; exact h.oth p d h1 e h3 h4
  · have e : p = r := by omega
    subst e
    rw [sr, so d (by omega) (by omega)]
    exact h.oth c d (by omega) (by omega) h3 h4
theorem Hp.root {f hi : Nat} {x : Nat → Nat} (h : Hp key f x 0 hi) : ∀ c, c < hi → key (x (f + c)) ≤ key (x (f + 0)) := by
  intro c
  induction c using Nat.strongRecOn with
  | _ c ih =>
    intro hc
    by_cases h0 : c = 0
    · subst h0; exact Int.le_refl _
    · have := ih ((c - 1) / 2) (by omega) (by omega)
      have h2 := h ((c - 1) / 2) c (by omega) (by omega) hc
      omega
theorem Hp.mono {f lo hi lo' hi' : Nat} {x y : Nat → Nat} (h : Hp key f x lo hi) (h1 : lo ≤ lo') (h2 : hi' ≤ hi) (hy : ∀ k, lo' ≤ k → k < hi' → y (f + k) = x (f + k)) : Hp key f y lo' hi' := by
  intro p c h3 h4 h5
  rw [hy p h3 (by omega), hy c (by omega) h5]
  exact h p c (by omega) h4 (by omega)
theorem Hp.none {f hi m : Nat} {x : Nat → Nat} (h : hi ≤ 2 * m + 1) : Hp key f x m hi := by
  intro p c h1 h2 h3; omega
structure HS (key : Nat → Int) (f b i : Nat) (y : Nat → Nat) : Prop where
  hp : Hp key f y 0 i
  srt : Srt key (f + i) b y
  up : ∀ p q, p < i → f + i ≤ q → q < b → key (y (f + p)) ≤ key (y q)
theorem HS.out {f b i : Nat} {y : Nat → Nat} (h : HS key f b (i + 1) y) (hb : f + i < b) : Hp key f (swp y f (f + i)) 1 i ∧ Srt key (f + i) b (swp y f (f + i)) ∧ ∀ p q, p < i → f + i ≤ q → q < b → key (swp y f (f + i) (f + p)) ≤ key (swp y f (f + i) q) := by
  have sr : swp y f (f + i) (f + i) = y f := swp_r _ _ _
  have s0 : swp y f (f + i) f = y (f + i) := swp_l _ _ _
  have so : ∀ k, k ≠ f → k ≠ f + i → swp y f (f + i) k = y k := fun k h1 h2 => swp_o _ h1 h2
  have rt := h.hp.root
  refine ⟨h.hp.mono (by omega) (by omega) fun k h1 h2 => so _ (by omega) (by omega), fun p q h1 h2 h3 => ?_, fun p q h1 h2 h3 => ?_⟩
  · rw [so q (by omega) (by omega)]
    by_cases e : p = f + i
    · subst e; rw [sr]; exact h.up 0 q (by omega) (by omega) h3
    · rw [so p (by omega) e]; exact h.srt p q (by omega) h2 h3
  · by_cases e : q = f + i
    · subst e; rw [sr]
      by_cases e2 : p = 0
      · subst e2; rw [Nat.add_zero, s0]; exact rt i (by omega)
      · rw [so _ (by omega) (by omega)]; exact rt p (by omega)
    · rw [so q (by omega) e]
      by_cases e2 : p = 0
      · subst e2; rw [Nat.add_zero, s0]; exact h.up i q (by omega) (by omega) h3
      · rw [so _ (by omega) (by omega)]; exact h.up p q (by omega) (by omega) h3
theorem HS.next {f b i : Nat} {y z : Nat → Nat} (hs : Srt key (f + i) b y) (hu : ∀ p q, p < i → f + i ≤ q → q < b → key (y (f + p)) ≤ key (y q)) (hp : PE f (f + i) y z) (hh : Hp key f z 0 i) : HS key f b i z := by
  have zo : ∀ q, f + i ≤ q → z q = y q := fun q h => hp.out q (by omega)
  refine ⟨hh, fun p q h1 h2 h3 => ?_, fun p q h1 h2 h3 => ?_⟩
  · rw [zo p h1, zo q (by omega)]; exact hs p q h1 h2 h3
  · obtain ⟨k, k1, k2, k3⟩ := hp.mem (show f ≤ f + p by omega) (by omega)
    rw [k3, zo q h2]
    have := hu (k - f) q (by omega) h2 h3
    rwa [show f + (k - f) = k by omega] at this
theorem HS.end {f b : Nat} {y : Nat → Nat} (h : HS key f b 0 y) : Srt key f b y := h.srt
structure Prt (key : Nat → Int) (a m b : Nat) (y : Nat → Nat) : Prop where
  lo : ∀ k, a ≤ k → k < m → key (y k) ≤ key (y m)
  hi : ∀ k, m < k → k < b → key (y m) ≤ key (y k)
theorem Prt.srt {a m b : Nat} {y : Nat → Nat} (h : Prt key a m b y) (h1 : Srt key a m y) (h2 : Srt key (m + 1) b y) (ha : a ≤ m) : Srt key a b y := by
  intro p q h3 h4 h5
  by_cases e1 : q < m
  · exact h1 p q h3 h4 e1
  · by_cases e2 : q = m
    · subst e2; exact h.lo p h3 h4
    · by_cases e3 : p < m
      · exact Int.le_trans (h.lo p h3 e3) (h.hi q (by omega) h5)
      · by_cases e4 : p = m
        · subst e4; exact h.hi q (by omega) h5
        · exact h2 p q (by omega) h4 h5
theorem Prt.pe {a m b c d : Nat} {y z : Nat → Nat} (h : Prt key a m b y) (hp : PE c d y z) (hcd : (a ≤ c ∧ c ≤ d ∧ d ≤ m) ∨ (m < c ∧ c ≤ d ∧ d ≤ b)) : Prt key a m b z := by
  have zm : z m = y m := hp.out m (by omega)
  refine ⟨fun k h1 h2 => ?_, fun k h1 h2 => ?_⟩
  · rw [zm]
    by_cases e : c ≤ k ∧ k < d
    · obtain ⟨k', k1, k2, k3⟩ := hp.mem e.1 e.2
      rw [k3]; exact h.lo k' (by omega) (by omega)
    · rw [hp.out k e]; exact h.lo k h1 h2
  · rw [zm]
    by_cases e : c ≤ k ∧ k < d
    · obtain ⟨k', k1, k2, k3⟩ := hp.mem e.1 e.2
      rw [k3]; exact h.hi k' (by omega) (by omega)
    · rw [hp.out k e]; exact h.hi k h1 h2
def Blw (key : Nat → Int) (a b : Nat) (y : Nat → Nat) : Prop := ∀ k, 0 < a → a ≤ k → k < b → key (y (a - 1)) ≤ key (y k)
theorem Blw.pe {a b : Nat} {y z : Nat → Nat} (h : Blw key a b y) (hp : PE a b y z) : Blw key a b z := by
  intro k h0 h1 h2
  rw [hp.out (a - 1) (by omega)]
  obtain ⟨k', k1, k2, k3⟩ := hp.mem h1 h2
  rw [k3]; exact h k' h0 k1 k2
end
end Go.Proofs.Ytbamjcnhmmgnlaa
set_option linter.unusedSimpArgs false
set_option linter.unusedVariables false
namespace Go.Proofs.Ytbamjcnhmmgnlaa
open Go.Proofs.Ytbamjcnhmmgnlaa.AL
end Go.Proofs.Ytbamjcnhmmgnlaa
set_option linter.unusedSimpArgs false
set_option linter.unusedVariables false
namespace Go.Proofs.Ytbamjcnhmmgnlaa
open Go.Proofs.Ytbamjcnhmmgnlaa.AL
end Go.Proofs.Ytbamjcnhmmgnlaa
set_option linter.unusedSimpArgs false
set_option linter.unusedVariables false
namespace Go.Proofs.Ytbamjcnhmmgnlaa
open Go.Shelf Go.Proofs Go.Proofs.Ytbamjcnhmmgnlaa.AL
end Go.Proofs.Ytbamjcnhmmgnlaa
set_option linter.unusedSimpArgs false
set_option linter.unusedVariables false
namespace Go.Proofs.Ytbamjcnhmmgnlaa
open Go.Proofs.Ytbamjcnhmmgnlaa.AL
end Go.Proofs.Ytbamjcnhmmgnlaa
set_option linter.unusedSimpArgs false
set_option linter.unusedVariables false
namespace Go.Proofs.Ytbamjcnhmmgnlaa
open Go.Proofs.Ytbamjcnhmmgnlaa.AL
structure PI (key : Nat → Int) (a b : Nat) (x y : Nat → Nat) (i q : Nat) : Prop where
  h1 : a + 1 ≤ i
  h2 : i ≤ q
  h3 : q ≤ b
  pe : PE a b x y
  lo : ∀ k, a + 1 ≤ k → k < i → key (y k) < key (y a)
  hi : ∀ k, q ≤ k → k < b → key (y a) ≤ key (y k)
theorem PI.start {key : Nat → Int} {a b p : Nat} {x : Nat → Nat} (h : a < b) (h1 : a ≤ p) (h2 : p < b) : PI key a b x (swp x a p) (a + 1) b :=
  ⟨Nat.le_refl _, h, Nat.le_refl _, PE.swp (Nat.le_refl _) h h1 h2, fun k k1 k2 => by omega, fun k k1 k2 => by omega⟩
theorem PI.up {key : Nat → Int} {a b i q : Nat} {x y : Nat → Nat} (h : PI key a b x y i q) (hl : i < q) (hk : key (y i) < key (y a)) : PI key a b x y (i + 1) q :=
  ⟨by have := h.h1; omega, hl, h.h3, h.pe, fun k k1 k2 => by
    by_cases e : k = i
    · subst e; exact hk
    · exact h.lo k k1 (by omega), h.hi⟩
theorem PI.swap {key : Nat → Int} {a b i q : Nat} {x y : Nat → Nat} (h : PI key a b x y i (q + 1)) (hl : i ≤ q) (hi : ¬ key (y i) < key (y a)) (hq : key (y q) < key (y a)) : i + 1 ≤ q ∧ PI key a b x (swp y i q) (i + 1) q := by
  have hne : i ≠ q := fun e => by subst e; exact hi hq
  have g1 := h.h1; have g3 := h.h3
  have ea : swp y i q a = y a := swp_o _ (by omega) (by omega)
  refine ⟨by omega, by omega, by omega, by omega, h.pe.trans (PE.swp (by omega) (by omega) (by omega) (by omega)), fun k k1 k2 => ?_, fun k k1 k2 => ?_⟩
  · rw [ea]
    by_cases e : k = i
    · subst e; rw [swp_l]; exact hq
    · rw [swp_o _ e (by omega)]; exact h.lo k k1 (by omega)
  · rw [ea]
    by_cases e : k = q
    · subst e; rw [swp_r]; omega
    · rw [swp_o _ (by omega) e]; exact h.hi k (by omega) k2
theorem PI.done {key : Nat → Int} {a b q : Nat} {x y : Nat → Nat} (h : PI key a b x y (q + 1) (q + 1)) : a ≤ q ∧ q < b ∧ PE a b x (swp y q a) ∧ Prt key a q b (swp y q a) := by
  have g1 := h.h1; have g3 := h.h3
  have em : swp y q a q = y a := swp_l _ _ _
  refine ⟨by omega, by omega, h.pe.trans (PE.swp (by omega) (by omega) (by omega) (by omega)), ⟨fun k k1 k2 => ?_, fun k k1 k2 => ?_⟩⟩
  · rw [em]
    by_cases e : k = a
    · subst e; rw [swp_r]; exact Int.le_of_lt (h.lo q (by omega) (by omega))
    · rw [swp_o _ (by omega) e]; exact Int.le_of_lt (h.lo k (by omega) (by omega))
  · rw [em, swp_o _ (by omega) (by omega)]
    exact h.hi k (by omega) k2
end Go.Proofs.Ytbamjcnhmmgnlaa
set_option linter.unusedSimpArgs false
set_option linter.unusedVariables false
namespace Go.Proofs.Ytbamjcnhmmgnlaa
open Go.Proofs.Ytbamjcnhmmgnlaa.AL
structure PA (key : Nat → Int) (a b : Nat) (x : Nat → Nat) (i : Nat) (y : Nat → Nat) : Prop where
  h1 : a + 1 ≤ i
  h2 : i ≤ b
  pe : PE a b x y
  st : Srt key a i y
theorem PA.up {key : Nat → Int} {a b i : Nat} {x y : Nat → Nat} (h : PA key a b x i y) (hl : i < b) (hk : ¬ key (y i) < key (y (i - 1))) : PA key a b x (i + 1) y := by
  refine ⟨by have := h.h1; omega, hl, h.pe, fun p q h1 h2 h3 => ?_⟩
  have := h.h1
  by_cases e : q = i
  · subst e
    by_cases e2 : p = q - 1
    · subst e2; omega
    · have := h.st p (q - 1) h1 (by omega) (by omega); omega
  · exact h.st p q h1 h2 (by omega)
theorem PA.swap {key : Nat → Int} {a b i : Nat} {x y : Nat → Nat} (h : PA key a b x i y) (hl : i < b) : PE a b x (swp y i (i - 1)) ∧ Srt key a (i - 1) (swp y i (i - 1)) := by
  have := h.h1
  refine ⟨h.pe.trans (PE.swp (by omega) (by omega) (by omega) (by omega)), fun p q h1 h2 h3 => ?_⟩
  rw [swp_o _ (by omega) (by omega), swp_o _ (by omega) (by omega)]
  exact h.st p q h1 h2 (by omega)
end Go.Proofs.Ytbamjcnhmmgnlaa
set_option linter.unusedSimpArgs false
set_option linter.unusedVariables false
namespace Go.Proofs.Ytbamjcnhmmgnlaa
open Go.Proofs.Ytbamjcnhmmgnlaa.AL
structure PD (key : Nat → Int) (n N a b : Nat) (x : Nat → Nat) (a' b' : Nat) (y : Nat → Nat) : Prop where
  h1 : a ≤ a'
  h2 : a' ≤ b'
  h3 : b' ≤ b
  pe : PE a b x y
  bl : Blw key a' b' y
  fin : ∀ z, PE a' b' y z → Srt key a' b' z → Srt key a b z
theorem PD.left {key : Nat → Int} {n N a b a' b' m : Nat} {x y z : Nat → Nat} (h : PD key n N a b x a' b' y) (hm : a' ≤ m) (hm2 : m < b') (hp : Prt key a' m b' y) (h1 : PE a' m y z) (h2 : Srt key a' m z) : PD key n N a b x (m + 1) b' z := by
  have hpz := hp.pe h1 (.inl ⟨Nat.le_refl _, hm, Nat.le_refl _⟩)
  have g1 := h.h1; have g3 := h.h3
  refine ⟨by omega, by omega, g3, h.pe.trans (h1.widen g1 hm (by omega)), fun k k0 k1 k2 => by rw [Nat.add_sub_cancel]; exact hpz.hi k (by omega) k2, fun u u1 u2 => ?_⟩
  refine h.fin u ((h1.widen (Nat.le_refl _) hm (by omega)).trans (u1.widen (by omega) (by omega) (Nat.le_refl _))) ?_
  refine (hpz.pe u1 (.inr ⟨by omega, by omega, Nat.le_refl _⟩)).srt (fun p q q1 q2 q3 => ?_) u2 hm
  rw [u1.out p (by omega), u1.out q (by omega)]
  exact h2 p q q1 q2 q3
theorem PD.right {key : Nat → Int} {n N a b a' b' m : Nat} {x y z : Nat → Nat} (h : PD key n N a b x a' b' y) (hm : a' ≤ m) (hm2 : m < b') (hp : Prt key a' m b' y) (h1 : PE (m + 1) b' y z) (h2 : Srt key (m + 1) b' z) : PD key n N a b x a' m z := by
  have hpz := hp.pe h1 (.inr ⟨by omega, by omega, Nat.le_refl _⟩)
  have g1 := h.h1; have g3 := h.h3
  refine ⟨g1, hm, by omega, h.pe.trans (h1.widen (by omega) (by omega) g3), fun k k0 k1 k2 => ?_, fun u u1 u2 => ?_⟩
  · rw [h1.out (a' - 1) (by omega), h1.out k (by omega)]
    exact h.bl k k0 k1 (by omega)
  · refine h.fin u ((h1.widen (by omega) (by omega) (Nat.le_refl _)).trans (u1.widen (Nat.le_refl _) hm (by omega))) ?_
    refine (hpz.pe u1 (.inl ⟨Nat.le_refl _, hm, Nat.le_refl _⟩)).srt u2 (fun p q q1 q2 q3 => ?_) hm
    rw [u1.out p (by omega), u1.out q (by omega)]
    exact h2 p q q1 q2 q3
end Go.Proofs.Ytbamjcnhmmgnlaa
set_option linter.unusedSimpArgs false
set_option linter.unusedVariables false
namespace Go.Proofs.Ytbamjcnhmmgnlaa.AL
open Go
end Go.Proofs.Ytbamjcnhmmgnlaa.AL
set_option linter.unusedSimpArgs false
set_option linter.unusedVariables false
namespace Go.Proofs.Ytbamjcnhmmgnlaa
open Go.Proofs.Ytbamjcnhmmgnlaa.AL
end Go.Proofs.Ytbamjcnhmmgnlaa
set_option linter.unusedSimpArgs false
set_option linter.unusedVariables false
namespace Go.Proofs.Ytbamjcnhmmgnlaa
open Go.Proofs.Ytbamjcnhmmgnlaa.AL
end Go.Proofs.Ytbamjcnhmmgnlaa
set_option linter.unusedSimpArgs false
set_option linter.unusedVariables false
namespace Go.Proofs.Ytbamjcnhmmgnlaa
open Go.Proofs.Ytbamjcnhmmgnlaa.AL
end Go.Proofs.Ytbamjcnhmmgnlaa
set_option linter.unusedSimpArgs false
set_option linter.unusedVariables false
namespace Go.Proofs.Ytbamjcnhmmgnlaa
open Go.Proofs.Ytbamjcnhmmgnlaa.AL
def findO (l : List Rule) (h : BitVec 128) : List Nat → Option Nat
  | [] => none
  | n :: r => if hasC (l.getD n r0).mt h then some n else findO l h r
def findI (l : List Rule) (h : BitVec 128) (R : Option Nat) (s : {i : Nat // i ≤ l.length ∧ findO l h ((orderR l).drop i) = R}) : ASt :=
  ⟨[(11, .p (.d (.v (.int .i64 (s.val : Int))))), (10, .p (.d (.v (.int .i64 (l.length : Int))))), (9, .p (.d (.sl 1 l.length (rowI (orderR l))))), (3, .p (.d (.bx (hd h)))), (0, .p (.d (.sl 12 l.length (rowR l))))], []⟩
end Go.Proofs.Ytbamjcnhmmgnlaa
set_option linter.unusedSimpArgs false
set_option linter.unusedVariables false
namespace Go.Proofs.Ytbamjcnhmmgnlaa
open Go.Proofs.Ytbamjcnhmmgnlaa.AL Go.RowKit
end Go.Proofs.Ytbamjcnhmmgnlaa
set_option linter.unusedSimpArgs false
set_option linter.unusedVariables false
namespace Go.Proofs.Ytbamjcnhmmgnlaa
open Go.Proofs.Ytbamjcnhmmgnlaa.AL
end Go.Proofs.Ytbamjcnhmmgnlaa
set_option linter.unusedSimpArgs false
set_option linter.unusedVariables false
namespace Go.Proofs.Ytbamjcnhmmgnlaa
open Go.Proofs.Ytbamjcnhmmgnlaa.AL
def other (r b : Cube) (n : Nat) : Cube := ⟨(r.v ||| (b.v &&& (ones 1 <<< n))) ^^^ (ones 1 <<< n), r.c ||| (ones 1 <<< n)⟩
end Go.Proofs.Ytbamjcnhmmgnlaa
set_option linter.unusedSimpArgs false
set_option linter.unusedVariables false
namespace Go.Proofs.Ytbamjcnhmmgnlaa
open Go.Proofs.Ytbamjcnhmmgnlaa.AL
end Go.Proofs.Ytbamjcnhmmgnlaa
set_option linter.unusedSimpArgs false
set_option linter.unusedVariables false
namespace Go.Proofs.Ytbamjcnhmmgnlaa
open Go.Proofs.Ytbamjcnhmmgnlaa.AL
end Go.Proofs.Ytbamjcnhmmgnlaa
set_option linter.unusedSimpArgs false
set_option linter.unusedVariables false
namespace Go.Proofs.Ytbamjcnhmmgnlaa
open Go.Proofs.Ytbamjcnhmmgnlaa.AL
end Go.Proofs.Ytbamjcnhmmgnlaa
set_option linter.unusedSimpArgs false
set_option linter.unusedVariables false
namespace Go.Proofs.Ytbamjcnhmmgnlaa
open Go.Proofs.Ytbamjcnhmmgnlaa.AL
end Go.Proofs.Ytbamjcnhmmgnlaa
set_option linter.unusedSimpArgs false
set_option linter.unusedVariables false
namespace Go.Proofs.Ytbamjcnhmmgnlaa
open Go.Proofs.Ytbamjcnhmmgnlaa.AL
end Go.Proofs.Ytbamjcnhmmgnlaa
set_option linter.unusedSimpArgs false
set_option linter.unusedVariables false
namespace Go.Proofs.Ytbamjcnhmmgnlaa
open Go.Proofs.Ytbamjcnhmmgnlaa.AL
end Go.Proofs.Ytbamjcnhmmgnlaa
set_option linter.unusedSimpArgs false
set_option linter.unusedVariables false
namespace Go.Proofs.Ytbamjcnhmmgnlaa
open Go.Proofs.Ytbamjcnhmmgnlaa.AL
end Go.Proofs.Ytbamjcnhmmgnlaa
set_option linter.unusedSimpArgs false
set_option linter.unusedVariables false
namespace Go.Proofs.Ytbamjcnhmmgnlaa
open Go.Proofs.Ytbamjcnhmmgnlaa.AL
end Go.Proofs.Ytbamjcnhmmgnlaa
set_option linter.unusedSimpArgs false
set_option linter.unusedVariables false
namespace Go.Proofs.Ytbamjcnhmmgnlaa
open Go.Proofs.Ytbamjcnhmmgnlaa.AL
end Go.Proofs.Ytbamjcnhmmgnlaa
set_option linter.unusedSimpArgs false
set_option linter.unusedVariables false
namespace Go.Proofs.Ytbamjcnhmmgnlaa
open Go.Proofs.Ytbamjcnhmmgnlaa.AL
end Go.Proofs.Ytbamjcnhmmgnlaa
set_option linter.unusedSimpArgs false
set_option linter.unusedVariables false
namespace Go.Proofs.Ytbamjcnhmmgnlaa
open Go.Proofs.Ytbamjcnhmmgnlaa.AL
def rsI (l : List Rule) (n : Nat) (i : {i : Nat // i ≤ (orderR l).idxOf n}) : ASt :=
  ⟨[(7, .p (.d (.v (.int .i64 (i.val : Int))))), (6, .p (.d (.sl 1 l.length (rowI (orderR l))))), (1, .p (.d (.v (.int .i64 (n : Int))))), (0, .p (.d (.sl 12 l.length (rowR l))))], []⟩
end Go.Proofs.Ytbamjcnhmmgnlaa
set_option linter.unusedSimpArgs false
set_option linter.unusedVariables false
namespace Go.Proofs.Ytbamjcnhmmgnlaa
open Go.Proofs.Ytbamjcnhmmgnlaa.AL
end Go.Proofs.Ytbamjcnhmmgnlaa
set_option linter.unusedSimpArgs false
set_option linter.unusedVariables false
namespace Go.Proofs.Ytbamjcnhmmgnlaa
open Go.Proofs.Ytbamjcnhmmgnlaa.AL
def stepE (x : Rule) : Int := if x.kd = 4 then 0 else if x.kd = 3 then 0 else if x.kd = 2 then 2 else 1
end Go.Proofs.Ytbamjcnhmmgnlaa
set_option linter.unusedSimpArgs false
set_option linter.unusedVariables false
namespace Go.Proofs.Ytbamjcnhmmgnlaa
open Go.Proofs.Ytbamjcnhmmgnlaa.AL
theorem allF_at {f : Nat → Bool} {n i : Nat} (h : allF f n 0 = true) (hi : i < n) : f i = true := (allF_iff.1 h) i (Nat.zero_le _) hi
theorem sound_parts {c : Config} (h : soundC c = 0) : soundT c.tp = 0 ∧ c.tb.length = c.tp.length ∧ ∀ n, n < c.tb.length → soundTab (c.tb.getD n []) (c.tp.getD n []) = 0 := by
  unfold soundC at h
  split at h
  · rename_i h1; exact absurd h h1
  · rename_i h1
    split at h
    · rename_i h2; exact absurd h h2
    · split at h
      · cases h
      · rename_i h3
        refine ⟨by omega, by omega, fun n hn => ?_⟩
        have go : ∀ (f : Nat → Int) (m i : Nat), errF f m i = 0 → ∀ n, i ≤ n → n < i + m → f n = 0 := by
          intro f m
          induction m with
          | zero => intro i _ n h1 h2; omega
          | succ m ih =>
            intro i he n h1 h2
            unfold errF at he
            split at he
            · rename_i h0
              by_cases e : n = i
              · subst e; first | exact h0 | omega
              · exact ih (i + 1) he n (by omega) (by omega)
            · rename_i h0
              first | exact absurd he h0 | omega
        exact go (tabE c) c.tb.length 0 h n (Nat.zero_le _) (by omega)
theorem soundTab_parts {ts : List (List Rule)} {ps : List Port} (h : soundTab ts ps = 0) : 0 < ts.length ∧ ts.length ≤ 3 ∧ ∀ i k, i < ts.length → k < (ts.getD i []).length → soundR ((ts.getD i []).getD k r0) i ps = true ∧ ((ts.getD i []).getD k r0).tb < ts.length := by
  unfold soundTab at h
  split at h
  · cases h
  · rename_i h1
    split at h
    · cases h
    · split at h
      · rename_i h2
        refine ⟨by omega, by omega, fun i k hi hk => ?_⟩
        have := allF_at h2 hi
        unfold tabOk at this
        have := allF_at this hk
        unfold ruleOk at this
        rw [Bool.and_eq_true, decide_eq_true_iff] at this
        exact this
      · cases h
end Go.Proofs.Ytbamjcnhmmgnlaa
set_option linter.unusedSimpArgs false
set_option linter.unusedVariables false
namespace Go.Proofs.Ytbamjcnhmmgnlaa
open Go.Proofs.Ytbamjcnhmmgnlaa.AL
theorem mkC_sound (x y : BitVec 128) : (mkC x y).sound = true := by
  refine (sound_iff _).2 fun i hi hv => ?_
  simp only [mkC, BitVec.getLsbD_and, Bool.and_eq_true] at hv ⊢
  exact hv.2
theorem before_sound (c s : Cube) : (beforeV c s).sound = true := by
  unfold beforeV
  split
  · exact mkC_sound _ _
  · decide
end Go.Proofs.Ytbamjcnhmmgnlaa
set_option linter.unusedSimpArgs false
set_option linter.unusedVariables false
namespace Go.Proofs.Ytbamjcnhmmgnlaa
open Go Go.Proofs.Ytbamjcnhmmgnlaa.AL
theorem addC_mem {L : List Cube} {k x : Cube} : x ∈ addC L k ↔ x ∈ L ∨ x = k := by
  unfold addC
  split
  · rename_i h
    have h : k ∈ L := by simpa using h
    exact ⟨.inl, fun e => e.elim id fun e => e ▸ h⟩
  · simp
theorem addC_nodup {L : List Cube} {k : Cube} (h : L.Nodup) : (addC L k).Nodup := by
  unfold addC
  split
  · exact h
  · rename_i hk
    have hk : k ∉ L := by simpa using hk
    rw [List.nodup_append]
    exact ⟨h, by simp, fun a ha b hb e => hk (by simp at hb; rw [← hb, ← e]; exact ha)⟩
theorem foldl_nodup {α : Type} (f : List Cube → α → List Cube) (hf : ∀ L a, L.Nodup → (f L a).Nodup) : ∀ (l : List α) (L : List Cube), L.Nodup → (l.foldl f L).Nodup
  | [], L, h => h
  | a :: l, L, h => foldl_nodup f hf l _ (hf L a h)
theorem foldl_sub {α : Type} (f : List Cube → α → List Cube) (hf : ∀ L a x, x ∈ L → x ∈ f L a) : ∀ (l : List α) (L : List Cube) (x : Cube), x ∈ L → x ∈ l.foldl f L
  | [], L, x, h => h
  | a :: l, L, x, h => foldl_sub f hf l _ x (hf L a x h)
theorem foldl_hit {α : Type} (f : List Cube → α → List Cube) (hf : ∀ L a x, x ∈ L → x ∈ f L a) (y : α → Option Cube) (hy : ∀ L a k, y a = some k → k ∈ f L a) : ∀ (l : List α) (L : List Cube) (a : α) (k : Cube), a ∈ l → y a = some k → k ∈ l.foldl f L
  | b :: l, L, a, k, ha, hk => by
    rw [List.foldl_cons]
    rcases List.mem_cons.1 ha with rfl | ha
    · exact foldl_sub f hf l _ k (hy L _ k hk)
    · exact foldl_hit f hf y hy l _ a k ha hk
theorem foldl_all {α : Type} (f : List Cube → α → List Cube) (p : Cube → Prop) (hf : ∀ L a, (∀ x ∈ L, p x) → ∀ x ∈ f L a, p x) : ∀ (l : List α) (L : List Cube), (∀ x ∈ L, p x) → ∀ x ∈ l.foldl f L, p x
  | [], L, h => h
  | a :: l, L, h => foldl_all f p hf l _ (hf L a h)
theorem foldl_alls {α : Type} (f : List Cube → α → List Cube) (p : Cube → Prop) : ∀ (l : List α), (∀ a ∈ l, ∀ L, (∀ x ∈ L, p x) → ∀ x ∈ f L a, p x) → ∀ (L : List Cube), (∀ x ∈ L, p x) → ∀ x ∈ l.foldl f L, p x
  | [], _, L, h => h
  | a :: l, hf, L, h => foldl_alls f p l (fun b hb => hf b (by simp [hb])) _ (hf a (by simp) L h)
theorem addC_sub (L : List Cube) (k x : Cube) (h : x ∈ L) : x ∈ addC L k := addC_mem.2 (.inl h)
theorem befF_sub (y : Cube) (L : List Cube) (s x : Cube) (h : x ∈ L) : x ∈ befF y L s := by
  unfold befF; split
  · exact addC_sub _ _ _ h
  · exact h
theorem befF_nodup (y : Cube) (L : List Cube) (s : Cube) (h : L.Nodup) : (befF y L s).Nodup := by
  unfold befF; split
  · exact addC_nodup h
  · exact h
theorem getD_pre {L M : List Cube} (h : ∃ t, M = L ++ t) {j : Nat} (hj : j < L.length) : M.getD j ⟨0, 0⟩ = L.getD j ⟨0, 0⟩ := by
  obtain ⟨t, rfl⟩ := h
  rw [List.getD_eq_getElem?_getD, List.getD_eq_getElem?_getD, List.getElem?_append_left hj]
theorem addC_pre (L : List Cube) (k : Cube) : ∃ t, addC L k = L ++ t := by
  unfold addC; split
  · exact ⟨[], by simp⟩
  · exact ⟨[k], rfl⟩
theorem befF_pre (y : Cube) (L : List Cube) (s : Cube) : ∃ t, befF y L s = L ++ t := by
  unfold befF; split
  · exact addC_pre _ _
  · exact ⟨[], by simp⟩
theorem foldl_pre {α : Type} (f : List Cube → α → List Cube) (hf : ∀ L a, ∃ t, f L a = L ++ t) : ∀ (l : List α) (L : List Cube), ∃ t, l.foldl f L = L ++ t
  | [], L => ⟨[], by simp⟩
  | a :: l, L => by
    obtain ⟨t, ht⟩ := hf L a
    obtain ⟨u, hu⟩ := foldl_pre f hf l (f L a)
    exact ⟨t ++ u, by rw [List.foldl_cons, hu, ht, List.append_assoc]⟩
def ClosedAt (S R : List Cube) (x : Cube) : Prop := ∀ s ∈ S, beforeO x s = true → beforeV x s ∈ R
theorem closeF_spec (S : List Cube) : ∀ (f n : Nat) (L : List Cube), 501 ≤ f + n → (closeF S f n L).length ≤ 500 → (∀ j, j < n → j < L.length → ClosedAt S L (L.getD j ⟨0, 0⟩)) →
    (∀ x ∈ L, x ∈ closeF S f n L) ∧ ∀ x ∈ closeF S f n L, ClosedAt S (closeF S f n L) x
  | 0, n, L, hf, hl, hc => by
    unfold closeF at hl ⊢
    refine ⟨fun x h => h, fun x hx => ?_⟩
    obtain ⟨j, hj, rfl⟩ := List.getElem_of_mem hx
    have := hc j (by omega) hj
    rwa [List.getD_eq_getElem?_getD, List.getElem?_eq_getElem hj] at this
  | f + 1, n, L, hf, hl, hc => by
    unfold closeF at hl ⊢
    split
    · rename_i h
      rw [if_pos h] at hl
      have pre := foldl_pre (befF (L.getD n ⟨0, 0⟩)) (befF_pre _) S L
      have sub := foldl_sub (befF (L.getD n ⟨0, 0⟩)) (fun L a x => befF_sub _ L a x) S L
      have hit := foldl_hit (befF (L.getD n ⟨0, 0⟩)) (fun L a x => befF_sub _ L a x) (fun s => if beforeO (L.getD n ⟨0, 0⟩) s then some (beforeV (L.getD n ⟨0, 0⟩) s) else none) (fun M a k hk => by
        split at hk
        · rename_i e
          cases hk
          unfold befF; rw [if_pos e]
          exact addC_mem.2 (.inr rfl)
        · cases hk) S L
      obtain ⟨h1, h2⟩ := closeF_spec S f (n + 1) _ (by omega) hl fun j hj hjl => by
        by_cases hjn : j = n
        · subst hjn
          rw [getD_pre pre h.1]
          intro s hs hb
          exact hit s _ hs (by rw [if_pos hb])
        · have hjL : j < L.length := by omega
          rw [getD_pre pre hjL]
          intro s hs hb
          exact sub _ (hc j (by omega) hjL s hs hb)
      exact ⟨fun x hx => h1 x (sub x hx), h2⟩
    · rename_i h
      rw [if_neg h] at hl
      refine ⟨fun x h => h, fun x hx => ?_⟩
      obtain ⟨j, hj, rfl⟩ := List.getElem_of_mem hx
      have := hc j (by omega) hj
      rwa [List.getD_eq_getElem?_getD, List.getElem?_eq_getElem hj] at this
theorem closeF_nodup (S : List Cube) : ∀ (f n : Nat) (L : List Cube), L.Nodup → (closeF S f n L).Nodup
  | 0, n, L, h => h
  | f + 1, n, L, h => by
    unfold closeF
    split
    · exact closeF_nodup S f (n + 1) _ (foldl_nodup _ (befF_nodup _) S L h)
    · exact h
theorem closeF_all (S : List Cube) (p : Cube → Prop) (hp : ∀ x s, p x → p (beforeV x s)) (h0 : p ⟨0, 0⟩) : ∀ (f n : Nat) (L : List Cube), (∀ x ∈ L, p x) → ∀ x ∈ closeF S f n L, p x
  | 0, n, L, h => h
  | f + 1, n, L, h => by
    unfold closeF
    split
    · rename_i hn
      refine closeF_all S p hp h0 f (n + 1) _ (foldl_all _ p (fun M a hM x hx => ?_) S L h)
      unfold befF at hx
      split at hx
      · rcases addC_mem.1 hx with hx | rfl
        · exact hM x hx
        · exact hp _ _ (h _ (getD_in hn.1 _))
      · exact hM x hx
    · exact h
theorem ins_perm {α : Type} (key : α → Int) (e : α) : ∀ l : List α, (ins key e l).Perm (e :: l)
  | [] => .refl _
  | y :: t => by
    unfold ins
    split
    · exact .refl _
    · exact ((ins_perm key e t).cons y).trans (.swap e y t)
theorem isort_perm {α : Type} (key : α → Int) : ∀ l : List α, (isort key l).Perm l
  | [] => .refl _
  | e :: t => (ins_perm key e _).trans ((isort_perm key t).cons e)
theorem rules_sound {c : Config} (h : soundC c = 0) {r : Rule} (hr : r ∈ rulesA c.tb) : r.mt.sound = true ∧ r.st.sound = true := by
  obtain ⟨_, hl, hp⟩ := sound_parts h
  unfold rulesA at hr
  obtain ⟨t', ht', hr⟩ := List.mem_flatten.1 hr
  obtain ⟨t, ht, rfl⟩ := List.mem_map.1 ht'
  obtain ⟨l, hl', hr⟩ := List.mem_flatten.1 hr
  obtain ⟨n, hn, rfl⟩ := List.getElem_of_mem ht
  obtain ⟨i, hi', rfl⟩ := List.getElem_of_mem hl'
  obtain ⟨k, hk, rfl⟩ := List.getElem_of_mem hr
  have h1 := hp n hn
  have e1 : c.tb.getD n [] = c.tb[n] := by rw [List.getD_eq_getElem?_getD, List.getElem?_eq_getElem hn]; rfl
  rw [e1] at h1
  have e2 : c.tb[n].getD i [] = c.tb[n][i] := by rw [List.getD_eq_getElem?_getD, List.getElem?_eq_getElem hi']; rfl
  have e3 : c.tb[n][i].getD k r0 = c.tb[n][i][k] := by rw [List.getD_eq_getElem?_getD, List.getElem?_eq_getElem hk]; rfl
  have h2 := (soundTab_parts h1).2.2 i k hi' (by rw [e2]; exact hk)
  rw [e2, e3] at h2
  unfold soundR at h2
  simp only [Bool.and_eq_true] at h2
  first | exact ⟨h2.1.1.2, h2.1.2⟩ | exact ⟨h2.1.1.1.2, h2.1.1.2⟩
theorem mkC_ok (x y : BitVec 128) : (mkC x y).sound = true := mkC_sound x y
theorem sets_sound {c : Config} {v : Int} (h : predE c v = 0) : ∀ s ∈ setsL c v, s.sound = true := by
  have h0 := (predE_zero h).1
  unfold setsL
  rw [fold3_flat]
  refine foldl_alls setF (fun s => s.sound = true) _ (fun r hr L hL x hx => ?_) _ ?_
  · unfold setF at hx
    split at hx
    · exact hL x hx
    · rcases addC_mem.1 hx with hx | rfl
      · exact hL x hx
      · exact (rules_sound h0 hr).2
  · unfold setsE
    refine foldl_alls _ (fun s => s.sound = true) _ (fun s hs L hL x hx => ?_) _ (by simp)
    unfold stampF at hx
    rcases addC_mem.1 hx with hx | rfl
    · exact hL x hx
    · obtain ⟨tn, _, _, _, e⟩ := stampC_at h hs
      rw [e]; exact mkC_ok _ _
theorem asks_sound {c : Config} {v : Int} (h : predE c v = 0) : ∀ x ∈ asksL c v, x.sound = true := by
  have h0 := (predE_zero h).1
  unfold asksL
  refine closeF_all _ _ (fun x s _ => before_sound x s) (by decide) _ _ _ ?_
  rw [fold3_flat]
  refine foldl_alls matchF (fun s => s.sound = true) _ (fun r hr L hL x hx => ?_) _ (by simp)
  unfold matchF at hx
  rcases addC_mem.1 hx with hx | rfl
  · exact hL x hx
  · exact (rules_sound h0 hr).1
structure OfOK (c : Config) (v : Int) : Prop where
  pe : predE c v = 0
  len : (ofV c v).length ≤ 500
  nodup : (ofV c v).Nodup
  sound : ∀ x ∈ ofV c v, x.sound = true
  closed : ∀ x ∈ ofV c v, ClosedAt (setsL c v) (ofV c v) x
  has : ∀ r ∈ rulesA c.tb, r.mt ∈ ofV c v
theorem of_ok {c : Config} {v : Int} (h : ofE c v = 0) : OfOK c v := by
  have hp : predE c v = 0 := by
    unfold ofE at h
    split at h
    · contradiction
    · rename_i hh; simpa using hh
  have hl : (asksL c v).length ≤ 500 := by
    unfold ofE at h
    rw [if_neg (by simpa using hp)] at h
    split at h
    · exact absurd h (by decide)
    · omega
  have e : ofV c v = isort onesK (asksL c v) := by unfold ofV; rw [if_pos h]
  have pm := isort_perm onesK (asksL c v)
  have hl' := hl
  unfold asksL at hl'
  obtain ⟨k1, k2⟩ := closeF_spec (setsL c v) 501 0 (fold3 matchF c.tb []) (by omega) hl' (fun j hj => by omega)
  refine ⟨hp, by rw [e, isort_length]; exact hl, ?_, fun x hx => ?_, fun x hx s hs hb => ?_, fun r hr => ?_⟩
  · rw [e]
    refine pm.nodup_iff.2 (closeF_nodup _ _ _ _ ?_)
    rw [fold3_flat]
    exact foldl_nodup _ (fun L a hL => addC_nodup hL) _ _ (by simp)
  · rw [e] at hx
    exact asks_sound hp x (pm.mem_iff.1 hx)
  · rw [e] at hx ⊢
    exact pm.mem_iff.2 (k2 x (pm.mem_iff.1 hx) s hs hb)
  · rw [e]
    refine pm.mem_iff.2 (k1 _ ?_)
    rw [fold3_flat]
    exact foldl_hit matchF (fun L a x hx => addC_sub _ _ _ hx) (fun r => some r.mt) (fun L a k hk => by cases hk; exact addC_mem.2 (.inr rfl)) _ _ r _ hr rfl
end Go.Proofs.Ytbamjcnhmmgnlaa
set_option linter.unusedSimpArgs false
set_option linter.unusedVariables false
namespace Go.Proofs.Ytbamjcnhmmgnlaa
open Go Go.Proofs.Ytbamjcnhmmgnlaa.AL
def clA (L S : List Cube) (i : Fin (L.length + 1)) : ASt :=
  ⟨[(9, .p (.d (.v (.int .i64 (i.val : Int))))), (7, .p (.d (.sl 4 S.length (rowC S)))), (5, .p (.d (.sl 4 L.length (rowC L))))], []⟩
def clB (L S : List Cube) (i : Nat) (k : Fin (i + 1)) : ASt :=
  ⟨[(10, .p (.d (.v (.int .i64 (k.val : Int))))), (9, .p (.d (.v (.int .i64 (i : Int))))), (7, .p (.d (.sl 4 S.length (rowC S)))), (5, .p (.d (.sl 4 L.length (rowC L))))], []⟩
def clC (L S : List Cube) (i : Nat) (k : Fin (S.length + 1)) : ASt :=
  ⟨[(11, .p (.d (.v (.int .i64 (k.val : Int))))), (9, .p (.d (.v (.int .i64 (i : Int))))), (7, .p (.d (.sl 4 S.length (rowC S)))), (5, .p (.d (.sl 4 L.length (rowC L))))], []⟩
theorem nodup_ne {L : List Cube} (h : L.Nodup) {i k : Nat} (hk : k < i) (hi : i < L.length) : (L.getD i ⟨0, 0⟩ == L.getD k ⟨0, 0⟩) = false := by
  rw [beq_eq_false_iff_ne]
  intro e
  rw [List.getD_eq_getElem?_getD, List.getD_eq_getElem?_getD, List.getElem?_eq_getElem hi, List.getElem?_eq_getElem (by omega)] at e
  have := (List.pairwise_iff_getElem.1 h) k i (by omega) hi hk
  exact this (by simpa using e.symm)
set_option maxRecDepth 100000 in
set_option maxHeartbeats 4000000 in
theorem PredsClosed_c (c : Config) (v : Nat) (hc : c.small) (hv : v ≤ 255) : ACalls Try.prog 10 [.agg (configD c), .d (.v (.int .u8 (v : Int)))] (· = [.d (.v (.bool true))]) := by
  have ol := Of_c c v hc (by omega)
  have st := Sets_c c v hc (by omega)
  by_cases h : ofE c v = 0
  · have ok := of_ok h
    have sS := sets_sound ok.pe
    have hSl : (setsL c v).length ≤ 1000 := by
      have hb := sound_limits (predE_zero ok.pe).1
      have h1 := foldl_len (stampF c v) (fun L a => addC_len L _) (edgesT c.tp) []
      have h2 := fold3_len setF setF_len c.tb (setsE c v)
      unfold setsL
      unfold setsE at h2 ⊢
      simp at h1; omega
    obtain ⟨k1, k2, k3, k4, k5, k6⟩ := ok
    unfold setsV at st
    rw [k1, if_pos rfl] at st
    rw [h] at ol
    generalize ofV c v = L at ol k2 k3 k4 k5 k6
    generalize setsL c v = S at st sS hSl k5
    refine z9 Try.func10 rfl (by decide +kernel) (by rw [Try.ntmps10]; simp) ?_; rw [Try.ntmps10]; simp only [frOf]
    (repeat (first | refine q0 ?_ | refine q6 rfl ?_ | refine z6 rfl ?_ | refine x5 ?_ | (refine x4 fun K hK => ?_) | (refine j4 (by kernel_rfl) (by kernel_rfl) fun K hK => ?_) | ((first | refine q5 ?_ | refine z5 ?_ | ((first | refine j0 (hK _ ?_) | refine z4 (hK _ _ (z3 (by kernel_rfl)) ?_)); clear hK K)); (first | show AWP _ _ _ _ _ | ((try simp only [j5]); first | show loopQ _ _ _ _ _ _ | show cutQ _ _ _ _ | show AWP _ _ _ _ _))) | ((first | refine x8 rfl rfl rfl ?_ | refine j8 rfl rfl rfl ?_); simp (maxSteps := 2000000) (disch := omega) only [go_sem, seval, hd, cb, configD, z7]; (first | refine ⟨_, ol, ?_⟩ | refine ⟨_, st, ?_⟩ | refine ⟨_, awake13_c, ?_⟩)) | ((first | refine x6 [] rfl ?_ | refine j6 [] rfl ?_); simp (maxSteps := 2000000) (disch := omega) only [go_sem, seval, hd, cb, configD, z7]; (repeat (first | refine ⟨by omega, ?_⟩ | refine ⟨True.intro, ?_⟩)))))
    refine awp_loop (clA L S) (fun s => L.length - s.val) ⟨0, by omega⟩ ?_ (fun s => ?_)
    · unfold clA
      refine Weak.list ?_ ?_; (all_goals simp (disch := omega) only [AllF, AllL, q9, le_top, z8, exists_eq_left', Option.some.injEq, go_sem, seval, hd, cb, configD, z7]); (all_goals (repeat' (with_reducible apply And.intro))); (all_goals try (first | exact q7 rfl | (refine le_int ?_; omega) | (refine q7 ?_; simp; done)))
    obtain ⟨i, hi9⟩ := s
    unfold clA
    simp only []
    by_cases hn : i < L.length
    · have r1 := rowC_at L i
      have kx := k5 _ (getD_in hn ⟨0, 0⟩)
      have sx := k4 _ (getD_in hn ⟨0, 0⟩)
      have nd : ∀ k, k < i → (L.getD i ⟨0, 0⟩ == L.getD k ⟨0, 0⟩) = false := fun k hk => nodup_ne k3 hk hn
      generalize L.getD i ⟨0, 0⟩ = x at r1 kx sx nd
      (repeat (first | refine q0 ?_ | refine q6 rfl ?_ | refine z6 rfl ?_ | refine x5 ?_ | (refine x4 fun K hK => ?_) | (refine j4 (by kernel_rfl) (by kernel_rfl) fun K hK => ?_) | ((first | refine q5 ?_ | refine z5 ?_ | ((first | refine j0 (hK _ ?_) | refine z4 (hK _ _ (z3 (by kernel_rfl)) ?_)); clear hK K)); (first | show AWP _ _ _ _ _ | ((try simp only [j5]); first | show loopQ _ _ _ _ _ _ | show cutQ _ _ _ _ | show AWP _ _ _ _ _))) | ((first | refine x6 [] rfl ?_ | refine j6 [] rfl ?_); simp (maxSteps := 2000000) (disch := omega) only [go_sem, seval, hd, cb, configD, z7, r1]; (repeat (first | refine ⟨by omega, ?_⟩ | refine ⟨True.intro, ?_⟩)))))
      refine awp_loop (clB L S i) (fun s => i - s.val) ⟨0, by omega⟩ ?_ (fun s => ?_)
      · unfold clB
        refine Weak.list ?_ ?_; (all_goals simp (disch := omega) only [AllF, AllL, q9, le_top, z8, exists_eq_left', Option.some.injEq, go_sem, seval, hd, cb, configD, z7, r1]); (all_goals (repeat' (with_reducible apply And.intro))); (all_goals try (first | exact q7 rfl | (refine le_int ?_; omega) | (refine q7 ?_; simp; done)))
      obtain ⟨k, hk9⟩ := s
      unfold clB
      simp only []
      by_cases hm : k < i
      · have r2 := rowC_at L k
        have q := eqI_cb x (L.getD k ⟨0, 0⟩)
        rw [nd k hm] at q
        generalize L.getD k ⟨0, 0⟩ = y at r2 q
        (repeat (first | refine q0 ?_ | refine q6 rfl ?_ | refine z6 rfl ?_ | refine x5 ?_ | (refine x4 fun K hK => ?_) | (refine j4 (by kernel_rfl) (by kernel_rfl) fun K hK => ?_) | ((first | refine q5 ?_ | refine z5 ?_ | ((first | refine j0 (hK _ ?_) | refine z4 (hK _ _ (z3 (by kernel_rfl)) ?_)); clear hK K)); (first | show AWP _ _ _ _ _ | ((try simp only [j5]); first | show loopQ _ _ _ _ _ _ | show cutQ _ _ _ _ | show AWP _ _ _ _ _))) | ((first | refine x6 [] rfl ?_ | refine j6 [] rfl ?_); simp (maxSteps := 2000000) (disch := omega) only [go_sem, seval, hd, cb, configD, z7, r1, r2, q]; (repeat (first | refine ⟨by omega, ?_⟩ | refine ⟨True.intro, ?_⟩)))))
        refine ⟨⟨k + 1, by omega⟩, by simp only []; omega, ?_⟩
        refine Weak.list ?_ ?_; (all_goals simp (disch := omega) only [AllF, AllL, q9, le_top, z8, exists_eq_left', Option.some.injEq, go_sem, seval, hd, cb, configD, z7, r1, r2, q]); (all_goals (repeat' (with_reducible apply And.intro))); (all_goals try (first | exact q7 rfl | (refine le_int ?_; omega) | (refine q7 ?_; simp; done)))
      · have : k = i := by omega
        subst this
        (repeat (first | refine q0 ?_ | refine q6 rfl ?_ | refine z6 rfl ?_ | refine x5 ?_ | (refine x4 fun K hK => ?_) | (refine j4 (by kernel_rfl) (by kernel_rfl) fun K hK => ?_) | ((first | refine q5 ?_ | refine z5 ?_ | ((first | refine j0 (hK _ ?_) | refine z4 (hK _ _ (z3 (by kernel_rfl)) ?_)); clear hK K)); (first | show AWP _ _ _ _ _ | ((try simp only [j5]); first | show loopQ _ _ _ _ _ _ | show cutQ _ _ _ _ | show AWP _ _ _ _ _))) | ((first | refine x6 [] rfl ?_ | refine j6 [] rfl ?_); simp (maxSteps := 2000000) (disch := omega) only [go_sem, seval, hd, cb, configD, z7, r1]; (repeat (first | refine ⟨by omega, ?_⟩ | refine ⟨True.intro, ?_⟩)))))
        refine awp_loop (clC L S k) (fun s => S.length - s.val) ⟨0, by omega⟩ ?_ (fun s => ?_)
        · unfold clC
          refine Weak.list ?_ ?_; (all_goals simp (disch := omega) only [AllF, AllL, q9, le_top, z8, exists_eq_left', Option.some.injEq, go_sem, seval, hd, cb, configD, z7, r1]); (all_goals (repeat' (with_reducible apply And.intro))); (all_goals try (first | exact q7 rfl | (refine le_int ?_; omega) | (refine q7 ?_; simp; done)))
        obtain ⟨j, hj9⟩ := s
        unfold clC
        simp only []
        by_cases ho : j < S.length
        · have r3 := rowC_at S j
          have ss := sS _ (getD_in ho ⟨0, 0⟩)
          have cl := kx _ (getD_in ho ⟨0, 0⟩)
          generalize S.getD j ⟨0, 0⟩ = s at r3 ss cl
          have bf := beforeR_c x s sx ss
          cases hb : beforeO x s
          · rw [hb] at bf
            generalize beforeV x s = y at bf
            (repeat (first | refine q0 ?_ | refine q6 rfl ?_ | refine z6 rfl ?_ | refine x5 ?_ | (refine x4 fun K hK => ?_) | (refine j4 (by kernel_rfl) (by kernel_rfl) fun K hK => ?_) | ((first | refine q5 ?_ | refine z5 ?_ | ((first | refine j0 (hK _ ?_) | refine z4 (hK _ _ (z3 (by kernel_rfl)) ?_)); clear hK K)); (first | show AWP _ _ _ _ _ | ((try simp only [j5]); first | show loopQ _ _ _ _ _ _ | show cutQ _ _ _ _ | show AWP _ _ _ _ _))) | ((first | refine x8 rfl rfl rfl ?_ | refine j8 rfl rfl rfl ?_); simp (maxSteps := 2000000) (disch := omega) only [go_sem, seval, hd, cb, configD, z7, r1, r3]; (first | refine ⟨_, bf, ?_⟩)) | ((first | refine x6 [] rfl ?_ | refine j6 [] rfl ?_); simp (maxSteps := 2000000) (disch := omega) only [go_sem, seval, hd, cb, configD, z7, r1, r3]; (repeat (first | refine ⟨by omega, ?_⟩ | refine ⟨True.intro, ?_⟩)))))
            refine ⟨⟨j + 1, by omega⟩, by simp only []; omega, ?_⟩
            refine Weak.list ?_ ?_; (all_goals simp (disch := omega) only [AllF, AllL, q9, le_top, z8, exists_eq_left', Option.some.injEq, go_sem, seval, hd, cb, configD, z7, r1, r3]); (all_goals (repeat' (with_reducible apply And.intro))); (all_goals try (first | exact q7 rfl | (refine le_int ?_; omega) | (refine q7 ?_; simp; done)))
          · rw [hb] at bf
            have hin := cl hb
            generalize beforeV x s = y at bf hin
            have ad := addR_c L y (by omega)
            have e : addC L y = L := by unfold addC; rw [if_pos (by simpa using hin)]
            rw [e] at ad
            have q : ((L.length : Int) != (L.length : Int)) = false := by simp
            (repeat (first | refine q0 ?_ | refine q6 rfl ?_ | refine z6 rfl ?_ | refine x5 ?_ | (refine x4 fun K hK => ?_) | (refine j4 (by kernel_rfl) (by kernel_rfl) fun K hK => ?_) | ((first | refine q5 ?_ | refine z5 ?_ | ((first | refine j0 (hK _ ?_) | refine z4 (hK _ _ (z3 (by kernel_rfl)) ?_)); clear hK K)); (first | show AWP _ _ _ _ _ | ((try simp only [j5]); first | show loopQ _ _ _ _ _ _ | show cutQ _ _ _ _ | show AWP _ _ _ _ _))) | ((first | refine x8 rfl rfl rfl ?_ | refine j8 rfl rfl rfl ?_); simp (maxSteps := 2000000) (disch := omega) only [go_sem, seval, hd, cb, configD, z7, r1, r3, q]; (first | refine ⟨_, bf, ?_⟩ | refine ⟨_, ad, ?_⟩)) | ((first | refine x6 [] rfl ?_ | refine j6 [] rfl ?_); simp (maxSteps := 2000000) (disch := omega) only [go_sem, seval, hd, cb, configD, z7, r1, r3, q]; (repeat (first | refine ⟨by omega, ?_⟩ | refine ⟨True.intro, ?_⟩)))))
            refine ⟨⟨j + 1, by omega⟩, by simp only []; omega, ?_⟩
            refine Weak.list ?_ ?_; (all_goals simp (disch := omega) only [AllF, AllL, q9, le_top, z8, exists_eq_left', Option.some.injEq, go_sem, seval, hd, cb, configD, z7, r1, r3, q]); (all_goals (repeat' (with_reducible apply And.intro))); (all_goals try (first | exact q7 rfl | (refine le_int ?_; omega) | (refine q7 ?_; simp; done)))
        · have : j = S.length := by omega
          subst this
          (repeat (first | refine q0 ?_ | refine q6 rfl ?_ | refine z6 rfl ?_ | refine x5 ?_ | (refine x4 fun K hK => ?_) | (refine j4 (by kernel_rfl) (by kernel_rfl) fun K hK => ?_) | ((first | refine q5 ?_ | refine z5 ?_ | ((first | refine j0 (hK _ ?_) | refine z4 (hK _ _ (z3 (by kernel_rfl)) ?_)); clear hK K)); (first | show AWP _ _ _ _ _ | ((try simp only [j5]); first | show loopQ _ _ _ _ _ _ | show cutQ _ _ _ _ | show AWP _ _ _ _ _))) | ((first | refine x6 [] rfl ?_ | refine j6 [] rfl ?_); simp (maxSteps := 2000000) (disch := omega) only [go_sem, seval, hd, cb, configD, z7, r1]; (repeat (first | refine ⟨by omega, ?_⟩ | refine ⟨True.intro, ?_⟩)))))
          refine ⟨⟨k + 1, by omega⟩, by simp only []; omega, ?_⟩
          refine Weak.list ?_ ?_; (all_goals simp (disch := omega) only [AllF, AllL, q9, le_top, z8, exists_eq_left', Option.some.injEq, go_sem, seval, hd, cb, configD, z7, r1]); (all_goals (repeat' (with_reducible apply And.intro))); (all_goals try (first | exact q7 rfl | (refine le_int ?_; omega) | (refine q7 ?_; simp; done)))
    · have : i = L.length := by omega
      subst this
      (repeat (first | refine q0 ?_ | refine q6 rfl ?_ | refine z6 rfl ?_ | refine x5 ?_ | (refine x4 fun K hK => ?_) | (refine j4 (by kernel_rfl) (by kernel_rfl) fun K hK => ?_) | ((first | refine q5 ?_ | refine z5 ?_ | ((first | refine j0 (hK _ ?_) | refine z4 (hK _ _ (z3 (by kernel_rfl)) ?_)); clear hK K)); (first | show AWP _ _ _ _ _ | ((try simp only [j5]); first | show loopQ _ _ _ _ _ _ | show cutQ _ _ _ _ | show AWP _ _ _ _ _))) | ((first | refine x6 [] rfl ?_ | refine j6 [] rfl ?_); simp (maxSteps := 2000000) (disch := omega) only [go_sem, seval, hd, cb, configD, z7]; (repeat (first | refine ⟨by omega, ?_⟩ | refine ⟨True.intro, ?_⟩)))))
      refine q8 ⟨_, ?_, rfl⟩; rw [Try.results10]; simp (disch := omega) only [ResVars, ResVar, ptrLoc, go_sem, seval, hd, cb, configD, z7]
  · have q : (ofE c v != 0) = true := ine_tt h
    generalize ofE c v = e at *
    generalize ofV c v = L at *
    generalize setsV c v = S at *
    generalize predE c v = p at *
    refine z9 Try.func10 rfl (by decide +kernel) (by rw [Try.ntmps10]; simp) ?_; rw [Try.ntmps10]; simp only [frOf]
    (repeat (first | refine q0 ?_ | refine q6 rfl ?_ | refine z6 rfl ?_ | refine x5 ?_ | (refine x4 fun K hK => ?_) | (refine j4 (by kernel_rfl) (by kernel_rfl) fun K hK => ?_) | ((first | refine q5 ?_ | refine z5 ?_ | ((first | refine j0 (hK _ ?_) | refine z4 (hK _ _ (z3 (by kernel_rfl)) ?_)); clear hK K)); (first | show AWP _ _ _ _ _ | ((try simp only [j5]); first | show loopQ _ _ _ _ _ _ | show cutQ _ _ _ _ | show AWP _ _ _ _ _))) | ((first | refine x8 rfl rfl rfl ?_ | refine j8 rfl rfl rfl ?_); simp (maxSteps := 2000000) (disch := omega) only [go_sem, seval, hd, cb, configD, z7, q]; (first | refine ⟨_, ol, ?_⟩ | refine ⟨_, st, ?_⟩ | refine ⟨_, awake13_c, ?_⟩)) | ((first | refine x6 [] rfl ?_ | refine j6 [] rfl ?_); simp (maxSteps := 2000000) (disch := omega) only [go_sem, seval, hd, cb, configD, z7, q]; (repeat (first | refine ⟨by omega, ?_⟩ | refine ⟨True.intro, ?_⟩)))))
    refine q8 ⟨_, ?_, rfl⟩; rw [Try.results10]; simp (disch := omega) only [ResVars, ResVar, ptrLoc, go_sem, seval, hd, cb, configD, z7, q]
end Go.Proofs.Ytbamjcnhmmgnlaa
