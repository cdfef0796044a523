/- Part 6 of a proof: lemmas beneath the theorem that the last text bears. Conditions: none. -/
import Derived.Test.YtemcdefpihkfpaaGreatKSlimTablese
set_option linter.unusedSimpArgs false
set_option linter.unusedVariables false
namespace Go.Proofs.YtemcdefpihkfpaaGreat
open Go Go.Proofs.YtemcdefpihkfpaaGreat.AL
def errL : List (List Rule) → Int
 | [] => 0
 | l :: r => if (tabR l).2 = 0 then errL r else (tabR l).2
def mapL (l : List (List Rule)) : List (List Rule) := l.map fun x => (tabR x).1
def errT : List (List (List Rule)) → Int
 | [] => 0
 | t :: r => if errL t = 0 then errT r else errL t
def cfg0 : Config := ⟨[], ⟨0, [], []⟩, []⟩
def slimC (c : Config) : Config × Int := if soundC c = 0 then (if errT c.tb = 0 then (⟨c.tp, c.po, c.tb.map mapL⟩, 0) else (cfg0, errT c.tb)) else (cfg0, soundC c)
theorem j175 {α : Type} (l : List α) (k : Nat) : (l.eraseIdx k).length ≤ l.length := by
 rw [List.length_eraseIdx]; split <;> omega
theorem z113 : ∀ (k : Nat) (l : List Rule), (tabGo k l).1.length ≤ l.length
 | 0, l => Nat.le_refl _
 |k + 1, l => by
  unfold tabGo
  split
  ·refine Nat.le_trans (z113 k _) ?_
   split
   ·exact j175 _ _
   ·exact Nat.le_refl _
  ·simp
theorem x113 (l : List Rule) : (tabR l).1.length ≤ l.length := by
 unfold tabR
 split
 ·exact z113 _ _
 ·simp
theorem q176 : (tabR []).1 = [] := List.eq_nil_of_length_eq_zero (by have := x113 []; simpa using this)
theorem z176 : mapL [] = [] := rfl
theorem x176 (l : List (List Rule)) : (mapL l).length = l.length := by unfold mapL; simp
theorem mapL_at (l : List (List Rule)) (i : Nat) : (mapL l).getD i [] = (tabR (l.getD i [])).1 := by
 unfold mapL
 rw [List.getD_eq_getElem?_getD, List.getD_eq_getElem?_getD, List.getElem?_map]
 cases l[i]? <;> simp [q176]
theorem mapT_at (t : List (List (List Rule))) (i : Nat) : (t.map mapL).getD i [] = mapL (t.getD i []) := by
 rw [List.getD_eq_getElem?_getD, List.getD_eq_getElem?_getD, List.getElem?_map]
 cases t[i]? <;> simp [z176]
def mixF (x : List (List Rule)) (j i : Nat) : List Rule := if i < j then (tabR (x.getD i [])).1 else x.getD i []
def rowMix (x : List (List Rule)) (j : Nat) : Nat → List Dat := fun i => [.sl 12 (mixF x j i).length (rowR (mixF x j i))]
def tabSl (t : List (List (List Rule))) (k i : Nat) : Nat → List Dat := rowMix (t.getD i []) (if i < k then (t.getD i []).length else 0)
theorem j176 (x : List (List Rule)) (i : Nat) : rowMix x 0 i = rowRR x i := rfl
theorem q177 (x : List (List Rule)) (i : Nat) (hi : i < x.length) : rowMix x x.length i = rowRR (mapL x) i := by
 unfold rowMix mixF rowRR
 rw [if_pos hi, mapL_at]
theorem z177 (x : List (List Rule)) (j i : Nat) (f : Nat → List Dat) (hf : f i = rowMix x j i) : putEl f j 0 [.sl 12 (tabR (x.getD j [])).1.length (rowR (tabR (x.getD j [])).1)] i = if i = j then [Dat.sl 12 (tabR (x.getD j [])).1.length (rowR (tabR (x.getD j [])).1)] ++ (f j).drop 1 else rowMix x j i := by
 unfold putEl
 split
 ·simp
 ·exact hf
structure SlcS (c : Config) (s : Nat → Value) (R : Int) where
 k : Nat
 M : Nat → Option Ent
 hk : k ≤ c.tb.length
 hR : errT (c.tb.drop k) = R
 h : ∀ i, i < c.tb.length → HoldR M 59 1 (tabLen c.tb i) (tabSl c.tb k i) (s i)
structure SljS (x : List (List Rule)) (M : Nat → Option Ent) (b cap : Nat) (Q : Int) where
 j : Nat
 M' : Nat → Option Ent
 f : Nat → List Dat
 hj : j ≤ x.length
 hM : M' b = some ⟨59, 1, cap, x.length, f⟩
 hf : ∀ i, i < x.length → f i = rowMix x j i
 ho : ∀ b', b' ≠ b → M' b' = M b'
 hQ : errL (x.drop j) = Q
def zCells : List AV := [.p (.d (.v (.slice none 0 0))), .p (.d (.v (.int .i64 0))), .p (.d (.v (.slice none 0 0))), .p (.d (.v (.slice none 0 0))), .p (.d (.v (.slice none 0 0)))]
def cCells (c : Config) (s : Nat → Value) : List AV := [.p (.d (.sl 1 c.tp.length (rowPP c.tp))), .p (.d (.v (.int .i64 c.po.tn))), .p (.d (.sl 2 c.po.peers.length (rowA c.po.peers))), .p (.d (.sl 3 c.po.ways.length (rowW c.po.ways))), .p (.d (.sl 1 c.tb.length (rowVal s)))]
def slcI (c : Config) (s : Nat → Value) (R : Int) (x : SlcS c s R) : ASt :=
 ⟨[(22, .p (.d (.v (.int .i64 (x.k : Int))))), (21, .p (.d (.v (.int .i64 (c.tb.length : Int))))), (20, .p (.d (.sl 1 c.tb.length (rowVal s)))), (5, .loc 5 0), (2, .loc 2 0)], [(5, .cells 84 (cCells c s)), (2, .cells 84 zCells), (1999, .raw x.M)]⟩
def sljI (c : Config) (s : Nat → Value) (k : Nat) (x : List (List Rule)) (M : Nat → Option Ent) (b cap cc : Nat) (Q : Int) (z : SljS x M b cap Q) : ASt :=
 ⟨[(28, .p (.d (.v (.int .i64 (z.j : Int))))), (27, .p (.d (.v (.int .i64 (x.length : Int))))), (7, .p (.d (.v (.slice (some ⟨b, 0, none⟩) x.length cc)))), (22, .p (.d (.v (.int .i64 (k : Int))))), (21, .p (.d (.v (.int .i64 (c.tb.length : Int))))), (20, .p (.d (.sl 1 c.tb.length (rowVal s)))), (5, .loc 5 0), (2, .loc 2 0)],
  [(5, .cells 84 (cCells c s)), (2, .cells 84 zCells), (1999, .raw z.M')]⟩
def zC : List AV := [.p (.d (.sl 1 0 (rowPP []))), .p (.d (.v (.int .i64 0))), .p (.d (.sl 2 0 (rowA []))), .p (.d (.sl 3 0 (rowW []))), .p (.d (.sl 1 0 (rowTT [])))]
theorem j113 : LesD zCells zC := .cons j22 (.cons (Le.refl _) (.cons j22 (.cons j22 (.cons j22 .nil))))
theorem errL_or (l : List (List Rule)) (j : Nat) (h : j < l.length) : errL (l.drop j) = if (tabR (l.getD j [])).2 = 0 then errL (l.drop (j + 1)) else (tabR (l.getD j [])).2 := by
 rw [x26 l j [] h]; rfl
theorem errT_or (t : List (List (List Rule))) (j : Nat) (h : j < t.length) : errT (t.drop j) = if errL (t.getD j []) = 0 then errT (t.drop (j + 1)) else errL (t.getD j []) := by
 rw [x26 t j [] h]; rfl
theorem x177 (t : List (List (List Rule))) (k i : Nat) (hne : i ≠ k) : tabSl t (k + 1) i = tabSl t k i := by
 unfold tabSl
 by_cases h : i < k
 ·rw [if_pos h, if_pos (by omega)]
 ·rw [if_neg h, if_neg (by omega)]
set_option maxRecDepth 100000 in
set_option maxHeartbeats 8000000 in
theorem j177 (c : Config) (hc : c.small) : ACalls Tryz.prog 34 [.agg (configD c)] (· = [.agg (configD (slimC c).1), .d (.v (.int .i64 (slimC c).2))]) := by
 have ks := q174 c hc
 have z5 := hc.tb
 have hat := hc.at
 unfold slimC
 by_cases hs : soundC c = 0
 ·rw [if_pos hs]
  rw [hs] at ks
  obtain ⟨R, hR⟩ : ∃ R, errT c.tb = R := ⟨_, rfl⟩
  rw [hR]
  refine z12 Tryz.func34 rfl (by decide +kernel) (by rw [Tryz.ntmps34]; simp) ?_; rw [Tryz.ntmps34]; simp only [frOf]
  refine x109 rfl ?_
  (repeat ((fail_if_success (show AWP _ _ (.region 4 _ _) _ _)); first | apply j0 | refine q8 rfl ?_ | refine z8 rfl ?_ | apply x7 | (refine j4 fun K hK => ?_) | (refine x5 fun K hK => ?_) | ((first | apply j6 | apply z7 | ((first | refine x4 (hK _ ?_) | refine x6 (hK _ _ j5 ?_)); clear hK K)); (first | show AWP _ _ _ _ _ | ((try simp only [j7]); first | show loopQ _ _ _ _ _ _ | show cutQ _ _ _ _ | show AWP _ _ _ _ _))) | ((first | refine z11 rfl rfl rfl ?_ | refine x11 rfl rfl rfl ?_); simp (disch := omega) only [go_sem, seval, cfgS, zCells, cCells, configD]; (first | refine ⟨_, ks, ?_⟩)) | ((first | refine x8 [] rfl ?_ | refine j8 [] rfl ?_); simp (disch := omega) only [go_sem, seval, cfgS, zCells, cCells, configD]; (repeat (first | refine ⟨by omega, ?_⟩ | refine ⟨True.intro, ?_⟩)))))
  refine j4 fun K hK => ?_
  iterate 1 ((first | refine q30 [] rfl rfl ?_ | refine z30 [] rfl rfl ?_ | refine q28 rfl rfl ?_ | refine z28 rfl rfl ?_); simp (disch := omega) only [go_sem, seval, cfgS, zCells, cCells, configD]; (repeat (first | refine ⟨by omega, ?_⟩ | refine ⟨True.intro, ?_⟩)))
  (refine j17 (z17 [(1999, 1999)] rfl rfl rfl rfl rfl rfl (z175 c hc noM) (fun _ => rfl) (q14 (by repeat (first | exact trivial | refine ⟨rfl, ?_⟩)) (by kernel_rfl)) (fun _ => (q14 (by repeat (first | exact trivial | refine ⟨rfl, ?_⟩)) (by kernel_rfl)))) ?_); rintro ⟨⟨s, M⟩, hM, hg, hsp⟩; simp (disch := omega) only [go_sem, seval, cfgS, zCells, cCells, configD]
  (repeat (first | apply j0 | refine q8 rfl ?_ | refine z8 rfl ?_ | apply x7 | (refine j4 fun K hK => ?_) | (refine x5 fun K hK => ?_) | ((first | apply j6 | apply z7 | ((first | refine x4 (hK _ ?_) | refine x6 (hK _ _ j5 ?_)); clear hK K)); (first | show AWP _ _ _ _ _ | ((try simp only [j7]); first | show loopQ _ _ _ _ _ _ | show cutQ _ _ _ _ | show AWP _ _ _ _ _))) | ((first | refine x8 [] rfl ?_ | refine j8 [] rfl ?_); simp (disch := omega) only [go_sem, seval, cfgS, zCells, cCells, configD]; (repeat (first | refine ⟨by omega, ?_⟩ | refine ⟨True.intro, ?_⟩)))))
  refine q13 (slcI c s R) (fun x => c.tb.length - x.k) ⟨0, M, by omega, hR, fun i hi => ?_⟩ ?_ (fun x => ?_)
  ·unfold tabSl; rw [if_neg (by omega)]; exact hM i hi
  ·unfold slcI
   refine Weak.list ?_ ?_; (all_goals simp (disch := omega) only [AllF, AllL, x10, j10, z10, exists_eq_left', go_sem, seval, cfgS, zCells, cCells, configD]); (all_goals (repeat' (with_reducible apply And.intro))); (all_goals try (first | exact q9 rfl | (refine q11 ?_; omega) | (refine q9 ?_; simp; done)))
  obtain ⟨k, M, hk, hR, hH⟩ := x
  unfold slcI
  simp only [] at hk hR hH ⊢
  by_cases hkl : k < c.tb.length
  ·rw [errT_or c.tb k hkl] at hR
   have hHk := hH k hkl
   have hb := hat k
   have eK : tabSl c.tb k k = rowRR (c.tb.getD k []) := by unfold tabSl; rw [if_neg (by omega)]; rfl
   rw [eK] at hHk
   have r1 := j168 s k
   have nextH : ∀ M', HoldR M' 59 1 (tabLen c.tb k) (rowMix (c.tb.getD k []) (c.tb.getD k []).length) (s k) → (∀ i, i < c.tb.length → i ≠ k → HoldR M' 59 1 (tabLen c.tb i) (tabSl c.tb k i) (s i)) →
     ∀ i, i < c.tb.length → HoldR M' 59 1 (tabLen c.tb i) (tabSl c.tb (k + 1) i) (s i) := by
    intro M' h1 h2 i hi
    by_cases hik : i = k
    ·subst hik
     unfold tabSl
     rw [if_pos (Nat.lt_succ_self _)]
     exact h1
    ·rw [x177 _ _ _ hik]; exact h2 i hi hik
   have hsepk : ∀ b m c1, s k = .slice (some ⟨b, 0, none⟩) m c1 → 0 < tabLen c.tb k → ∀ i, i < c.tb.length → i ≠ k → ∀ m' c', s i = .slice (some ⟨b, 0, none⟩) m' c' → tabLen c.tb i = 0 := by
    intro b m c1 e1 h0 i hi hik m' c' e2
    by_cases h : 0 < tabLen c.tb i
    ·exact absurd e2 (hsp k i hkl hi (fun e => hik e.symm) h0 h b m c1 m' c' e1)
    ·omega
   unfold tabLen at hHk hsepk nextH
   generalize c.tb.getD k [] = x at hHk hb nextH hR hsepk
   have hx := hb.1
   rcases hHk with ⟨h0, aa, cc, hv⟩ | ⟨b, cc, cap, f, hv, hcc, hMb, hf⟩
   ·have hx0 := List.eq_nil_of_length_eq_zero h0
    subst hx0
    rw [hv] at r1
    (repeat (first | apply j0 | refine q8 rfl ?_ | refine z8 rfl ?_ | apply x7 | (refine j4 fun K hK => ?_) | (refine x5 fun K hK => ?_) | ((first | apply j6 | apply z7 | ((first | refine x4 (hK _ ?_) | refine x6 (hK _ _ j5 ?_)); clear hK K)); (first | show AWP _ _ _ _ _ | ((try simp only [j7]); first | show loopQ _ _ _ _ _ _ | show cutQ _ _ _ _ | show AWP _ _ _ _ _))) | ((first | refine x8 [] rfl ?_ | refine j8 [] rfl ?_); simp (disch := omega) only [go_sem, seval, cfgS, zCells, cCells, configD, r1]; (repeat (first | refine ⟨by omega, ?_⟩ | refine ⟨True.intro, ?_⟩)))))
    refine q13 (fun _ : Unit => ⟨[(28, .p (.d (.v (.int .i64 0)))), (27, .p (.d (.v (.int .i64 0)))), (22, .p (.d (.v (.int .i64 (k : Int))))), (21, .p (.d (.v (.int .i64 (c.tb.length : Int))))), (20, .p (.d (.sl 1 c.tb.length (rowVal s)))), (5, .loc 5 0), (2, .loc 2 0)], [(5, .cells 84 (cCells c s)), (2, .cells 84 zCells), (1999, .raw M)]⟩) (fun _ => 0) () ?_ (fun _ => ?_)
    ·refine Weak.list ?_ ?_; (all_goals simp (disch := omega) only [AllF, AllL, x10, j10, z10, exists_eq_left', go_sem, seval, cfgS, zCells, cCells, configD, r1]); (all_goals (repeat' (with_reducible apply And.intro))); (all_goals try (first | exact q9 rfl | (refine q11 ?_; omega) | (refine q9 ?_; simp; done)))
    (repeat (first | apply j0 | refine q8 rfl ?_ | refine z8 rfl ?_ | apply x7 | (refine j4 fun K hK => ?_) | (refine x5 fun K hK => ?_) | ((first | apply j6 | apply z7 | ((first | refine x4 (hK _ ?_) | refine x6 (hK _ _ j5 ?_)); clear hK K)); (first | show AWP _ _ _ _ _ | ((try simp only [j7]); first | show loopQ _ _ _ _ _ _ | show cutQ _ _ _ _ | show AWP _ _ _ _ _))) | ((first | refine x8 [] rfl ?_ | refine j8 [] rfl ?_); simp (disch := omega) only [go_sem, seval, cfgS, zCells, cCells, configD, r1]; (repeat (first | refine ⟨by omega, ?_⟩ | refine ⟨True.intro, ?_⟩)))))
    refine ⟨⟨k + 1, M, by omega, hR, nextH M ?_ ?_⟩, by simp only []; omega, ?_⟩
    ·rw [hv]; exact .inl ⟨rfl, _, _, rfl⟩
    ·intro i hi _; exact hH i hi
    ·refine Weak.list ?_ ?_; (all_goals simp (disch := omega) only [AllF, AllL, x10, j10, z10, exists_eq_left', go_sem, seval, cfgS, zCells, cCells, configD, r1]); (all_goals (repeat' (with_reducible apply And.intro))); (all_goals try (first | exact q9 rfl | (refine q11 ?_; omega) | (refine q9 ?_; simp; done)))
   ·rw [hv] at r1
    (repeat (first | apply j0 | refine q8 rfl ?_ | refine z8 rfl ?_ | apply x7 | (refine j4 fun K hK => ?_) | (refine x5 fun K hK => ?_) | ((first | apply j6 | apply z7 | ((first | refine x4 (hK _ ?_) | refine x6 (hK _ _ j5 ?_)); clear hK K)); (first | show AWP _ _ _ _ _ | ((try simp only [j7]); first | show loopQ _ _ _ _ _ _ | show cutQ _ _ _ _ | show AWP _ _ _ _ _))) | ((first | refine x8 [] rfl ?_ | refine j8 [] rfl ?_); simp (disch := omega) only [go_sem, seval, cfgS, zCells, cCells, configD, r1]; (repeat (first | refine ⟨by omega, ?_⟩ | refine ⟨True.intro, ?_⟩)))))
    obtain ⟨Q, hQ⟩ : ∃ Q, errL x = Q := ⟨_, rfl⟩
    rw [hQ] at hR
    refine q13 (sljI c s k x M b cap cc Q) (fun z => x.length - z.j) ⟨0, M, f, Nat.zero_le _, hMb, fun i hi => by rw [j176]; exact hf i hi, fun _ _ => rfl, hQ⟩ ?_ (fun z => ?_)
    ·unfold sljI
     refine Weak.list ?_ ?_; (all_goals simp (disch := omega) only [AllF, AllL, x10, j10, z10, exists_eq_left', go_sem, seval, cfgS, zCells, cCells, configD, r1]); (all_goals (repeat' (with_reducible apply And.intro))); (all_goals try (first | exact q9 rfl | (refine q11 ?_; omega) | (refine q9 ?_; simp; done)))
    obtain ⟨j, M', f', hj, hM', hf', ho, hQ'⟩ := z
    unfold sljI
    simp only [] at hj hM' hf' ho hQ' ⊢
    by_cases hjl : j < x.length
    ·rw [errL_or x j hjl] at hQ'
     have hl1 := x39 hb j
     have r2 : f' j = [.sl 12 (x.getD j []).length (rowR (x.getD j []))] := by
      rw [hf' j hjl]
      unfold rowMix mixF
      rw [if_neg (by omega)]
     have hput : ∀ i, i < x.length → putEl f' j 0 [.sl 12 (tabR (x.getD j [])).1.length (rowR (tabR (x.getD j [])).1)] i = rowMix x (j + 1) i := by
      intro i hi
      rw [z177 x j i f' (hf' i hi)]
      split
      ·rename_i e; subst e
       rw [r2]
       unfold rowMix mixF
       rw [if_pos (by omega)]; rfl
      ·rename_i hne
       unfold rowMix mixF
       by_cases h : i < j
       ·rw [if_pos h, if_pos (by omega)]
       ·rw [if_neg h, if_neg (by omega)]
     have kt := q75 (x.getD j []) (by omega)
     generalize tabR (x.getD j []) = u at kt hput hQ'
     generalize x.getD j [] = y at kt r2 hl1
     obtain ⟨u, e⟩ := u
     simp only [] at kt hput hQ'
     by_cases he : e = 0
     ·subst he
      rw [if_pos rfl] at hQ'
      (repeat (first | apply j0 | refine q8 rfl ?_ | refine z8 rfl ?_ | apply x7 | (refine j4 fun K hK => ?_) | (refine x5 fun K hK => ?_) | ((first | apply j6 | apply z7 | ((first | refine x4 (hK _ ?_) | refine x6 (hK _ _ j5 ?_)); clear hK K)); (first | show AWP _ _ _ _ _ | ((try simp only [j7]); first | show loopQ _ _ _ _ _ _ | show cutQ _ _ _ _ | show AWP _ _ _ _ _))) | ((first | refine z11 rfl rfl rfl ?_ | refine x11 rfl rfl rfl ?_); simp (disch := omega) only [go_sem, seval, cfgS, zCells, cCells, configD, r2, hM']; (first | refine ⟨_, kt, ?_⟩)) | ((first | refine x8 [] rfl ?_ | refine j8 [] rfl ?_); simp (disch := omega) only [go_sem, seval, cfgS, zCells, cCells, configD, r2, hM']; (repeat (first | refine ⟨by omega, ?_⟩ | refine ⟨True.intro, ?_⟩)))))
      refine ⟨⟨j + 1, setM M' b (some ⟨59, 1, cap, x.length, putEl f' j 0 [.sl 12 u.length (rowR u)]⟩), putEl f' j 0 [.sl 12 u.length (rowR u)], by omega, j25 _ _ _, hput, fun b' hb' => by rw [x40 _ _ hb']; exact ho b' hb', hQ'⟩, by simp only []; omega, ?_⟩
      refine Weak.list ?_ ?_; (all_goals simp (disch := omega) only [AllF, AllL, x10, j10, z10, exists_eq_left', go_sem, seval, cfgS, zCells, cCells, configD, r2, hM']); (all_goals (repeat' (with_reducible apply And.intro))); (all_goals try (first | exact q9 rfl | (refine q11 ?_; omega) | (refine q9 ?_; simp; done)))
     ·rw [if_neg he] at hQ'
      subst hQ'
      rw [if_neg he] at hR
      subst hR
      rw [if_neg he]
      have q := q15 he
      (repeat (first | apply j0 | refine q8 rfl ?_ | refine z8 rfl ?_ | apply x7 | (refine j4 fun K hK => ?_) | (refine x5 fun K hK => ?_) | ((first | apply j6 | apply z7 | ((first | refine x4 (hK _ ?_) | refine x6 (hK _ _ j5 ?_)); clear hK K)); (first | show AWP _ _ _ _ _ | ((try simp only [j7]); first | show loopQ _ _ _ _ _ _ | show cutQ _ _ _ _ | show AWP _ _ _ _ _))) | ((first | refine z11 rfl rfl rfl ?_ | refine x11 rfl rfl rfl ?_); simp (disch := omega) only [go_sem, seval, cfgS, zCells, cCells, configD, r2, hM', q]; (first | refine ⟨_, kt, ?_⟩)) | ((first | refine x8 [] rfl ?_ | refine j8 [] rfl ?_); simp (disch := omega) only [go_sem, seval, cfgS, zCells, cCells, configD, r2, hM', q]; (repeat (first | refine ⟨by omega, ?_⟩ | refine ⟨True.intro, ?_⟩)))))
      refine q18 (A' := ⟨[(3, .p (.d (.v (.int .i64 e)))), (2, .loc 2 0)], [(2, .cells 84 zC)]⟩) ?_ ?_
      ·refine Weak.list ?_ ?_; (all_goals simp (disch := omega) only [AllF, AllL, x10, j10, z10, exists_eq_left', go_sem, seval, cfgS, zCells, cCells, configD, r2, hM', q]); (all_goals (repeat' (with_reducible apply And.intro))); (all_goals try (first | exact q9 rfl | (refine q11 ?_; omega) | (refine q9 ?_; simp; done)))
       exact x97 j113
      unfold zC
      refine q10 ⟨_, ?_, rfl⟩; rw [Tryz.results34]; simp (disch := omega) only [ResVars, ResVar, ptrLoc, go_sem, seval, cfgS, zCells, cCells, configD, r2, hM', q]
      rfl
    ·have : j = x.length := by omega
     subst this
     rw [List.drop_length] at hQ'
     have hQ' : (0 : Int) = Q := hQ'
     subst hQ'
     rw [if_pos rfl] at hR
     (repeat (first | apply j0 | refine q8 rfl ?_ | refine z8 rfl ?_ | apply x7 | (refine j4 fun K hK => ?_) | (refine x5 fun K hK => ?_) | ((first | apply j6 | apply z7 | ((first | refine x4 (hK _ ?_) | refine x6 (hK _ _ j5 ?_)); clear hK K)); (first | show AWP _ _ _ _ _ | ((try simp only [j7]); first | show loopQ _ _ _ _ _ _ | show cutQ _ _ _ _ | show AWP _ _ _ _ _))) | ((first | refine x8 [] rfl ?_ | refine j8 [] rfl ?_); simp (disch := omega) only [go_sem, seval, cfgS, zCells, cCells, configD, hM']; (repeat (first | refine ⟨by omega, ?_⟩ | refine ⟨True.intro, ?_⟩)))))
     refine ⟨⟨k + 1, M', by omega, hR, nextH M' ?_ ?_⟩, by simp only []; omega, ?_⟩
     ·rw [hv]; exact .inr ⟨b, cc, cap, f', rfl, hcc, hM', hf'⟩
     ·intro i hi hik
      rcases hH i hi with h | ⟨b', c', cap', f'', e1, e2, e3, e4⟩
      ·exact .inl h
      ·by_cases hbb : b' = b
       ·subst hbb
        have h1 : tabLen c.tb i = 0 := by
         by_cases hx0 : 0 < x.length
         ·exact hsepk b' _ _ hv hx0 i hi hik _ _ e1
         ·rw [hMb] at e3
          injection e3 with e3
          injection e3 with _ _ _ e3 _
          omega
        exact .inl ⟨h1, _, _, by rw [e1, h1]⟩
       ·exact .inr ⟨b', c', cap', f'', e1, e2, by rw [ho b' hbb]; exact e3, e4⟩
     ·refine Weak.list ?_ ?_; (all_goals simp (disch := omega) only [AllF, AllL, x10, j10, z10, exists_eq_left', go_sem, seval, cfgS, zCells, cCells, configD, hM']); (all_goals (repeat' (with_reducible apply And.intro))); (all_goals try (first | exact q9 rfl | (refine q11 ?_; omega) | (refine q9 ?_; simp; done)))
  ·have : k = c.tb.length := by omega
   subst this
   rw [List.drop_length] at hR
   have hR : (0 : Int) = R := hR
   subst hR
   rw [if_pos rfl]
   (repeat ((fail_if_success (show AWP _ _ (.region 17 _ _) _ _)); first | apply j0 | refine q8 rfl ?_ | refine z8 rfl ?_ | apply x7 | (refine j4 fun K hK => ?_) | (refine x5 fun K hK => ?_) | ((first | apply j6 | apply z7 | ((first | refine x4 (hK _ ?_) | refine x6 (hK _ _ j5 ?_)); clear hK K)); (first | show AWP _ _ _ _ _ | ((try simp only [j7]); first | show loopQ _ _ _ _ _ _ | show cutQ _ _ _ _ | show AWP _ _ _ _ _))) | ((first | refine x8 [] rfl ?_ | refine j8 [] rfl ?_); simp (disch := omega) only [go_sem, seval, cfgS, zCells, cCells, configD]; (repeat (first | refine ⟨by omega, ?_⟩ | refine ⟨True.intro, ?_⟩)))))
   refine j4 fun K hK => ?_
   iterate 1 ((first | refine q30 [] rfl rfl ?_ | refine z30 [] rfl rfl ?_ | refine q28 rfl rfl ?_ | refine z28 rfl rfl ?_); simp (disch := omega) only [go_sem, seval, cfgS, zCells, cCells, configD]; (repeat (first | refine ⟨by omega, ?_⟩ | refine ⟨True.intro, ?_⟩)))
   have hTs : RdD M (.sl 1 c.tb.length (rowVal s)) (.sl 1 c.tb.length (rowTT (c.tb.map mapL))) := by
    refine RowsM.rd (e := 59) (sz := 1) (len := tabLen c.tb) (f := fun i => rowRR (mapL (c.tb.getD i []))) (fun i hi => ?_) (fun i hi => ?_)
    ·have h := hH i hi
     unfold tabSl at h
     rw [if_pos hi] at h
     rcases h with h | ⟨b, cc, cap, f, e1, e2, e3, e4⟩
     ·exact .inl h
     ·exact .inr ⟨b, cc, cap, f, e1, e2, e3, fun j hj => by rw [e4 j hj]; exact q177 _ j hj⟩
    ·unfold rowTT
     rw [mapT_at, x176]; rfl
   refine j86 (Weak.melt _ M 49 _ (.p (.agg [.sl 1 c.tp.length (rowPP c.tp), .v (.int .i64 c.po.tn), .sl 2 c.po.peers.length (rowA c.po.peers), .sl 3 c.po.ways.length (rowW c.po.ways), .sl 1 c.tb.length (rowTT (c.tb.map mapL))])) rfl rfl (.p (.agg _ _ rfl fun j x y hx hy => ?_))) ?_
   ·match j, hx, hy with
    | 0, hx, hy => cases hx; cases hy; exact .refl _
    | 1, hx, hy => cases hx; cases hy; exact .refl _
    | 2, hx, hy => cases hx; cases hy; exact .refl _
    | 3, hx, hy => cases hx; cases hy; exact .refl _
    | 4, hx, hy => cases hx; cases hy; exact hTs
    | j + 5, hx, hy => cases hx
   (repeat (first | apply j0 | refine q8 rfl ?_ | refine z8 rfl ?_ | apply x7 | (refine j4 fun K hK => ?_) | (refine x5 fun K hK => ?_) | ((first | apply j6 | apply z7 | ((first | refine x4 (hK _ ?_) | refine x6 (hK _ _ j5 ?_)); clear hK K)); (first | show AWP _ _ _ _ _ | ((try simp only [j7]); first | show loopQ _ _ _ _ _ _ | show cutQ _ _ _ _ | show AWP _ _ _ _ _))) | ((first | refine x8 [] rfl ?_ | refine j8 [] rfl ?_); simp (disch := omega) only [go_sem, seval, cfgS, zCells, cCells, configD, q22]; (repeat (first | refine ⟨by omega, ?_⟩ | refine ⟨True.intro, ?_⟩)))))
   refine q10 ⟨_, ?_, rfl⟩; rw [Tryz.results34]; simp (disch := omega) only [ResVars, ResVar, ptrLoc, go_sem, seval, cfgS, zCells, cCells, configD, q22]
   rw [List.length_map]
 ·rw [if_neg hs]
  have q : (soundC c != 0) = true := q15 hs
  generalize soundC c = e at *
  refine z12 Tryz.func34 rfl (by decide +kernel) (by rw [Tryz.ntmps34]; simp) ?_; rw [Tryz.ntmps34]; simp only [frOf]
  (repeat (first | apply j0 | refine q8 rfl ?_ | refine z8 rfl ?_ | apply x7 | (refine j4 fun K hK => ?_) | (refine x5 fun K hK => ?_) | ((first | apply j6 | apply z7 | ((first | refine x4 (hK _ ?_) | refine x6 (hK _ _ j5 ?_)); clear hK K)); (first | show AWP _ _ _ _ _ | ((try simp only [j7]); first | show loopQ _ _ _ _ _ _ | show cutQ _ _ _ _ | show AWP _ _ _ _ _))) | ((first | refine z11 rfl rfl rfl ?_ | refine x11 rfl rfl rfl ?_); simp (disch := omega) only [go_sem, seval, cfgS, zCells, cCells, configD, q]; (first | refine ⟨_, ks, ?_⟩)) | ((first | refine x8 [] rfl ?_ | refine j8 [] rfl ?_); simp (disch := omega) only [go_sem, seval, cfgS, zCells, cCells, configD, q]; (repeat (first | refine ⟨by omega, ?_⟩ | refine ⟨True.intro, ?_⟩)))))
  refine q18 (A' := ⟨[(3, .p (.d (.v (.int .i64 e)))), (2, .loc 2 0)], [(2, .cells 84 zC)]⟩) ?_ ?_
  ·refine Weak.list ?_ ?_; (all_goals simp (disch := omega) only [AllF, AllL, x10, j10, z10, exists_eq_left', go_sem, seval, cfgS, zCells, cCells, configD, q]); (all_goals (repeat' (with_reducible apply And.intro))); (all_goals try (first | exact q9 rfl | (refine q11 ?_; omega) | (refine q9 ?_; simp; done)))
   exact x97 j113
  unfold zC
  refine q10 ⟨_, ?_, rfl⟩; rw [Tryz.results34]; simp (disch := omega) only [ResVars, ResVar, ptrLoc, go_sem, seval, cfgS, zCells, cCells, configD, q]
  rfl
end Go.Proofs.YtemcdefpihkfpaaGreat
namespace Go.Proofs.YtemcdefpihkfpaaGreat
open Go.Proofs.YtemcdefpihkfpaaGreat.AL
def leanTI (L : List Cube) (s : {s : Nat × List Cube // s.1 ≤ L.length ∧ s.2 = leanTo L s.1}) : ASt :=
 ⟨[(4, .p (.d (.v (.int .i64 (s.val.1 : Int))))), (3, .gr 7 s.val.2.length 1 s.val.2.length (rowT s.val.2)), (0, .p (.d (.sl 1 L.length (rowT L))))], [(7, .grow 9 1 s.val.2.length s.val.2.length)]⟩
def leanTJ (L : List Cube) (i : Nat) (out : List Cube) (s : {s : Nat × Bool // s.1 ≤ L.length ∧ s.2 = (List.range s.1).any (spareBy L i)}) : ASt :=
 ⟨[(6, .p (.d (.v (.int .i64 (s.val.1 : Int))))), (5, .p (.d (.v (.bool s.val.2)))), (4, .p (.d (.v (.int .i64 (i : Int))))), (3, .gr 7 out.length 1 out.length (rowT out)), (0, .p (.d (.sl 1 L.length (rowT L))))], [(7, .grow 9 1 out.length out.length)]⟩
set_option maxRecDepth 100000 in
set_option maxHeartbeats 2000000 in
theorem q114 (L : List Cube) (hs : ∀ k ∈ L, k.sound = true) (hl : L.length ≤ 1099511627776) : ACalls Tryz.prog 20 [.d (.sl 1 L.length (rowT L))] (· = [.d (.sl 1 (leanP L).length (rowT (leanP L)))]) := by
 refine z12 Tryz.func20 rfl (by decide +kernel) (by rw [Tryz.ntmps20]; simp) ?_; rw [Tryz.ntmps20]; simp only [frOf]
 (repeat (first | apply j0 | refine q8 rfl ?_ | refine z8 rfl ?_ | apply x7 | (refine j4 fun K hK => ?_) | (refine x5 fun K hK => ?_) | ((first | apply j6 | apply z7 | ((first | refine x4 (hK _ ?_) | refine x6 (hK _ _ j5 ?_)); clear hK K)); (first | show AWP _ _ _ _ _ | ((try simp only [j7]); first | show loopQ _ _ _ _ _ _ | show cutQ _ _ _ _ | show AWP _ _ _ _ _))) | ((first | refine x8 [7] rfl ?_ | refine j8 [7] rfl ?_); simp (disch := omega) only [go_sem, seval, hd, cb, x9, j9]; (repeat (first | refine ⟨by omega, ?_⟩ | refine ⟨True.intro, ?_⟩)))))
 refine q13 (leanTI L) (fun s => L.length - s.val.1) ⟨(0, []), by simp, by simp [leanTo]⟩ ?_ (fun s => ?_)
 ·unfold leanTI
  refine Weak.list ?_ ?_; (all_goals simp (disch := omega) only [AllF, AllL, x10, j10, z10, exists_eq_left', go_sem, seval, hd, cb, x9, j9]); (all_goals (repeat' (with_reducible apply And.intro))); (all_goals try (first | exact q9 rfl | (refine q11 ?_; omega) | (refine q9 ?_; simp; done)))
  exact j20 rfl rfl (fun i hi => by omega)
 obtain ⟨⟨i, out⟩, hi, he⟩ := s
 unfold leanTI
 simp only [] at hi he
 have ho := z58 L i
 rw [← he] at ho
 by_cases hn : i < L.length
 ·have rn := j38 L i
  have sn := hs _ (j18 hn ⟨0, 0⟩)
  have st := q100 L i
  rw [← he] at st
  obtain ⟨N, hN⟩ : ∃ N, L.getD i ⟨0, 0⟩ = N := ⟨_, rfl⟩
  rw [hN] at rn sn st
  (repeat (first | apply j0 | refine q8 rfl ?_ | refine z8 rfl ?_ | apply x7 | (refine j4 fun K hK => ?_) | (refine x5 fun K hK => ?_) | ((first | apply j6 | apply z7 | ((first | refine x4 (hK _ ?_) | refine x6 (hK _ _ j5 ?_)); clear hK K)); (first | show AWP _ _ _ _ _ | ((try simp only [j7]); first | show loopQ _ _ _ _ _ _ | show cutQ _ _ _ _ | show AWP _ _ _ _ _))) | ((first | refine x8 [7] rfl ?_ | refine j8 [7] rfl ?_); simp (disch := omega) only [go_sem, seval, hd, cb, x9, j9]; (repeat (first | refine ⟨by omega, ?_⟩ | refine ⟨True.intro, ?_⟩)))))
  refine q13 (leanTJ L i out) (fun s => L.length - s.val.1) ⟨(0, false), by simp, by simp⟩ ?_ (fun s => ?_)
  ·unfold leanTJ
   refine Weak.list ?_ ?_; (all_goals simp (disch := omega) only [AllF, AllL, x10, j10, z10, exists_eq_left', go_sem, seval, hd, cb, x9, j9]); (all_goals (repeat' (with_reducible apply And.intro))); (all_goals try (first | exact q9 rfl | (refine q11 ?_; omega) | (refine q9 ?_; simp; done)))
  obtain ⟨⟨j, sp⟩, hj, he2⟩ := s
  unfold leanTJ
  simp only [] at hj he2
  by_cases hm : j < L.length ∧ sp = false
  ·obtain ⟨hm, rfl⟩ := hm
   have rj := j38 L j
   have sj := hs _ (j18 hm ⟨0, 0⟩)
   have sb : spareBy L i j = (j != i && (withinC N (L.getD j ⟨0, 0⟩) && (N != L.getD j ⟨0, 0⟩ || decide (j < i)))) := by unfold spareBy; rw [hN]
   have ar := x146 (spareBy L i) j
   rw [← he2, Bool.false_or] at ar
   generalize L.getD j ⟨0, 0⟩ = K at rj sj sb
   have wt := j158 N K
   have hwo : withinT N K = withinC N K := by unfold withinC withinT; rw [sn, sj]; rfl
   have tb := txt_beq sn sj
   have nb : (N != K) = !(N == K) := rfl
   rw [hwo] at wt
   rw [nb] at sb
   generalize txt N = tN at rn wt tb
   generalize txt K = tK at rj wt tb
   by_cases hji : j = i
   ·subst hji
    have h0 : spareBy L j j = false := by rw [sb]; simp
    rw [h0] at ar
    have q : ((j : Int) != (j : Int)) = false := by simp
    (repeat (first | apply j0 | refine q8 rfl ?_ | refine z8 rfl ?_ | apply x7 | (refine j4 fun K hK => ?_) | (refine x5 fun K hK => ?_) | ((first | apply j6 | apply z7 | ((first | refine x4 (hK _ ?_) | refine x6 (hK _ _ j5 ?_)); clear hK K)); (first | show AWP _ _ _ _ _ | ((try simp only [j7]); first | show loopQ _ _ _ _ _ _ | show cutQ _ _ _ _ | show AWP _ _ _ _ _))) | ((first | refine z11 rfl rfl rfl ?_ | refine x11 rfl rfl rfl ?_); simp (disch := omega) only [go_sem, seval, hd, cb, x9, j9, q]; (first | refine ⟨_, wt, ?_⟩)) | ((first | refine x8 [7] rfl ?_ | refine j8 [7] rfl ?_); simp (disch := omega) only [go_sem, seval, hd, cb, x9, j9, q]; (repeat (first | refine ⟨by omega, ?_⟩ | refine ⟨True.intro, ?_⟩)))))
    refine ⟨⟨(j + 1, false), by simp only []; omega, ar.symm⟩, by simp only []; omega, ?_⟩
    refine Weak.list ?_ ?_; (all_goals simp (disch := omega) only [AllF, AllL, x10, j10, z10, exists_eq_left', go_sem, seval, hd, cb, x9, j9, q]); (all_goals (repeat' (with_reducible apply And.intro))); (all_goals try (first | exact q9 rfl | (refine q11 ?_; omega) | (refine q9 ?_; simp; done)))
   ·have q : ((j : Int) != (i : Int)) = true := by simp; omega
    have q2 : (j != i) = true := by simpa using hji
    rw [q2, Bool.true_and] at sb
    cases hw : withinC N K
    ·rw [hw] at wt sb
     rw [sb] at ar
     (repeat (first | apply j0 | refine q8 rfl ?_ | refine z8 rfl ?_ | apply x7 | (refine j4 fun K hK => ?_) | (refine x5 fun K hK => ?_) | ((first | apply j6 | apply z7 | ((first | refine x4 (hK _ ?_) | refine x6 (hK _ _ j5 ?_)); clear hK K)); (first | show AWP _ _ _ _ _ | ((try simp only [j7]); first | show loopQ _ _ _ _ _ _ | show cutQ _ _ _ _ | show AWP _ _ _ _ _))) | ((first | refine z11 rfl rfl rfl ?_ | refine x11 rfl rfl rfl ?_); simp (disch := omega) only [go_sem, seval, hd, cb, x9, j9, rn, rj, q]; (first | refine ⟨_, wt, ?_⟩)) | ((first | refine x8 [7] rfl ?_ | refine j8 [7] rfl ?_); simp (disch := omega) only [go_sem, seval, hd, cb, x9, j9, rn, rj, q]; (repeat (first | refine ⟨by omega, ?_⟩ | refine ⟨True.intro, ?_⟩)))))
     refine ⟨⟨(j + 1, false), by simp only []; omega, ar.symm⟩, by simp only []; omega, ?_⟩
     refine Weak.list ?_ ?_; (all_goals simp (disch := omega) only [AllF, AllL, x10, j10, z10, exists_eq_left', go_sem, seval, hd, cb, x9, j9, rn, rj, q]); (all_goals (repeat' (with_reducible apply And.intro))); (all_goals try (first | exact q9 rfl | (refine q11 ?_; omega) | (refine q9 ?_; simp; done)))
    ·rw [hw] at wt
     rw [hw, Bool.true_and] at sb
     cases hq : (N == K)
     ·rw [hq] at tb sb
      rw [sb] at ar
      (repeat (first | apply j0 | refine q8 rfl ?_ | refine z8 rfl ?_ | apply x7 | (refine j4 fun K hK => ?_) | (refine x5 fun K hK => ?_) | ((first | apply j6 | apply z7 | ((first | refine x4 (hK _ ?_) | refine x6 (hK _ _ j5 ?_)); clear hK K)); (first | show AWP _ _ _ _ _ | ((try simp only [j7]); first | show loopQ _ _ _ _ _ _ | show cutQ _ _ _ _ | show AWP _ _ _ _ _))) | ((first | refine z11 rfl rfl rfl ?_ | refine x11 rfl rfl rfl ?_); simp (disch := omega) only [go_sem, seval, hd, cb, x9, j9, rn, rj, q, tb]; (first | refine ⟨_, wt, ?_⟩)) | ((first | refine x8 [7] rfl ?_ | refine j8 [7] rfl ?_); simp (disch := omega) only [go_sem, seval, hd, cb, x9, j9, rn, rj, q, tb]; (repeat (first | refine ⟨by omega, ?_⟩ | refine ⟨True.intro, ?_⟩)))))
      refine ⟨⟨(j + 1, true), by simp only []; omega, ar.symm⟩, by simp only []; omega, ?_⟩
      refine Weak.list ?_ ?_; (all_goals simp (disch := omega) only [AllF, AllL, x10, j10, z10, exists_eq_left', go_sem, seval, hd, cb, x9, j9, rn, rj, q, tb]); (all_goals (repeat' (with_reducible apply And.intro))); (all_goals try (first | exact q9 rfl | (refine q11 ?_; omega) | (refine q9 ?_; simp; done)))
     ·rw [hq] at tb sb
      by_cases hl2 : j < i
      ·rw [decide_eq_true hl2] at sb
       rw [sb] at ar
       (repeat (first | apply j0 | refine q8 rfl ?_ | refine z8 rfl ?_ | apply x7 | (refine j4 fun K hK => ?_) | (refine x5 fun K hK => ?_) | ((first | apply j6 | apply z7 | ((first | refine x4 (hK _ ?_) | refine x6 (hK _ _ j5 ?_)); clear hK K)); (first | show AWP _ _ _ _ _ | ((try simp only [j7]); first | show loopQ _ _ _ _ _ _ | show cutQ _ _ _ _ | show AWP _ _ _ _ _))) | ((first | refine z11 rfl rfl rfl ?_ | refine x11 rfl rfl rfl ?_); simp (disch := omega) only [go_sem, seval, hd, cb, x9, j9, rn, rj, q, tb]; (first | refine ⟨_, wt, ?_⟩)) | ((first | refine x8 [7] rfl ?_ | refine j8 [7] rfl ?_); simp (disch := omega) only [go_sem, seval, hd, cb, x9, j9, rn, rj, q, tb]; (repeat (first | refine ⟨by omega, ?_⟩ | refine ⟨True.intro, ?_⟩)))))
       refine ⟨⟨(j + 1, true), by simp only []; omega, ar.symm⟩, by simp only []; omega, ?_⟩
       refine Weak.list ?_ ?_; (all_goals simp (disch := omega) only [AllF, AllL, x10, j10, z10, exists_eq_left', go_sem, seval, hd, cb, x9, j9, rn, rj, q, tb]); (all_goals (repeat' (with_reducible apply And.intro))); (all_goals try (first | exact q9 rfl | (refine q11 ?_; omega) | (refine q9 ?_; simp; done)))
      ·rw [decide_eq_false hl2] at sb
       rw [sb] at ar
       (repeat (first | apply j0 | refine q8 rfl ?_ | refine z8 rfl ?_ | apply x7 | (refine j4 fun K hK => ?_) | (refine x5 fun K hK => ?_) | ((first | apply j6 | apply z7 | ((first | refine x4 (hK _ ?_) | refine x6 (hK _ _ j5 ?_)); clear hK K)); (first | show AWP _ _ _ _ _ | ((try simp only [j7]); first | show loopQ _ _ _ _ _ _ | show cutQ _ _ _ _ | show AWP _ _ _ _ _))) | ((first | refine z11 rfl rfl rfl ?_ | refine x11 rfl rfl rfl ?_); simp (disch := omega) only [go_sem, seval, hd, cb, x9, j9, rn, rj, q, tb]; (first | refine ⟨_, wt, ?_⟩)) | ((first | refine x8 [7] rfl ?_ | refine j8 [7] rfl ?_); simp (disch := omega) only [go_sem, seval, hd, cb, x9, j9, rn, rj, q, tb]; (repeat (first | refine ⟨by omega, ?_⟩ | refine ⟨True.intro, ?_⟩)))))
       refine ⟨⟨(j + 1, false), by simp only []; omega, ar.symm⟩, by simp only []; omega, ?_⟩
       refine Weak.list ?_ ?_; (all_goals simp (disch := omega) only [AllF, AllL, x10, j10, z10, exists_eq_left', go_sem, seval, hd, cb, x9, j9, rn, rj, q, tb]); (all_goals (repeat' (with_reducible apply And.intro))); (all_goals try (first | exact q9 rfl | (refine q11 ?_; omega) | (refine q9 ?_; simp; done)))
  ·have hsp : sp = spareP L i := by
    unfold spareP
    rw [hN, sn]
    simp only [Bool.not_true, Bool.or_false]
    by_cases hjl : j = L.length
    ·rw [he2, hjl]
    ·have : sp = true := by cases hsp : sp; exact absurd ⟨by omega, hsp⟩ hm; rfl
     rw [this] at he2 ⊢
     symm
     obtain ⟨k, hk, hk2⟩ := List.any_eq_true.1 he2.symm
     have := List.mem_range.1 hk
     exact List.any_eq_true.2 ⟨k, List.mem_range.2 (by omega), hk2⟩
   rw [← hsp] at st
   cases sp
   ·have hjl : j = L.length := by
     refine Classical.byContradiction fun hne => hm ⟨by omega, rfl⟩
    subst hjl
    simp only [Bool.false_eq_true, if_false] at st
    (repeat (first | apply j0 | refine q8 rfl ?_ | refine z8 rfl ?_ | apply x7 | (refine j4 fun K hK => ?_) | (refine x5 fun K hK => ?_) | ((first | apply j6 | apply z7 | ((first | refine x4 (hK _ ?_) | refine x6 (hK _ _ j5 ?_)); clear hK K)); (first | show AWP _ _ _ _ _ | ((try simp only [j7]); first | show loopQ _ _ _ _ _ _ | show cutQ _ _ _ _ | show AWP _ _ _ _ _))) | ((first | refine x8 [7] rfl ?_ | refine j8 [7] rfl ?_); simp (disch := omega) only [go_sem, seval, hd, cb, x9, j9, rn]; (repeat (first | refine ⟨by omega, ?_⟩ | refine ⟨True.intro, ?_⟩)))))
    refine ⟨⟨(i + 1, out ++ [N]), by simp only []; omega, st.symm⟩, by simp only []; omega, ?_⟩
    refine Weak.list ?_ ?_; (all_goals simp (disch := omega) only [AllF, AllL, x10, j10, z10, exists_eq_left', go_sem, seval, hd, cb, x9, j9, rn]); (all_goals (repeat' (with_reducible apply And.intro))); (all_goals try (first | exact q9 rfl | (refine q11 ?_; omega) | (refine q9 ?_; simp; done)))
    ·exact j20 (by simp) (by simp) (fun k hk => j103 out N k hk)
    ·exact z33 (by simp) (by simp)
   ·simp only [if_true, List.append_nil] at st
    by_cases hjl : j < L.length
    all_goals
     (repeat (first | apply j0 | refine q8 rfl ?_ | refine z8 rfl ?_ | apply x7 | (refine j4 fun K hK => ?_) | (refine x5 fun K hK => ?_) | ((first | apply j6 | apply z7 | ((first | refine x4 (hK _ ?_) | refine x6 (hK _ _ j5 ?_)); clear hK K)); (first | show AWP _ _ _ _ _ | ((try simp only [j7]); first | show loopQ _ _ _ _ _ _ | show cutQ _ _ _ _ | show AWP _ _ _ _ _))) | ((first | refine x8 [7] rfl ?_ | refine j8 [7] rfl ?_); simp (disch := omega) only [go_sem, seval, hd, cb, x9, j9, rn]; (repeat (first | refine ⟨by omega, ?_⟩ | refine ⟨True.intro, ?_⟩)))))
     refine ⟨⟨(i + 1, out), by simp only []; omega, st.symm⟩, by simp only []; omega, ?_⟩
     refine Weak.list ?_ ?_; (all_goals simp (disch := omega) only [AllF, AllL, x10, j10, z10, exists_eq_left', go_sem, seval, hd, cb, x9, j9, rn]); (all_goals (repeat' (with_reducible apply And.intro))); (all_goals try (first | exact q9 rfl | (refine q11 ?_; omega) | (refine q9 ?_; simp; done)))
 ·have hil : i = L.length := by omega
  subst hil
  (repeat (first | apply j0 | refine q8 rfl ?_ | refine z8 rfl ?_ | apply x7 | (refine j4 fun K hK => ?_) | (refine x5 fun K hK => ?_) | ((first | apply j6 | apply z7 | ((first | refine x4 (hK _ ?_) | refine x6 (hK _ _ j5 ?_)); clear hK K)); (first | show AWP _ _ _ _ _ | ((try simp only [j7]); first | show loopQ _ _ _ _ _ _ | show cutQ _ _ _ _ | show AWP _ _ _ _ _))) | ((first | refine x8 [7] rfl ?_ | refine j8 [7] rfl ?_); simp (disch := omega) only [go_sem, seval, hd, cb, x9, j9]; (repeat (first | refine ⟨by omega, ?_⟩ | refine ⟨True.intro, ?_⟩)))))
  refine x14 2 _ (.p (.d (.sl 1 (leanP L).length (rowT (leanP L))))) rfl ?_ ?_
  ·unfold leanP
   rw [← he]
   exact q20 rfl (fun _ _ => rfl)
  refine q10 ⟨_, ?_, rfl⟩; rw [Tryz.results20]; simp (disch := omega) only [ResVars, ResVar, ptrLoc, go_sem, seval, hd, cb, x9, j9]
theorem z114 {k : Cube} (h : k.sound = true) : k.v &&& k.c = k.v := by
 have := (z18 k).1 h
 apply BitVec.eq_of_getLsbD_eq
 intro i hlt
 rw [BitVec.getLsbD_and]
 cases hv : k.v.getLsbD i
 ·rfl
 ·rw [this i hlt hv]; rfl
theorem q178 {a b : Cube} (h : meetO a b = true) : (meetV a b).sound = true := by
 unfold meetO at h
 simp only [Bool.and_eq_true] at h
 have ha := (z18 a).1 h.1.1; have hb := (z18 b).1 h.1.2
 unfold meetV meetO
 rw [h.1.1, h.1.2, h.2]
 refine (z18 _).2 fun i hi hv => ?_
 simp only [Bool.and_self, if_true, BitVec.getLsbD_or, Bool.or_eq_true] at hv ⊢
 exact hv.imp (ha i hi) (hb i hi)
theorem z178 {a b : Cube} (ha : a.sound = true) (hb : b.sound = true) : meetT a b = ⟨a.v ||| b.v, a.c ||| b.c⟩ := by
 unfold meetT; rw [z114 ha, z114 hb]
theorem x178 {x y : Cube} (hx : x.sound = true) (hy : y.sound = true) : meetO x y = (apart x y == 0) := by unfold meetO; rw [hx, hy]; rfl
theorem j178 {x y : Cube} (hx : x.sound = true) (hy : y.sound = true) (h : meetO x y = true) : meetT x y = meetV x y := by
 rw [z178 hx hy]; unfold meetV; rw [h]; rfl
def meetTI (a b : List Cube) (s : {s : Nat × List Cube // s.1 ≤ a.length ∧ s.2 = (a.take s.1).flatMap (meetRow b) ∧ s.2.length ≤ s.1 * b.length}) : ASt :=
 ⟨[(6, .p (.d (.v (.int .i64 (s.val.1 : Int))))), (5, .gr 10 s.val.2.length 1 s.val.2.length (rowT s.val.2)), (1, .p (.d (.sl 1 b.length (rowT b)))), (0, .p (.d (.sl 1 a.length (rowT a))))],
  [(10, .grow 9 1 s.val.2.length s.val.2.length)]⟩
def meetTJ (a b : List Cube) (x : Cube) (i : Nat) (pre : List Cube) (s : {s : Nat × List Cube // s.1 ≤ b.length ∧ s.2 = pre ++ (b.take s.1).filterMap (meetOne x) ∧ s.2.length ≤ pre.length + s.1}) : ASt :=
 ⟨[(7, .p (.d (.v (.int .i64 (s.val.1 : Int))))), (6, .p (.d (.v (.int .i64 (i : Int))))), (5, .gr 10 s.val.2.length 1 s.val.2.length (rowT s.val.2)), (1, .p (.d (.sl 1 b.length (rowT b)))), (0, .p (.d (.sl 1 a.length (rowT a))))],
  [(10, .grow 9 1 s.val.2.length s.val.2.length)]⟩
set_option maxRecDepth 100000 in
set_option maxHeartbeats 2000000 in
theorem q179 (a b : List Cube) (sa : ∀ k ∈ a, k.sound = true) (sb : ∀ k ∈ b, k.sound = true) (ha : a.length ≤ 200) (hb : b.length ≤ 200) : ACalls Tryz.prog 21 [.d (.sl 1 a.length (rowT a)), .d (.sl 1 b.length (rowT b))]
  (· = [.d (.sl 1 (meetsP a b).length (rowT (meetsP a b)))]) := by
 refine z12 Tryz.func21 rfl (by decide +kernel) (by rw [Tryz.ntmps21]; simp) ?_; rw [Tryz.ntmps21]; simp only [frOf]
 (repeat (first | apply j0 | refine q8 rfl ?_ | refine z8 rfl ?_ | apply x7 | (refine j4 fun K hK => ?_) | (refine x5 fun K hK => ?_) | ((first | apply j6 | apply z7 | ((first | refine x4 (hK _ ?_) | refine x6 (hK _ _ j5 ?_)); clear hK K)); (first | show AWP _ _ _ _ _ | ((try simp only [j7]); first | show loopQ _ _ _ _ _ _ | show cutQ _ _ _ _ | show AWP _ _ _ _ _))) | ((first | refine x8 [10] rfl ?_ | refine j8 [10] rfl ?_); simp (disch := omega) only [go_sem, seval, hd, cb, x9, j9]; (repeat (first | refine ⟨by omega, ?_⟩ | refine ⟨True.intro, ?_⟩)))))
 refine q13 (meetTI a b) (fun s => a.length - s.val.1) ⟨(0, []), by simp, by simp, by simp⟩ ?_ (fun s => ?_)
 ·unfold meetTI
  refine Weak.list ?_ ?_; (all_goals simp (disch := omega) only [AllF, AllL, x10, j10, z10, exists_eq_left', go_sem, seval, hd, cb, x9, j9]); (all_goals (repeat' (with_reducible apply And.intro))); (all_goals try (first | exact q9 rfl | (refine q11 ?_; omega) | (refine q9 ?_; simp; done)))
  exact j20 rfl rfl (fun i hi => by omega)
 obtain ⟨⟨i, out⟩, hi, he, ho⟩ := s
 unfold meetTI
 simp only [] at hi he ho
 have hio : i * b.length ≤ 200 * 200 := Nat.mul_le_mul (by omega) hb
 by_cases hn : i < a.length
 ·have r1 := j38 a i
  have st := j36 a i ⟨0, 0⟩ hn
  have sX := sa _ (j18 hn ⟨0, 0⟩)
  generalize a.getD i ⟨0, 0⟩ = X at r1 st sX
  (repeat (first | apply j0 | refine q8 rfl ?_ | refine z8 rfl ?_ | apply x7 | (refine j4 fun K hK => ?_) | (refine x5 fun K hK => ?_) | ((first | apply j6 | apply z7 | ((first | refine x4 (hK _ ?_) | refine x6 (hK _ _ j5 ?_)); clear hK K)); (first | show AWP _ _ _ _ _ | ((try simp only [j7]); first | show loopQ _ _ _ _ _ _ | show cutQ _ _ _ _ | show AWP _ _ _ _ _))) | ((first | refine x8 [10] rfl ?_ | refine j8 [10] rfl ?_); simp (disch := omega) only [go_sem, seval, hd, cb, x9, j9]; (repeat (first | refine ⟨by omega, ?_⟩ | refine ⟨True.intro, ?_⟩)))))
  refine q13 (meetTJ a b X i out) (fun s => b.length - s.val.1) ⟨(0, out), by simp, by simp, by simp⟩ ?_ (fun s => ?_)
  ·unfold meetTJ
   refine Weak.list ?_ ?_; (all_goals simp (disch := omega) only [AllF, AllL, x10, j10, z10, exists_eq_left', go_sem, seval, hd, cb, x9, j9]); (all_goals (repeat' (with_reducible apply And.intro))); (all_goals try (first | exact q9 rfl | (refine q11 ?_; omega) | (refine q9 ?_; simp; done)))
  obtain ⟨⟨j, ou2⟩, hj, he2, ho2⟩ := s
  unfold meetTJ
  simp only [] at hj he2 ho2
  by_cases hm : j < b.length
  ·have r2 := j38 b j
   have st2 := j36 b j ⟨0, 0⟩ hm
   have sY := sb _ (j18 hm ⟨0, 0⟩)
   generalize b.getD j ⟨0, 0⟩ = Y at r2 st2 sY
   have mt := q102 X Y
   have mo := x178 sX sY
   have mv := @j178 X Y sX sY
   have so : (b.take (j + 1)).filterMap (meetOne X) = (b.take j).filterMap (meetOne X) ++ (if meetO X Y then [meetV X Y] else []) := by
    rw [st2, List.filterMap_append]
    congr 1
    cases h : meetO X Y <;> simp [meetOne, h]
   rw [← mo] at mt
   generalize meetV X Y = V at mv so
   generalize txt X = tX at r1 mt
   generalize txt Y = tY at r2 mt
   cases h : meetO X Y
   ·rw [h] at mt so
    simp only [Bool.false_eq_true, if_false, if_true] at mt so
    (repeat (first | apply j0 | refine q8 rfl ?_ | refine z8 rfl ?_ | apply x7 | (refine j4 fun K hK => ?_) | (refine x5 fun K hK => ?_) | ((first | apply j6 | apply z7 | ((first | refine x4 (hK _ ?_) | refine x6 (hK _ _ j5 ?_)); clear hK K)); (first | show AWP _ _ _ _ _ | ((try simp only [j7]); first | show loopQ _ _ _ _ _ _ | show cutQ _ _ _ _ | show AWP _ _ _ _ _))) | ((first | refine z11 rfl rfl rfl ?_ | refine x11 rfl rfl rfl ?_); simp (disch := omega) only [go_sem, seval, hd, cb, x9, j9, r1, r2]; (first | refine ⟨_, mt, ?_⟩)) | ((first | refine x8 [10] rfl ?_ | refine j8 [10] rfl ?_); simp (disch := omega) only [go_sem, seval, hd, cb, x9, j9, r1, r2]; (repeat (first | refine ⟨by omega, ?_⟩ | refine ⟨True.intro, ?_⟩)))))
    refine ⟨⟨(j + 1, ou2), by simp only []; omega, by rw [so, List.append_nil]; exact he2, by simp only []; omega⟩, by simp only []; omega, ?_⟩
    refine Weak.list ?_ ?_; (all_goals simp (disch := omega) only [AllF, AllL, x10, j10, z10, exists_eq_left', go_sem, seval, hd, cb, x9, j9, r1, r2]); (all_goals (repeat' (with_reducible apply And.intro))); (all_goals try (first | exact q9 rfl | (refine q11 ?_; omega) | (refine q9 ?_; simp; done)))
   ·rw [h] at mt so
    rw [mv h] at mt
    simp only [Bool.false_eq_true, if_false, if_true] at mt so
    (repeat (first | apply j0 | refine q8 rfl ?_ | refine z8 rfl ?_ | apply x7 | (refine j4 fun K hK => ?_) | (refine x5 fun K hK => ?_) | ((first | apply j6 | apply z7 | ((first | refine x4 (hK _ ?_) | refine x6 (hK _ _ j5 ?_)); clear hK K)); (first | show AWP _ _ _ _ _ | ((try simp only [j7]); first | show loopQ _ _ _ _ _ _ | show cutQ _ _ _ _ | show AWP _ _ _ _ _))) | ((first | refine z11 rfl rfl rfl ?_ | refine x11 rfl rfl rfl ?_); simp (disch := omega) only [go_sem, seval, hd, cb, x9, j9, r1, r2]; (first | refine ⟨_, mt, ?_⟩)) | ((first | refine x8 [10] rfl ?_ | refine j8 [10] rfl ?_); simp (disch := omega) only [go_sem, seval, hd, cb, x9, j9, r1, r2]; (repeat (first | refine ⟨by omega, ?_⟩ | refine ⟨True.intro, ?_⟩)))))
    refine ⟨⟨(j + 1, ou2 ++ [V]), by simp only []; omega, by rw [so, ← List.append_assoc, ← he2], by simp; omega⟩, by simp only []; omega, ?_⟩
    refine Weak.list ?_ ?_; (all_goals simp (disch := omega) only [AllF, AllL, x10, j10, z10, exists_eq_left', go_sem, seval, hd, cb, x9, j9, r1, r2]); (all_goals (repeat' (with_reducible apply And.intro))); (all_goals try (first | exact q9 rfl | (refine q11 ?_; omega) | (refine q9 ?_; simp; done)))
    ·exact j20 (by simp) (by simp) (fun k hk => j103 ou2 V k hk)
    ·exact z33 (by simp) (by simp)
  ·have hjl : j = b.length := by omega
   subst hjl
   (repeat (first | apply j0 | refine q8 rfl ?_ | refine z8 rfl ?_ | apply x7 | (refine j4 fun K hK => ?_) | (refine x5 fun K hK => ?_) | ((first | apply j6 | apply z7 | ((first | refine x4 (hK _ ?_) | refine x6 (hK _ _ j5 ?_)); clear hK K)); (first | show AWP _ _ _ _ _ | ((try simp only [j7]); first | show loopQ _ _ _ _ _ _ | show cutQ _ _ _ _ | show AWP _ _ _ _ _))) | ((first | refine x8 [10] rfl ?_ | refine j8 [10] rfl ?_); simp (disch := omega) only [go_sem, seval, hd, cb, x9, j9, r1]; (repeat (first | refine ⟨by omega, ?_⟩ | refine ⟨True.intro, ?_⟩)))))
   refine ⟨⟨(i + 1, ou2), by simp only []; omega, ?_, ?_⟩, by simp only []; omega, ?_⟩
   ·rw [st, List.flatMap_append, ← he, he2, List.take_length]
    simp [meetRow]
   ·simp only []
    rw [Nat.add_mul, Nat.one_mul]; omega
   refine Weak.list ?_ ?_; (all_goals simp (disch := omega) only [AllF, AllL, x10, j10, z10, exists_eq_left', go_sem, seval, hd, cb, x9, j9, r1]); (all_goals (repeat' (with_reducible apply And.intro))); (all_goals try (first | exact q9 rfl | (refine q11 ?_; omega) | (refine q9 ?_; simp; done)))
 ·have hil : i = a.length := by omega
  subst hil
  rw [List.take_length] at he
  have : out = meetsP a b := he
  rw [← this]
  (repeat (first | apply j0 | refine q8 rfl ?_ | refine z8 rfl ?_ | apply x7 | (refine j4 fun K hK => ?_) | (refine x5 fun K hK => ?_) | ((first | apply j6 | apply z7 | ((first | refine x4 (hK _ ?_) | refine x6 (hK _ _ j5 ?_)); clear hK K)); (first | show AWP _ _ _ _ _ | ((try simp only [j7]); first | show loopQ _ _ _ _ _ _ | show cutQ _ _ _ _ | show AWP _ _ _ _ _))) | ((first | refine x8 [10] rfl ?_ | refine j8 [10] rfl ?_); simp (disch := omega) only [go_sem, seval, hd, cb, x9, j9]; (repeat (first | refine ⟨by omega, ?_⟩ | refine ⟨True.intro, ?_⟩)))))
  refine x14 4 _ (.p (.d (.sl 1 out.length (rowT out)))) rfl (q20 rfl (fun _ _ => rfl)) ?_
  refine q10 ⟨_, ?_, rfl⟩; rw [Tryz.results21]; simp (disch := omega) only [ResVars, ResVar, ptrLoc, go_sem, seval, hd, cb, x9, j9]
def lessTPI (b : List Cube) (R : List Cube × Int) (s : {s : Nat × List Cube // s.1 ≤ b.length ∧ lessP (b.drop s.1) s.2 = R ∧ s.2.length ≤ 200 ∧ ∀ k ∈ s.2, k.sound = true}) : ASt :=
 ⟨[(6, .p (.d (.v (.int .i64 (s.val.1 : Int))))), (1, .p (.d (.sl 1 b.length (rowT b)))), (0, .p (.d (.sl 1 s.val.2.length (rowT s.val.2))))], []⟩
def lessTPJ (b out : List Cube) (y : Cube) (i : Nat) (s : {s : Nat × List Cube // s.1 ≤ out.length ∧ s.2 = (out.take s.1).flatMap (fun x => lessL x y) ∧ s.2.length ≤ s.1 * 128}) : ASt :=
 ⟨[(8, .p (.d (.v (.int .i64 (s.val.1 : Int))))), (7, .gr 15 s.val.1 1 s.val.2.length (rowT s.val.2)), (6, .p (.d (.v (.int .i64 (i : Int))))), (1, .p (.d (.sl 1 b.length (rowT b)))), (0, .p (.d (.sl 1 out.length (rowT out))))],
  [(15, .grow 9 1 s.val.2.length s.val.1)]⟩
theorem z179 (a b : List Cube) (i : Nat) : catF a.length (rowT a) (rowT b) i = rowT (a ++ b) i := by
 unfold catF rowT
 simp only [List.getD_eq_getElem?_getD]
 split
 ·rw [List.getElem?_append_left (by assumption)]
 ·rw [List.getElem?_append_right (by omega)]
set_option maxRecDepth 100000 in
set_option maxHeartbeats 2000000 in
theorem x179 (a b : List Cube) (sa : ∀ k ∈ a, k.sound = true) (sb : ∀ k ∈ b, k.sound = true) (ha : a.length ≤ 200) (hb : b.length ≤ 200) (R : List Cube × Int) (hR : lessP b a = R) : ACalls Tryz.prog 22 [.d (.sl 1 a.length (rowT a)), .d (.sl 1 b.length (rowT b))]
  (· = [.d (.sl 1 R.1.length (rowT R.1)), .d (.v (.bool (R.2 == 0)))]) := by
 refine z12 Tryz.func22 rfl (by decide +kernel) (by rw [Tryz.ntmps22]; simp) ?_; rw [Tryz.ntmps22]; simp only [frOf]
 (repeat (first | apply j0 | refine q8 rfl ?_ | refine z8 rfl ?_ | apply x7 | (refine j4 fun K hK => ?_) | (refine x5 fun K hK => ?_) | ((first | apply j6 | apply z7 | ((first | refine x4 (hK _ ?_) | refine x6 (hK _ _ j5 ?_)); clear hK K)); (first | show AWP _ _ _ _ _ | ((try simp only [j7]); first | show loopQ _ _ _ _ _ _ | show cutQ _ _ _ _ | show AWP _ _ _ _ _))) | ((first | refine x8 [15] rfl ?_ | refine j8 [15] rfl ?_); simp (disch := omega) only [go_sem, seval, hd, cb, x9, j9]; (repeat (first | refine ⟨by omega, ?_⟩ | refine ⟨True.intro, ?_⟩)))))
 refine q13 (lessTPI b R) (fun s => b.length - s.val.1) ⟨(0, a), by simp, by rw [List.drop_zero]; exact hR, ha, sa⟩ ?_ (fun s => ?_)
 ·unfold lessTPI
  refine Weak.list ?_ ?_; (all_goals simp (disch := omega) only [AllF, AllL, x10, j10, z10, exists_eq_left', go_sem, seval, hd, cb, x9, j9]); (all_goals (repeat' (with_reducible apply And.intro))); (all_goals try (first | exact q9 rfl | (refine q11 ?_; omega) | (refine q9 ?_; simp; done)))
 obtain ⟨⟨i, out⟩, hi, he, ho, hs⟩ := s
 unfold lessTPI
 simp only [] at hi he ho hs
 by_cases hn : i < b.length
 ·have r1 := j38 b i
  rw [x26 b i ⟨0, 0⟩ hn] at he
  have sY := sb _ (j18 hn ⟨0, 0⟩)
  generalize b.getD i ⟨0, 0⟩ = Y at r1 he sY
  (repeat (first | apply j0 | refine q8 rfl ?_ | refine z8 rfl ?_ | apply x7 | (refine j4 fun K hK => ?_) | (refine x5 fun K hK => ?_) | ((first | apply j6 | apply z7 | ((first | refine x4 (hK _ ?_) | refine x6 (hK _ _ j5 ?_)); clear hK K)); (first | show AWP _ _ _ _ _ | ((try simp only [j7]); first | show loopQ _ _ _ _ _ _ | show cutQ _ _ _ _ | show AWP _ _ _ _ _))) | ((first | refine x8 [15] rfl ?_ | refine j8 [15] rfl ?_); simp (disch := omega) only [go_sem, seval, hd, cb, x9, j9, r1]; (repeat (first | refine ⟨by omega, ?_⟩ | refine ⟨True.intro, ?_⟩)))))
  refine q13 (lessTPJ b out Y i) (fun s => out.length - s.val.1) ⟨(0, []), by simp, by simp, by simp⟩ ?_ (fun s => ?_)
  ·unfold lessTPJ
   refine Weak.list ?_ ?_; (all_goals simp (disch := omega) only [AllF, AllL, x10, j10, z10, exists_eq_left', go_sem, seval, hd, cb, x9, j9, r1]); (all_goals (repeat' (with_reducible apply And.intro))); (all_goals try (first | exact q9 rfl | (refine q11 ?_; omega) | (refine q9 ?_; simp; done)))
   exact j20 rfl rfl (fun i hi => by omega)
  obtain ⟨⟨j, rest⟩, hj, he2, ho2⟩ := s
  unfold lessTPJ
  simp only [] at hj he2 ho2
  by_cases hm : j < out.length
  ·have r2 := j38 out j
   have st2 := j36 out j ⟨0, 0⟩ hm
   have sX := hs _ (j18 hm ⟨0, 0⟩)
   generalize out.getD j ⟨0, 0⟩ = X at r2 st2 sX
   have ls := LessT_c X Y sX sY
   have ll := q101 X Y
   have so : (out.take (j + 1)).flatMap (fun x => lessL x Y) = (out.take j).flatMap (fun x => lessL x Y) ++ lessL X Y := by
    rw [st2, List.flatMap_append]; simp
   generalize lessL X Y = K at ls ll so
   generalize txt X = tX at r2 ls
   generalize txt Y = tY at r1 ls
   (repeat (first | apply j0 | refine q8 rfl ?_ | refine z8 rfl ?_ | apply x7 | (refine j4 fun K hK => ?_) | (refine x5 fun K hK => ?_) | ((first | apply j6 | apply z7 | ((first | refine x4 (hK _ ?_) | refine x6 (hK _ _ j5 ?_)); clear hK K)); (first | show AWP _ _ _ _ _ | ((try simp only [j7]); first | show loopQ _ _ _ _ _ _ | show cutQ _ _ _ _ | show AWP _ _ _ _ _))) | ((first | refine z11 rfl rfl rfl ?_ | refine x11 rfl rfl rfl ?_); simp (disch := omega) only [go_sem, seval, hd, cb, x9, j9, r1, r2]; (first | refine ⟨_, ls, ?_⟩)) | ((first | refine x8 [15] rfl ?_ | refine j8 [15] rfl ?_); simp (disch := omega) only [go_sem, seval, hd, cb, x9, j9, r1, r2]; (repeat (first | refine ⟨by omega, ?_⟩ | refine ⟨True.intro, ?_⟩)))))
   refine ⟨⟨(j + 1, rest ++ K), by simp only []; omega, by rw [so, ← he2], by simp; omega⟩, by simp only []; omega, ?_⟩
   refine Weak.list ?_ ?_; (all_goals simp (disch := omega) only [AllF, AllL, x10, j10, z10, exists_eq_left', go_sem, seval, hd, cb, x9, j9, r1, r2]); (all_goals (repeat' (with_reducible apply And.intro))); (all_goals try (first | exact q9 rfl | (refine q11 ?_; omega) | (refine q9 ?_; simp; done)))
   ·exact j20 rfl (by simp) (fun k hk => z179 rest K k)
   ·exact z33 (by simp) rfl
  ·have hjl : j = out.length := by omega
   subst hjl
   rw [List.take_length] at he2
   have hre : rest = lessRest out Y := he2
   have srest : ∀ k ∈ rest, k.sound = true := by rw [hre]; exact j163 hs
   have ln := q114 rest srest (by omega)
   have lm : ∀ k ∈ leanP rest, k.sound = true := fun k hk => (x72 hk).2
   unfold lessP at he
   rw [← hre] at he
   by_cases h0 : (leanP rest).length > 200
   ·have e1 : leanE rest = 10 := if_pos h0
    rw [e1] at he
    simp only [show ((10 : Int) = 0) = False from by simp, if_false] at he
    subst he
    generalize leanP rest = V at ln lm h0
    (repeat (first | apply j0 | refine q8 rfl ?_ | refine z8 rfl ?_ | apply x7 | (refine j4 fun K hK => ?_) | (refine x5 fun K hK => ?_) | ((first | apply j6 | apply z7 | ((first | refine x4 (hK _ ?_) | refine x6 (hK _ _ j5 ?_)); clear hK K)); (first | show AWP _ _ _ _ _ | ((try simp only [j7]); first | show loopQ _ _ _ _ _ _ | show cutQ _ _ _ _ | show AWP _ _ _ _ _))) | ((first | refine z11 rfl rfl rfl ?_ | refine x11 rfl rfl rfl ?_); simp (disch := omega) only [go_sem, seval, hd, cb, x9, j9, r1]; (first | refine ⟨_, ln, ?_⟩)) | ((first | refine x8 [15] rfl ?_ | refine j8 [15] rfl ?_); simp (disch := omega) only [go_sem, seval, hd, cb, x9, j9, r1]; (repeat (first | refine ⟨by omega, ?_⟩ | refine ⟨True.intro, ?_⟩)))))
    refine x14 4 _ (.p (.d (.sl 1 ([] : List Cube).length (rowT [])))) rfl (x22 1 _ _ rfl) ?_
    refine q10 ⟨_, ?_, rfl⟩; rw [Tryz.results22]; simp (disch := omega) only [ResVars, ResVar, ptrLoc, go_sem, seval, hd, cb, x9, j9, r1]
   ·have e1 : leanE rest = 0 := if_neg h0
    rw [if_pos e1, j72 rest e1] at he
    generalize leanP rest = V at ln lm h0 he
    (repeat (first | apply j0 | refine q8 rfl ?_ | refine z8 rfl ?_ | apply x7 | (refine j4 fun K hK => ?_) | (refine x5 fun K hK => ?_) | ((first | apply j6 | apply z7 | ((first | refine x4 (hK _ ?_) | refine x6 (hK _ _ j5 ?_)); clear hK K)); (first | show AWP _ _ _ _ _ | ((try simp only [j7]); first | show loopQ _ _ _ _ _ _ | show cutQ _ _ _ _ | show AWP _ _ _ _ _))) | ((first | refine z11 rfl rfl rfl ?_ | refine x11 rfl rfl rfl ?_); simp (disch := omega) only [go_sem, seval, hd, cb, x9, j9, r1]; (first | refine ⟨_, ln, ?_⟩)) | ((first | refine x8 [15] rfl ?_ | refine j8 [15] rfl ?_); simp (disch := omega) only [go_sem, seval, hd, cb, x9, j9, r1]; (repeat (first | refine ⟨by omega, ?_⟩ | refine ⟨True.intro, ?_⟩)))))
    refine ⟨⟨(i + 1, V), by simp only []; omega, he, by simp only []; omega, lm⟩, by simp only []; omega, ?_⟩
    refine Weak.list ?_ ?_; (all_goals simp (disch := omega) only [AllF, AllL, x10, j10, z10, exists_eq_left', go_sem, seval, hd, cb, x9, j9, r1]); (all_goals (repeat' (with_reducible apply And.intro))); (all_goals try (first | exact q9 rfl | (refine q11 ?_; omega) | (refine q9 ?_; simp; done)))
 ·have hil : i = b.length := by omega
  subst hil
  rw [List.drop_length] at he
  unfold lessP at he
  subst he
  (repeat (first | apply j0 | refine q8 rfl ?_ | refine z8 rfl ?_ | apply x7 | (refine j4 fun K hK => ?_) | (refine x5 fun K hK => ?_) | ((first | apply j6 | apply z7 | ((first | refine x4 (hK _ ?_) | refine x6 (hK _ _ j5 ?_)); clear hK K)); (first | show AWP _ _ _ _ _ | ((try simp only [j7]); first | show loopQ _ _ _ _ _ _ | show cutQ _ _ _ _ | show AWP _ _ _ _ _))) | ((first | refine x8 [15] rfl ?_ | refine j8 [15] rfl ?_); simp (disch := omega) only [go_sem, seval, hd, cb, x9, j9]; (repeat (first | refine ⟨by omega, ?_⟩ | refine ⟨True.intro, ?_⟩)))))
  refine q10 ⟨_, ?_, rfl⟩; rw [Tryz.results22]; simp (disch := omega) only [ResVars, ResVar, ptrLoc, go_sem, seval, hd, cb, x9, j9]
theorem x114 (p : List Cube) (c : Cube) (hp : ∀ k ∈ p, k.sound = true) (hl : p.length ≤ 200) (hc : c.sound = true) : ACalls Tryz.prog 22 [.d (.sl 1 p.length (rowT p)), .d (.sl 1 1 fun i => [[Dat.v (.string (txt c))]].getD i [])]
  (· = [.d (.sl 1 (lessP [c] p).1.length (rowT (lessP [c] p).1)), .d (.v (.bool ((lessP [c] p).2 == 0)))]) := by
 have k := x179 p [c] hp (by simp [hc]) hl (by simp) _ rfl
 refine q29 (.cons (q31 _) (.cons (j24 rfl fun i hi => ?_) .nil)) k
 have : i = 0 := by simp at hi; exact hi
 subst this; rfl
theorem j114 {l : List Rule} {i : Nat} (h : ∀ j, j < i → (l.getD j r0).mt.sound = true) (hi : i = l.length) : soundL l = true := by
 unfold soundL
 rw [List.all_eq_true]
 intro r hr
 obtain ⟨j, hj, e⟩ := List.mem_iff_getElem.1 hr
 have := h j (by omega)
 rw [List.getD_eq_getElem?_getD, List.getElem?_eq_getElem hj, Option.getD_some, e] at this
 exact this
def wtA (l : List Rule) (ids : List Nat) (c : Cube) (i : {i : Nat // i ≤ l.length ∧ ∀ j, j < i → (l.getD j r0).mt.sound = true}) : ASt :=
 ⟨[(9, .p (.d (.v (.int .i64 (i.val : Int))))), (8, .p (.d (.sl 1 1 fun i => [[Dat.v (.string (txt c))]].getD i []))), (1, .p (.d (.sl 1 ids.length (rowI ids)))), (0, .p (.d (.sl 12 l.length (rowR l))))], []⟩
def wtB (l : List Rule) (ids : List Nat) (R : List Cube × Int) (s : {s : Nat × List Cube // s.1 ≤ ids.length ∧ s.2.length ≤ 200 ∧ (∀ k ∈ s.2, k.sound = true) ∧ woGo l (ids.drop s.1) s.2 = R}) : ASt :=
 ⟨[(12, .p (.d (.v (.int .i64 (s.val.1 : Int))))), (8, .p (.d (.sl 1 s.val.2.length (rowT s.val.2)))), (1, .p (.d (.sl 1 ids.length (rowI ids)))), (0, .p (.d (.sl 12 l.length (rowR l))))], []⟩
set_option maxRecDepth 100000 in
set_option maxHeartbeats 4000000 in
theorem j179 (l : List Rule) (ids : List Nat) (c : Cube) (hl : l.length ≤ 1099511627776) (hi : ∀ n ∈ ids, n < l.length) (hil : ids.length ≤ 1099511627776) (hc : c.sound = true) :
  ACalls Tryz.prog 106 [.d (.sl 12 l.length (rowR l)), .d (.sl 1 ids.length (rowI ids)), .d (.v (.string (txt c)))] (· = [.d (.sl 1 (withoutR l ids [c]).1.length (rowT (withoutR l ids [c]).1)), .d (.v (.int .i64 (withoutR l ids [c]).2))]) := by
 obtain ⟨R, hR⟩ : ∃ R, withoutR l ids [c] = R := ⟨_, rfl⟩
 rw [hR]
 unfold withoutR at hR
 refine z12 Tryz.func106 rfl (by decide +kernel) (by rw [Tryz.ntmps106]; simp) ?_; rw [Tryz.ntmps106]; simp only [frOf]
 (repeat (first | apply j0 | refine q8 rfl ?_ | refine z8 rfl ?_ | apply x7 | (refine j4 fun K hK => ?_) | (refine x5 fun K hK => ?_) | ((first | apply j6 | apply z7 | ((first | refine x4 (hK _ ?_) | refine x6 (hK _ _ j5 ?_)); clear hK K)); (first | show AWP _ _ _ _ _ | ((try simp only [j7]); first | show loopQ _ _ _ _ _ _ | show cutQ _ _ _ _ | show AWP _ _ _ _ _))) | ((first | refine x8 [] rfl ?_ | refine j8 [] rfl ?_); simp (disch := omega) only [go_sem, seval, hd, cb, ruleD]; (repeat (first | refine ⟨by omega, ?_⟩ | refine ⟨True.intro, ?_⟩)))))
 refine q13 (wtA l ids c) (fun s => l.length - s.val) ⟨0, by omega, fun j h => by omega⟩ ?_ (fun s => ?_)
 ·unfold wtA
  refine Weak.list ?_ ?_; (all_goals simp (disch := omega) only [AllF, AllL, x10, j10, z10, exists_eq_left', go_sem, seval, hd, cb, ruleD]); (all_goals (repeat' (with_reducible apply And.intro))); (all_goals try (first | exact q9 rfl | (refine q11 ?_; omega) | (refine q9 ?_; simp; done)))
 obtain ⟨i, h1, h2⟩ := s
 unfold wtA
 simp only []
 by_cases hn : i < l.length
 ·have r1 := j19 l i
  have hmem := j18 hn r0
  have st : ∀ x, l.getD i r0 = x → x.mt.sound = true → ∀ j, j < i + 1 → (l.getD j r0).mt.sound = true := fun x e hx j hj => by
   by_cases e2 : j = i
   ·subst e2; rw [e]; exact hx
   ·exact h2 j (by omega)
  have st := st _ rfl
  generalize l.getD i r0 = x at r1 hmem st
  have tc := x43 x.mt
  unfold cb at tc
  cases hs : x.mt.sound
  ·rw [hs] at tc
   simp only [Bool.false_eq_true, if_false] at tc
   have hsl : soundL l = false := by
    cases h : soundL l with
    | false => rfl
    | true => unfold soundL at h; rw [List.all_eq_true] at h; have := h _ hmem; rw [hs] at this; cases this
   rw [hsl] at hR
   simp only [Bool.false_eq_true, if_false] at hR
   subst hR
   (repeat (first | apply j0 | refine q8 rfl ?_ | refine z8 rfl ?_ | apply x7 | (refine j4 fun K hK => ?_) | (refine x5 fun K hK => ?_) | ((first | apply j6 | apply z7 | ((first | refine x4 (hK _ ?_) | refine x6 (hK _ _ j5 ?_)); clear hK K)); (first | show AWP _ _ _ _ _ | ((try simp only [j7]); first | show loopQ _ _ _ _ _ _ | show cutQ _ _ _ _ | show AWP _ _ _ _ _))) | ((first | refine z11 rfl rfl rfl ?_ | refine x11 rfl rfl rfl ?_); simp (disch := omega) only [go_sem, seval, hd, cb, ruleD, r1]; (first | refine ⟨_, tc, ?_⟩)) | ((first | refine x8 [] rfl ?_ | refine j8 [] rfl ?_); simp (disch := omega) only [go_sem, seval, hd, cb, ruleD, r1]; (repeat (first | refine ⟨by omega, ?_⟩ | refine ⟨True.intro, ?_⟩)))))
   refine x14 6 _ (.p (.d (.sl 1 0 (rowT [])))) rfl (x22 _ _ _ rfl) ?_
   refine q10 ⟨_, ?_, rfl⟩; rw [Tryz.results106]; simp (disch := omega) only [ResVars, ResVar, ptrLoc, go_sem, seval, hd, cb, ruleD, r1]
  ·rw [hs] at tc
   simp only [if_true] at tc
   (repeat (first | apply j0 | refine q8 rfl ?_ | refine z8 rfl ?_ | apply x7 | (refine j4 fun K hK => ?_) | (refine x5 fun K hK => ?_) | ((first | apply j6 | apply z7 | ((first | refine x4 (hK _ ?_) | refine x6 (hK _ _ j5 ?_)); clear hK K)); (first | show AWP _ _ _ _ _ | ((try simp only [j7]); first | show loopQ _ _ _ _ _ _ | show cutQ _ _ _ _ | show AWP _ _ _ _ _))) | ((first | refine z11 rfl rfl rfl ?_ | refine x11 rfl rfl rfl ?_); simp (disch := omega) only [go_sem, seval, hd, cb, ruleD, r1]; (first | refine ⟨_, tc, ?_⟩)) | ((first | refine x8 [] rfl ?_ | refine j8 [] rfl ?_); simp (disch := omega) only [go_sem, seval, hd, cb, ruleD, r1]; (repeat (first | refine ⟨by omega, ?_⟩ | refine ⟨True.intro, ?_⟩)))))
   refine ⟨⟨i + 1, by omega, st hs⟩, by simp only []; omega, ?_⟩
   refine Weak.list ?_ ?_; (all_goals simp (disch := omega) only [AllF, AllL, x10, j10, z10, exists_eq_left', go_sem, seval, hd, cb, ruleD, r1]); (all_goals (repeat' (with_reducible apply And.intro))); (all_goals try (first | exact q9 rfl | (refine q11 ?_; omega) | (refine q9 ?_; simp; done)))
 ·have hsl := j114 h2 (by omega)
  rw [hsl] at hR
  simp only [if_true] at hR
  (repeat (first | apply j0 | refine q8 rfl ?_ | refine z8 rfl ?_ | apply x7 | (refine j4 fun K hK => ?_) | (refine x5 fun K hK => ?_) | ((first | apply j6 | apply z7 | ((first | refine x4 (hK _ ?_) | refine x6 (hK _ _ j5 ?_)); clear hK K)); (first | show AWP _ _ _ _ _ | ((try simp only [j7]); first | show loopQ _ _ _ _ _ _ | show cutQ _ _ _ _ | show AWP _ _ _ _ _))) | ((first | refine x8 [] rfl ?_ | refine j8 [] rfl ?_); simp (disch := omega) only [go_sem, seval, hd, cb, ruleD]; (repeat (first | refine ⟨by omega, ?_⟩ | refine ⟨True.intro, ?_⟩)))))
  refine q13 (wtB l ids R) (fun s => ids.length - s.val.1) ⟨(0, [c]), by simp, by simp, by simp [hc], by rw [List.drop_zero]; exact hR⟩ ?_ (fun s => ?_)
  ·unfold wtB
   refine Weak.list ?_ ?_; (all_goals simp (disch := omega) only [AllF, AllL, x10, j10, z10, exists_eq_left', go_sem, seval, hd, cb, ruleD]); (all_goals (repeat' (with_reducible apply And.intro))); (all_goals try (first | exact q9 rfl | (refine q11 ?_; omega) | (refine q9 ?_; simp; done)))
   exact q36 rfl fun i hi => by
    have : i = 0 := by simp at hi; exact hi
    subst this; rfl
  clear h2 h1 hn i hR
  obtain ⟨⟨i, q⟩, h1, h2, h3, he⟩ := s
  unfold wtB
  simp only [] at h1 h2 h3 he
  by_cases hn : i < ids.length
  ·rw [x26 ids i 0 hn] at he
   have r0' := z37 ids i
   have hk := hi _ (j18 hn 0)
   generalize ids.getD i 0 = k at he r0' hk
   have r1 := j19 l k
   have hms := j34 hsl hk
   unfold woGo at he
   generalize l.getD k r0 = x at he r1 hms
   have tc := x43 x.mt
   rw [hms] at tc
   simp only [if_true] at tc
   unfold cb at tc
   have kl := x114 q x.mt h3 h2 hms
   have kk := z44 (p := q) h3 hms
   have kn := q39 [x.mt] q h2
   have ko := z59 [x.mt] q
   generalize lessP [x.mt] q = u at he kl kk kn ko
   generalize txt x.mt = tx at tc kl
   obtain ⟨u, e⟩ := u
   simp only [] at he kl kk kn ko
   rcases ko with rfl | ⟨rfl, rfl⟩
   ·rw [if_pos rfl] at he
    rw [show ((0 : Int) == 0) = true from rfl] at kl
    (repeat (first | apply j0 | refine q8 rfl ?_ | refine z8 rfl ?_ | apply x7 | (refine j4 fun K hK => ?_) | (refine x5 fun K hK => ?_) | ((first | apply j6 | apply z7 | ((first | refine x4 (hK _ ?_) | refine x6 (hK _ _ j5 ?_)); clear hK K)); (first | show AWP _ _ _ _ _ | ((try simp only [j7]); first | show loopQ _ _ _ _ _ _ | show cutQ _ _ _ _ | show AWP _ _ _ _ _))) | ((first | refine z11 rfl rfl rfl ?_ | refine x11 rfl rfl rfl ?_); simp (disch := omega) only [go_sem, seval, hd, cb, ruleD, r0', r1]; (first | refine ⟨_, tc, ?_⟩ | refine ⟨_, kl, ?_⟩)) | ((first | refine x8 [] rfl ?_ | refine j8 [] rfl ?_); simp (disch := omega) only [go_sem, seval, hd, cb, ruleD, r0', r1]; (repeat (first | refine ⟨by omega, ?_⟩ | refine ⟨True.intro, ?_⟩)))))
    refine ⟨⟨(i + 1, u), by simp only []; omega, kn, kk rfl, he⟩, by simp only []; omega, ?_⟩
    refine Weak.list ?_ ?_; (all_goals simp (disch := omega) only [AllF, AllL, x10, j10, z10, exists_eq_left', go_sem, seval, hd, cb, ruleD, r0', r1]); (all_goals (repeat' (with_reducible apply And.intro))); (all_goals try (first | exact q9 rfl | (refine q11 ?_; omega) | (refine q9 ?_; simp; done)))
   ·rw [if_neg (by decide)] at he
    rw [show ((10 : Int) == 0) = false from rfl] at kl
    subst he
    (repeat (first | apply j0 | refine q8 rfl ?_ | refine z8 rfl ?_ | apply x7 | (refine j4 fun K hK => ?_) | (refine x5 fun K hK => ?_) | ((first | apply j6 | apply z7 | ((first | refine x4 (hK _ ?_) | refine x6 (hK _ _ j5 ?_)); clear hK K)); (first | show AWP _ _ _ _ _ | ((try simp only [j7]); first | show loopQ _ _ _ _ _ _ | show cutQ _ _ _ _ | show AWP _ _ _ _ _))) | ((first | refine z11 rfl rfl rfl ?_ | refine x11 rfl rfl rfl ?_); simp (disch := omega) only [go_sem, seval, hd, cb, ruleD, r0', r1]; (first | refine ⟨_, tc, ?_⟩ | refine ⟨_, kl, ?_⟩)) | ((first | refine x8 [] rfl ?_ | refine j8 [] rfl ?_); simp (disch := omega) only [go_sem, seval, hd, cb, ruleD, r0', r1]; (repeat (first | refine ⟨by omega, ?_⟩ | refine ⟨True.intro, ?_⟩)))))
    refine x14 6 _ (.p (.d (.sl 1 0 (rowT [])))) rfl (x22 _ _ _ rfl) ?_
    refine q10 ⟨_, ?_, rfl⟩; rw [Tryz.results106]; simp (disch := omega) only [ResVars, ResVar, ptrLoc, go_sem, seval, hd, cb, ruleD, r0', r1]
  ·have : i = ids.length := by omega
   subst this
   rw [List.drop_length] at he
   unfold woGo at he
   subst he
   (repeat (first | apply j0 | refine q8 rfl ?_ | refine z8 rfl ?_ | apply x7 | (refine j4 fun K hK => ?_) | (refine x5 fun K hK => ?_) | ((first | apply j6 | apply z7 | ((first | refine x4 (hK _ ?_) | refine x6 (hK _ _ j5 ?_)); clear hK K)); (first | show AWP _ _ _ _ _ | ((try simp only [j7]); first | show loopQ _ _ _ _ _ _ | show cutQ _ _ _ _ | show AWP _ _ _ _ _))) | ((first | refine x8 [] rfl ?_ | refine j8 [] rfl ?_); simp (disch := omega) only [go_sem, seval, hd, cb, ruleD]; (repeat (first | refine ⟨by omega, ?_⟩ | refine ⟨True.intro, ?_⟩)))))
   refine q10 ⟨_, ?_, rfl⟩; rw [Tryz.results106]; simp (disch := omega) only [ResVars, ResVar, ptrLoc, go_sem, seval, hd, cb, ruleD]
def rsI (l : List Rule) (n : Nat) (i : {i : Nat // i ≤ (orderR l).idxOf n}) : ASt :=
 ⟨[(7, .p (.d (.v (.int .i64 (i.val : Int))))), (6, .p (.d (.sl 1 l.length (rowI (orderR l))))), (1, .p (.d (.v (.int .i64 (n : Int))))), (0, .p (.d (.sl 12 l.length (rowR l))))], []⟩
set_option maxRecDepth 100000 in
set_option maxHeartbeats 4000000 in
theorem q180 (l : List Rule) (n : Nat) (hl : l.length ≤ 1099511627776) (hn : n < l.length) :
  ACalls Tryz.prog 70 [.d (.sl 12 l.length (rowR l)), .d (.v (.int .i64 (n : Int)))] (· = [.d (.sl 1 (seenR l n).1.length (rowT (seenR l n).1)), .d (.v (.int .i64 (seenR l n).2))]) := by
 have ho := x96 l hl
 have hlt := List.idxOf_lt_length_of_mem (q25.2 hn)
 have hge := List.getElem_idxOf hlt
 have hno : ∀ i, i < (orderR l).idxOf n → (orderR l).getD i 0 ≠ n := fun i hi e => by
  rw [List.getD_eq_getElem?_getD, List.getElem?_eq_getElem (by omega)] at e
  have h2 := List.not_of_lt_findIdx (p := (· == n)) hi
  simp at e h2
  exact h2 e
 have hol := j26 l
 have hmem := j18 hn r0
 have hw := fun hc => j179 l ((orderR l).take ((orderR l).idxOf n)) (l.getD n r0).mt hl (fun n hn => j37 (List.mem_of_mem_take hn)) (by rw [List.length_take]; omega) hc
 rw [List.length_take, Nat.min_eq_left (by omega)] at hw
 obtain ⟨R, hR⟩ : ∃ R, seenR l n = R := ⟨_, rfl⟩
 rw [hR]
 unfold seenR at hR
 rw [hR] at hw
 unfold withoutR at hR
 have r1 := j19 l n
 generalize l.getD n r0 = x at *
 have hrow : ∀ i, i < (orderR l).idxOf n → rowI (orderR l) i = rowI ((orderR l).take ((orderR l).idxOf n)) i := fun i hi => x105 _ _ i hi
 generalize rowI ((orderR l).take ((orderR l).idxOf n)) = rt at hw hrow
 generalize (orderR l).idxOf n = k at *
 refine z12 Tryz.func70 rfl (by decide +kernel) (by rw [Tryz.ntmps70]; simp) ?_; rw [Tryz.ntmps70]; simp only [frOf]
 (repeat (first | apply j0 | refine q8 rfl ?_ | refine z8 rfl ?_ | apply x7 | (refine j4 fun K hK => ?_) | (refine x5 fun K hK => ?_) | ((first | apply j6 | apply z7 | ((first | refine x4 (hK _ ?_) | refine x6 (hK _ _ j5 ?_)); clear hK K)); (first | show AWP _ _ _ _ _ | ((try simp only [j7]); first | show loopQ _ _ _ _ _ _ | show cutQ _ _ _ _ | show AWP _ _ _ _ _))) | ((first | refine z11 rfl rfl rfl ?_ | refine x11 rfl rfl rfl ?_); simp (disch := omega) only [go_sem, seval, hd, cb, ruleD]; (first | refine ⟨_, ho, ?_⟩)) | ((first | refine x8 [] rfl ?_ | refine j8 [] rfl ?_); simp (disch := omega) only [go_sem, seval, hd, cb, ruleD]; (repeat (first | refine ⟨by omega, ?_⟩ | refine ⟨True.intro, ?_⟩)))))
 refine q13 (fun i : {i : Nat // i ≤ k} => ⟨[(7, .p (.d (.v (.int .i64 (i.val : Int))))), (6, .p (.d (.sl 1 l.length (rowI (orderR l))))), (1, .p (.d (.v (.int .i64 (n : Int))))), (0, .p (.d (.sl 12 l.length (rowR l))))], []⟩) (fun s => k - s.val) ⟨0, by omega⟩ ?_ (fun s => ?_)
 ·refine Weak.list ?_ ?_; (all_goals simp (disch := omega) only [AllF, AllL, x10, j10, z10, exists_eq_left', go_sem, seval, hd, cb, ruleD]); (all_goals (repeat' (with_reducible apply And.intro))); (all_goals try (first | exact q9 rfl | (refine q11 ?_; omega) | (refine q9 ?_; simp; done)))
 obtain ⟨i, hi⟩ := s
 simp only []
 have r2 := z37 (orderR l) i
 by_cases h : i < k
 ·have hne := hno i h
  generalize (orderR l).getD i 0 = m at r2 hne
  have q : ((m : Int) != (n : Int)) = true := q15 (by omega)
  (repeat (first | apply j0 | refine q8 rfl ?_ | refine z8 rfl ?_ | apply x7 | (refine j4 fun K hK => ?_) | (refine x5 fun K hK => ?_) | ((first | apply j6 | apply z7 | ((first | refine x4 (hK _ ?_) | refine x6 (hK _ _ j5 ?_)); clear hK K)); (first | show AWP _ _ _ _ _ | ((try simp only [j7]); first | show loopQ _ _ _ _ _ _ | show cutQ _ _ _ _ | show AWP _ _ _ _ _))) | ((first | refine x8 [] rfl ?_ | refine j8 [] rfl ?_); simp (disch := omega) only [go_sem, seval, hd, cb, ruleD, r2, q]; (repeat (first | refine ⟨by omega, ?_⟩ | refine ⟨True.intro, ?_⟩)))))
  refine ⟨⟨i + 1, by omega⟩, by simp only []; omega, ?_⟩
  refine Weak.list ?_ ?_; (all_goals simp (disch := omega) only [AllF, AllL, x10, j10, z10, exists_eq_left', go_sem, seval, hd, cb, ruleD, r2, q]); (all_goals (repeat' (with_reducible apply And.intro))); (all_goals try (first | exact q9 rfl | (refine q11 ?_; omega) | (refine q9 ?_; simp; done)))
 ·have : i = k := by omega
  subst this
  rw [List.getD_eq_getElem?_getD, List.getElem?_eq_getElem hlt, Option.getD_some, hge] at r2
  have q : ((n : Int) != (n : Int)) = false := x16 rfl
  have tc := x43 x.mt
  unfold cb at tc
  cases hs : x.mt.sound
  ·rw [hs] at tc
   simp only [Bool.false_eq_true, if_false] at tc
   have hsl : soundL l = false := by
    cases h : soundL l with
    | false => rfl
    | true => unfold soundL at h; rw [List.all_eq_true] at h; have := h _ hmem; rw [hs] at this; cases this
   rw [hsl] at hR
   simp only [Bool.false_eq_true, if_false] at hR
   subst hR
   (repeat (first | apply j0 | refine q8 rfl ?_ | refine z8 rfl ?_ | apply x7 | (refine j4 fun K hK => ?_) | (refine x5 fun K hK => ?_) | ((first | apply j6 | apply z7 | ((first | refine x4 (hK _ ?_) | refine x6 (hK _ _ j5 ?_)); clear hK K)); (first | show AWP _ _ _ _ _ | ((try simp only [j7]); first | show loopQ _ _ _ _ _ _ | show cutQ _ _ _ _ | show AWP _ _ _ _ _))) | ((first | refine z11 rfl rfl rfl ?_ | refine x11 rfl rfl rfl ?_); simp (disch := omega) only [go_sem, seval, hd, cb, ruleD, r1, r2, q]; (first | refine ⟨_, tc, ?_⟩)) | ((first | refine x8 [] rfl ?_ | refine j8 [] rfl ?_); simp (disch := omega) only [go_sem, seval, hd, cb, ruleD, r1, r2, q]; (repeat (first | refine ⟨by omega, ?_⟩ | refine ⟨True.intro, ?_⟩)))))
   refine x14 4 _ (.p (.d (.sl 1 0 (rowT [])))) rfl (x22 _ _ _ rfl) ?_
   refine q10 ⟨_, ?_, rfl⟩; rw [Tryz.results70]; simp (disch := omega) only [ResVars, ResVar, ptrLoc, go_sem, seval, hd, cb, ruleD, r1, r2, q]
  ·rw [hs] at tc
   simp only [if_true] at tc
   have hw := q29 (.cons (q31 _) (.cons (j24 rfl fun i hi => hrow i hi) (.cons (q31 _) .nil))) (hw hs)
   generalize txt x.mt = tx at tc hw
   (repeat (first | apply j0 | refine q8 rfl ?_ | refine z8 rfl ?_ | apply x7 | (refine j4 fun K hK => ?_) | (refine x5 fun K hK => ?_) | ((first | apply j6 | apply z7 | ((first | refine x4 (hK _ ?_) | refine x6 (hK _ _ j5 ?_)); clear hK K)); (first | show AWP _ _ _ _ _ | ((try simp only [j7]); first | show loopQ _ _ _ _ _ _ | show cutQ _ _ _ _ | show AWP _ _ _ _ _))) | ((first | refine z11 rfl rfl rfl ?_ | refine x11 rfl rfl rfl ?_); simp (disch := omega) only [go_sem, seval, hd, cb, ruleD, r1, r2, q]; (first | refine ⟨_, tc, ?_⟩ | refine ⟨_, hw, ?_⟩)) | ((first | refine x8 [] rfl ?_ | refine j8 [] rfl ?_); simp (disch := omega) only [go_sem, seval, hd, cb, ruleD, r1, r2, q]; (repeat (first | refine ⟨by omega, ?_⟩ | refine ⟨True.intro, ?_⟩)))))
   refine q10 ⟨_, ?_, rfl⟩; rw [Tryz.results70]; simp (disch := omega) only [ResVars, ResVar, ptrLoc, go_sem, seval, hd, cb, ruleD, r1, r2, q]
end Go.Proofs.YtemcdefpihkfpaaGreat
namespace Go.Proofs.YtemcdefpihkfpaaGreat
open Go Go.Proofs.YtemcdefpihkfpaaGreat.AL
theorem z180 (c : Cube) (i : Nat) (hi : i < 1) : (fun i => [[Dat.v (.string (txt c))]].getD i []) i = rowT [c] i := by
 have : i = 0 := by omega
 subst this; rfl
theorem x180 (p : List Cube) (c : Cube) (hp : ∀ k ∈ p, k.sound = true) (hl : p.length ≤ 200) (hc : c.sound = true) : ACalls Tryz.prog 21 [.d (.sl 1 p.length (rowT p)), .d (.sl 1 1 fun i => [[Dat.v (.string (txt c))]].getD i [])]
  (· = [.d (.sl 1 (meetsP p [c]).length (rowT (meetsP p [c])))]) := by
 have k := q179 p [c] hp (by simp [hc]) hl (by simp)
 exact q29 (.cons (q31 _) (.cons (j24 rfl fun i hi => z180 _ i hi) .nil)) k
theorem j180 (a b : List Cube) : ∀ x ∈ meetsP a b, x.sound = true := by
 intro x hx
 unfold meetsP meetRow at hx
 obtain ⟨y, _, hx⟩ := List.mem_flatMap.1 hx
 obtain ⟨z, _, hx⟩ := List.mem_filterMap.1 hx
 unfold meetOne at hx
 split at hx
 ·cases hx; exact q178 ‹_›
 ·cases hx
theorem q181 {p : List Cube} {c : Cube} (hp : ∀ k ∈ p, k.sound = true) (hl : p.length ≤ 200) (hc : c.sound = true) :
  (200 < (leanP (meetsP p [c])).length ∧ meetPE p [c] = 10) ∨ ((leanP (meetsP p [c])).length ≤ 200 ∧ meetPE p [c] = 0 ∧ meetPV p [c] = leanP (meetsP p [c])) := by
 have h1 : soundP p = true := by
  unfold soundP; rw [Bool.and_eq_true, List.all_eq_true]; exact ⟨by simpa using hl, hp⟩
 have h2 : soundP [c] = true := by unfold soundP; simp [hc]
 unfold meetPE meetPV
 rw [h1, h2]
 simp only [Bool.and_self, if_true]
 unfold leanE leanV
 by_cases h : (leanP (meetsP p [c])).length > 200
 ·left; rw [if_pos h]; exact ⟨h, rfl⟩
 ·right; rw [if_neg h, if_neg h]; exact ⟨by omega, rfl, rfl⟩
structure SrS (l : List Rule) (n : Nat) (P : List Cube) (R : Bool × Int) where
 i : Nat
 p : List Cube
 b : Bool
 hi : i ≤ l.length
 h2 : p.length ≤ 200
 h3 : ∀ k ∈ p, k.sound = true
 inv : (i ≤ (orderR l).idxOf n ∧ p = P ∧ b = true) ∨ ((orderR l).idxOf n < i ∧ spGo l n ((orderR l).drop i) p b = R)
def srI (l : List Rule) (n : Nat) (P : List Cube) (R : Bool × Int) (s : SrS l n P R) : ASt :=
 ⟨[(11, .p (.d (.v (.int .i64 (s.i : Int))))), (10, .p (.d (.v (.bool s.b)))), (9, .p (.d (.v (.bool (decide ((orderR l).idxOf n < s.i)))))), (8, .p (.d (.sl 1 l.length (rowI (orderR l))))), (6, .p (.d (.sl 1 s.p.length (rowT s.p)))), (1, .p (.d (.v (.int .i64 (n : Int))))), (0, .p (.d (.sl 12 l.length (rowR l))))], []⟩
set_option maxRecDepth 100000 in
set_option maxHeartbeats 16000000 in
theorem z181 (l : List Rule) (n : Nat) (hn : n < l.length) (hl : l.length ≤ 1099511627776) : ACalls Tryz.prog 30 [.d (.sl 12 l.length (rowR l)), .d (.v (.int .i64 (n : Int)))] (· = [.d (.v (.bool (spareR l n).1)), .d (.v (.int .i64 (spareR l n).2))]) := by
 have ks := q180 l n hl hn
 have ko := x96 l hl
 have hok := x108 hn
 obtain ⟨R, hR⟩ : ∃ R, spareR l n = R := ⟨_, rfl⟩
 rw [hR]
 unfold spareR at hR
 have hol := j26 l
 have hdl := List.idxOf_lt_length_of_mem (q25.2 hn)
 have hdn := List.getElem_idxOf hdl
 rcases j108 l n hn with he | ⟨he, heb⟩
 ·obtain ⟨hs, h200, hps⟩ := hok he
  rw [if_pos he] at hR
  rw [he] at ks
  unfold behR at hR
  generalize (seenR l n).1 = P at *
  refine z12 Tryz.func30 rfl (by decide +kernel) (by rw [Tryz.ntmps30]; simp) ?_; rw [Tryz.ntmps30]; simp only [frOf]
  (repeat (first | apply j0 | refine q8 rfl ?_ | refine z8 rfl ?_ | apply x7 | (refine j4 fun K hK => ?_) | (refine x5 fun K hK => ?_) | ((first | apply j6 | apply z7 | ((first | refine x4 (hK _ ?_) | refine x6 (hK _ _ j5 ?_)); clear hK K)); (first | show AWP _ _ _ _ _ | ((try simp only [j7]); first | show loopQ _ _ _ _ _ _ | show cutQ _ _ _ _ | show AWP _ _ _ _ _))) | ((first | refine z11 rfl rfl rfl ?_ | refine x11 rfl rfl rfl ?_); simp (disch := omega) only [go_sem, seval, hd, cb, ruleD, j13]; (first | refine ⟨_, ks, ?_⟩ | refine ⟨_, ko, ?_⟩)) | ((first | refine x8 [] rfl ?_ | refine j8 [] rfl ?_); simp (disch := omega) only [go_sem, seval, hd, cb, ruleD, j13]; (repeat (first | refine ⟨by omega, ?_⟩ | refine ⟨True.intro, ?_⟩)))))
  refine q13 (srI l n P R) (fun s => l.length - s.i) ⟨0, P, true, by omega, h200, hps, .inl ⟨by omega, rfl, rfl⟩⟩ ?_ (fun s => ?_)
  ·unfold srI
   refine Weak.list ?_ ?_; (all_goals simp (disch := omega) only [AllF, AllL, x10, j10, z10, exists_eq_left', go_sem, seval, hd, cb, ruleD, j13]); (all_goals (repeat' (with_reducible apply And.intro))); (all_goals try (first | exact q9 rfl | (refine q11 ?_; omega) | (refine q9 ?_; simp; done)))
  obtain ⟨i, p, b, hil, h2, h3, inv⟩ := s
  unfold srI
  simp only []
  have rn := j19 l n
  by_cases hi : i < l.length
  ·have r1 := z37 (orderR l) i
   have hkm : (orderR l).getD i 0 ∈ orderR l := j18 (by omega) 0
   have hkl := j37 hkm
   have hki : (orderR l).getD i 0 = n ↔ i = (orderR l).idxOf n := by
    rw [List.getD_eq_getElem?_getD, List.getElem?_eq_getElem (by omega), Option.getD_some]
    constructor
    ·intro e
     have hnd := z151 l
     have := (List.getElem_inj (i := i) (j := (orderR l).idxOf n) (h₀ := by omega) (h₁ := hdl) hnd).1 (by rw [e, hdn])
     exact this
    ·intro e; subst e; exact hdn
   have hgo : (orderR l).idxOf n < i → spGo l n ((orderR l).getD i 0 :: (orderR l).drop (i + 1)) p b = R := fun h => by
    rcases inv with ⟨h', _⟩ | ⟨_, h'⟩
    ·omega
    ·rwa [x26 (orderR l) i 0 (by omega)] at h'
   generalize hk : (orderR l).getD i 0 = k at r1 hkl hki hgo
   rcases Nat.lt_trichotomy i ((orderR l).idxOf n) with hlt | heq | hgt
   ·have q1 : ((k : Int) == (n : Int)) = false := j15 (by omega)
    have q2 : decide ((orderR l).idxOf n < i) = false := decide_eq_false (by omega)
    have q3 : decide ((orderR l).idxOf n < i + 1) = false := decide_eq_false (by omega)
    rcases inv with ⟨_, rfl, rfl⟩ | ⟨h', _⟩
    ·rw [q2]
     (repeat (first | apply j0 | refine q8 rfl ?_ | refine z8 rfl ?_ | apply x7 | (refine j4 fun K hK => ?_) | (refine x5 fun K hK => ?_) | ((first | apply j6 | apply z7 | ((first | refine x4 (hK _ ?_) | refine x6 (hK _ _ j5 ?_)); clear hK K)); (first | show AWP _ _ _ _ _ | ((try simp only [j7]); first | show loopQ _ _ _ _ _ _ | show cutQ _ _ _ _ | show AWP _ _ _ _ _))) | ((first | refine x8 [] rfl ?_ | refine j8 [] rfl ?_); simp (disch := omega) only [go_sem, seval, hd, cb, ruleD, j13, r1, q1]; (repeat (first | refine ⟨by omega, ?_⟩ | refine ⟨True.intro, ?_⟩)))))
     refine ⟨⟨i + 1, p, true, by omega, h2, h3, .inl ⟨by omega, rfl, rfl⟩⟩, by simp only []; omega, ?_⟩
     simp only [q3]
     refine Weak.list ?_ ?_; (all_goals simp (disch := omega) only [AllF, AllL, x10, j10, z10, exists_eq_left', go_sem, seval, hd, cb, ruleD, j13, r1, q1]); (all_goals (repeat' (with_reducible apply And.intro))); (all_goals try (first | exact q9 rfl | (refine q11 ?_; omega) | (refine q9 ?_; simp; done)))
    ·omega
   ·have e := hki.2 heq
    have q1 : ((k : Int) == (n : Int)) = true := j16 (by omega)
    have q3 : decide ((orderR l).idxOf n < i + 1) = true := decide_eq_true (by omega)
    rcases inv with ⟨_, rfl, rfl⟩ | ⟨h', _⟩
    ·(repeat (first | apply j0 | refine q8 rfl ?_ | refine z8 rfl ?_ | apply x7 | (refine j4 fun K hK => ?_) | (refine x5 fun K hK => ?_) | ((first | apply j6 | apply z7 | ((first | refine x4 (hK _ ?_) | refine x6 (hK _ _ j5 ?_)); clear hK K)); (first | show AWP _ _ _ _ _ | ((try simp only [j7]); first | show loopQ _ _ _ _ _ _ | show cutQ _ _ _ _ | show AWP _ _ _ _ _))) | ((first | refine x8 [] rfl ?_ | refine j8 [] rfl ?_); simp (disch := omega) only [go_sem, seval, hd, cb, ruleD, j13, r1, q1]; (repeat (first | refine ⟨by omega, ?_⟩ | refine ⟨True.intro, ?_⟩)))))
     refine ⟨⟨i + 1, p, true, by omega, h2, h3, .inr ⟨by omega, by rw [heq]; exact hR⟩⟩, by simp only []; omega, ?_⟩
     simp only [q3]
     refine Weak.list ?_ ?_; (all_goals simp (disch := omega) only [AllF, AllL, x10, j10, z10, exists_eq_left', go_sem, seval, hd, cb, ruleD, j13, r1, q1]); (all_goals (repeat' (with_reducible apply And.intro))); (all_goals try (first | exact q9 rfl | (refine q11 ?_; omega) | (refine q9 ?_; simp; done)))
    ·omega
   ·have hG := hgo hgt
    have q1 : ((k : Int) == (n : Int)) = false := j15 (by omega)
    have q2 : decide ((orderR l).idxOf n < i) = true := decide_eq_true (by omega)
    have q3 : decide ((orderR l).idxOf n < i + 1) = true := decide_eq_true (by omega)
    rw [q2]
    have rk := j19 l k
    have hms := j34 hs hkl
    unfold spGo at hG
    have hnx : ∀ u b', spGo l n ((orderR l).drop (i + 1)) u b' = R → (i + 1 ≤ (orderR l).idxOf n ∧ u = P ∧ b' = true) ∨ ((orderR l).idxOf n < i + 1 ∧ spGo l n ((orderR l).drop (i + 1)) u b' = R) := fun u b' h => .inr ⟨by omega, h⟩
    generalize l.getD n r0 = z at hG rn
    generalize l.getD k r0 = x at hG rk hms
    have tc := x43 x.mt
    unfold cb at tc
    rw [hms] at tc
    simp only [if_true] at tc
    have km := x180 p x.mt h3 h2 hms
    have hmm : (meetsP p [x.mt]).length ≤ p.length * [x.mt].length := x164 p [x.mt]
    have km2 := q114 (meetsP p [x.mt]) (j180 _ _) (by simp at hmm; omega)
    have kl := x114 p x.mt h3 h2 hms
    have kk := z44 (p := p) h3 hms
    have kn := q39 [x.mt] p h2
    have kor := z59 [x.mt] p
    have mo := q181 (p := p) h3 h2 hms
    have qd := z108 x z
    have hml := z164 (meetsP p [x.mt])
    generalize lessP [x.mt] p = u at hG kl kk kn kor
    obtain ⟨u, e⟩ := u
    generalize meetPV p [x.mt] = mv at hG mo
    generalize meetPE p [x.mt] = me at hG mo
    generalize meetsP p [x.mt] = ms at km km2 mo hmm hml
    generalize leanP ms = m at km2 mo hml
    generalize doEq x z = de at hG qd
    simp only [] at hG kl kk kn kor
    generalize txt x.mt = tx at *
    have qm := len0 m
    rcases mo with ⟨hm, rfl⟩ | ⟨hm, rfl, hmv⟩
    ·rw [if_neg (by decide)] at hG
     subst hG
     have q4 : decide ((m.length : Int) > 200) = true := decide_eq_true (by omega)
     (repeat (first | apply j0 | refine q8 rfl ?_ | refine z8 rfl ?_ | apply x7 | (refine j4 fun K hK => ?_) | (refine x5 fun K hK => ?_) | ((first | apply j6 | apply z7 | ((first | refine x4 (hK _ ?_) | refine x6 (hK _ _ j5 ?_)); clear hK K)); (first | show AWP _ _ _ _ _ | ((try simp only [j7]); first | show loopQ _ _ _ _ _ _ | show cutQ _ _ _ _ | show AWP _ _ _ _ _))) | ((first | refine z11 rfl rfl rfl ?_ | refine x11 rfl rfl rfl ?_); simp (disch := omega) only [go_sem, seval, hd, cb, ruleD, j13, r1, rk, rn, q1, q4]; (first | refine ⟨_, tc, ?_⟩ | refine ⟨_, km, ?_⟩ | refine ⟨_, km2, ?_⟩)) | ((first | refine x8 [] rfl ?_ | refine j8 [] rfl ?_); simp (disch := omega) only [go_sem, seval, hd, cb, ruleD, j13, r1, rk, rn, q1, q4]; (repeat (first | refine ⟨by omega, ?_⟩ | refine ⟨True.intro, ?_⟩)))))
     refine q10 ⟨_, ?_, rfl⟩; rw [Tryz.results30]; simp (disch := omega) only [ResVars, ResVar, ptrLoc, go_sem, seval, hd, cb, ruleD, j13, r1, rk, rn, q1, q4]
    ·rw [if_pos rfl, hmv] at hG
     have q4 : decide ((m.length : Int) > 200) = false := decide_eq_false (by omega)
     generalize m.isEmpty = em at hG qm
     have out : ∀ b', (if e = 0 then spGo l n ((orderR l).drop (i + 1)) u b' else (false, e)) = R → (e = 0 ∧ spGo l n ((orderR l).drop (i + 1)) u b' = R) ∨ (e = 10 ∧ R = (false, 10)) := by
      intro b' hb
      rcases kor with rfl | ⟨rfl, _⟩
      ·exact .inl ⟨rfl, by rw [if_pos rfl] at hb; exact hb⟩
      ·exact .inr ⟨rfl, by rw [if_neg (by decide)] at hb; exact hb.symm⟩
     rcases out _ hG with ⟨rfl, hG⟩ | ⟨rfl, rfl⟩
     ·cases b with
      |false =>
       (repeat (first | apply j0 | refine q8 rfl ?_ | refine z8 rfl ?_ | apply x7 | (refine j4 fun K hK => ?_) | (refine x5 fun K hK => ?_) | ((first | apply j6 | apply z7 | ((first | refine x4 (hK _ ?_) | refine x6 (hK _ _ j5 ?_)); clear hK K)); (first | show AWP _ _ _ _ _ | ((try simp only [j7]); first | show loopQ _ _ _ _ _ _ | show cutQ _ _ _ _ | show AWP _ _ _ _ _))) | ((first | refine z11 rfl rfl rfl ?_ | refine x11 rfl rfl rfl ?_); simp (disch := omega) only [go_sem, seval, hd, cb, ruleD, j13, r1, rk, rn, q1, q4, qm]; (first | refine ⟨_, tc, ?_⟩ | refine ⟨_, km, ?_⟩ | refine ⟨_, km2, ?_⟩ | refine ⟨_, kl, ?_⟩)) | ((first | refine x8 [] rfl ?_ | refine j8 [] rfl ?_); simp (disch := omega) only [go_sem, seval, hd, cb, ruleD, j13, r1, rk, rn, q1, q4, qm]; (repeat (first | refine ⟨by omega, ?_⟩ | refine ⟨True.intro, ?_⟩)))))
       refine ⟨⟨i + 1, u, false, by omega, kn, kk rfl, hnx _ _ hG⟩, by simp only []; omega, ?_⟩
       simp only [q3]
       refine Weak.list ?_ ?_; (all_goals simp (disch := omega) only [AllF, AllL, x10, j10, z10, exists_eq_left', go_sem, seval, hd, cb, ruleD, j13, r1, rk, rn, q1, q4, qm]); (all_goals (repeat' (with_reducible apply And.intro))); (all_goals try (first | exact q9 rfl | (refine q11 ?_; omega) | (refine q9 ?_; simp; done)))
      |true =>
       cases em with
       |true =>
        (repeat (first | apply j0 | refine q8 rfl ?_ | refine z8 rfl ?_ | apply x7 | (refine j4 fun K hK => ?_) | (refine x5 fun K hK => ?_) | ((first | apply j6 | apply z7 | ((first | refine x4 (hK _ ?_) | refine x6 (hK _ _ j5 ?_)); clear hK K)); (first | show AWP _ _ _ _ _ | ((try simp only [j7]); first | show loopQ _ _ _ _ _ _ | show cutQ _ _ _ _ | show AWP _ _ _ _ _))) | ((first | refine z11 rfl rfl rfl ?_ | refine x11 rfl rfl rfl ?_); simp (disch := omega) only [go_sem, seval, hd, cb, ruleD, j13, r1, rk, rn, q1, q4, qm]; (first | refine ⟨_, tc, ?_⟩ | refine ⟨_, km, ?_⟩ | refine ⟨_, km2, ?_⟩ | refine ⟨_, kl, ?_⟩)) | ((first | refine x8 [] rfl ?_ | refine j8 [] rfl ?_); simp (disch := omega) only [go_sem, seval, hd, cb, ruleD, j13, r1, rk, rn, q1, q4, qm]; (repeat (first | refine ⟨by omega, ?_⟩ | refine ⟨True.intro, ?_⟩)))))
        refine ⟨⟨i + 1, u, true, by omega, kn, kk rfl, hnx _ _ hG⟩, by simp only []; omega, ?_⟩
        simp only [q3]
        refine Weak.list ?_ ?_; (all_goals simp (disch := omega) only [AllF, AllL, x10, j10, z10, exists_eq_left', go_sem, seval, hd, cb, ruleD, j13, r1, rk, rn, q1, q4, qm]); (all_goals (repeat' (with_reducible apply And.intro))); (all_goals try (first | exact q9 rfl | (refine q11 ?_; omega) | (refine q9 ?_; simp; done)))
       |false =>
        (repeat (first | apply j0 | refine q8 rfl ?_ | refine z8 rfl ?_ | apply x7 | (refine j4 fun K hK => ?_) | (refine x5 fun K hK => ?_) | ((first | apply j6 | apply z7 | ((first | refine x4 (hK _ ?_) | refine x6 (hK _ _ j5 ?_)); clear hK K)); (first | show AWP _ _ _ _ _ | ((try simp only [j7]); first | show loopQ _ _ _ _ _ _ | show cutQ _ _ _ _ | show AWP _ _ _ _ _))) | ((first | refine z11 rfl rfl rfl ?_ | refine x11 rfl rfl rfl ?_); simp (disch := omega) only [go_sem, seval, hd, cb, ruleD, j13, r1, rk, rn, q1, q4, qm, qd]; (first | refine ⟨_, tc, ?_⟩ | refine ⟨_, km, ?_⟩ | refine ⟨_, km2, ?_⟩ | refine ⟨_, kl, ?_⟩)) | ((first | refine x8 [] rfl ?_ | refine j8 [] rfl ?_); simp (disch := omega) only [go_sem, seval, hd, cb, ruleD, j13, r1, rk, rn, q1, q4, qm, qd]; (repeat (first | refine ⟨by omega, ?_⟩ | refine ⟨True.intro, ?_⟩)))))
        refine ⟨⟨i + 1, u, de, by omega, kn, kk rfl, hnx _ _ hG⟩, by simp only []; omega, ?_⟩
        simp only [q3]
        refine Weak.list ?_ ?_; (all_goals simp (disch := omega) only [AllF, AllL, x10, j10, z10, exists_eq_left', go_sem, seval, hd, cb, ruleD, j13, r1, rk, rn, q1, q4, qm, qd]); (all_goals (repeat' (with_reducible apply And.intro))); (all_goals try (first | exact q9 rfl | (refine q11 ?_; omega) | (refine q9 ?_; simp; done)))
     ·cases b with
      |false =>
       (repeat (first | apply j0 | refine q8 rfl ?_ | refine z8 rfl ?_ | apply x7 | (refine j4 fun K hK => ?_) | (refine x5 fun K hK => ?_) | ((first | apply j6 | apply z7 | ((first | refine x4 (hK _ ?_) | refine x6 (hK _ _ j5 ?_)); clear hK K)); (first | show AWP _ _ _ _ _ | ((try simp only [j7]); first | show loopQ _ _ _ _ _ _ | show cutQ _ _ _ _ | show AWP _ _ _ _ _))) | ((first | refine z11 rfl rfl rfl ?_ | refine x11 rfl rfl rfl ?_); simp (disch := omega) only [go_sem, seval, hd, cb, ruleD, j13, r1, rk, rn, q1, q4, qm]; (first | refine ⟨_, tc, ?_⟩ | refine ⟨_, km, ?_⟩ | refine ⟨_, km2, ?_⟩ | refine ⟨_, kl, ?_⟩)) | ((first | refine x8 [] rfl ?_ | refine j8 [] rfl ?_); simp (disch := omega) only [go_sem, seval, hd, cb, ruleD, j13, r1, rk, rn, q1, q4, qm]; (repeat (first | refine ⟨by omega, ?_⟩ | refine ⟨True.intro, ?_⟩)))))
       refine q10 ⟨_, ?_, rfl⟩; rw [Tryz.results30]; simp (disch := omega) only [ResVars, ResVar, ptrLoc, go_sem, seval, hd, cb, ruleD, j13, r1, rk, rn, q1, q4, qm]
      |true =>
       cases em with
       |true =>
        (repeat (first | apply j0 | refine q8 rfl ?_ | refine z8 rfl ?_ | apply x7 | (refine j4 fun K hK => ?_) | (refine x5 fun K hK => ?_) | ((first | apply j6 | apply z7 | ((first | refine x4 (hK _ ?_) | refine x6 (hK _ _ j5 ?_)); clear hK K)); (first | show AWP _ _ _ _ _ | ((try simp only [j7]); first | show loopQ _ _ _ _ _ _ | show cutQ _ _ _ _ | show AWP _ _ _ _ _))) | ((first | refine z11 rfl rfl rfl ?_ | refine x11 rfl rfl rfl ?_); simp (disch := omega) only [go_sem, seval, hd, cb, ruleD, j13, r1, rk, rn, q1, q4, qm]; (first | refine ⟨_, tc, ?_⟩ | refine ⟨_, km, ?_⟩ | refine ⟨_, km2, ?_⟩ | refine ⟨_, kl, ?_⟩)) | ((first | refine x8 [] rfl ?_ | refine j8 [] rfl ?_); simp (disch := omega) only [go_sem, seval, hd, cb, ruleD, j13, r1, rk, rn, q1, q4, qm]; (repeat (first | refine ⟨by omega, ?_⟩ | refine ⟨True.intro, ?_⟩)))))
        refine q10 ⟨_, ?_, rfl⟩; rw [Tryz.results30]; simp (disch := omega) only [ResVars, ResVar, ptrLoc, go_sem, seval, hd, cb, ruleD, j13, r1, rk, rn, q1, q4, qm]
       |false =>
        (repeat (first | apply j0 | refine q8 rfl ?_ | refine z8 rfl ?_ | apply x7 | (refine j4 fun K hK => ?_) | (refine x5 fun K hK => ?_) | ((first | apply j6 | apply z7 | ((first | refine x4 (hK _ ?_) | refine x6 (hK _ _ j5 ?_)); clear hK K)); (first | show AWP _ _ _ _ _ | ((try simp only [j7]); first | show loopQ _ _ _ _ _ _ | show cutQ _ _ _ _ | show AWP _ _ _ _ _))) | ((first | refine z11 rfl rfl rfl ?_ | refine x11 rfl rfl rfl ?_); simp (disch := omega) only [go_sem, seval, hd, cb, ruleD, j13, r1, rk, rn, q1, q4, qm, qd]; (first | refine ⟨_, tc, ?_⟩ | refine ⟨_, km, ?_⟩ | refine ⟨_, km2, ?_⟩ | refine ⟨_, kl, ?_⟩)) | ((first | refine x8 [] rfl ?_ | refine j8 [] rfl ?_); simp (disch := omega) only [go_sem, seval, hd, cb, ruleD, j13, r1, rk, rn, q1, q4, qm, qd]; (repeat (first | refine ⟨by omega, ?_⟩ | refine ⟨True.intro, ?_⟩)))))
        refine q10 ⟨_, ?_, rfl⟩; rw [Tryz.results30]; simp (disch := omega) only [ResVars, ResVar, ptrLoc, go_sem, seval, hd, cb, ruleD, j13, r1, rk, rn, q1, q4, qm, qd]
  ·have : i = l.length := by omega
   subst this
   have hG : (b && p.isEmpty, (0 : Int)) = R := by
    rcases inv with ⟨h', _⟩ | ⟨_, h'⟩
    ·omega
    ·rw [List.drop_of_length_le (by omega)] at h'; exact h'
   subst hG
   have q0 := len0 p
   cases b with
   |false =>
    (repeat (first | apply j0 | refine q8 rfl ?_ | refine z8 rfl ?_ | apply x7 | (refine j4 fun K hK => ?_) | (refine x5 fun K hK => ?_) | ((first | apply j6 | apply z7 | ((first | refine x4 (hK _ ?_) | refine x6 (hK _ _ j5 ?_)); clear hK K)); (first | show AWP _ _ _ _ _ | ((try simp only [j7]); first | show loopQ _ _ _ _ _ _ | show cutQ _ _ _ _ | show AWP _ _ _ _ _))) | ((first | refine x8 [] rfl ?_ | refine j8 [] rfl ?_); simp (disch := omega) only [go_sem, seval, hd, cb, ruleD, j13, q0, Bool.true_and, Bool.false_and]; (repeat (first | refine ⟨by omega, ?_⟩ | refine ⟨True.intro, ?_⟩)))))
    refine q10 ⟨_, ?_, rfl⟩; rw [Tryz.results30]; simp (disch := omega) only [ResVars, ResVar, ptrLoc, go_sem, seval, hd, cb, ruleD, j13, q0, Bool.true_and, Bool.false_and]
   |true =>
    (repeat (first | apply j0 | refine q8 rfl ?_ | refine z8 rfl ?_ | apply x7 | (refine j4 fun K hK => ?_) | (refine x5 fun K hK => ?_) | ((first | apply j6 | apply z7 | ((first | refine x4 (hK _ ?_) | refine x6 (hK _ _ j5 ?_)); clear hK K)); (first | show AWP _ _ _ _ _ | ((try simp only [j7]); first | show loopQ _ _ _ _ _ _ | show cutQ _ _ _ _ | show AWP _ _ _ _ _))) | ((first | refine x8 [] rfl ?_ | refine j8 [] rfl ?_); simp (disch := omega) only [go_sem, seval, hd, cb, ruleD, j13, q0, Bool.true_and, Bool.false_and]; (repeat (first | refine ⟨by omega, ?_⟩ | refine ⟨True.intro, ?_⟩)))))
    refine q10 ⟨_, ?_, rfl⟩; rw [Tryz.results30]; simp (disch := omega) only [ResVars, ResVar, ptrLoc, go_sem, seval, hd, cb, ruleD, j13, q0, Bool.true_and, Bool.false_and]
 ·rw [if_neg he] at hR
  subst hR
  generalize seenR l n = S at *
  obtain ⟨p, e⟩ := S
  simp only [] at ks heb
  refine z12 Tryz.func30 rfl (by decide +kernel) (by rw [Tryz.ntmps30]; simp) ?_; rw [Tryz.ntmps30]; simp only [frOf]
  (repeat (first | apply j0 | refine q8 rfl ?_ | refine z8 rfl ?_ | apply x7 | (refine j4 fun K hK => ?_) | (refine x5 fun K hK => ?_) | ((first | apply j6 | apply z7 | ((first | refine x4 (hK _ ?_) | refine x6 (hK _ _ j5 ?_)); clear hK K)); (first | show AWP _ _ _ _ _ | ((try simp only [j7]); first | show loopQ _ _ _ _ _ _ | show cutQ _ _ _ _ | show AWP _ _ _ _ _))) | ((first | refine z11 rfl rfl rfl ?_ | refine x11 rfl rfl rfl ?_); simp (disch := omega) only [go_sem, seval, hd, cb, ruleD, j13, heb]; (first | refine ⟨_, ks, ?_⟩)) | ((first | refine x8 [] rfl ?_ | refine j8 [] rfl ?_); simp (disch := omega) only [go_sem, seval, hd, cb, ruleD, j13, heb]; (repeat (first | refine ⟨by omega, ?_⟩ | refine ⟨True.intro, ?_⟩)))))
  refine q10 ⟨_, ?_, rfl⟩; rw [Tryz.results30]; simp (disch := omega) only [ResVars, ResVar, ptrLoc, go_sem, seval, hd, cb, ruleD, j13, heb]
theorem few29_c (p : List Rule) (hl : p.length ≤ 1099511627776) : ACalls Tryz.prog 27 [.d (.sl 12 p.length (rowR p))] (· = [.d (.sl 12 (p.take 8).length (rowR (p.take 8)))]) := by
 have rt : ∀ i, i < 8 → rowR p i = rowR (p.take 8) i := fun i hi => by
  unfold rowR
  rw [List.getD_eq_getElem?_getD, List.getD_eq_getElem?_getD, List.getElem?_take_of_lt hi]
 by_cases h : 8 < p.length
 ·have e : (p.take 8).length = 8 := by simp; omega
  rw [e]
  refine z12 Tryz.func27 rfl (by decide +kernel) (by rw [Tryz.ntmps27]; simp) ?_; rw [Tryz.ntmps27]; simp only [frOf]
  (repeat (first | apply j0 | refine q8 rfl ?_ | refine z8 rfl ?_ | apply x7 | (refine j4 fun K hK => ?_) | (refine x5 fun K hK => ?_) | ((first | apply j6 | apply z7 | ((first | refine x4 (hK _ ?_) | refine x6 (hK _ _ j5 ?_)); clear hK K)); (first | show AWP _ _ _ _ _ | ((try simp only [j7]); first | show loopQ _ _ _ _ _ _ | show cutQ _ _ _ _ | show AWP _ _ _ _ _))) | ((first | refine x8 [] rfl ?_ | refine j8 [] rfl ?_); simp (disch := omega) only [go_sem, seval, hd, cb, ruleD]; (repeat (first | refine ⟨by omega, ?_⟩ | refine ⟨True.intro, ?_⟩)))))
  refine x14 2 _ (.p (.d (.sl 12 8 (rowR (p.take 8))))) rfl (q36 rfl (fun i hi => by simpa using rt i hi)) ?_
  refine q10 ⟨_, ?_, rfl⟩; rw [Tryz.results27]; simp (disch := omega) only [ResVars, ResVar, ptrLoc, go_sem, seval, hd, cb, ruleD]
 ·rw [List.take_of_length_le (by omega)]
  refine z12 Tryz.func27 rfl (by decide +kernel) (by rw [Tryz.ntmps27]; simp) ?_; rw [Tryz.ntmps27]; simp only [frOf]
  (repeat (first | apply j0 | refine q8 rfl ?_ | refine z8 rfl ?_ | apply x7 | (refine j4 fun K hK => ?_) | (refine x5 fun K hK => ?_) | ((first | apply j6 | apply z7 | ((first | refine x4 (hK _ ?_) | refine x6 (hK _ _ j5 ?_)); clear hK K)); (first | show AWP _ _ _ _ _ | ((try simp only [j7]); first | show loopQ _ _ _ _ _ _ | show cutQ _ _ _ _ | show AWP _ _ _ _ _))) | ((first | refine x8 [] rfl ?_ | refine j8 [] rfl ?_); simp (disch := omega) only [go_sem, seval, hd, cb, ruleD]; (repeat (first | refine ⟨by omega, ?_⟩ | refine ⟨True.intro, ?_⟩)))))
  refine q10 ⟨_, ?_, rfl⟩; rw [Tryz.results27]; simp (disch := omega) only [ResVars, ResVar, ptrLoc, go_sem, seval, hd, cb, ruleD]
theorem q35 {α : Type} {e : α → α → Bool} {d : α} {a b : List α} (h : a.length ≠ b.length) : eqBy e d a b = false := by unfold eqBy; rw [if_neg h]
theorem x29 {α : Type} {e : α → α → Bool} {d : α} {a b : List α} (h : a.length = b.length) : eqBy e d a b = allF (fun i => e (a.getD i d) (b.getD i d)) a.length 0 := by unfold eqBy; rw [if_pos h]
def rul8A (a b : List (List Rule)) (R : Bool) (s : {i : Nat // i ≤ a.length ∧ allF (fun i => eqRR (a.getD i []) (b.getD i [])) a.length i = R}) : ASt :=
 ⟨[(5, .p (.d (.v (.int .i64 (s.val : Int))))), (1, .p (.d (.sl 1 b.length (rowRR b)))), (0, .p (.d (.sl 1 a.length (rowRR a))))], []⟩
def rul8B (a b : List (List Rule)) (x y : List Rule) (i : Nat) (Q : Bool) (s : {k : Nat // k ≤ x.length ∧ allF (fun k => x.getD k r0 == y.getD k r0) x.length k = Q}) : ASt :=
 ⟨[(6, .p (.d (.v (.int .i64 (s.val : Int))))), (5, .p (.d (.v (.int .i64 (i : Int))))), (1, .p (.d (.sl 1 b.length (rowRR b)))), (0, .p (.d (.sl 1 a.length (rowRR a))))], []⟩
set_option maxRecDepth 100000 in
set_option maxHeartbeats 4000000 in
theorem q115 (a b : List (List Rule)) (ha : smallR a) (hb : smallR b) : ACalls Tryz.prog 32 [.d (.sl 1 a.length (rowRR a)), .d (.sl 1 b.length (rowRR b))] (· = [.d (.v (.bool (eqBy eqRR [] a b)))]) := by
 have hs := ha.1
 have hs' := hb.1
 by_cases hn : a.length = b.length
 ·rw [x29 hn]
  have q0 : ((a.length : Int) != (b.length : Int)) = false := x16 (by omega)
  generalize hR : allF (fun i => eqRR (a.getD i []) (b.getD i [])) a.length 0 = R
  refine z12 Tryz.func32 rfl (by decide +kernel) (by rw [Tryz.ntmps32]; simp) ?_; rw [Tryz.ntmps32]; simp only [frOf]
  (repeat (first | apply j0 | refine q8 rfl ?_ | refine z8 rfl ?_ | apply x7 | (refine j4 fun K hK => ?_) | (refine x5 fun K hK => ?_) | ((first | apply j6 | apply z7 | ((first | refine x4 (hK _ ?_) | refine x6 (hK _ _ j5 ?_)); clear hK K)); (first | show AWP _ _ _ _ _ | ((try simp only [j7]); first | show loopQ _ _ _ _ _ _ | show cutQ _ _ _ _ | show AWP _ _ _ _ _))) | ((first | refine x8 [] rfl ?_ | refine j8 [] rfl ?_); simp (disch := omega) only [go_sem, seval, ruleD, x13, q0]; (repeat (first | refine ⟨by omega, ?_⟩ | refine ⟨True.intro, ?_⟩)))))
  refine q13 (rul8A a b R) (fun s => a.length - s.val) ⟨0, Nat.zero_le _, hR⟩ ?_ (fun s => ?_)
  ·unfold rul8A
   refine Weak.list ?_ ?_; (all_goals simp (disch := omega) only [AllF, AllL, x10, j10, z10, exists_eq_left', go_sem, seval, ruleD, x13]); (all_goals (repeat' (with_reducible apply And.intro))); (all_goals try (first | exact q9 rfl | (refine q11 ?_; omega) | (refine q9 ?_; simp; done)))
  obtain ⟨i, hi, h2⟩ := s
  unfold rul8A
  simp only [] at hi h2 ⊢
  by_cases h : i < a.length
  ·rw [z21 h] at h2
   have r1 := j45 a i
   have r2 := j45 b i
   have l1 := x39 ha i
   have l2 := x39 hb i
   try simp only [] at h2
   generalize a.getD i [] = x at h2 r1 l1
   generalize b.getD i [] = y at h2 r2 l2
   by_cases hxy : x.length = y.length
   ·have q1 : ((x.length : Int) != (y.length : Int)) = false := x16 (by omega)
    have eQ : eqRR x y = allF (fun k => x.getD k r0 == y.getD k r0) x.length 0 := x29 hxy
    generalize eqRR x y = Q at h2 eQ
    (repeat (first | apply j0 | refine q8 rfl ?_ | refine z8 rfl ?_ | apply x7 | (refine j4 fun K hK => ?_) | (refine x5 fun K hK => ?_) | ((first | apply j6 | apply z7 | ((first | refine x4 (hK _ ?_) | refine x6 (hK _ _ j5 ?_)); clear hK K)); (first | show AWP _ _ _ _ _ | ((try simp only [j7]); first | show loopQ _ _ _ _ _ _ | show cutQ _ _ _ _ | show AWP _ _ _ _ _))) | ((first | refine x8 [] rfl ?_ | refine j8 [] rfl ?_); simp (disch := omega) only [go_sem, seval, ruleD, x13, r1, r2, q1]; (repeat (first | refine ⟨by omega, ?_⟩ | refine ⟨True.intro, ?_⟩)))))
    refine q13 (rul8B a b x y i Q) (fun s => x.length - s.val) ⟨0, Nat.zero_le _, eQ.symm⟩ ?_ (fun s => ?_)
    ·unfold rul8B
     refine Weak.list ?_ ?_; (all_goals simp (disch := omega) only [AllF, AllL, x10, j10, z10, exists_eq_left', go_sem, seval, ruleD, x13, r1, r2, q1]); (all_goals (repeat' (with_reducible apply And.intro))); (all_goals try (first | exact q9 rfl | (refine q11 ?_; omega) | (refine q9 ?_; simp; done)))
    obtain ⟨k, hk, h3⟩ := s
    unfold rul8B
    simp only [] at hk h3 ⊢
    by_cases hkl : k < x.length
    ·rw [z21 hkl] at h3
     have r3 := j19 x k
     have r4 := j19 y k
     try simp only [] at h3
     generalize x.getD k r0 = u at h3 r3
     generalize y.getD k r0 = v at h3 r4
     have e := z148 u v
     generalize (u == v) = c at h3 e
     cases c
     ·rw [Bool.false_and] at h3
      subst h3
      rw [Bool.false_and] at h2
      subst h2
      (repeat (first | apply j0 | refine q8 rfl ?_ | refine z8 rfl ?_ | apply x7 | (refine j4 fun K hK => ?_) | (refine x5 fun K hK => ?_) | ((first | apply j6 | apply z7 | ((first | refine x4 (hK _ ?_) | refine x6 (hK _ _ j5 ?_)); clear hK K)); (first | show AWP _ _ _ _ _ | ((try simp only [j7]); first | show loopQ _ _ _ _ _ _ | show cutQ _ _ _ _ | show AWP _ _ _ _ _))) | ((first | refine x8 [] rfl ?_ | refine j8 [] rfl ?_); simp (disch := omega) only [go_sem, seval, ruleD, x13, r1, r2, r3, r4, e]; (repeat (first | refine ⟨by omega, ?_⟩ | refine ⟨True.intro, ?_⟩)))))
      refine q10 ⟨_, ?_, rfl⟩; rw [Tryz.results32]; simp (disch := omega) only [ResVars, ResVar, ptrLoc, go_sem, seval, ruleD, x13, r1, r2, r3, r4, e]
     ·rw [Bool.true_and] at h3
      (repeat (first | apply j0 | refine q8 rfl ?_ | refine z8 rfl ?_ | apply x7 | (refine j4 fun K hK => ?_) | (refine x5 fun K hK => ?_) | ((first | apply j6 | apply z7 | ((first | refine x4 (hK _ ?_) | refine x6 (hK _ _ j5 ?_)); clear hK K)); (first | show AWP _ _ _ _ _ | ((try simp only [j7]); first | show loopQ _ _ _ _ _ _ | show cutQ _ _ _ _ | show AWP _ _ _ _ _))) | ((first | refine x8 [] rfl ?_ | refine j8 [] rfl ?_); simp (disch := omega) only [go_sem, seval, ruleD, x13, r1, r2, r3, r4, e]; (repeat (first | refine ⟨by omega, ?_⟩ | refine ⟨True.intro, ?_⟩)))))
      refine ⟨⟨k + 1, by omega, h3⟩, by simp only []; omega, ?_⟩
      refine Weak.list ?_ ?_; (all_goals simp (disch := omega) only [AllF, AllL, x10, j10, z10, exists_eq_left', go_sem, seval, ruleD, x13, r1, r2, r3, r4, e]); (all_goals (repeat' (with_reducible apply And.intro))); (all_goals try (first | exact q9 rfl | (refine q11 ?_; omega) | (refine q9 ?_; simp; done)))
    ·rw [x21 (by omega)] at h3
     subst h3
     rw [Bool.true_and] at h2
     (repeat (first | apply j0 | refine q8 rfl ?_ | refine z8 rfl ?_ | apply x7 | (refine j4 fun K hK => ?_) | (refine x5 fun K hK => ?_) | ((first | apply j6 | apply z7 | ((first | refine x4 (hK _ ?_) | refine x6 (hK _ _ j5 ?_)); clear hK K)); (first | show AWP _ _ _ _ _ | ((try simp only [j7]); first | show loopQ _ _ _ _ _ _ | show cutQ _ _ _ _ | show AWP _ _ _ _ _))) | ((first | refine x8 [] rfl ?_ | refine j8 [] rfl ?_); simp (disch := omega) only [go_sem, seval, ruleD, x13, r1, r2]; (repeat (first | refine ⟨by omega, ?_⟩ | refine ⟨True.intro, ?_⟩)))))
     refine ⟨⟨i + 1, by omega, h2⟩, by simp only []; omega, ?_⟩
     refine Weak.list ?_ ?_; (all_goals simp (disch := omega) only [AllF, AllL, x10, j10, z10, exists_eq_left', go_sem, seval, ruleD, x13, r1, r2]); (all_goals (repeat' (with_reducible apply And.intro))); (all_goals try (first | exact q9 rfl | (refine q11 ?_; omega) | (refine q9 ?_; simp; done)))
   ·have q1 : ((x.length : Int) != (y.length : Int)) = true := q15 (by omega)
    rw [show eqRR x y = false from q35 hxy, Bool.false_and] at h2
    subst h2
    (repeat (first | apply j0 | refine q8 rfl ?_ | refine z8 rfl ?_ | apply x7 | (refine j4 fun K hK => ?_) | (refine x5 fun K hK => ?_) | ((first | apply j6 | apply z7 | ((first | refine x4 (hK _ ?_) | refine x6 (hK _ _ j5 ?_)); clear hK K)); (first | show AWP _ _ _ _ _ | ((try simp only [j7]); first | show loopQ _ _ _ _ _ _ | show cutQ _ _ _ _ | show AWP _ _ _ _ _))) | ((first | refine x8 [] rfl ?_ | refine j8 [] rfl ?_); simp (disch := omega) only [go_sem, seval, ruleD, x13, r1, r2, q1]; (repeat (first | refine ⟨by omega, ?_⟩ | refine ⟨True.intro, ?_⟩)))))
    refine q10 ⟨_, ?_, rfl⟩; rw [Tryz.results32]; simp (disch := omega) only [ResVars, ResVar, ptrLoc, go_sem, seval, ruleD, x13, r1, r2, q1]
  ·rw [x21 (by omega)] at h2
   subst h2
   (repeat (first | apply j0 | refine q8 rfl ?_ | refine z8 rfl ?_ | apply x7 | (refine j4 fun K hK => ?_) | (refine x5 fun K hK => ?_) | ((first | apply j6 | apply z7 | ((first | refine x4 (hK _ ?_) | refine x6 (hK _ _ j5 ?_)); clear hK K)); (first | show AWP _ _ _ _ _ | ((try simp only [j7]); first | show loopQ _ _ _ _ _ _ | show cutQ _ _ _ _ | show AWP _ _ _ _ _))) | ((first | refine x8 [] rfl ?_ | refine j8 [] rfl ?_); simp (disch := omega) only [go_sem, seval, ruleD, x13]; (repeat (first | refine ⟨by omega, ?_⟩ | refine ⟨True.intro, ?_⟩)))))
   refine q10 ⟨_, ?_, rfl⟩; rw [Tryz.results32]; simp (disch := omega) only [ResVars, ResVar, ptrLoc, go_sem, seval, ruleD, x13]
 ·rw [q35 hn]
  have q : ((a.length : Int) != (b.length : Int)) = true := q15 (by omega)
  refine z12 Tryz.func32 rfl (by decide +kernel) (by rw [Tryz.ntmps32]; simp) ?_; rw [Tryz.ntmps32]; simp only [frOf]
  (repeat (first | apply j0 | refine q8 rfl ?_ | refine z8 rfl ?_ | apply x7 | (refine j4 fun K hK => ?_) | (refine x5 fun K hK => ?_) | ((first | apply j6 | apply z7 | ((first | refine x4 (hK _ ?_) | refine x6 (hK _ _ j5 ?_)); clear hK K)); (first | show AWP _ _ _ _ _ | ((try simp only [j7]); first | show loopQ _ _ _ _ _ _ | show cutQ _ _ _ _ | show AWP _ _ _ _ _))) | ((first | refine x8 [] rfl ?_ | refine j8 [] rfl ?_); simp (disch := omega) only [go_sem, seval, ruleD, x13, q]; (repeat (first | refine ⟨by omega, ?_⟩ | refine ⟨True.intro, ?_⟩)))))
  refine q10 ⟨_, ?_, rfl⟩; rw [Tryz.results32]; simp (disch := omega) only [ResVars, ResVar, ptrLoc, go_sem, seval, ruleD, x13, q]
def por8A (a b : List (List Port)) (R : Bool) (s : {i : Nat // i ≤ a.length ∧ allF (fun i => eqPP (a.getD i []) (b.getD i [])) a.length i = R}) : ASt :=
 ⟨[(5, .p (.d (.v (.int .i64 (s.val : Int))))), (3, .p (.d (.bx [.sl 1 b.length (rowPP b)]))), (2, .p (.d (.bx [.sl 1 a.length (rowPP a)])))], []⟩
def por8B (a b : List (List Port)) (x y : List Port) (i : Nat) (Q : Bool) (s : {k : Nat // k ≤ x.length ∧ allF (fun k => x.getD k p0 == y.getD k p0) x.length k = Q}) : ASt :=
 ⟨[(6, .p (.d (.v (.int .i64 (s.val : Int))))), (5, .p (.d (.v (.int .i64 (i : Int))))), (3, .p (.d (.bx [.sl 1 b.length (rowPP b)]))), (2, .p (.d (.bx [.sl 1 a.length (rowPP a)])))], []⟩
set_option maxRecDepth 100000 in
set_option maxHeartbeats 4000000 in
theorem x181 (a b : List (List Port)) (ha : small a) (hb : small b) : ACalls Tryz.prog 37 [.agg [.sl 1 a.length (rowPP a)], .agg [.sl 1 b.length (rowPP b)]] (· = [.d (.v (.bool (eqBy eqPP [] a b)))]) := by
 have hs := ha.1
 have hs' := hb.1
 by_cases hn : a.length = b.length
 ·rw [x29 hn]
  have q0 : ((a.length : Int) != (b.length : Int)) = false := x16 (by omega)
  generalize hR : allF (fun i => eqPP (a.getD i []) (b.getD i [])) a.length 0 = R
  refine z12 Tryz.func37 rfl (by decide +kernel) (by rw [Tryz.ntmps37]; simp) ?_; rw [Tryz.ntmps37]; simp only [frOf]
  (repeat (first | apply j0 | refine q8 rfl ?_ | refine z8 rfl ?_ | apply x7 | (refine j4 fun K hK => ?_) | (refine x5 fun K hK => ?_) | ((first | apply j6 | apply z7 | ((first | refine x4 (hK _ ?_) | refine x6 (hK _ _ j5 ?_)); clear hK K)); (first | show AWP _ _ _ _ _ | ((try simp only [j7]); first | show loopQ _ _ _ _ _ _ | show cutQ _ _ _ _ | show AWP _ _ _ _ _))) | ((first | refine x8 [] rfl ?_ | refine j8 [] rfl ?_); simp (disch := omega) only [go_sem, seval, portD, q17, q0]; (repeat (first | refine ⟨by omega, ?_⟩ | refine ⟨True.intro, ?_⟩)))))
  refine q13 (por8A a b R) (fun s => a.length - s.val) ⟨0, Nat.zero_le _, hR⟩ ?_ (fun s => ?_)
  ·unfold por8A
   refine Weak.list ?_ ?_; (all_goals simp (disch := omega) only [AllF, AllL, x10, j10, z10, exists_eq_left', go_sem, seval, portD, q17]); (all_goals (repeat' (with_reducible apply And.intro))); (all_goals try (first | exact q9 rfl | (refine q11 ?_; omega) | (refine q9 ?_; simp; done)))
  obtain ⟨i, hi, h2⟩ := s
  unfold por8A
  simp only [] at hi h2 ⊢
  by_cases h : i < a.length
  ·rw [z21 h] at h2
   have r1 := x27 a i
   have r2 := x27 b i
   have l1 := j27 ha i
   have l2 := j27 hb i
   try simp only [] at h2
   generalize a.getD i [] = x at h2 r1 l1
   generalize b.getD i [] = y at h2 r2 l2
   by_cases hxy : x.length = y.length
   ·have q1 : ((x.length : Int) != (y.length : Int)) = false := x16 (by omega)
    have eQ : eqPP x y = allF (fun k => x.getD k p0 == y.getD k p0) x.length 0 := x29 hxy
    generalize eqPP x y = Q at h2 eQ
    (repeat (first | apply j0 | refine q8 rfl ?_ | refine z8 rfl ?_ | apply x7 | (refine j4 fun K hK => ?_) | (refine x5 fun K hK => ?_) | ((first | apply j6 | apply z7 | ((first | refine x4 (hK _ ?_) | refine x6 (hK _ _ j5 ?_)); clear hK K)); (first | show AWP _ _ _ _ _ | ((try simp only [j7]); first | show loopQ _ _ _ _ _ _ | show cutQ _ _ _ _ | show AWP _ _ _ _ _))) | ((first | refine x8 [] rfl ?_ | refine j8 [] rfl ?_); simp (disch := omega) only [go_sem, seval, portD, q17, r1, r2, q1]; (repeat (first | refine ⟨by omega, ?_⟩ | refine ⟨True.intro, ?_⟩)))))
    refine q13 (por8B a b x y i Q) (fun s => x.length - s.val) ⟨0, Nat.zero_le _, eQ.symm⟩ ?_ (fun s => ?_)
    ·unfold por8B
     refine Weak.list ?_ ?_; (all_goals simp (disch := omega) only [AllF, AllL, x10, j10, z10, exists_eq_left', go_sem, seval, portD, q17, r1, r2, q1]); (all_goals (repeat' (with_reducible apply And.intro))); (all_goals try (first | exact q9 rfl | (refine q11 ?_; omega) | (refine q9 ?_; simp; done)))
    obtain ⟨k, hk, h3⟩ := s
    unfold por8B
    simp only [] at hk h3 ⊢
    by_cases hkl : k < x.length
    ·rw [z21 hkl] at h3
     have r3 := x33 x k
     have r4 := x33 y k
     try simp only [] at h3
     generalize x.getD k p0 = u at h3 r3
     generalize y.getD k p0 = v at h3 r4
     have e := x174 u v
     generalize (u == v) = c at h3 e
     cases c
     ·rw [Bool.false_and] at h3
      subst h3
      rw [Bool.false_and] at h2
      subst h2
      (repeat (first | apply j0 | refine q8 rfl ?_ | refine z8 rfl ?_ | apply x7 | (refine j4 fun K hK => ?_) | (refine x5 fun K hK => ?_) | ((first | apply j6 | apply z7 | ((first | refine x4 (hK _ ?_) | refine x6 (hK _ _ j5 ?_)); clear hK K)); (first | show AWP _ _ _ _ _ | ((try simp only [j7]); first | show loopQ _ _ _ _ _ _ | show cutQ _ _ _ _ | show AWP _ _ _ _ _))) | ((first | refine x8 [] rfl ?_ | refine j8 [] rfl ?_); simp (disch := omega) only [go_sem, seval, portD, q17, r1, r2, r3, r4, e]; (repeat (first | refine ⟨by omega, ?_⟩ | refine ⟨True.intro, ?_⟩)))))
      refine q10 ⟨_, ?_, rfl⟩; rw [Tryz.results37]; simp (disch := omega) only [ResVars, ResVar, ptrLoc, go_sem, seval, portD, q17, r1, r2, r3, r4, e]
     ·rw [Bool.true_and] at h3
      (repeat (first | apply j0 | refine q8 rfl ?_ | refine z8 rfl ?_ | apply x7 | (refine j4 fun K hK => ?_) | (refine x5 fun K hK => ?_) | ((first | apply j6 | apply z7 | ((first | refine x4 (hK _ ?_) | refine x6 (hK _ _ j5 ?_)); clear hK K)); (first | show AWP _ _ _ _ _ | ((try simp only [j7]); first | show loopQ _ _ _ _ _ _ | show cutQ _ _ _ _ | show AWP _ _ _ _ _))) | ((first | refine x8 [] rfl ?_ | refine j8 [] rfl ?_); simp (disch := omega) only [go_sem, seval, portD, q17, r1, r2, r3, r4, e]; (repeat (first | refine ⟨by omega, ?_⟩ | refine ⟨True.intro, ?_⟩)))))
      refine ⟨⟨k + 1, by omega, h3⟩, by simp only []; omega, ?_⟩
      refine Weak.list ?_ ?_; (all_goals simp (disch := omega) only [AllF, AllL, x10, j10, z10, exists_eq_left', go_sem, seval, portD, q17, r1, r2, r3, r4, e]); (all_goals (repeat' (with_reducible apply And.intro))); (all_goals try (first | exact q9 rfl | (refine q11 ?_; omega) | (refine q9 ?_; simp; done)))
    ·rw [x21 (by omega)] at h3
     subst h3
     rw [Bool.true_and] at h2
     (repeat (first | apply j0 | refine q8 rfl ?_ | refine z8 rfl ?_ | apply x7 | (refine j4 fun K hK => ?_) | (refine x5 fun K hK => ?_) | ((first | apply j6 | apply z7 | ((first | refine x4 (hK _ ?_) | refine x6 (hK _ _ j5 ?_)); clear hK K)); (first | show AWP _ _ _ _ _ | ((try simp only [j7]); first | show loopQ _ _ _ _ _ _ | show cutQ _ _ _ _ | show AWP _ _ _ _ _))) | ((first | refine x8 [] rfl ?_ | refine j8 [] rfl ?_); simp (disch := omega) only [go_sem, seval, portD, q17, r1, r2]; (repeat (first | refine ⟨by omega, ?_⟩ | refine ⟨True.intro, ?_⟩)))))
     refine ⟨⟨i + 1, by omega, h2⟩, by simp only []; omega, ?_⟩
     refine Weak.list ?_ ?_; (all_goals simp (disch := omega) only [AllF, AllL, x10, j10, z10, exists_eq_left', go_sem, seval, portD, q17, r1, r2]); (all_goals (repeat' (with_reducible apply And.intro))); (all_goals try (first | exact q9 rfl | (refine q11 ?_; omega) | (refine q9 ?_; simp; done)))
   ·have q1 : ((x.length : Int) != (y.length : Int)) = true := q15 (by omega)
    rw [show eqPP x y = false from q35 hxy, Bool.false_and] at h2
    subst h2
    (repeat (first | apply j0 | refine q8 rfl ?_ | refine z8 rfl ?_ | apply x7 | (refine j4 fun K hK => ?_) | (refine x5 fun K hK => ?_) | ((first | apply j6 | apply z7 | ((first | refine x4 (hK _ ?_) | refine x6 (hK _ _ j5 ?_)); clear hK K)); (first | show AWP _ _ _ _ _ | ((try simp only [j7]); first | show loopQ _ _ _ _ _ _ | show cutQ _ _ _ _ | show AWP _ _ _ _ _))) | ((first | refine x8 [] rfl ?_ | refine j8 [] rfl ?_); simp (disch := omega) only [go_sem, seval, portD, q17, r1, r2, q1]; (repeat (first | refine ⟨by omega, ?_⟩ | refine ⟨True.intro, ?_⟩)))))
    refine q10 ⟨_, ?_, rfl⟩; rw [Tryz.results37]; simp (disch := omega) only [ResVars, ResVar, ptrLoc, go_sem, seval, portD, q17, r1, r2, q1]
  ·rw [x21 (by omega)] at h2
   subst h2
   (repeat (first | apply j0 | refine q8 rfl ?_ | refine z8 rfl ?_ | apply x7 | (refine j4 fun K hK => ?_) | (refine x5 fun K hK => ?_) | ((first | apply j6 | apply z7 | ((first | refine x4 (hK _ ?_) | refine x6 (hK _ _ j5 ?_)); clear hK K)); (first | show AWP _ _ _ _ _ | ((try simp only [j7]); first | show loopQ _ _ _ _ _ _ | show cutQ _ _ _ _ | show AWP _ _ _ _ _))) | ((first | refine x8 [] rfl ?_ | refine j8 [] rfl ?_); simp (disch := omega) only [go_sem, seval, portD, q17]; (repeat (first | refine ⟨by omega, ?_⟩ | refine ⟨True.intro, ?_⟩)))))
   refine q10 ⟨_, ?_, rfl⟩; rw [Tryz.results37]; simp (disch := omega) only [ResVars, ResVar, ptrLoc, go_sem, seval, portD, q17]
 ·rw [q35 hn]
  have q : ((a.length : Int) != (b.length : Int)) = true := q15 (by omega)
  refine z12 Tryz.func37 rfl (by decide +kernel) (by rw [Tryz.ntmps37]; simp) ?_; rw [Tryz.ntmps37]; simp only [frOf]
  (repeat (first | apply j0 | refine q8 rfl ?_ | refine z8 rfl ?_ | apply x7 | (refine j4 fun K hK => ?_) | (refine x5 fun K hK => ?_) | ((first | apply j6 | apply z7 | ((first | refine x4 (hK _ ?_) | refine x6 (hK _ _ j5 ?_)); clear hK K)); (first | show AWP _ _ _ _ _ | ((try simp only [j7]); first | show loopQ _ _ _ _ _ _ | show cutQ _ _ _ _ | show AWP _ _ _ _ _))) | ((first | refine x8 [] rfl ?_ | refine j8 [] rfl ?_); simp (disch := omega) only [go_sem, seval, portD, q17, q]; (repeat (first | refine ⟨by omega, ?_⟩ | refine ⟨True.intro, ?_⟩)))))
  refine q10 ⟨_, ?_, rfl⟩; rw [Tryz.results37]; simp (disch := omega) only [ResVars, ResVar, ptrLoc, go_sem, seval, portD, q17, q]
def sam8L (a b : Config) (t : Nat) (i : Nat) : ASt :=
 ⟨[(t, .p (.d (.v (.int .i64 (i : Int))))), (6, .loc 6 0), (5, .loc 5 0), (3, .p (.d (.bx (configD b)))), (2, .p (.d (.bx (configD a))))],
  [(6, .cells 81 [.p (.d (.v (.int .i64 b.po.tn))), .p (.d (.sl 2 b.po.peers.length (rowA b.po.peers))), .p (.d (.sl 3 b.po.ways.length (rowW b.po.ways)))]), (5, .cells 81 [.p (.d (.v (.int .i64 a.po.tn))), .p (.d (.sl 2 a.po.peers.length (rowA a.po.peers))), .p (.d (.sl 3 a.po.ways.length (rowW a.po.ways)))])]⟩
set_option maxRecDepth 100000 in
set_option maxHeartbeats 8000000 in
theorem Same8_c (a b : Config) (ha : a.small) (hb : b.small) : ACalls Tryz.prog 36 [.agg (configD a), .agg (configD b)] (· = [.d (.v (.bool (sameC a b)))]) := by
 have c1 := x181 a.tp b.tp ha.tp hb.tp
 have z1 := ha.po.1
 have z2 := ha.po.2
 have z3 := hb.po.1
 have z4 := hb.po.2
 have z5 := ha.tb
 have z6 := hb.tb
 have atA := ha.at
 have atB := hb.at
 have s0 : eqBy eqPP [] a.tp b.tp = false → sameC a b = false := fun h => by unfold sameC; rw [h]; rfl
 have s1 : a.po.tn ≠ b.po.tn → sameC a b = false := fun h => by unfold sameC; rw [show (a.po.tn == b.po.tn) = false from j15 h]; simp
 have s2 : eqBy (· == ·) (0, 0) a.po.peers b.po.peers = false → sameC a b = false := fun h => by unfold sameC; rw [h]; simp
 have s3 : eqBy (· == ·) w0 a.po.ways b.po.ways = false → sameC a b = false := fun h => by unfold sameC; rw [h]; simp
 have s4 : eqBy eqTT [] a.tb b.tb = false → sameC a b = false := fun h => by unfold sameC; rw [h]; simp
 have s5 : eqBy eqPP [] a.tp b.tp = true → a.po.tn = b.po.tn → eqBy (· == ·) (0, 0) a.po.peers b.po.peers = true → eqBy (· == ·) w0 a.po.ways b.po.ways = true → eqBy eqTT [] a.tb b.tb = true → sameC a b = true := fun h1 h2 h3 h4 h5 => by
  unfold sameC; rw [h1, h3, h4, h5, show (a.po.tn == b.po.tn) = true from j16 h2]; rfl
 cases hP : eqBy eqPP [] a.tp b.tp
 ·rw [s0 hP]
  rw [hP] at c1
  refine z12 Tryz.func36 rfl (by decide +kernel) (by rw [Tryz.ntmps36]; simp) ?_; rw [Tryz.ntmps36]; simp only [frOf]
  (repeat (first | apply j0 | refine q8 rfl ?_ | refine z8 rfl ?_ | apply x7 | (refine j4 fun K hK => ?_) | (refine x5 fun K hK => ?_) | ((first | apply j6 | apply z7 | ((first | refine x4 (hK _ ?_) | refine x6 (hK _ _ j5 ?_)); clear hK K)); (first | show AWP _ _ _ _ _ | ((try simp only [j7]); first | show loopQ _ _ _ _ _ _ | show cutQ _ _ _ _ | show AWP _ _ _ _ _))) | ((first | refine z11 rfl rfl rfl ?_ | refine x11 rfl rfl rfl ?_); simp (disch := omega) only [go_sem, seval, configD, topoD, policyD]; (first | refine ⟨_, c1, ?_⟩)) | ((first | refine x8 [] rfl ?_ | refine j8 [] rfl ?_); simp (disch := omega) only [go_sem, seval, configD, topoD, policyD]; (repeat (first | refine ⟨by omega, ?_⟩ | refine ⟨True.intro, ?_⟩)))))
  refine q10 ⟨_, ?_, rfl⟩; rw [Tryz.results36]; simp (disch := omega) only [ResVars, ResVar, ptrLoc, go_sem, seval, configD, topoD, policyD]
 rw [hP] at c1
 by_cases hT : a.po.tn = b.po.tn
 rotate_left
 ·rw [s1 hT]
  have q1 : (a.po.tn != b.po.tn) = true := q15 hT
  refine z12 Tryz.func36 rfl (by decide +kernel) (by rw [Tryz.ntmps36]; simp) ?_; rw [Tryz.ntmps36]; simp only [frOf]
  (repeat (first | apply j0 | refine q8 rfl ?_ | refine z8 rfl ?_ | apply x7 | (refine j4 fun K hK => ?_) | (refine x5 fun K hK => ?_) | ((first | apply j6 | apply z7 | ((first | refine x4 (hK _ ?_) | refine x6 (hK _ _ j5 ?_)); clear hK K)); (first | show AWP _ _ _ _ _ | ((try simp only [j7]); first | show loopQ _ _ _ _ _ _ | show cutQ _ _ _ _ | show AWP _ _ _ _ _))) | ((first | refine z11 rfl rfl rfl ?_ | refine x11 rfl rfl rfl ?_); simp (disch := omega) only [go_sem, seval, configD, topoD, policyD, q1]; (first | refine ⟨_, c1, ?_⟩)) | ((first | refine x8 [] rfl ?_ | refine j8 [] rfl ?_); simp (disch := omega) only [go_sem, seval, configD, topoD, policyD, q1]; (repeat (first | refine ⟨by omega, ?_⟩ | refine ⟨True.intro, ?_⟩)))))
  refine q10 ⟨_, ?_, rfl⟩; rw [Tryz.results36]; simp (disch := omega) only [ResVars, ResVar, ptrLoc, go_sem, seval, configD, topoD, policyD, q1]
 have q1 : (a.po.tn != b.po.tn) = false := x16 hT
 by_cases hA : a.po.peers.length = b.po.peers.length
 rotate_left
 ·rw [s2 (q35 hA)]
  have q2 : ((a.po.peers.length : Int) != (b.po.peers.length : Int)) = true := q15 (by omega)
  refine z12 Tryz.func36 rfl (by decide +kernel) (by rw [Tryz.ntmps36]; simp) ?_; rw [Tryz.ntmps36]; simp only [frOf]
  (repeat (first | apply j0 | refine q8 rfl ?_ | refine z8 rfl ?_ | apply x7 | (refine j4 fun K hK => ?_) | (refine x5 fun K hK => ?_) | ((first | apply j6 | apply z7 | ((first | refine x4 (hK _ ?_) | refine x6 (hK _ _ j5 ?_)); clear hK K)); (first | show AWP _ _ _ _ _ | ((try simp only [j7]); first | show loopQ _ _ _ _ _ _ | show cutQ _ _ _ _ | show AWP _ _ _ _ _))) | ((first | refine z11 rfl rfl rfl ?_ | refine x11 rfl rfl rfl ?_); simp (disch := omega) only [go_sem, seval, configD, topoD, policyD, q1, q2]; (first | refine ⟨_, c1, ?_⟩)) | ((first | refine x8 [] rfl ?_ | refine j8 [] rfl ?_); simp (disch := omega) only [go_sem, seval, configD, topoD, policyD, q1, q2]; (repeat (first | refine ⟨by omega, ?_⟩ | refine ⟨True.intro, ?_⟩)))))
  refine q10 ⟨_, ?_, rfl⟩; rw [Tryz.results36]; simp (disch := omega) only [ResVars, ResVar, ptrLoc, go_sem, seval, configD, topoD, policyD, q1, q2]
 have q2 : ((a.po.peers.length : Int) != (b.po.peers.length : Int)) = false := x16 (by omega)
 by_cases hW : a.po.ways.length = b.po.ways.length
 rotate_left
 ·rw [s3 (q35 hW)]
  have q3 : ((a.po.ways.length : Int) != (b.po.ways.length : Int)) = true := q15 (by omega)
  refine z12 Tryz.func36 rfl (by decide +kernel) (by rw [Tryz.ntmps36]; simp) ?_; rw [Tryz.ntmps36]; simp only [frOf]
  (repeat (first | apply j0 | refine q8 rfl ?_ | refine z8 rfl ?_ | apply x7 | (refine j4 fun K hK => ?_) | (refine x5 fun K hK => ?_) | ((first | apply j6 | apply z7 | ((first | refine x4 (hK _ ?_) | refine x6 (hK _ _ j5 ?_)); clear hK K)); (first | show AWP _ _ _ _ _ | ((try simp only [j7]); first | show loopQ _ _ _ _ _ _ | show cutQ _ _ _ _ | show AWP _ _ _ _ _))) | ((first | refine z11 rfl rfl rfl ?_ | refine x11 rfl rfl rfl ?_); simp (disch := omega) only [go_sem, seval, configD, topoD, policyD, q1, q2, q3]; (first | refine ⟨_, c1, ?_⟩)) | ((first | refine x8 [] rfl ?_ | refine j8 [] rfl ?_); simp (disch := omega) only [go_sem, seval, configD, topoD, policyD, q1, q2, q3]; (repeat (first | refine ⟨by omega, ?_⟩ | refine ⟨True.intro, ?_⟩)))))
  refine q10 ⟨_, ?_, rfl⟩; rw [Tryz.results36]; simp (disch := omega) only [ResVars, ResVar, ptrLoc, go_sem, seval, configD, topoD, policyD, q1, q2, q3]
 have q3 : ((a.po.ways.length : Int) != (b.po.ways.length : Int)) = false := x16 (by omega)
 by_cases hB : a.tb.length = b.tb.length
 rotate_left
 ·rw [s4 (q35 hB)]
  have q4 : ((a.tb.length : Int) != (b.tb.length : Int)) = true := q15 (by omega)
  refine z12 Tryz.func36 rfl (by decide +kernel) (by rw [Tryz.ntmps36]; simp) ?_; rw [Tryz.ntmps36]; simp only [frOf]
  (repeat (first | apply j0 | refine q8 rfl ?_ | refine z8 rfl ?_ | apply x7 | (refine j4 fun K hK => ?_) | (refine x5 fun K hK => ?_) | ((first | apply j6 | apply z7 | ((first | refine x4 (hK _ ?_) | refine x6 (hK _ _ j5 ?_)); clear hK K)); (first | show AWP _ _ _ _ _ | ((try simp only [j7]); first | show loopQ _ _ _ _ _ _ | show cutQ _ _ _ _ | show AWP _ _ _ _ _))) | ((first | refine z11 rfl rfl rfl ?_ | refine x11 rfl rfl rfl ?_); simp (disch := omega) only [go_sem, seval, configD, topoD, policyD, q1, q2, q3, q4]; (first | refine ⟨_, c1, ?_⟩)) | ((first | refine x8 [] rfl ?_ | refine j8 [] rfl ?_); simp (disch := omega) only [go_sem, seval, configD, topoD, policyD, q1, q2, q3, q4]; (repeat (first | refine ⟨by omega, ?_⟩ | refine ⟨True.intro, ?_⟩)))))
  refine q10 ⟨_, ?_, rfl⟩; rw [Tryz.results36]; simp (disch := omega) only [ResVars, ResVar, ptrLoc, go_sem, seval, configD, topoD, policyD, q1, q2, q3, q4]
 have q4 : ((a.tb.length : Int) != (b.tb.length : Int)) = false := x16 (by omega)
 rw [x29 hA] at s2 s5
 rw [x29 hW] at s3 s5
 rw [x29 hB] at s4 s5
 generalize hQ1 : allF (fun i => a.po.peers.getD i (0, 0) == b.po.peers.getD i (0, 0)) a.po.peers.length 0 = Q1 at s2 s5
 generalize hQ2 : allF (fun i => a.po.ways.getD i w0 == b.po.ways.getD i w0) a.po.ways.length 0 = Q2 at s3 s5
 generalize hQ3 : allF (fun i => eqTT (a.tb.getD i []) (b.tb.getD i [])) a.tb.length 0 = Q3 at s4 s5
 generalize sameC a b = R at s2 s3 s4 s5
 refine z12 Tryz.func36 rfl (by decide +kernel) (by rw [Tryz.ntmps36]; simp) ?_; rw [Tryz.ntmps36]; simp only [frOf]
 (repeat (first | apply j0 | refine q8 rfl ?_ | refine z8 rfl ?_ | apply x7 | (refine j4 fun K hK => ?_) | (refine x5 fun K hK => ?_) | ((first | apply j6 | apply z7 | ((first | refine x4 (hK _ ?_) | refine x6 (hK _ _ j5 ?_)); clear hK K)); (first | show AWP _ _ _ _ _ | ((try simp only [j7]); first | show loopQ _ _ _ _ _ _ | show cutQ _ _ _ _ | show AWP _ _ _ _ _))) | ((first | refine z11 rfl rfl rfl ?_ | refine x11 rfl rfl rfl ?_); simp (disch := omega) only [go_sem, seval, configD, topoD, policyD, q1, q2, q3, q4]; (first | refine ⟨_, c1, ?_⟩)) | ((first | refine x8 [] rfl ?_ | refine j8 [] rfl ?_); simp (disch := omega) only [go_sem, seval, configD, topoD, policyD, q1, q2, q3, q4]; (repeat (first | refine ⟨by omega, ?_⟩ | refine ⟨True.intro, ?_⟩)))))
 refine q13 (fun s : {i : Nat // i ≤ a.po.peers.length ∧ allF (fun i => a.po.peers.getD i (0, 0) == b.po.peers.getD i (0, 0)) a.po.peers.length i = Q1} => sam8L a b 7 s.val) (fun s => a.po.peers.length - s.val) ⟨0, Nat.zero_le _, hQ1⟩ ?_ (fun s => ?_)
 ·unfold sam8L
  refine Weak.list ?_ ?_; (all_goals simp (disch := omega) only [AllF, AllL, x10, j10, z10, exists_eq_left', go_sem, seval, configD, topoD, policyD]); (all_goals (repeat' (with_reducible apply And.intro))); (all_goals try (first | exact q9 rfl | (refine q11 ?_; omega) | (refine q9 ?_; simp; done)))
 obtain ⟨i, hi, h2⟩ := s
 unfold sam8L
 simp only [] at hi h2 ⊢
 by_cases h : i < a.po.peers.length
 ·rw [z21 h] at h2
  have r1 := z74 a.po.peers i
  have r2 := z74 b.po.peers i
  try simp only [] at h2
  generalize a.po.peers.getD i (0, 0) = x at h2 r1
  generalize b.po.peers.getD i (0, 0) = y at h2 r2
  have e := z174 x y
  generalize (x == y) = c at h2 e
  cases c
  ·rw [Bool.false_and] at h2
   rw [s2 h2.symm]
   (repeat (first | apply j0 | refine q8 rfl ?_ | refine z8 rfl ?_ | apply x7 | (refine j4 fun K hK => ?_) | (refine x5 fun K hK => ?_) | ((first | apply j6 | apply z7 | ((first | refine x4 (hK _ ?_) | refine x6 (hK _ _ j5 ?_)); clear hK K)); (first | show AWP _ _ _ _ _ | ((try simp only [j7]); first | show loopQ _ _ _ _ _ _ | show cutQ _ _ _ _ | show AWP _ _ _ _ _))) | ((first | refine x8 [] rfl ?_ | refine j8 [] rfl ?_); simp (disch := omega) only [go_sem, seval, configD, topoD, policyD, r1, r2, e, pairD, eqA2]; (repeat (first | refine ⟨by omega, ?_⟩ | refine ⟨True.intro, ?_⟩)))))
   refine q10 ⟨_, ?_, rfl⟩; rw [Tryz.results36]; simp (disch := omega) only [ResVars, ResVar, ptrLoc, go_sem, seval, configD, topoD, policyD, r1, r2, e, pairD, eqA2]
  ·rw [Bool.true_and] at h2
   (repeat (first | apply j0 | refine q8 rfl ?_ | refine z8 rfl ?_ | apply x7 | (refine j4 fun K hK => ?_) | (refine x5 fun K hK => ?_) | ((first | apply j6 | apply z7 | ((first | refine x4 (hK _ ?_) | refine x6 (hK _ _ j5 ?_)); clear hK K)); (first | show AWP _ _ _ _ _ | ((try simp only [j7]); first | show loopQ _ _ _ _ _ _ | show cutQ _ _ _ _ | show AWP _ _ _ _ _))) | ((first | refine x8 [] rfl ?_ | refine j8 [] rfl ?_); simp (disch := omega) only [go_sem, seval, configD, topoD, policyD, r1, r2, e, pairD, eqA2]; (repeat (first | refine ⟨by omega, ?_⟩ | refine ⟨True.intro, ?_⟩)))))
   refine ⟨⟨i + 1, by omega, h2⟩, by simp only []; omega, ?_⟩
   refine Weak.list ?_ ?_; (all_goals simp (disch := omega) only [AllF, AllL, x10, j10, z10, exists_eq_left', go_sem, seval, configD, topoD, policyD, r1, r2, e, pairD, eqA2]); (all_goals (repeat' (with_reducible apply And.intro))); (all_goals try (first | exact q9 rfl | (refine q11 ?_; omega) | (refine q9 ?_; simp; done)))
 rw [x21 (by omega)] at h2
 subst h2
 (repeat (first | apply j0 | refine q8 rfl ?_ | refine z8 rfl ?_ | apply x7 | (refine j4 fun K hK => ?_) | (refine x5 fun K hK => ?_) | ((first | apply j6 | apply z7 | ((first | refine x4 (hK _ ?_) | refine x6 (hK _ _ j5 ?_)); clear hK K)); (first | show AWP _ _ _ _ _ | ((try simp only [j7]); first | show loopQ _ _ _ _ _ _ | show cutQ _ _ _ _ | show AWP _ _ _ _ _))) | ((first | refine x8 [] rfl ?_ | refine j8 [] rfl ?_); simp (disch := omega) only [go_sem, seval, configD, topoD, policyD]; (repeat (first | refine ⟨by omega, ?_⟩ | refine ⟨True.intro, ?_⟩)))))
 refine q13 (fun s : {i : Nat // i ≤ a.po.ways.length ∧ allF (fun i => a.po.ways.getD i w0 == b.po.ways.getD i w0) a.po.ways.length i = Q2} => sam8L a b 8 s.val) (fun s => a.po.ways.length - s.val) ⟨0, Nat.zero_le _, hQ2⟩ ?_ (fun s => ?_)
 ·unfold sam8L
  refine Weak.list ?_ ?_; (all_goals simp (disch := omega) only [AllF, AllL, x10, j10, z10, exists_eq_left', go_sem, seval, configD, topoD, policyD]); (all_goals (repeat' (with_reducible apply And.intro))); (all_goals try (first | exact q9 rfl | (refine q11 ?_; omega) | (refine q9 ?_; simp; done)))
 obtain ⟨j, hj, h3⟩ := s
 unfold sam8L
 simp only [] at hj h3 ⊢
 by_cases h' : j < a.po.ways.length
 ·rw [z21 h'] at h3
  have r1 := q74 a.po.ways j
  have r2 := q74 b.po.ways j
  try simp only [] at h3
  generalize a.po.ways.getD j w0 = x at h3 r1
  generalize b.po.ways.getD j w0 = y at h3 r2
  have e := eqI_way x y
  generalize (x == y) = c at h3 e
  cases c
  ·rw [Bool.false_and] at h3
   rw [s3 h3.symm]
   (repeat (first | apply j0 | refine q8 rfl ?_ | refine z8 rfl ?_ | apply x7 | (refine j4 fun K hK => ?_) | (refine x5 fun K hK => ?_) | ((first | apply j6 | apply z7 | ((first | refine x4 (hK _ ?_) | refine x6 (hK _ _ j5 ?_)); clear hK K)); (first | show AWP _ _ _ _ _ | ((try simp only [j7]); first | show loopQ _ _ _ _ _ _ | show cutQ _ _ _ _ | show AWP _ _ _ _ _))) | ((first | refine x8 [] rfl ?_ | refine j8 [] rfl ?_); simp (disch := omega) only [go_sem, seval, configD, topoD, policyD, r1, r2, e, wayD, q54]; (repeat (first | refine ⟨by omega, ?_⟩ | refine ⟨True.intro, ?_⟩)))))
   refine q10 ⟨_, ?_, rfl⟩; rw [Tryz.results36]; simp (disch := omega) only [ResVars, ResVar, ptrLoc, go_sem, seval, configD, topoD, policyD, r1, r2, e, wayD, q54]
  ·rw [Bool.true_and] at h3
   (repeat (first | apply j0 | refine q8 rfl ?_ | refine z8 rfl ?_ | apply x7 | (refine j4 fun K hK => ?_) | (refine x5 fun K hK => ?_) | ((first | apply j6 | apply z7 | ((first | refine x4 (hK _ ?_) | refine x6 (hK _ _ j5 ?_)); clear hK K)); (first | show AWP _ _ _ _ _ | ((try simp only [j7]); first | show loopQ _ _ _ _ _ _ | show cutQ _ _ _ _ | show AWP _ _ _ _ _))) | ((first | refine x8 [] rfl ?_ | refine j8 [] rfl ?_); simp (disch := omega) only [go_sem, seval, configD, topoD, policyD, r1, r2, e, wayD, q54]; (repeat (first | refine ⟨by omega, ?_⟩ | refine ⟨True.intro, ?_⟩)))))
   refine ⟨⟨j + 1, by omega, h3⟩, by simp only []; omega, ?_⟩
   refine Weak.list ?_ ?_; (all_goals simp (disch := omega) only [AllF, AllL, x10, j10, z10, exists_eq_left', go_sem, seval, configD, topoD, policyD, r1, r2, e, wayD, q54]); (all_goals (repeat' (with_reducible apply And.intro))); (all_goals try (first | exact q9 rfl | (refine q11 ?_; omega) | (refine q9 ?_; simp; done)))
 rw [x21 (by omega)] at h3
 subst h3
 (repeat (first | apply j0 | refine q8 rfl ?_ | refine z8 rfl ?_ | apply x7 | (refine j4 fun K hK => ?_) | (refine x5 fun K hK => ?_) | ((first | apply j6 | apply z7 | ((first | refine x4 (hK _ ?_) | refine x6 (hK _ _ j5 ?_)); clear hK K)); (first | show AWP _ _ _ _ _ | ((try simp only [j7]); first | show loopQ _ _ _ _ _ _ | show cutQ _ _ _ _ | show AWP _ _ _ _ _))) | ((first | refine x8 [] rfl ?_ | refine j8 [] rfl ?_); simp (disch := omega) only [go_sem, seval, configD, topoD, policyD]; (repeat (first | refine ⟨by omega, ?_⟩ | refine ⟨True.intro, ?_⟩)))))
 refine q13 (fun s : {i : Nat // i ≤ a.tb.length ∧ allF (fun i => eqTT (a.tb.getD i []) (b.tb.getD i [])) a.tb.length i = Q3} => sam8L a b 9 s.val) (fun s => a.tb.length - s.val) ⟨0, Nat.zero_le _, hQ3⟩ ?_ (fun s => ?_)
 ·unfold sam8L
  refine Weak.list ?_ ?_; (all_goals simp (disch := omega) only [AllF, AllL, x10, j10, z10, exists_eq_left', go_sem, seval, configD, topoD, policyD]); (all_goals (repeat' (with_reducible apply And.intro))); (all_goals try (first | exact q9 rfl | (refine q11 ?_; omega) | (refine q9 ?_; simp; done)))
 obtain ⟨k, hk, h4⟩ := s
 unfold sam8L
 simp only [] at hk h4 ⊢
 by_cases h'' : k < a.tb.length
 ·rw [z21 h''] at h4
  have r1 := j60 a.tb k
  have r2 := j60 b.tb k
  have g1 := atA k
  have g2 := atB k
  try simp only [] at h4
  generalize a.tb.getD k [] = x at h4 r1 g1
  generalize b.tb.getD k [] = y at h4 r2 g2
  have cR := q115 x y g1 g2
  have gx := g1.1
  have gy := g2.1
  rw [show eqBy eqRR [] x y = eqTT x y from rfl] at cR
  generalize eqTT x y = c at h4 cR
  cases c
  ·rw [Bool.false_and] at h4
   rw [s4 h4.symm]
   (repeat (first | apply j0 | refine q8 rfl ?_ | refine z8 rfl ?_ | apply x7 | (refine j4 fun K hK => ?_) | (refine x5 fun K hK => ?_) | ((first | apply j6 | apply z7 | ((first | refine x4 (hK _ ?_) | refine x6 (hK _ _ j5 ?_)); clear hK K)); (first | show AWP _ _ _ _ _ | ((try simp only [j7]); first | show loopQ _ _ _ _ _ _ | show cutQ _ _ _ _ | show AWP _ _ _ _ _))) | ((first | refine z11 rfl rfl rfl ?_ | refine x11 rfl rfl rfl ?_); simp (disch := omega) only [go_sem, seval, configD, topoD, policyD, r1, r2]; (first | refine ⟨_, cR, ?_⟩)) | ((first | refine x8 [] rfl ?_ | refine j8 [] rfl ?_); simp (disch := omega) only [go_sem, seval, configD, topoD, policyD, r1, r2]; (repeat (first | refine ⟨by omega, ?_⟩ | refine ⟨True.intro, ?_⟩)))))
   refine q10 ⟨_, ?_, rfl⟩; rw [Tryz.results36]; simp (disch := omega) only [ResVars, ResVar, ptrLoc, go_sem, seval, configD, topoD, policyD, r1, r2]
  ·rw [Bool.true_and] at h4
   (repeat (first | apply j0 | refine q8 rfl ?_ | refine z8 rfl ?_ | apply x7 | (refine j4 fun K hK => ?_) | (refine x5 fun K hK => ?_) | ((first | apply j6 | apply z7 | ((first | refine x4 (hK _ ?_) | refine x6 (hK _ _ j5 ?_)); clear hK K)); (first | show AWP _ _ _ _ _ | ((try simp only [j7]); first | show loopQ _ _ _ _ _ _ | show cutQ _ _ _ _ | show AWP _ _ _ _ _))) | ((first | refine z11 rfl rfl rfl ?_ | refine x11 rfl rfl rfl ?_); simp (disch := omega) only [go_sem, seval, configD, topoD, policyD, r1, r2]; (first | refine ⟨_, cR, ?_⟩)) | ((first | refine x8 [] rfl ?_ | refine j8 [] rfl ?_); simp (disch := omega) only [go_sem, seval, configD, topoD, policyD, r1, r2]; (repeat (first | refine ⟨by omega, ?_⟩ | refine ⟨True.intro, ?_⟩)))))
   refine ⟨⟨k + 1, by omega, h4⟩, by simp only []; omega, ?_⟩
   refine Weak.list ?_ ?_; (all_goals simp (disch := omega) only [AllF, AllL, x10, j10, z10, exists_eq_left', go_sem, seval, configD, topoD, policyD, r1, r2]); (all_goals (repeat' (with_reducible apply And.intro))); (all_goals try (first | exact q9 rfl | (refine q11 ?_; omega) | (refine q9 ?_; simp; done)))
 rw [x21 (by omega)] at h4
 subst h4
 rw [s5 hP hT rfl rfl rfl]
 (repeat (first | apply j0 | refine q8 rfl ?_ | refine z8 rfl ?_ | apply x7 | (refine j4 fun K hK => ?_) | (refine x5 fun K hK => ?_) | ((first | apply j6 | apply z7 | ((first | refine x4 (hK _ ?_) | refine x6 (hK _ _ j5 ?_)); clear hK K)); (first | show AWP _ _ _ _ _ | ((try simp only [j7]); first | show loopQ _ _ _ _ _ _ | show cutQ _ _ _ _ | show AWP _ _ _ _ _))) | ((first | refine x8 [] rfl ?_ | refine j8 [] rfl ?_); simp (disch := omega) only [go_sem, seval, configD, topoD, policyD]; (repeat (first | refine ⟨by omega, ?_⟩ | refine ⟨True.intro, ?_⟩)))))
 refine q10 ⟨_, ?_, rfl⟩; rw [Tryz.results36]; simp (disch := omega) only [ResVars, ResVar, ptrLoc, go_sem, seval, configD, topoD, policyD]
end Go.Proofs.YtemcdefpihkfpaaGreat
namespace Go.Proofs.YtemcdefpihkfpaaGreat
open Go.Proofs.YtemcdefpihkfpaaGreat.AL
end Go.Proofs.YtemcdefpihkfpaaGreat
namespace Go.Proofs.YtemcdefpihkfpaaGreat
open Go Go.Proofs.YtemcdefpihkfpaaGreat.AL
def lineK : Config := ⟨[[⟨1, 0, 0, 0, 0⟩, ⟨2, 0, 1, 0, 1⟩], [⟨2, 0, 0, 1, 1⟩, ⟨1, 0, 0, 0, 0⟩]], ⟨1, [], []⟩,
 [[[⟨1, ⟨1, 1⟩, 3, 1, 0, ⟨0, 0⟩⟩, ⟨0, ⟨0, 0⟩, 1, 0, 0, ⟨0, 0⟩⟩]], [[⟨1, ⟨1, 1⟩, 2, 1, 0, ⟨0, 0⟩⟩, ⟨0, ⟨0, 0⟩, 1, 0, 0, ⟨0, 0⟩⟩]]]⟩
def lI (n : Int) : Dat := .v (.int .i64 n)
def lU (n : Int) : Dat := .v (.int .u64 n)
def lpRaw (a b c d e : Int) : List Dat := [lI a, lI b, lI c, lI d, lI e]
def lrRaw (k : Int) : List Dat := [lI 1, lU 0, lU 1, lU 0, lU 1, lI k, lI 1, lI 0, lU 0, lU 0, lU 0, lU 0]
def ldRaw : List Dat := [lI 0, lU 0, lU 0, lU 0, lU 0, lI 1, lI 0, lI 0, lU 0, lU 0, lU 0, lU 0]
def ltRaw (k : Int) : List Dat := [.sl 1 1 fun i => [[.sl 12 2 fun i => [lrRaw k, ldRaw].getD i []]].getD i []]
def lineRaw : List Dat := [.sl 1 2 fun i => [[.sl 5 2 fun i => [lpRaw 1 0 0 0 0, lpRaw 2 0 1 0 1].getD i []], [.sl 5 2 fun i => [lpRaw 2 0 0 1 1, lpRaw 1 0 0 0 0].getD i []]].getD i [], lI 1, .v (.slice none 0 0), .v (.slice none 0 0),
 .sl 1 2 fun i => [ltRaw 3, ltRaw 2].getD i []]
theorem q46 {i : Nat} (h : i < 2) : i = 0 ∨ i = 1 := by omega
theorem z115 {i : Nat} (h : i < 1) : i = 0 := by omega
theorem j181 (k : Int) (i : Nat) (h : i < 2) : [lrRaw k, ldRaw].getD i [] = rowR [⟨1, ⟨1, 1⟩, k, 1, 0, ⟨0, 0⟩⟩, ⟨0, ⟨0, 0⟩, 1, 0, 0, ⟨0, 0⟩⟩] i := by
 rcases q46 h with rfl | rfl
 ·show lrRaw k = ruleD ⟨1, ⟨1, 1⟩, k, 1, 0, ⟨0, 0⟩⟩
  unfold ruleD lrRaw lI lU
  simp only [q26, z26, show hi 1 = 0 by decide, show lo 1 = 1 by decide]
 ·show ldRaw = ruleD ⟨0, ⟨0, 0⟩, 1, 0, 0, ⟨0, 0⟩⟩
  unfold ruleD ldRaw lI lU
  simp only [q26, z26]
theorem x115 (k : Int) : DLes (ltRaw k) [.sl 1 1 (rowRR [[⟨1, ⟨1, 1⟩, k, 1, 0, ⟨0, 0⟩⟩, ⟨0, ⟨0, 0⟩, 1, 0, 0, ⟨0, 0⟩⟩]])] := by
 refine .cons (j39 rfl fun i h => ?_) .nil
 obtain rfl := z115 h
 exact .cons (j39 rfl fun i h => .of_eq (j181 k i h)) .nil
theorem q182 : DLes lineRaw (configD lineK) := by
 refine .cons (j39 rfl fun i h => ?_) (.cons (x112 _) (.cons j112 (.cons j112 (.cons (j39 rfl fun i h => ?_) .nil))))
 ·rcases q46 h with rfl | rfl
  ·refine .cons (j39 rfl fun i h => ?_) .nil
   rcases q46 h with rfl | rfl <;> exact .of_eq rfl
  ·refine .cons (j39 rfl fun i h => ?_) .nil
   rcases q46 h with rfl | rfl <;> exact .of_eq rfl
 ·rcases q46 h with rfl | rfl
  ·exact x115 3
  ·exact x115 2
theorem z75 : lineK.small := by
 refine ⟨⟨by decide, ?_⟩, ⟨by decide, by decide⟩, by decide, ?_⟩
 ·intro l h
  simp only [lineK, List.mem_cons, List.not_mem_nil, or_false] at h
  rcases h with rfl | rfl <;> decide
 ·intro t h
  simp only [lineK, List.mem_cons, List.not_mem_nil, or_false] at h
  rcases h with rfl | rfl <;> refine ⟨by decide, fun l h => ?_⟩ <;> (simp only [List.mem_singleton] at h; subst h; decide)
set_option maxRecDepth 100000 in
set_option maxHeartbeats 2000000 in
theorem z182 : ACalls Tryz.prog 69 [] (· = [.agg (configD lineK)]) := by
 refine x175 q182 ?_
 unfold lineRaw ltRaw lrRaw ldRaw lpRaw lI lU
 refine z12 Tryz.func69 rfl (by decide +kernel) (by rw [Tryz.ntmps69]; simp) ?_; rw [Tryz.ntmps69]; simp only [frOf]
 (repeat (first | apply j0 | refine q8 rfl ?_ | refine z8 rfl ?_ | apply x7 | (refine j4 fun K hK => ?_) | (refine x5 fun K hK => ?_) | ((first | apply j6 | apply z7 | ((first | refine x4 (hK _ ?_) | refine x6 (hK _ _ j5 ?_)); clear hK K)); (first | show AWP _ _ _ _ _ | ((try simp only [j7]); first | show loopQ _ _ _ _ _ _ | show cutQ _ _ _ _ | show AWP _ _ _ _ _))) | ((first | refine x8 [1, 2, 3] rfl ?_ | refine j8 [1, 2, 3] rfl ?_); simp (disch := omega) only [go_sem, seval, hd, cb]; (repeat (first | refine ⟨by omega, ?_⟩ | refine ⟨True.intro, ?_⟩)))))
 refine q10 ⟨_, ?_, rfl⟩; rw [Tryz.results69]; simp (disch := omega) only [ResVars, ResVar, ptrLoc, go_sem, seval, hd, cb]
def dropS : Rule := ⟨0, ⟨0, 0⟩, 1, 0, 0, ⟨0, 0⟩⟩
def aw3 : List Rule := [⟨2, ⟨1, 1⟩, 1, 0, 0, ⟨0, 0⟩⟩, dropS, ⟨0, ⟨0, 0⟩, 4, 0, 1, ⟨0, 0⟩⟩]
theorem aw3_tab : tabR aw3 = ([dropS], 0) := by decide +kernel
theorem aw3_sp : spareR aw3 1 = (false, 0) := by decide +kernel
theorem x182 : slimC lineK = (lineK, 0) := by
 have h1 : soundC lineK = 0 := by decide +kernel
 have h2 : errT lineK.tb = 0 := by decide +kernel
 have h3 : lineK.tb.map mapL = lineK.tb := by decide +kernel
 unfold slimC
 rw [if_pos h1, if_pos h2, h3]
theorem j182 : sameC lineK lineK = true := by decide +kernel
def awR0 : List Dat := [lI 2, lU 0, lU 1, lU 0, lU 1, lI 1, lI 0, lI 0, lU 0, lU 0, lU 0, lU 0]
def awR2 : List Dat := [lI 0, lU 0, lU 0, lU 0, lU 0, lI 4, lI 0, lI 1, lU 0, lU 0, lU 0, lU 0]
theorem j115 (i : Nat) (h : i < 3) : [awR0, ldRaw, awR2].getD i [] = rowR aw3 i := by
 rcases (by omega : i = 0 ∨ i = 1 ∨ i = 2) with rfl | rfl | rfl
 ·show awR0 = ruleD ⟨2, ⟨1, 1⟩, 1, 0, 0, ⟨0, 0⟩⟩
  unfold ruleD awR0 lI lU
  simp only [q26, z26, show hi 1 = 0 by decide, show lo 1 = 1 by decide]
 ·show ldRaw = ruleD dropS
  unfold ruleD ldRaw lI lU dropS
  simp only [q26, z26]
 ·show awR2 = ruleD ⟨0, ⟨0, 0⟩, 4, 0, 1, ⟨0, 0⟩⟩
  unfold ruleD awR2 lI lU
  simp only [q26, z26]
theorem q183 : rowR [dropS] 0 = ldRaw := by
 show ruleD dropS = ldRaw
 unfold ruleD ldRaw lI lU dropS
 simp only [q26, z26]
set_option maxRecDepth 100000 in
set_option maxHeartbeats 4000000 in
theorem z183 : ACalls Tryz.prog 29 [] (· = [.d (.v (.bool true))]) := by
 have k1 := q29 (xs := [.d (.sl 12 3 fun i => [awR0, ldRaw, awR2].getD i [])]) (.cons (j24 rfl j115) .nil) (q75 aw3 (by decide))
 have k2 := q29 (xs := [.d (.sl 12 3 fun i => [awR0, ldRaw, awR2].getD i []), .d (.v (.int .i64 1))]) (.cons (j24 rfl j115) (.cons (q31 _) .nil)) (q109 aw3 1 (by decide) (by decide))
 have k3 := z182
 have k4 := j177 lineK z75
 have k5 := Same8_c lineK lineK z75 z75
 rw [aw3_tab] at k1
 rw [aw3_sp] at k2
 rw [x182] at k4
 rw [j182] at k5
 have dr := q183
 have q : eqI [0, 0, 0, 0, 0, 1, 0, 0, 0, 0, 0, 0] [0, 0, 0, 0, 0, 1, 0, 0, 0, 0, 0, 0] = true := rfl
 obtain ⟨d1, d2, d3, d4, d5, hd⟩ : ∃ d1 d2 d3 d4 d5, configD lineK = [d1, d2, d3, d4, d5] := ⟨_, _, _, _, _, rfl⟩
 simp only [hd] at k3 k4 k5
 clear hd
 unfold awR0 awR2 ldRaw lI lU at k1 k2
 unfold ldRaw lI lU at dr
 refine z12 Tryz.func29 rfl (by decide +kernel) (by rw [Tryz.ntmps29]; simp) ?_; rw [Tryz.ntmps29]; simp only [frOf]
 (repeat (first | apply j0 | refine q8 rfl ?_ | refine z8 rfl ?_ | apply x7 | (refine j4 fun K hK => ?_) | (refine x5 fun K hK => ?_) | ((first | apply j6 | apply z7 | ((first | refine x4 (hK _ ?_) | refine x6 (hK _ _ j5 ?_)); clear hK K)); (first | show AWP _ _ _ _ _ | ((try simp only [j7]); first | show loopQ _ _ _ _ _ _ | show cutQ _ _ _ _ | show AWP _ _ _ _ _))) | ((first | refine z11 rfl rfl rfl ?_ | refine x11 rfl rfl rfl ?_); simp (disch := omega) only [go_sem, seval, lI, lU, dr, q, List.getD_cons_zero, List.getD_cons_succ, x13]; (first | refine ⟨_, k1, ?_⟩ | refine ⟨_, k2, ?_⟩ | refine ⟨_, k3, ?_⟩ | refine ⟨_, k4, ?_⟩ | refine ⟨_, k5, ?_⟩)) | ((first | refine x8 [] rfl ?_ | refine j8 [] rfl ?_); simp (disch := omega) only [go_sem, seval, lI, lU, dr, q, List.getD_cons_zero, List.getD_cons_succ, x13]; (repeat (first | refine ⟨by omega, ?_⟩ | refine ⟨True.intro, ?_⟩)))))
 refine q10 ⟨_, ?_, rfl⟩; rw [Tryz.results29]; simp (disch := omega) only [ResVars, ResVar, ptrLoc, go_sem, seval, lI, lU, dr, q, List.getD_cons_zero, List.getD_cons_succ, x13]
theorem x183 {l0 : List Rule} : (l0.take 8).length ≤ 8 := by simp; omega
structure StA (l : List Rule) where
 i : Nat
 hi : i ≤ l.length
 hs : ∀ j, j < i → (l.getD j r0).mt.sound = true
structure StB (l0 : List Rule) (R : List Rule × Int) where
 k : Nat
 cur : List Rule
 hk : k ≤ cur.length
 hl : cur.length ≤ l0.length
 hR : tabGo k cur = R
def stA (l : List Rule) (R : List Rule × Int) (s : StA l) : ASt :=
 ⟨[(5, .p (.d (.v (.int .i64 (s.i : Int))))), (4, .p (.d (.v (.int .i64 R.2)))), (3, .p (.d (.sl 12 R.1.length (rowR R.1)))), (0, .p (.d (.sl 12 l.length (rowR l))))], []⟩
def stB (l : List Rule) (R : List Rule × Int) (s : StB l R) : ASt :=
 ⟨[(9, .p (.d (.v (.int .i64 ((s.k : Int) - 1))))), (8, .p (.d (.sl 12 s.cur.length (rowR s.cur)))), (4, .p (.d (.v (.int .i64 R.2)))), (3, .p (.d (.sl 12 R.1.length (rowR R.1)))), (0, .p (.d (.sl 12 l.length (rowR l))))], []⟩
theorem q116 : ∀ (k : Nat) (l : List Rule), (tabGo k l).2 ≠ 0 → (tabGo k l).1 = []
 | 0, l, h => absurd rfl h
 |k + 1, l, h => by
  unfold tabGo at h ⊢
  split at h
  ·rename_i h0; rw [if_pos h0]; exact q116 k _ h
  ·rename_i h0; rw [if_neg h0]
theorem z116 {l : List Rule} (h : l.length ≤ 1048576) : smallR [l] := by
 refine ⟨by simp, fun x hx => ?_⟩
 simp only [List.mem_singleton] at hx
 subst hx; exact h
theorem x75 {f : Nat → Bool} (hf : ∀ i, f i = true) (n : Nat) : ∀ d i, n - i = d → allF f n i = true
 | 0, i, h => x21 (by omega)
 | d + 1, i, h => by rw [z21 (by omega), hf i, Bool.true_and]; exact x75 hf n d (i + 1) (by omega)
theorem j183 (l : List Rule) : eqBy eqRR [] [l] [l] = true := by
 rw [x29 rfl]
 refine x75 (fun i => ?_) _ _ _ rfl
 show eqRR _ _ = true
 unfold eqRR
 rw [x29 rfl]
 exact x75 (fun i => by simp) _ _ _ rfl
theorem q184 (l : List Rule) (k : Nat) (hk : k < l.length) (i : Nat) (hi : i < l.length - 1) : catF k (rowR l) (fun i => rowR l (k + 1 + i)) i = rowR (l.eraseIdx k) i := by
 rw [← q112 l k i hk hi]
 unfold catF delF
 by_cases h : i < k
 ·rw [if_pos h, if_pos h]
 ·rw [if_neg h, if_neg h]
  show rowR l (k + 1 + (i - k)) = rowR l (i + 1)
  congr 1; omega
theorem x116 (l : List Rule) (i : Nat) (hi : i < 1) : (fun i => [[Dat.sl 12 l.length (rowR l)]].getD i []) i = rowRR [l] i := by
 obtain rfl := z115 hi
 rfl
set_option maxRecDepth 100000 in
set_option maxHeartbeats 8000000 in
theorem z184 (l0 : List Rule) (hl0 : l0.length ≤ 1099511627776) : ACalls Tryz.prog 7 [.d (.sl 12 l0.length (rowR l0))] (· = [.d (.v (.bool true))]) := by
 have fw := few29_c l0 hl0
 have h8 : (l0.take 8).length ≤ 8 := x183
 generalize l0.take 8 = l at fw h8
 have aw := z183
 have kt := q75 l (by omega)
 have hlen := x113 l
 obtain ⟨R, hR⟩ : ∃ R, tabR l = R := ⟨_, rfl⟩
 rw [hR] at kt hlen
 unfold tabR at hR
 refine z12 Tryz.func7 rfl (by decide +kernel) (by rw [Tryz.ntmps7]; simp) ?_; rw [Tryz.ntmps7]; simp only [frOf]
 (repeat (first | apply j0 | refine q8 rfl ?_ | refine z8 rfl ?_ | apply x7 | (refine j4 fun K hK => ?_) | (refine x5 fun K hK => ?_) | ((first | apply j6 | apply z7 | ((first | refine x4 (hK _ ?_) | refine x6 (hK _ _ j5 ?_)); clear hK K)); (first | show AWP _ _ _ _ _ | ((try simp only [j7]); first | show loopQ _ _ _ _ _ _ | show cutQ _ _ _ _ | show AWP _ _ _ _ _))) | ((first | refine z11 rfl rfl rfl ?_ | refine x11 rfl rfl rfl ?_); simp (disch := omega) only [go_sem, seval, hd, cb, ruleD]; (first | refine ⟨_, fw, ?_⟩ | refine ⟨_, kt, ?_⟩)) | ((first | refine x8 [46, 76] rfl ?_ | refine j8 [46, 76] rfl ?_); simp (disch := omega) only [go_sem, seval, hd, cb, ruleD]; (repeat (first | refine ⟨by omega, ?_⟩ | refine ⟨True.intro, ?_⟩)))))
 refine q13 (stA l R) (fun s => l.length - s.i) ⟨0, Nat.zero_le _, fun j hj => by omega⟩ ?_ (fun s => ?_)
 ·unfold stA
  refine Weak.list ?_ ?_; (all_goals simp (disch := omega) only [AllF, AllL, x10, j10, z10, exists_eq_left', go_sem, seval, hd, cb, ruleD]); (all_goals (repeat' (with_reducible apply And.intro))); (all_goals try (first | exact q9 rfl | (refine q11 ?_; omega) | (refine q9 ?_; simp; done)))
 obtain ⟨i, hi, hs⟩ := s
 unfold stA
 simp only [] at hi hs ⊢
 by_cases h : i < l.length
 ·have r1 := j19 l i
  have hin := j18 h r0
  have hsn : (l.getD i r0).mt.sound = true → ∀ j, j < i + 1 → (l.getD j r0).mt.sound = true := fun h j hj => by
   by_cases hji : j = i
   ·subst hji; exact h
   ·exact hs j (by omega)
  generalize l.getD i r0 = x at r1 hin hsn
  have tc := x43 x.mt
  unfold cb at tc
  cases hx : x.mt.sound
  ·rw [hx] at tc
   simp only [Bool.false_eq_true, if_false] at tc
   have hsl : soundL l = false := by
    cases h : soundL l with
    | false => rfl
    | true => unfold soundL at h; rw [List.all_eq_true] at h; have := h _ hin; rw [hx] at this; cases this
   rw [hsl] at hR
   simp only [Bool.false_eq_true, if_false] at hR
   subst hR
   (repeat (first | apply j0 | refine q8 rfl ?_ | refine z8 rfl ?_ | apply x7 | (refine j4 fun K hK => ?_) | (refine x5 fun K hK => ?_) | ((first | apply j6 | apply z7 | ((first | refine x4 (hK _ ?_) | refine x6 (hK _ _ j5 ?_)); clear hK K)); (first | show AWP _ _ _ _ _ | ((try simp only [j7]); first | show loopQ _ _ _ _ _ _ | show cutQ _ _ _ _ | show AWP _ _ _ _ _))) | ((first | refine z11 rfl rfl rfl ?_ | refine x11 rfl rfl rfl ?_); simp (disch := omega) only [go_sem, seval, hd, cb, ruleD, r1]; (first | refine ⟨_, tc, ?_⟩ | refine ⟨_, aw, ?_⟩)) | ((first | refine x8 [46, 76] rfl ?_ | refine j8 [46, 76] rfl ?_); simp (disch := omega) only [go_sem, seval, hd, cb, ruleD, r1]; (repeat (first | refine ⟨by omega, ?_⟩ | refine ⟨True.intro, ?_⟩)))))
   refine q10 ⟨_, ?_, rfl⟩; rw [Tryz.results7]; simp (disch := omega) only [ResVars, ResVar, ptrLoc, go_sem, seval, hd, cb, ruleD, r1]
  ·rw [hx] at tc
   simp only [if_true] at tc
   generalize txt x.mt = tx at tc
   (repeat (first | apply j0 | refine q8 rfl ?_ | refine z8 rfl ?_ | apply x7 | (refine j4 fun K hK => ?_) | (refine x5 fun K hK => ?_) | ((first | apply j6 | apply z7 | ((first | refine x4 (hK _ ?_) | refine x6 (hK _ _ j5 ?_)); clear hK K)); (first | show AWP _ _ _ _ _ | ((try simp only [j7]); first | show loopQ _ _ _ _ _ _ | show cutQ _ _ _ _ | show AWP _ _ _ _ _))) | ((first | refine z11 rfl rfl rfl ?_ | refine x11 rfl rfl rfl ?_); simp (disch := omega) only [go_sem, seval, hd, cb, ruleD, r1]; (first | refine ⟨_, tc, ?_⟩)) | ((first | refine x8 [46, 76] rfl ?_ | refine j8 [46, 76] rfl ?_); simp (disch := omega) only [go_sem, seval, hd, cb, ruleD, r1]; (repeat (first | refine ⟨by omega, ?_⟩ | refine ⟨True.intro, ?_⟩)))))
   refine ⟨⟨i + 1, by omega, hsn hx⟩, by simp only []; omega, ?_⟩
   refine Weak.list ?_ ?_; (all_goals simp (disch := omega) only [AllF, AllL, x10, j10, z10, exists_eq_left', go_sem, seval, hd, cb, ruleD, r1]); (all_goals (repeat' (with_reducible apply And.intro))); (all_goals try (first | exact q9 rfl | (refine q11 ?_; omega) | (refine q9 ?_; simp; done)))
 have : i = l.length := by omega
 subst this
 have hsl : soundL l = true := j114 hs rfl
 rw [if_pos hsl] at hR
 have herr := q116 l.length l
 rw [hR] at herr
 (repeat (first | apply j0 | refine q8 rfl ?_ | refine z8 rfl ?_ | apply x7 | (refine j4 fun K hK => ?_) | (refine x5 fun K hK => ?_) | ((first | apply j6 | apply z7 | ((first | refine x4 (hK _ ?_) | refine x6 (hK _ _ j5 ?_)); clear hK K)); (first | show AWP _ _ _ _ _ | ((try simp only [j7]); first | show loopQ _ _ _ _ _ _ | show cutQ _ _ _ _ | show AWP _ _ _ _ _))) | ((first | refine x8 [46, 76] rfl ?_ | refine j8 [46, 76] rfl ?_); simp (disch := omega) only [go_sem, seval, hd, cb, ruleD]; (repeat (first | refine ⟨by omega, ?_⟩ | refine ⟨True.intro, ?_⟩)))))
 refine q13 (stB l R) (fun s => s.k) ⟨l.length, l, Nat.le_refl _, Nat.le_refl _, hR⟩ ?_ (fun s => ?_)
 ·unfold stB
  refine Weak.list ?_ ?_; (all_goals simp (disch := omega) only [AllF, AllL, x10, j10, z10, exists_eq_left', go_sem, seval, hd, cb, ruleD]); (all_goals (repeat' (with_reducible apply And.intro))); (all_goals try (first | exact q9 rfl | (refine q11 ?_; omega) | (refine q9 ?_; simp; done)))
  exact q20 rfl (fun i hi => rfl)
 obtain ⟨k, cur, hk, hl, hR⟩ := s
 unfold stB
 simp only [] at hk hl hR ⊢
 cases k with
 |succ k =>
  have kr := z181 cur k (by omega) (by omega)
  unfold tabGo at hR
  rcases z112 cur k with he | ⟨he, heb⟩
  ·rw [if_pos he] at hR
   rw [he] at kr
   cases hb : (spareR cur k).1
   ·rw [hb] at kr hR
    simp only [Bool.false_eq_true, if_false] at hR
    (repeat (first | apply j0 | refine q8 rfl ?_ | refine z8 rfl ?_ | apply x7 | (refine j4 fun K hK => ?_) | (refine x5 fun K hK => ?_) | ((first | apply j6 | apply z7 | ((first | refine x4 (hK _ ?_) | refine x6 (hK _ _ j5 ?_)); clear hK K)); (first | show AWP _ _ _ _ _ | ((try simp only [j7]); first | show loopQ _ _ _ _ _ _ | show cutQ _ _ _ _ | show AWP _ _ _ _ _))) | ((first | refine z11 rfl rfl rfl ?_ | refine x11 rfl rfl rfl ?_); simp (disch := omega) only [go_sem, seval, hd, cb, ruleD]; (first | refine ⟨_, kr, ?_⟩)) | ((first | refine x8 [46, 76] rfl ?_ | refine j8 [46, 76] rfl ?_); simp (disch := omega) only [go_sem, seval, hd, cb, ruleD]; (repeat (first | refine ⟨by omega, ?_⟩ | refine ⟨True.intro, ?_⟩)))))
    refine ⟨⟨k, cur, by omega, hl, hR⟩, by simp only []; omega, ?_⟩
    refine Weak.list ?_ ?_; (all_goals simp (disch := omega) only [AllF, AllL, x10, j10, z10, exists_eq_left', go_sem, seval, hd, cb, ruleD]); (all_goals (repeat' (with_reducible apply And.intro))); (all_goals try (first | exact q9 rfl | (refine q11 ?_; omega) | (refine q9 ?_; simp; done)))
   ·rw [hb] at kr hR
    simp only [if_true] at hR
    have e9 : (cur.eraseIdx k).length = cur.length - 1 := List.length_eraseIdx_of_lt (by omega)
    have e1 : ((k : Int) + 1).toNat = k + 1 := by omega
    have e2 : k + (cur.length - (k + 1)) = cur.length - 1 := by omega
    (repeat (first | apply j0 | refine q8 rfl ?_ | refine z8 rfl ?_ | apply x7 | (refine j4 fun K hK => ?_) | (refine x5 fun K hK => ?_) | ((first | apply j6 | apply z7 | ((first | refine x4 (hK _ ?_) | refine x6 (hK _ _ j5 ?_)); clear hK K)); (first | show AWP _ _ _ _ _ | ((try simp only [j7]); first | show loopQ _ _ _ _ _ _ | show cutQ _ _ _ _ | show AWP _ _ _ _ _))) | ((first | refine z11 rfl rfl rfl ?_ | refine x11 rfl rfl rfl ?_); simp (disch := omega) only [go_sem, seval, hd, cb, ruleD, e1, e2]; (first | refine ⟨_, kr, ?_⟩)) | ((first | refine x8 [46, 76] rfl ?_ | refine j8 [46, 76] rfl ?_); simp (disch := omega) only [go_sem, seval, hd, cb, ruleD, e1, e2]; (repeat (first | refine ⟨by omega, ?_⟩ | refine ⟨True.intro, ?_⟩)))))
    refine ⟨⟨k, cur.eraseIdx k, by omega, by omega, hR⟩, by simp only []; omega, ?_⟩
    simp only [e9]
    refine Weak.list ?_ ?_; (all_goals simp (disch := omega) only [AllF, AllL, x10, j10, z10, exists_eq_left', go_sem, seval, hd, cb, ruleD, e1, e2]); (all_goals (repeat' (with_reducible apply And.intro))); (all_goals try (first | exact q9 rfl | (refine q11 ?_; omega) | (refine q9 ?_; simp; done)))
    exact q20 (by omega) (fun i hi => q184 cur k (by omega) i (by omega))
  ·rw [if_neg he] at hR
   subst hR
   have herr := herr he
   generalize (spareR cur k).2 = e at *
   generalize (spareR cur k).1 = q at *
   have q1 : (e == e) = true := beq_self_eq_true e
   (repeat (first | apply j0 | refine q8 rfl ?_ | refine z8 rfl ?_ | apply x7 | (refine j4 fun K hK => ?_) | (refine x5 fun K hK => ?_) | ((first | apply j6 | apply z7 | ((first | refine x4 (hK _ ?_) | refine x6 (hK _ _ j5 ?_)); clear hK K)); (first | show AWP _ _ _ _ _ | ((try simp only [j7]); first | show loopQ _ _ _ _ _ _ | show cutQ _ _ _ _ | show AWP _ _ _ _ _))) | ((first | refine z11 rfl rfl rfl ?_ | refine x11 rfl rfl rfl ?_); simp (disch := omega) only [go_sem, seval, hd, cb, ruleD, heb, q1]; (first | refine ⟨_, kr, ?_⟩ | refine ⟨_, aw, ?_⟩)) | ((first | refine x8 [46, 76] rfl ?_ | refine j8 [46, 76] rfl ?_); simp (disch := omega) only [go_sem, seval, hd, cb, ruleD, heb, q1]; (repeat (first | refine ⟨by omega, ?_⟩ | refine ⟨True.intro, ?_⟩)))))
   refine q10 ⟨_, ?_, rfl⟩; rw [Tryz.results7]; simp (disch := omega) only [ResVars, ResVar, ptrLoc, go_sem, seval, hd, cb, ruleD, heb, q1]
 |zero =>
  have hR : (cur, (0 : Int)) = R := hR
  subst hR
  have rs := q29 (xs := [.d (.sl 1 1 fun i => [[Dat.sl 12 cur.length (rowR cur)]].getD i []), .d (.sl 1 1 fun i => [[Dat.sl 12 cur.length (rowR cur)]].getD i [])]) (.cons (j24 rfl (x116 cur)) (.cons (j24 rfl (x116 cur)) .nil)) (q115 [cur] [cur] (z116 (by omega)) (z116 (by omega)))
  rw [j183 cur] at rs
  (repeat (first | apply j0 | refine q8 rfl ?_ | refine z8 rfl ?_ | apply x7 | (refine j4 fun K hK => ?_) | (refine x5 fun K hK => ?_) | ((first | apply j6 | apply z7 | ((first | refine x4 (hK _ ?_) | refine x6 (hK _ _ j5 ?_)); clear hK K)); (first | show AWP _ _ _ _ _ | ((try simp only [j7]); first | show loopQ _ _ _ _ _ _ | show cutQ _ _ _ _ | show AWP _ _ _ _ _))) | ((first | refine z11 rfl rfl rfl ?_ | refine x11 rfl rfl rfl ?_); simp (disch := omega) only [go_sem, seval, hd, cb, ruleD]; (first | refine ⟨_, aw, ?_⟩ | refine ⟨_, rs, ?_⟩)) | ((first | refine x8 [46, 76] rfl ?_ | refine j8 [46, 76] rfl ?_); simp (disch := omega) only [go_sem, seval, hd, cb, ruleD]; (repeat (first | refine ⟨by omega, ?_⟩ | refine ⟨True.intro, ?_⟩)))))
  refine q10 ⟨_, ?_, rfl⟩; rw [Tryz.results7]; simp (disch := omega) only [ResVars, ResVar, ptrLoc, go_sem, seval, hd, cb, ruleD]
end Go.Proofs.YtemcdefpihkfpaaGreat
