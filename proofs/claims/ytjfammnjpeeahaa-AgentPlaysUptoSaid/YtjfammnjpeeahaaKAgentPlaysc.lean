/- Part 3 of a proof: lemmas beneath the theorem that the last text bears. Conditions: none. -/
import Derived.Test.YtjfammnjpeeahaaKAgentPlaysb
import Derived.Shelf.Sort.Plain
import Derived.Shelf.Slices.CompactI
import Derived.Shelf.Slices.In.SortNone
import Derived.Shelf.Spec.SlicesGrow
set_option linter.unusedSimpArgs false
set_option linter.unusedVariables false
namespace Go.Proofs.Ytjfammnjpeeahaa
open Go Go.Proofs.Ytjfammnjpeeahaa.AL
theorem look_all {A : ASt} : ∀ {L : List (Nat × LV)}, (∀ p ∈ L, AL.look A.locs p.1 = some p.2) → ∀ l X, AL.look L l = some X → AL.look A.locs l = some X
  | L, h, l, X, hX => h (l, X) (look_mem hX)
theorem retM_list {P : Program} {fn : Func} {Q : List AV → List (Nat × LV) → Prop} {A : ASt} {rs : List AV} {L : List (Nat × LV)} (hq : Q rs L) (hr : ResVarsA P A fn.results.toList rs) (hl : ∀ p ∈ L, AL.look A.locs p.1 = some p.2) : retM P fn Q .ret A ∧ retM P fn Q .normal A :=
  ⟨⟨rs, L, hr, look_all hl, hq⟩, ⟨rs, L, hr, look_all hl, hq⟩⟩
theorem ClipAg_c (n : Nat) (f : Nat → List Dat) (hn : n ≤ 1099511627776) : ACalls Try.prog 49 [.d (.sl 1 n f)] (· = [.d (.sl 1 n f)]) := by
  refine acalls_of_awp Try.func49 rfl (by decide +kernel) (by rw [Try.ntmps49]; simp) ?_; rw [Try.ntmps49]; simp only [frOf]
  (repeat (first | refine j0 ?_ | refine q7 rfl ?_ | refine awp_no rfl ?_ | refine j4 ?_ | (refine j5 fun K hK => ?_) | (refine q6 (by kernel_rfl) (by kernel_rfl) fun K hK => ?_) | ((first | refine z1 ?_ | refine z2 ?_ | ((first | refine x6 (hK _ ?_) | refine j6 (hK _ _ (z6 (by kernel_rfl)) ?_)); clear hK K)); (first | show AWP _ _ _ _ _ | ((try simp only [q4]); first | show loopQ _ _ _ _ _ _ | show cutQ _ _ _ _ | show AWP _ _ _ _ _))) | ((first | refine z7 [] rfl ?_ | refine x7 [] rfl ?_); simp (maxSteps := 2000000) (disch := omega) only [go_sem, seval]; (repeat (first | refine ⟨by omega, ?_⟩ | refine ⟨True.intro, ?_⟩)))))
  refine awp_ret ⟨_, ?_, rfl⟩; rw [Try.results49]; simp (disch := omega) only [ResVars, ResVar, ptrLoc, go_sem, seval]
  rfl
theorem rowRR_snoc (l : List (List Rule)) (i : Nat) (hi : i < l.length) (k : Nat) (hk : k < i + 1) : catF i (rowRR l) (fun j => [[Dat.sl 12 (l.getD i []).length (rowR (l.getD i []))]].getD j []) k = rowRR l k := by
  unfold catF
  split
  · rfl
  · have : k = i := by omega
    subst this
    rw [Nat.sub_self]; rfl
def deepAI (l : List (List Rule)) (i : Fin (l.length + 1)) : ASt :=
  ⟨[(9, .p (.d (.v (.int .i64 (i.val : Int))))), (8, .p (.d (.v (.int .i64 (l.length : Int))))), (7, .p (.d (.sl 1 l.length (rowRR l)))), (3, .gr 3 i.val 1 i.val (rowRR l))], [(3, .grow 35 1 i.val i.val)]⟩
set_option maxRecDepth 100000 in
set_option maxHeartbeats 1000000 in
theorem deepA_c (l : List (List Rule)) (hs : smallR l) : ACalls Try.prog 39 [.d (.sl 1 l.length (rowRR l))] (· = [.d (.sl 1 l.length (rowRR l))]) := by
  have hs1 := hs.1
  have cl := ClipAg_c l.length (rowRR l) (by omega)
  refine acalls_of_awp Try.func39 rfl (by decide +kernel) (by rw [Try.ntmps39]; simp) ?_; rw [Try.ntmps39]; simp only [frOf]
  (repeat ((fail_if_success (show AWP _ _ (.region 2 _ _) _ _)); first | refine j0 ?_ | refine q7 rfl ?_ | refine awp_no rfl ?_ | refine j4 ?_ | (refine j5 fun K hK => ?_) | (refine q6 (by kernel_rfl) (by kernel_rfl) fun K hK => ?_) | ((first | refine z1 ?_ | refine z2 ?_ | ((first | refine x6 (hK _ ?_) | refine j6 (hK _ _ (z6 (by kernel_rfl)) ?_)); clear hK K)); (first | show AWP _ _ _ _ _ | ((try simp only [q4]); first | show loopQ _ _ _ _ _ _ | show cutQ _ _ _ _ | show AWP _ _ _ _ _))) | ((first | refine z7 [10015] rfl ?_ | refine x7 [10015] rfl ?_); simp (maxSteps := 2000000) (disch := omega) only [go_sem, seval]; (repeat (first | refine ⟨by omega, ?_⟩ | refine ⟨True.intro, ?_⟩)))))
  refine awp_grow 3 3 1 35 (rowRR l) rfl (by kernel_rfl) rfl ?_
  (repeat (first | refine j0 ?_ | refine q7 rfl ?_ | refine awp_no rfl ?_ | refine j4 ?_ | (refine j5 fun K hK => ?_) | (refine q6 (by kernel_rfl) (by kernel_rfl) fun K hK => ?_) | ((first | refine z1 ?_ | refine z2 ?_ | ((first | refine x6 (hK _ ?_) | refine j6 (hK _ _ (z6 (by kernel_rfl)) ?_)); clear hK K)); (first | show AWP _ _ _ _ _ | ((try simp only [q4]); first | show loopQ _ _ _ _ _ _ | show cutQ _ _ _ _ | show AWP _ _ _ _ _))) | ((first | refine z7 [10015] rfl ?_ | refine x7 [10015] rfl ?_); simp (maxSteps := 2000000) (disch := omega) only [go_sem, seval]; (repeat (first | refine ⟨by omega, ?_⟩ | refine ⟨True.intro, ?_⟩)))))
  refine awp_loop (deepAI l) (fun s => l.length - s.val) ⟨0, by omega⟩ ?_ (fun s => ?_)
  · unfold deepAI
    refine Weak.list ?_ ?_; (all_goals simp (disch := omega) only [AllF, AllL, le_self, le_top, lle_self, exists_eq_left', Option.some.injEq, go_sem, seval]); (all_goals (repeat' (with_reducible apply And.intro))); (all_goals try (first | exact le_eq rfl | (refine le_int ?_; omega) | (refine le_eq ?_; simp; done)))
  obtain ⟨i, hi⟩ := s
  unfold deepAI
  by_cases h : i < l.length
  · have r1 := rowRR_at l i
    have hb := smallR_at hs i
    have pt := rowRR_snoc l i h
    generalize l.getD i [] = x at r1 hb pt
    (repeat ((fail_if_success (show AWP _ _ (.region 7 _ _) _ _)); first | refine j0 ?_ | refine q7 rfl ?_ | refine awp_no rfl ?_ | refine j4 ?_ | (refine j5 fun K hK => ?_) | (refine q6 (by kernel_rfl) (by kernel_rfl) fun K hK => ?_) | ((first | refine z1 ?_ | refine z2 ?_ | ((first | refine x6 (hK _ ?_) | refine j6 (hK _ _ (z6 (by kernel_rfl)) ?_)); clear hK K)); (first | show AWP _ _ _ _ _ | ((try simp only [q4]); first | show loopQ _ _ _ _ _ _ | show cutQ _ _ _ _ | show AWP _ _ _ _ _))) | ((first | refine z7 [10015] rfl ?_ | refine x7 [10015] rfl ?_); simp (maxSteps := 2000000) (disch := omega) only [go_sem, seval, r1]; (repeat (first | refine ⟨by omega, ?_⟩ | refine ⟨True.intro, ?_⟩)))))
    refine awp_freeze 6 15 0 12 x.length 44 (rowR x) rfl rfl ?_
    (repeat (first | refine j0 ?_ | refine q7 rfl ?_ | refine awp_no rfl ?_ | refine j4 ?_ | (refine j5 fun K hK => ?_) | (refine q6 (by kernel_rfl) (by kernel_rfl) fun K hK => ?_) | ((first | refine z1 ?_ | refine z2 ?_ | ((first | refine x6 (hK _ ?_) | refine j6 (hK _ _ (z6 (by kernel_rfl)) ?_)); clear hK K)); (first | show AWP _ _ _ _ _ | ((try simp only [q4]); first | show loopQ _ _ _ _ _ _ | show cutQ _ _ _ _ | show AWP _ _ _ _ _))) | ((first | refine z7 [10015] rfl ?_ | refine x7 [10015] rfl ?_); simp (maxSteps := 2000000) (disch := omega) only [go_sem, seval, r1, look_dropL]; (repeat (first | refine ⟨by omega, ?_⟩ | refine ⟨True.intro, ?_⟩)))))
    refine ⟨⟨i + 1, by omega⟩, by simp only []; omega, ?_⟩
    refine Weak.list ?_ ?_; (all_goals simp (disch := omega) only [AllF, AllL, le_self, le_top, lle_self, exists_eq_left', Option.some.injEq, go_sem, seval, r1, look_dropL]); (all_goals (repeat' (with_reducible apply And.intro))); (all_goals try (first | exact le_eq rfl | (refine le_int ?_; omega) | (refine le_eq ?_; simp; done)))
    · exact le_grgr rfl rfl (fun k hk => pt k hk)
  · have : i = l.length := by omega
    subst this
    (repeat (first | refine j0 ?_ | refine q7 rfl ?_ | refine awp_no rfl ?_ | refine j4 ?_ | (refine j5 fun K hK => ?_) | (refine q6 (by kernel_rfl) (by kernel_rfl) fun K hK => ?_) | ((first | refine z1 ?_ | refine z2 ?_ | ((first | refine x6 (hK _ ?_) | refine j6 (hK _ _ (z6 (by kernel_rfl)) ?_)); clear hK K)); (first | show AWP _ _ _ _ _ | ((try simp only [q4]); first | show loopQ _ _ _ _ _ _ | show cutQ _ _ _ _ | show AWP _ _ _ _ _))) | ((first | refine walkS_call3 rfl rfl rfl ?_ | refine walkD_call3 rfl rfl rfl ?_); simp (maxSteps := 2000000) (disch := omega) only [go_sem, seval]; (first | refine ⟨_, cl, ?_⟩)) | ((first | refine z7 [10015] rfl ?_ | refine x7 [10015] rfl ?_); simp (maxSteps := 2000000) (disch := omega) only [go_sem, seval]; (repeat (first | refine ⟨by omega, ?_⟩ | refine ⟨True.intro, ?_⟩)))))
    refine awp_ret ⟨_, ?_, rfl⟩; rw [Try.results39]; simp (disch := omega) only [ResVars, ResVar, ptrLoc, go_sem, seval]
structure Ag where
  n : Int
  cur : Int
  ser : Int
  es : List (Int × List (List Rule))
def tabPV (t : List (List Rule)) : PV := .d (.sl 1 t.length (rowRR t))
def agE (es : List (Int × List (List Rule))) : List (List Int × PV) := es.map fun e => ([e.1], tabPV e.2)
def agC (l m : Nat) (a : Ag) : LV := .cells 97 [.p (.d (.v (.int .i64 a.n))), .p (.d (.v (.int .i64 a.cur))), .p (.d (.v (.int .i64 a.ser))), .mp m]
def agL (a : Ag) : List (Nat × LV) := [(1000, agC 1000 1001 a), (1001, .map [.i64] (agE a.es))]
def getA (v : Int) : List (Int × List (List Rule)) → Option (List (List Rule))
  | [] => none
  | e :: r => if e.1 = v then some e.2 else getA v r
def putA (v : Int) (t : List (List Rule)) : List (Int × List (List Rule)) → List (Int × List (List Rule))
  | [] => [(v, t)]
  | e :: r => if e.1 = v then (v, t) :: r else e :: putA v t r
def delA (v : Int) : List (Int × List (List Rule)) → List (Int × List (List Rule))
  | [] => []
  | e :: r => if e.1 = v then r else e :: delA v r
theorem one_iff (a b : Int) : ([a] = [b]) ↔ a = b := by simp
theorem findM_ag (v : Int) : ∀ es, findM [v] (agE es) = (getA v es).map tabPV
  | [] => rfl
  | e :: r => by
    have ih := findM_ag v r
    unfold agE at ih ⊢
    simp only [List.map_cons, findM, getA, one_iff]
    split
    · rfl
    · exact ih
theorem putM_ag (v : Int) (t : List (List Rule)) : ∀ es, putM [v] (tabPV t) (agE es) = agE (putA v t es)
  | [] => rfl
  | e :: r => by
    have ih := putM_ag v t r
    unfold agE at ih ⊢
    simp only [List.map_cons, putM, putA, one_iff]
    split
    · rfl
    · simp only [List.map_cons, ih]
theorem delM_ag (v : Int) : ∀ es, delM [v] (agE es) = agE (delA v es)
  | [] => rfl
  | e :: r => by
    have ih := delM_ag v r
    unfold agE at ih ⊢
    simp only [List.map_cons, delM, delA, one_iff]
    split
    · rfl
    · simp only [List.map_cons, ih]
set_option maxRecDepth 100000 in
theorem New_c (n v s : Int) (t : List (List Rule)) (ht : smallR t) : MCalls Try.prog 11 [.p (.d (.v (.int .i64 n))), .p (.d (.v (.int .i64 v))), .p (.d (.v (.int .i64 s))), .p (.d (.sl 1 t.length (rowRR t)))] []
    (fun rs M => rs = [.loc 18 0] ∧ M = [(18, agC 18 12 ⟨n, v, s, [(v, t)]⟩), (12, .map [.i64] (agE [(v, t)]))]) := by
  refine q8 Try.func11 rfl (by decide +kernel) (by rw [Try.ntmps11]; simp) (fun l X h => by simp only [AL.look] at h; (repeat' split at h); all_goals first | omega | cases h) ?_; rw [Try.ntmps11]; simp only [frA]
  (repeat (first | refine j0 ?_ | refine q7 rfl ?_ | refine awp_no rfl ?_ | refine j4 ?_ | (refine j5 fun K hK => ?_) | (refine q6 (by kernel_rfl) (by kernel_rfl) fun K hK => ?_) | ((first | refine z1 ?_ | refine z2 ?_ | ((first | refine x6 (hK _ ?_) | refine j6 (hK _ _ (z6 (by kernel_rfl)) ?_)); clear hK K)); (first | show AWP _ _ _ _ _ | ((try simp only [q4]); first | show loopQ _ _ _ _ _ _ | show cutQ _ _ _ _ | show AWP _ _ _ _ _))) | ((first | refine walkS_call3 rfl rfl rfl ?_ | refine walkD_call3 rfl rfl rfl ?_); simp (maxSteps := 2000000) (disch := omega) only [go_sem, seval, agC, agE, tabPV, putM, agL]; (first | refine ⟨_, deepA_c t ht, ?_⟩)) | ((first | refine z7 [12, 18] rfl ?_ | refine x7 [12, 18] rfl ?_); simp (maxSteps := 2000000) (disch := omega) only [go_sem, seval, agC, agE, tabPV, putM, agL]; (repeat (first | refine ⟨by omega, ?_⟩ | refine ⟨True.intro, ?_⟩)))))
  refine awp_ret ?_
  refine (retM_list ⟨rfl, rfl⟩ ?_ ?_).1
  · exact ⟨rfl, trivial⟩
  · simp [AL.look, agC, agE, tabPV, putM]
def intP (x : Int) : AV := .p (.d (.v (.int .i64 x)))
structure Ltr where
  kd : Int
  fr : Int
  to : Int
  ve : Int
  se : Int
  ts : List (List Rule)
def letD (l : Ltr) : List Dat := [.v (.int .i64 l.kd), .v (.int .i64 l.fr), .v (.int .i64 l.to), .v (.int .i64 l.ve), .v (.int .i64 l.se), .sl 1 l.ts.length (rowRR l.ts)]
set_option maxRecDepth 100000 in
theorem Current_c (a : Ag) : MCalls Try.prog 18 [.loc 1000 0] (agL a) (fun rs M => rs = [intP a.cur] ∧ M = agL a) := by
  unfold agL
  refine q8 Try.func18 rfl (by decide +kernel) (by rw [Try.ntmps18]; simp) (fun l X h => by simp only [AL.look] at h; (repeat' split at h); all_goals first | omega | cases h) ?_; rw [Try.ntmps18]; simp only [frA]
  (repeat (first | refine j0 ?_ | refine q7 rfl ?_ | refine awp_no rfl ?_ | refine j4 ?_ | (refine j5 fun K hK => ?_) | (refine q6 (by kernel_rfl) (by kernel_rfl) fun K hK => ?_) | ((first | refine z1 ?_ | refine z2 ?_ | ((first | refine x6 (hK _ ?_) | refine j6 (hK _ _ (z6 (by kernel_rfl)) ?_)); clear hK K)); (first | show AWP _ _ _ _ _ | ((try simp only [q4]); first | show loopQ _ _ _ _ _ _ | show cutQ _ _ _ _ | show AWP _ _ _ _ _))) | ((first | refine z7 [] rfl ?_ | refine x7 [] rfl ?_); simp (maxSteps := 2000000) (disch := omega) only [go_sem, seval, agL, agC, intP]; (repeat (first | refine ⟨by omega, ?_⟩ | refine ⟨True.intro, ?_⟩)))))
  refine awp_ret ?_
  refine (retM_list ⟨rfl, rfl⟩ ?_ ?_).1
  · exact ⟨rfl, trivial⟩
  · simp [AL.look, agC, agL]
set_option maxRecDepth 100000 in
theorem Tables_some (a : Ag) (v : Int) (t : List (List Rule)) (h : getA v a.es = some t) (ht : smallR t) : MCalls Try.prog 15 [.loc 1000 0, intP v] (agL a) (fun rs M => rs = [.p (tabPV t), .p (.d (.v (.bool true)))] ∧ M = agL a) := by
  have hf : findM [v] (agE a.es) = some (tabPV t) := by rw [findM_ag, h]; rfl
  unfold agL
  refine q8 Try.func15 rfl (by decide +kernel) (by rw [Try.ntmps15]; simp) (fun l X h => by simp only [AL.look] at h; (repeat' split at h); all_goals first | omega | cases h) ?_; rw [Try.ntmps15]; simp only [frA]
  (repeat (first | refine j0 ?_ | refine q7 rfl ?_ | refine awp_no rfl ?_ | refine j4 ?_ | (refine j5 fun K hK => ?_) | (refine q6 (by kernel_rfl) (by kernel_rfl) fun K hK => ?_) | ((first | refine z1 ?_ | refine z2 ?_ | ((first | refine x6 (hK _ ?_) | refine j6 (hK _ _ (z6 (by kernel_rfl)) ?_)); clear hK K)); (first | show AWP _ _ _ _ _ | ((try simp only [q4]); first | show loopQ _ _ _ _ _ _ | show cutQ _ _ _ _ | show AWP _ _ _ _ _))) | ((first | refine walkS_call3 rfl rfl rfl ?_ | refine walkD_call3 rfl rfl rfl ?_); simp (maxSteps := 2000000) (disch := omega) only [go_sem, seval, agL, agC, intP, hf, tabPV]; (first | refine ⟨_, deepA_c t ht, ?_⟩)) | ((first | refine z7 [] rfl ?_ | refine x7 [] rfl ?_); simp (maxSteps := 2000000) (disch := omega) only [go_sem, seval, agL, agC, intP, hf, tabPV]; (repeat (first | refine ⟨by omega, ?_⟩ | refine ⟨True.intro, ?_⟩)))))
  refine awp_ret ?_
  refine (retM_list ⟨rfl, rfl⟩ ?_ ?_).1
  · exact ⟨rfl, rfl, trivial⟩
  · simp [AL.look, agC, agL]
set_option maxRecDepth 100000 in
theorem Tables_none (a : Ag) (v : Int) (h : getA v a.es = none) : MCalls Try.prog 15 [.loc 1000 0, intP v] (agL a) (fun rs M => rs = [.p (tabPV []), .p (.d (.v (.bool false)))] ∧ M = agL a) := by
  have hf : findM [v] (agE a.es) = none := by rw [findM_ag, h]; rfl
  have dp : ACalls Try.prog 39 [.d (.v (.slice none 0 0))] (· = [.d (.sl 1 0 (rowRR []))]) := acalls_le (.cons (ple_d dle_emp) .nil) (deepA_c [] ⟨by simp, by simp⟩)
  unfold agL
  refine q8 Try.func15 rfl (by decide +kernel) (by rw [Try.ntmps15]; simp) (fun l X h => by simp only [AL.look] at h; (repeat' split at h); all_goals first | omega | cases h) ?_; rw [Try.ntmps15]; simp only [frA]
  (repeat (first | refine j0 ?_ | refine q7 rfl ?_ | refine awp_no rfl ?_ | refine j4 ?_ | (refine j5 fun K hK => ?_) | (refine q6 (by kernel_rfl) (by kernel_rfl) fun K hK => ?_) | ((first | refine z1 ?_ | refine z2 ?_ | ((first | refine x6 (hK _ ?_) | refine j6 (hK _ _ (z6 (by kernel_rfl)) ?_)); clear hK K)); (first | show AWP _ _ _ _ _ | ((try simp only [q4]); first | show loopQ _ _ _ _ _ _ | show cutQ _ _ _ _ | show AWP _ _ _ _ _))) | ((first | refine walkS_call3 rfl rfl rfl ?_ | refine walkD_call3 rfl rfl rfl ?_); simp (maxSteps := 2000000) (disch := omega) only [go_sem, seval, agL, agC, intP, hf, tabPV]; (first | refine ⟨_, dp, ?_⟩)) | ((first | refine z7 [] rfl ?_ | refine x7 [] rfl ?_); simp (maxSteps := 2000000) (disch := omega) only [go_sem, seval, agL, agC, intP, hf, tabPV]; (repeat (first | refine ⟨by omega, ?_⟩ | refine ⟨True.intro, ?_⟩)))))
  refine awp_ret ?_
  refine (retM_list ⟨rfl, rfl⟩ ?_ ?_).1
  · exact ⟨rfl, rfl, trivial⟩
  · simp [AL.look, agC, agL]
set_option maxRecDepth 100000 in
theorem install_c (a : Ag) (l : Ltr) (ht : smallR l.ts) : MCalls Try.prog 66 [.loc 1000 0, .p (.agg (letD l))] (agL a) (fun rs M => rs = [intP 2] ∧ M = agL { a with es := putA l.ve l.ts a.es }) := by
  have hp := putM_ag l.ve l.ts a.es
  unfold tabPV at hp
  unfold agL
  refine q8 Try.func66 rfl (by decide +kernel) (by rw [Try.ntmps66]; simp) (fun l X h => by simp only [AL.look] at h; (repeat' split at h); all_goals first | omega | cases h) ?_; rw [Try.ntmps66]; simp only [frA]
  (repeat (first | refine j0 ?_ | refine q7 rfl ?_ | refine awp_no rfl ?_ | refine j4 ?_ | (refine j5 fun K hK => ?_) | (refine q6 (by kernel_rfl) (by kernel_rfl) fun K hK => ?_) | ((first | refine z1 ?_ | refine z2 ?_ | ((first | refine x6 (hK _ ?_) | refine j6 (hK _ _ (z6 (by kernel_rfl)) ?_)); clear hK K)); (first | show AWP _ _ _ _ _ | ((try simp only [q4]); first | show loopQ _ _ _ _ _ _ | show cutQ _ _ _ _ | show AWP _ _ _ _ _))) | ((first | refine walkS_call3 rfl rfl rfl ?_ | refine walkD_call3 rfl rfl rfl ?_); simp (maxSteps := 2000000) (disch := omega) only [go_sem, seval, agL, agC, intP, letD, hp]; (first | refine ⟨_, deepA_c l.ts ht, ?_⟩)) | ((first | refine z7 [] rfl ?_ | refine x7 [] rfl ?_); simp (maxSteps := 2000000) (disch := omega) only [go_sem, seval, agL, agC, intP, letD, hp]; (repeat (first | refine ⟨by omega, ?_⟩ | refine ⟨True.intro, ?_⟩)))))
  refine awp_ret ?_
  refine (retM_list ⟨rfl, rfl⟩ ?_ ?_).1
  · exact ⟨rfl, trivial⟩
  · simp [AL.look, agC, agL]
set_option maxRecDepth 100000 in
theorem flip_some (a : Ag) (l : Ltr) (t : List (List Rule)) (h : getA l.ve a.es = some t) : MCalls Try.prog 67 [.loc 1000 0, .p (.agg (letD l))] (agL a) (fun rs M => rs = [intP 4] ∧ M = agL { a with cur := l.ve }) := by
  have hf : findM [l.ve] (agE a.es) = some (tabPV t) := by rw [findM_ag, h]; rfl
  unfold agL
  refine q8 Try.func67 rfl (by decide +kernel) (by rw [Try.ntmps67]; simp) (fun l X h => by simp only [AL.look] at h; (repeat' split at h); all_goals first | omega | cases h) ?_; rw [Try.ntmps67]; simp only [frA]
  (repeat (first | refine j0 ?_ | refine q7 rfl ?_ | refine awp_no rfl ?_ | refine j4 ?_ | (refine j5 fun K hK => ?_) | (refine q6 (by kernel_rfl) (by kernel_rfl) fun K hK => ?_) | ((first | refine z1 ?_ | refine z2 ?_ | ((first | refine x6 (hK _ ?_) | refine j6 (hK _ _ (z6 (by kernel_rfl)) ?_)); clear hK K)); (first | show AWP _ _ _ _ _ | ((try simp only [q4]); first | show loopQ _ _ _ _ _ _ | show cutQ _ _ _ _ | show AWP _ _ _ _ _))) | ((first | refine z7 [] rfl ?_ | refine x7 [] rfl ?_); simp (maxSteps := 2000000) (disch := omega) only [go_sem, seval, agL, agC, intP, letD, hf, tabPV]; (repeat (first | refine ⟨by omega, ?_⟩ | refine ⟨True.intro, ?_⟩)))))
  refine awp_ret ?_
  refine (retM_list ⟨rfl, rfl⟩ ?_ ?_).1
  · exact ⟨rfl, trivial⟩
  · simp [AL.look, agC, agL]
set_option maxRecDepth 100000 in
theorem flip_none (a : Ag) (l : Ltr) (h : getA l.ve a.es = none) : MCalls Try.prog 67 [.loc 1000 0, .p (.agg (letD l))] (agL a) (fun rs M => rs = [intP 0] ∧ M = agL a) := by
  have hf : findM [l.ve] (agE a.es) = none := by rw [findM_ag, h]; rfl
  unfold agL
  refine q8 Try.func67 rfl (by decide +kernel) (by rw [Try.ntmps67]; simp) (fun l X h => by simp only [AL.look] at h; (repeat' split at h); all_goals first | omega | cases h) ?_; rw [Try.ntmps67]; simp only [frA]
  (repeat (first | refine j0 ?_ | refine q7 rfl ?_ | refine awp_no rfl ?_ | refine j4 ?_ | (refine j5 fun K hK => ?_) | (refine q6 (by kernel_rfl) (by kernel_rfl) fun K hK => ?_) | ((first | refine z1 ?_ | refine z2 ?_ | ((first | refine x6 (hK _ ?_) | refine j6 (hK _ _ (z6 (by kernel_rfl)) ?_)); clear hK K)); (first | show AWP _ _ _ _ _ | ((try simp only [q4]); first | show loopQ _ _ _ _ _ _ | show cutQ _ _ _ _ | show AWP _ _ _ _ _))) | ((first | refine z7 [] rfl ?_ | refine x7 [] rfl ?_); simp (maxSteps := 2000000) (disch := omega) only [go_sem, seval, agL, agC, intP, letD, hf, tabPV]; (repeat (first | refine ⟨by omega, ?_⟩ | refine ⟨True.intro, ?_⟩)))))
  refine awp_ret ?_
  refine (retM_list ⟨rfl, rfl⟩ ?_ ?_).1
  · exact ⟨rfl, trivial⟩
  · simp [AL.look, agC, agL]
set_option maxRecDepth 100000 in
theorem forget_same (a : Ag) (l : Ltr) (h : l.ve = a.cur) : MCalls Try.prog 68 [.loc 1000 0, .p (.agg (letD l))] (agL a) (fun rs M => rs = [intP 0] ∧ M = agL a) := by
  have q : (l.ve == a.cur) = true := ieq_tt h
  unfold agL
  refine q8 Try.func68 rfl (by decide +kernel) (by rw [Try.ntmps68]; simp) (fun l X h => by simp only [AL.look] at h; (repeat' split at h); all_goals first | omega | cases h) ?_; rw [Try.ntmps68]; simp only [frA]
  (repeat (first | refine j0 ?_ | refine q7 rfl ?_ | refine awp_no rfl ?_ | refine j4 ?_ | (refine j5 fun K hK => ?_) | (refine q6 (by kernel_rfl) (by kernel_rfl) fun K hK => ?_) | ((first | refine z1 ?_ | refine z2 ?_ | ((first | refine x6 (hK _ ?_) | refine j6 (hK _ _ (z6 (by kernel_rfl)) ?_)); clear hK K)); (first | show AWP _ _ _ _ _ | ((try simp only [q4]); first | show loopQ _ _ _ _ _ _ | show cutQ _ _ _ _ | show AWP _ _ _ _ _))) | ((first | refine z7 [] rfl ?_ | refine x7 [] rfl ?_); simp (maxSteps := 2000000) (disch := omega) only [go_sem, seval, agL, agC, intP, letD, q]; (repeat (first | refine ⟨by omega, ?_⟩ | refine ⟨True.intro, ?_⟩)))))
  refine awp_ret ?_
  refine (retM_list ⟨rfl, rfl⟩ ?_ ?_).1
  · exact ⟨rfl, trivial⟩
  · simp [AL.look, agC, agL]
set_option maxRecDepth 100000 in
theorem forget_other (a : Ag) (l : Ltr) (h : l.ve ≠ a.cur) : MCalls Try.prog 68 [.loc 1000 0, .p (.agg (letD l))] (agL a) (fun rs M => rs = [intP 6] ∧ M = agL { a with es := delA l.ve a.es }) := by
  have q : (l.ve == a.cur) = false := ieq_ff h
  have hd := delM_ag l.ve a.es
  unfold agL
  refine q8 Try.func68 rfl (by decide +kernel) (by rw [Try.ntmps68]; simp) (fun l X h => by simp only [AL.look] at h; (repeat' split at h); all_goals first | omega | cases h) ?_; rw [Try.ntmps68]; simp only [frA]
  (repeat (first | refine j0 ?_ | refine q7 rfl ?_ | refine awp_no rfl ?_ | refine j4 ?_ | (refine j5 fun K hK => ?_) | (refine q6 (by kernel_rfl) (by kernel_rfl) fun K hK => ?_) | ((first | refine z1 ?_ | refine z2 ?_ | ((first | refine x6 (hK _ ?_) | refine j6 (hK _ _ (z6 (by kernel_rfl)) ?_)); clear hK K)); (first | show AWP _ _ _ _ _ | ((try simp only [q4]); first | show loopQ _ _ _ _ _ _ | show cutQ _ _ _ _ | show AWP _ _ _ _ _))) | ((first | refine z7 [] rfl ?_ | refine x7 [] rfl ?_); simp (maxSteps := 2000000) (disch := omega) only [go_sem, seval, agL, agC, intP, letD, q, hd]; (repeat (first | refine ⟨by omega, ?_⟩ | refine ⟨True.intro, ?_⟩)))))
  refine awp_ret ?_
  refine (retM_list ⟨rfl, rfl⟩ ?_ ?_).1
  · exact ⟨rfl, trivial⟩
  · simp [AL.look, agC, agL]
theorem does_1 : ACalls Try.prog 40 [.d (.v (.int .i64 1))] (· = [.fn (.func 66) [] []]) := by
  refine acalls_of_awp Try.func40 rfl (by decide +kernel) (by rw [Try.ntmps40]; simp) ?_; rw [Try.ntmps40]; simp only [frOf]
  (repeat (first | refine j0 ?_ | refine q7 rfl ?_ | refine awp_no rfl ?_ | refine j4 ?_ | (refine j5 fun K hK => ?_) | (refine q6 (by kernel_rfl) (by kernel_rfl) fun K hK => ?_) | ((first | refine z1 ?_ | refine z2 ?_ | ((first | refine x6 (hK _ ?_) | refine j6 (hK _ _ (z6 (by kernel_rfl)) ?_)); clear hK K)); (first | show AWP _ _ _ _ _ | ((try simp only [q4]); first | show loopQ _ _ _ _ _ _ | show cutQ _ _ _ _ | show AWP _ _ _ _ _))) | ((first | refine z7 [] rfl ?_ | refine x7 [] rfl ?_); simp (maxSteps := 2000000) (disch := omega) only [go_sem, seval]; (repeat (first | refine ⟨by omega, ?_⟩ | refine ⟨True.intro, ?_⟩)))))
  refine awp_ret ⟨_, ?_, rfl⟩; rw [Try.results40]; simp (disch := omega) only [ResVars, ResVar, ptrLoc, go_sem, seval]
theorem does_3 : ACalls Try.prog 40 [.d (.v (.int .i64 3))] (· = [.fn (.func 67) [] []]) := by
  refine acalls_of_awp Try.func40 rfl (by decide +kernel) (by rw [Try.ntmps40]; simp) ?_; rw [Try.ntmps40]; simp only [frOf]
  (repeat (first | refine j0 ?_ | refine q7 rfl ?_ | refine awp_no rfl ?_ | refine j4 ?_ | (refine j5 fun K hK => ?_) | (refine q6 (by kernel_rfl) (by kernel_rfl) fun K hK => ?_) | ((first | refine z1 ?_ | refine z2 ?_ | ((first | refine x6 (hK _ ?_) | refine j6 (hK _ _ (z6 (by kernel_rfl)) ?_)); clear hK K)); (first | show AWP _ _ _ _ _ | ((try simp only [q4]); first | show loopQ _ _ _ _ _ _ | show cutQ _ _ _ _ | show AWP _ _ _ _ _))) | ((first | refine z7 [] rfl ?_ | refine x7 [] rfl ?_); simp (maxSteps := 2000000) (disch := omega) only [go_sem, seval]; (repeat (first | refine ⟨by omega, ?_⟩ | refine ⟨True.intro, ?_⟩)))))
  refine awp_ret ⟨_, ?_, rfl⟩; rw [Try.results40]; simp (disch := omega) only [ResVars, ResVar, ptrLoc, go_sem, seval]
theorem does_5 : ACalls Try.prog 40 [.d (.v (.int .i64 5))] (· = [.fn (.func 68) [] []]) := by
  refine acalls_of_awp Try.func40 rfl (by decide +kernel) (by rw [Try.ntmps40]; simp) ?_; rw [Try.ntmps40]; simp only [frOf]
  (repeat (first | refine j0 ?_ | refine q7 rfl ?_ | refine awp_no rfl ?_ | refine j4 ?_ | (refine j5 fun K hK => ?_) | (refine q6 (by kernel_rfl) (by kernel_rfl) fun K hK => ?_) | ((first | refine z1 ?_ | refine z2 ?_ | ((first | refine x6 (hK _ ?_) | refine j6 (hK _ _ (z6 (by kernel_rfl)) ?_)); clear hK K)); (first | show AWP _ _ _ _ _ | ((try simp only [q4]); first | show loopQ _ _ _ _ _ _ | show cutQ _ _ _ _ | show AWP _ _ _ _ _))) | ((first | refine z7 [] rfl ?_ | refine x7 [] rfl ?_); simp (maxSteps := 2000000) (disch := omega) only [go_sem, seval]; (repeat (first | refine ⟨by omega, ?_⟩ | refine ⟨True.intro, ?_⟩)))))
  refine awp_ret ⟨_, ?_, rfl⟩; rw [Try.results40]; simp (disch := omega) only [ResVars, ResVar, ptrLoc, go_sem, seval]
theorem does_no (k : Int) (h1 : k ≠ 1) (h3 : k ≠ 3) (h5 : k ≠ 5) : ACalls Try.prog 40 [.d (.v (.int .i64 k))] (· = [.d (.v .nilFunc)]) := by
  have q1 : (k == 1) = false := ieq_ff h1
  have q3 : (k == 3) = false := ieq_ff h3
  have q5 : (k == 5) = false := ieq_ff h5
  refine acalls_of_awp Try.func40 rfl (by decide +kernel) (by rw [Try.ntmps40]; simp) ?_; rw [Try.ntmps40]; simp only [frOf]
  (repeat (first | refine j0 ?_ | refine q7 rfl ?_ | refine awp_no rfl ?_ | refine j4 ?_ | (refine j5 fun K hK => ?_) | (refine q6 (by kernel_rfl) (by kernel_rfl) fun K hK => ?_) | ((first | refine z1 ?_ | refine z2 ?_ | ((first | refine x6 (hK _ ?_) | refine j6 (hK _ _ (z6 (by kernel_rfl)) ?_)); clear hK K)); (first | show AWP _ _ _ _ _ | ((try simp only [q4]); first | show loopQ _ _ _ _ _ _ | show cutQ _ _ _ _ | show AWP _ _ _ _ _))) | ((first | refine z7 [] rfl ?_ | refine x7 [] rfl ?_); simp (maxSteps := 2000000) (disch := omega) only [go_sem, seval, q1, q3, q5]; (repeat (first | refine ⟨by omega, ?_⟩ | refine ⟨True.intro, ?_⟩)))))
  refine awp_ret ⟨_, ?_, rfl⟩; rw [Try.results40]; simp (disch := omega) only [ResVars, ResVar, ptrLoc, go_sem, seval, q1, q3, q5]
end Go.Proofs.Ytjfammnjpeeahaa
set_option linter.unusedSimpArgs false
set_option linter.unusedVariables false
namespace Go.Proofs.Ytjfammnjpeeahaa
open Go Go.Proofs.Ytjfammnjpeeahaa.AL
def nilA : AV := .p (.d (.v (.slice none 0 0)))
set_option maxRecDepth 100000 in
theorem Letter_late (a : Ag) (l : Ltr) (h : l.fr ≠ -1 ∨ l.to ≠ a.n ∨ l.se < a.ser) : MCalls Try.prog 13 [.loc 1000 0, .p (.agg (letD l))] (agL a) (fun rs M => rs = [nilA] ∧ M = agL a) := by
  have fin : ∀ {A : ASt}, AL.look A.fr 4 = some nilA → (∀ p ∈ agL a, AL.look A.locs p.1 = some p.2) → retM Try.prog Try.f13 (fun rs M => rs = [nilA] ∧ M = agL a) .ret A := fun {A} h1 h2 => (retM_list (A := A) (rs := [nilA]) (L := agL a) ⟨rfl, rfl⟩ (show ResVarsA Try.prog A [.tmp 4] [nilA] from ⟨h1, trivial⟩) h2).1
  by_cases h1 : l.fr = -1
  · have q1 : (l.fr != -1) = false := ine_ff h1
    by_cases h2 : l.to = a.n
    · have q2 : (l.to != a.n) = false := ine_ff h2
      have h3 : l.se < a.ser := by
        rcases h with h | h | h
        · exact absurd h1 h
        · exact absurd h2 h
        · exact h
      unfold agL at *
      refine q8 Try.func13 rfl (by decide +kernel) (by rw [Try.ntmps13]; simp) (fun l X h => by simp only [AL.look] at h; (repeat' split at h); all_goals first | omega | cases h) ?_; rw [Try.ntmps13]; simp only [frA]
      (repeat (first | refine j0 ?_ | refine q7 rfl ?_ | refine awp_no rfl ?_ | refine j4 ?_ | (refine j5 fun K hK => ?_) | (refine q6 (by kernel_rfl) (by kernel_rfl) fun K hK => ?_) | ((first | refine z1 ?_ | refine z2 ?_ | ((first | refine x6 (hK _ ?_) | refine j6 (hK _ _ (z6 (by kernel_rfl)) ?_)); clear hK K)); (first | show AWP _ _ _ _ _ | ((try simp only [q4]); first | show loopQ _ _ _ _ _ _ | show cutQ _ _ _ _ | show AWP _ _ _ _ _))) | ((first | refine z7 [] rfl ?_ | refine x7 [] rfl ?_); simp (maxSteps := 2000000) (disch := omega) only [go_sem, seval, agL, agC, letD, q1, q2]; (repeat (first | refine ⟨by omega, ?_⟩ | refine ⟨True.intro, ?_⟩)))))
      refine awp_ret (fin rfl ?_)
      simp [AL.look, agC]
    · have q2 : (l.to != a.n) = true := ine_tt h2
      unfold agL at *
      refine q8 Try.func13 rfl (by decide +kernel) (by rw [Try.ntmps13]; simp) (fun l X h => by simp only [AL.look] at h; (repeat' split at h); all_goals first | omega | cases h) ?_; rw [Try.ntmps13]; simp only [frA]
      (repeat (first | refine j0 ?_ | refine q7 rfl ?_ | refine awp_no rfl ?_ | refine j4 ?_ | (refine j5 fun K hK => ?_) | (refine q6 (by kernel_rfl) (by kernel_rfl) fun K hK => ?_) | ((first | refine z1 ?_ | refine z2 ?_ | ((first | refine x6 (hK _ ?_) | refine j6 (hK _ _ (z6 (by kernel_rfl)) ?_)); clear hK K)); (first | show AWP _ _ _ _ _ | ((try simp only [q4]); first | show loopQ _ _ _ _ _ _ | show cutQ _ _ _ _ | show AWP _ _ _ _ _))) | ((first | refine z7 [] rfl ?_ | refine x7 [] rfl ?_); simp (maxSteps := 2000000) (disch := omega) only [go_sem, seval, agL, agC, letD, q1, q2]; (repeat (first | refine ⟨by omega, ?_⟩ | refine ⟨True.intro, ?_⟩)))))
      refine awp_ret (fin rfl ?_)
      simp [AL.look, agC]
  · have q1 : (l.fr != -1) = true := ine_tt h1
    unfold agL at *
    refine q8 Try.func13 rfl (by decide +kernel) (by rw [Try.ntmps13]; simp) (fun l X h => by simp only [AL.look] at h; (repeat' split at h); all_goals first | omega | cases h) ?_; rw [Try.ntmps13]; simp only [frA]
    (repeat (first | refine j0 ?_ | refine q7 rfl ?_ | refine awp_no rfl ?_ | refine j4 ?_ | (refine j5 fun K hK => ?_) | (refine q6 (by kernel_rfl) (by kernel_rfl) fun K hK => ?_) | ((first | refine z1 ?_ | refine z2 ?_ | ((first | refine x6 (hK _ ?_) | refine j6 (hK _ _ (z6 (by kernel_rfl)) ?_)); clear hK K)); (first | show AWP _ _ _ _ _ | ((try simp only [q4]); first | show loopQ _ _ _ _ _ _ | show cutQ _ _ _ _ | show AWP _ _ _ _ _))) | ((first | refine z7 [] rfl ?_ | refine x7 [] rfl ?_); simp (maxSteps := 2000000) (disch := omega) only [go_sem, seval, agL, agC, letD, q1]; (repeat (first | refine ⟨by omega, ?_⟩ | refine ⟨True.intro, ?_⟩)))))
    refine awp_ret (fin rfl ?_)
    simp [AL.look, agC]
set_option maxRecDepth 100000 in
theorem Letter_none (a : Ag) (l : Ltr) (h1 : l.fr = -1) (h2 : l.to = a.n) (h3 : ¬ l.se < a.ser) (k1 : l.kd ≠ 1) (k3 : l.kd ≠ 3) (k5 : l.kd ≠ 5) :
    MCalls Try.prog 13 [.loc 1000 0, .p (.agg (letD l))] (agL a) (fun rs M => rs = [nilA] ∧ M = agL { a with ser := l.se }) := by
  have q1 : (l.fr != -1) = false := ine_ff h1
  have q2 : (l.to != a.n) = false := ine_ff h2
  unfold agL
  refine q8 Try.func13 rfl (by decide +kernel) (by rw [Try.ntmps13]; simp) (fun l X h => by simp only [AL.look] at h; (repeat' split at h); all_goals first | omega | cases h) ?_; rw [Try.ntmps13]; simp only [frA]
  (repeat (first | refine j0 ?_ | refine q7 rfl ?_ | refine awp_no rfl ?_ | refine j4 ?_ | (refine j5 fun K hK => ?_) | (refine q6 (by kernel_rfl) (by kernel_rfl) fun K hK => ?_) | ((first | refine z1 ?_ | refine z2 ?_ | ((first | refine x6 (hK _ ?_) | refine j6 (hK _ _ (z6 (by kernel_rfl)) ?_)); clear hK K)); (first | show AWP _ _ _ _ _ | ((try simp only [q4]); first | show loopQ _ _ _ _ _ _ | show cutQ _ _ _ _ | show AWP _ _ _ _ _))) | ((first | refine walkS_call3 rfl rfl rfl ?_ | refine walkD_call3 rfl rfl rfl ?_); simp (maxSteps := 2000000) (disch := omega) only [go_sem, seval, agL, agC, letD, q1, q2]; (first | refine ⟨_, does_no l.kd k1 k3 k5, ?_⟩)) | ((first | refine z7 [] rfl ?_ | refine x7 [] rfl ?_); simp (maxSteps := 2000000) (disch := omega) only [go_sem, seval, agL, agC, letD, q1, q2]; (repeat (first | refine ⟨by omega, ?_⟩ | refine ⟨True.intro, ?_⟩)))))
  refine awp_ret ?_
  refine (retM_list ⟨rfl, rfl⟩ ?_ ?_).1
  · exact ⟨rfl, trivial⟩
  · simp [AL.look, agC]
def ansD (k n ve se : Int) : Nat → List Dat := fun i => [[Dat.v (.int .i64 k), Dat.v (.int .i64 n), Dat.v (.int .i64 (-1)), Dat.v (.int .i64 ve), Dat.v (.int .i64 se), Dat.v (.slice none 0 0)]].getD i []
set_option maxRecDepth 100000 in
theorem Letter_do (a a2 : Ag) (l : Ltr) (g : FuncId) (k : Int) (h1 : l.fr = -1) (h2 : l.to = a.n) (h3 : ¬ l.se < a.ser) (hd : ACalls Try.prog 40 [.d (.v (.int .i64 l.kd))] (· = [.fn (.func g) [] []]))
    (hm : MCalls Try.prog g [.loc 1000 0, .p (.agg (letD l))] (agL { a with ser := l.se }) (fun rs M => rs = [intP k] ∧ M = agL a2)) (hk : k ≠ 0) :
    MCalls Try.prog 13 [.loc 1000 0, .p (.agg (letD l))] (agL a) (fun rs M => rs = [.p (.d (.sl 6 1 (ansD k a2.n l.ve l.se)))] ∧ M = agL a2) := by
  have q1 : (l.fr != -1) = false := ine_ff h1
  have q2 : (l.to != a.n) = false := ine_ff h2
  have q3 : (k == 0) = false := ieq_ff hk
  unfold agL
  refine q8 Try.func13 rfl (by decide +kernel) (by rw [Try.ntmps13]; simp) (fun l X h => by simp only [AL.look] at h; (repeat' split at h); all_goals first | omega | cases h) ?_; rw [Try.ntmps13]; simp only [frA]
  (repeat (first | refine j0 ?_ | refine q7 rfl ?_ | refine awp_no rfl ?_ | refine j4 ?_ | (refine j5 fun K hK => ?_) | (refine q6 (by kernel_rfl) (by kernel_rfl) fun K hK => ?_) | ((first | refine z1 ?_ | refine z2 ?_ | ((first | refine x6 (hK _ ?_) | refine j6 (hK _ _ (z6 (by kernel_rfl)) ?_)); clear hK K)); (first | show AWP _ _ _ _ _ | ((try simp only [q4]); first | show loopQ _ _ _ _ _ _ | show cutQ _ _ _ _ | show AWP _ _ _ _ _))) | ((first | refine walkS_call3 rfl rfl rfl ?_ | refine walkD_call3 rfl rfl rfl ?_); simp (maxSteps := 2000000) (disch := omega) only [go_sem, seval, agL, agC, letD, q1, q2, q3, intP]; (first | refine ⟨_, hd, ?_⟩)) | ((first | refine z7 [] rfl ?_ | refine x7 [] rfl ?_); simp (maxSteps := 2000000) (disch := omega) only [go_sem, seval, agL, agC, letD, q1, q2, q3, intP]; (repeat (first | refine ⟨by omega, ?_⟩ | refine ⟨True.intro, ?_⟩)))))
  unfold agL letD at hm
  (refine walkS_cons _ (step_mcall [(1000, 1000), (1001, 1001)] rfl rfl rfl rfl rfl rfl (hm) rfl (namesOK_of (by repeat (first | exact trivial | refine ⟨rfl, ?_⟩)) (by kernel_rfl))) ?_); simp (maxSteps := 2000000) (disch := omega) only [go_sem, seval, agL, agC, letD, q1, q2, q3, intP]
  (repeat (first | refine j0 ?_ | refine q7 rfl ?_ | refine awp_no rfl ?_ | refine j4 ?_ | (refine j5 fun K hK => ?_) | (refine q6 (by kernel_rfl) (by kernel_rfl) fun K hK => ?_) | ((first | refine z1 ?_ | refine z2 ?_ | ((first | refine x6 (hK _ ?_) | refine j6 (hK _ _ (z6 (by kernel_rfl)) ?_)); clear hK K)); (first | show AWP _ _ _ _ _ | ((try simp only [q4]); first | show loopQ _ _ _ _ _ _ | show cutQ _ _ _ _ | show AWP _ _ _ _ _))) | ((first | refine z7 [] rfl ?_ | refine x7 [] rfl ?_); simp (maxSteps := 2000000) (disch := omega) only [go_sem, seval, agL, agC, letD, q1, q2, q3, intP]; (repeat (first | refine ⟨by omega, ?_⟩ | refine ⟨True.intro, ?_⟩)))))
  refine awp_ret ?_
  refine (retM_list ⟨rfl, rfl⟩ ?_ ?_).1
  · exact ⟨rfl, trivial⟩
  · simp [AL.look, agC]
set_option maxRecDepth 100000 in
theorem Letter_nil (a a2 : Ag) (l : Ltr) (g : FuncId) (h1 : l.fr = -1) (h2 : l.to = a.n) (h3 : ¬ l.se < a.ser) (hd : ACalls Try.prog 40 [.d (.v (.int .i64 l.kd))] (· = [.fn (.func g) [] []]))
    (hm : MCalls Try.prog g [.loc 1000 0, .p (.agg (letD l))] (agL { a with ser := l.se }) (fun rs M => rs = [intP 0] ∧ M = agL a2)) :
    MCalls Try.prog 13 [.loc 1000 0, .p (.agg (letD l))] (agL a) (fun rs M => rs = [nilA] ∧ M = agL a2) := by
  have q1 : (l.fr != -1) = false := ine_ff h1
  have q2 : (l.to != a.n) = false := ine_ff h2
  unfold agL
  refine q8 Try.func13 rfl (by decide +kernel) (by rw [Try.ntmps13]; simp) (fun l X h => by simp only [AL.look] at h; (repeat' split at h); all_goals first | omega | cases h) ?_; rw [Try.ntmps13]; simp only [frA]
  (repeat (first | refine j0 ?_ | refine q7 rfl ?_ | refine awp_no rfl ?_ | refine j4 ?_ | (refine j5 fun K hK => ?_) | (refine q6 (by kernel_rfl) (by kernel_rfl) fun K hK => ?_) | ((first | refine z1 ?_ | refine z2 ?_ | ((first | refine x6 (hK _ ?_) | refine j6 (hK _ _ (z6 (by kernel_rfl)) ?_)); clear hK K)); (first | show AWP _ _ _ _ _ | ((try simp only [q4]); first | show loopQ _ _ _ _ _ _ | show cutQ _ _ _ _ | show AWP _ _ _ _ _))) | ((first | refine walkS_call3 rfl rfl rfl ?_ | refine walkD_call3 rfl rfl rfl ?_); simp (maxSteps := 2000000) (disch := omega) only [go_sem, seval, agL, agC, letD, q1, q2, intP]; (first | refine ⟨_, hd, ?_⟩)) | ((first | refine z7 [] rfl ?_ | refine x7 [] rfl ?_); simp (maxSteps := 2000000) (disch := omega) only [go_sem, seval, agL, agC, letD, q1, q2, intP]; (repeat (first | refine ⟨by omega, ?_⟩ | refine ⟨True.intro, ?_⟩)))))
  unfold agL letD at hm
  (refine walkS_cons _ (step_mcall [(1000, 1000), (1001, 1001)] rfl rfl rfl rfl rfl rfl (hm) rfl (namesOK_of (by repeat (first | exact trivial | refine ⟨rfl, ?_⟩)) (by kernel_rfl))) ?_); simp (maxSteps := 2000000) (disch := omega) only [go_sem, seval, agL, agC, letD, q1, q2, intP]
  (repeat (first | refine j0 ?_ | refine q7 rfl ?_ | refine awp_no rfl ?_ | refine j4 ?_ | (refine j5 fun K hK => ?_) | (refine q6 (by kernel_rfl) (by kernel_rfl) fun K hK => ?_) | ((first | refine z1 ?_ | refine z2 ?_ | ((first | refine x6 (hK _ ?_) | refine j6 (hK _ _ (z6 (by kernel_rfl)) ?_)); clear hK K)); (first | show AWP _ _ _ _ _ | ((try simp only [q4]); first | show loopQ _ _ _ _ _ _ | show cutQ _ _ _ _ | show AWP _ _ _ _ _))) | ((first | refine z7 [] rfl ?_ | refine x7 [] rfl ?_); simp (maxSteps := 2000000) (disch := omega) only [go_sem, seval, agL, agC, letD, q1, q2, intP]; (repeat (first | refine ⟨by omega, ?_⟩ | refine ⟨True.intro, ?_⟩)))))
  refine awp_ret ?_
  refine (retM_list ⟨rfl, rfl⟩ ?_ ?_).1
  · exact ⟨rfl, trivial⟩
  · simp [AL.look, agC]
def Ag.step (a : Ag) (l : Ltr) : Ag × Int :=
  if l.fr ≠ -1 ∨ l.to ≠ a.n ∨ l.se < a.ser then (a, 0) else
  if l.kd = 1 then ({ a with ser := l.se, es := putA l.ve l.ts a.es }, 2) else
  if l.kd = 3 then (if (getA l.ve a.es).isSome then ({ a with ser := l.se, cur := l.ve }, 4) else ({ a with ser := l.se }, 0)) else
  if l.kd = 5 then (if l.ve = a.cur then ({ a with ser := l.se }, 0) else ({ a with ser := l.se, es := delA l.ve a.es }, 6)) else
  ({ a with ser := l.se }, 0)
def ansA (k n ve se : Int) : AV := if k = 0 then nilA else .p (.d (.sl 6 1 (ansD k n ve se)))
set_option maxRecDepth 100000 in
theorem Letter_c (a : Ag) (l : Ltr) (hs : smallR l.ts) : MCalls Try.prog 13 [.loc 1000 0, .p (.agg (letD l))] (agL a) (fun rs M => rs = [ansA (a.step l).2 a.n l.ve l.se] ∧ M = agL (a.step l).1) := by
  unfold Ag.step
  by_cases h : l.fr ≠ -1 ∨ l.to ≠ a.n ∨ l.se < a.ser
  · rw [if_pos h]; exact Letter_late a l h
  · rw [if_neg h]
    have h1 : l.fr = -1 := Classical.byContradiction fun e => h (.inl e)
    have h2 : l.to = a.n := Classical.byContradiction fun e => h (.inr (.inl e))
    have h3 : ¬ l.se < a.ser := fun e => h (.inr (.inr e))
    by_cases k1 : l.kd = 1
    · rw [if_pos k1]
      exact Letter_do a { a with ser := l.se, es := putA l.ve l.ts a.es } l _ 2 h1 h2 h3 (by rw [k1]; exact does_1) (install_c { a with ser := l.se } l hs) (by decide)
    · rw [if_neg k1]
      by_cases k3 : l.kd = 3
      · rw [if_pos k3]
        cases hg : getA l.ve a.es with
        | some t => exact Letter_do a { a with ser := l.se, cur := l.ve } l _ 4 h1 h2 h3 (by rw [k3]; exact does_3) (flip_some { a with ser := l.se } l t hg) (by decide)
        | none => exact Letter_nil a { a with ser := l.se } l _ h1 h2 h3 (by rw [k3]; exact does_3) (flip_none { a with ser := l.se } l hg)
      · rw [if_neg k3]
        by_cases k5 : l.kd = 5
        · rw [if_pos k5]
          by_cases hv : l.ve = a.cur
          · rw [if_pos hv]
            exact Letter_nil a { a with ser := l.se } l _ h1 h2 h3 (by rw [k5]; exact does_5) (forget_same { a with ser := l.se } l hv)
          · rw [if_neg hv]
            exact Letter_do a { a with ser := l.se, es := delA l.ve a.es } l _ 6 h1 h2 h3 (by rw [k5]; exact does_5) (forget_other { a with ser := l.se } l hv) (by decide)
        · rw [if_neg k5]
          exact Letter_none a l h1 h2 h3 k1 k3 k5
def ltr0 : Ltr := ⟨0, 0, 0, 0, 0, []⟩
def rowL (l : List Ltr) : Nat → List Dat := fun i => letD (l.getD i ltr0)
set_option maxRecDepth 100000 in
theorem rowL_at (l : List Ltr) (i : Nat) : rowL l i = letD (l.getD i ltr0) := rfl
end Go.Proofs.Ytjfammnjpeeahaa
set_option linter.unusedSimpArgs false
set_option linter.unusedVariables false
namespace Go.Proofs.Ytjfammnjpeeahaa.AL
open Go.RowKit
variable {P : Program}
def RCalls (P : Program) (f : FuncId) (xs : List AV) (L : List (Nat × LV)) (x : AV) : Prop :=
  ∀ (w : World) (h : Gh) (vs : List Value), GZ w h.g → RelAs w h vs xs → LocsOK (fun _ => True) w h L →
    CallRes P (fun v w' => ∃ g', Ext w h.g w' g' ∧ RelA w' { h with g := g' } v x) ((callFunc f vs.toArray).run P w)
theorem ext_trans {w w' : World} {h : Gh} {g' : Nat → Nat} {B : Nat → Prop} (hz : GZ w h.g) (hB : NewIn B w) (he : Ext w h.g w' g') (own : Nat → Prop) : Trans B w h w' { h with g := g' } own none false :=
  Trans.same he.belowS (fun b hb => ⟨he.below.block b hb, he.gam b hb⟩) hz he.gz hB _
def rdOK (sg : List (Nat × Nat)) (rd : List Nat) (LA : List (Nat × LV)) : List (Nat × LV) → Prop
  | [] => True
  | p :: r => rd.contains (sub sg p.1) = true ∧ look LA (sub sg p.1) = some (p.2.ren (sub sg)) ∧ back sg (sub sg p.1) = some p.1 ∧ rdOK sg rd LA r
theorem rdOK_at {sg : List (Nat × Nat)} {rd : List Nat} {LA : List (Nat × LV)} : ∀ {L : List (Nat × LV)}, rdOK sg rd LA L → ∀ l X, look L l = some X → rd.contains (sub sg l) = true ∧ look LA (sub sg l) = some (X.ren (sub sg)) ∧ back sg (sub sg l) = some l
  | p :: r, h, l, X, hX => by
    simp only [look] at hX
    split at hX
    · rename_i e; subst e; cases hX; exact ⟨h.1, h.2.1, h.2.2.1⟩
    · exact rdOK_at h.2.2.2 l X hX
theorem opR_rcall {o : Oper} {c : Call} {f : Operand} (ho : o.op = .call c) (hc : c.callee = .value f) {x0 x : AV} {g : FuncId} {pre post : List CV} (hx : calleeC x0 = some (g, pre, post)) {zs xs : List AV} (sg : List (Nat × Nat))
    (hargs : pre.map CV.av ++ zs ++ post.map CV.av = xs.map (AV.ren (sub sg))) {L : List (Nat × LV)} (hcall : RCalls P g xs L x) {rd : List Nat} {LA : List (Nat × LV)} (hrd : rdOK sg rd LA L) : OpR P o (x0 :: zs) rd LA (x.ren (sub sg)) := by
  intro B w h a next Q hB hz hr hL hS hn
  have hops : o.op.operands.toList.map a.eval = a.eval f :: c.args.toList.map a.eval := by simp [ho, Op.operands, Call.operands, hc]
  rw [hops] at hr
  have hf := hr.2 0 (a.eval f) x0 rfl rfl
  have hev : RelAs w h (c.args.toList.map a.eval) zs := hr.tail
  obtain ⟨vs, hvs, hrun⟩ := call_runA (P := P) ho hc hx hf hev
  rw [hargs] at hvs
  let hσ := h.ren (sub sg)
  have hvs' : RelAs w hσ vs xs := by
    refine ⟨by have := hvs.1; simpa using this, fun j v y hv hyj => ?_⟩
    exact relA_ren.1 (hvs.2 j v _ hv (by rw [List.getElem?_map, hyj]; rfl))
  have hlocs : LocsOK (fun _ => True) w hσ L := by
    refine ⟨fun l X hX => ?_, fun l l' X X' b hne h1 h2 hb hb' => ?_⟩
    · obtain ⟨k1, k2, _⟩ := rdOK_at hrd l X hX
      exact locOK_O (locOK_ren.1 (hL _ k1 _ k2)) fun _ _ => trivial
    · obtain ⟨k1, k2, k3⟩ := rdOK_at hrd l X h1
      obtain ⟨m1, m2, m3⟩ := rdOK_at hrd l' X' h2
      rw [← inB_ren] at hb hb'
      exact hS _ _ k1 m1 (fun e => hne (by rw [e, m3] at k3; cases k3; rfl)) _ _ b k2 m2 hb hb'
  have key := hcall w hσ vs hz hvs' hlocs
  have fin : ∀ v w', (∃ g', Ext w hσ.g w' g' ∧ RelA w' { hσ with g := g' } v x) → next (a.put o.dst v) w' := by
    rintro v w' ⟨g', he, hR⟩
    exact hn v w' { h with g := g' } (relA_ren.2 hR) (ext_trans hz hB he _)
  unfold Oper.wp
  rw [hrun]
  unfold CallRes at key
  split at key
  · rename_i f' args w1 hrr
    rw [hrr]
    show Calls P f' args w1 _
    refine key.mono fun e w' ⟨v, he, hR⟩ => ?_
    subst he
    exact fin v w' hR
  · rename_i v w1 hrr
    rw [hrr]
    exact fin v w1 key
  · exact key.elim
theorem walkD_rcall {nt : Nat} {ops : Array Oper} {K : ASt → List Done → Prop} {o : Oper} {rest : List Oper} {A : ASt} {tr : List Done} {c : Call} {f : Operand} {g : FuncId} {pre post : List CV} {xs : List AV} {L : List (Nat × LV)} {x : AV}
    (sg : List (Nat × Nat)) (rd : List Nat) (hd : dstOK nt o = true) (hw : wantedA ops o A = some true) (ho : o.op = .call c) (hc : c.callee = .value f) (hx : calleeC (A.eval f) = some (g, pre, post))
    (hargs : pre.map CV.av ++ c.args.toList.map A.eval ++ post.map CV.av = xs.map (AV.ren (sub sg))) (hcall : RCalls P g xs L x) (hrd : rdOK sg rd A.locs L)
    (hk : walkD P nt ops K rest (A.apply o.dst { val := x.ren (sub sg) }) (⟨o, none, { val := x.ren (sub sg) }, rd⟩ :: tr)) : walkD P nt ops K (o :: rest) A tr := by
  refine walkD_rd hd hw ?_ hk
  have hops : o.op.operands.toList.map A.eval = A.eval f :: c.args.toList.map A.eval := by simp [ho, Op.operands, Call.operands, hc]
  rw [hops]
  exact opR_rcall ho hc hx sg hargs hcall hrd
inductive XAV : AV → Prop
  | is (u : Value) : XAV (.is (· = u))
  | mp (l : Nat) : XAV (.mp l)
theorem XAV.same {x : AV} (hx : XAV x) {w w' : World} {h h' : Gh} (hρ : ∀ l ∈ x.mentions, h'.ρ l = h.ρ l) {v v' : Value} (r : RelA w h v x) (r' : RelA w' h' v' x) : v' = v := by
  cases hx with
  | is u => exact (show v' = u from r').trans (show v = u from r).symm
  | mp l =>
    have e1 : v = .map (some (h.ρ l)) := r
    have e2 : v' = .map (some (h'.ρ l)) := r'
    rw [e1, e2, hρ l (by simp [AV.mentions])]
inductive XLV : LV → Prop
  | cells (e : TypeId) (cs : List AV) (h : ∀ c ∈ cs, XAV c) : XLV (.cells e cs)
  | obj (o : Obj) : XLV (.obj o)
theorem XLV.same {X : LV} (hx : XLV X) {O : Nat → Prop} {w w' : World} {h h' : Gh} {l : Nat} (hρl : h'.ρ l = h.ρ l) (hρ : ∀ k ∈ X.mentions, h'.ρ k = h.ρ k) (r : LocOK O w h l X) (r' : LocOK O w' h' l X) {b : Nat} (hb : inB h l X b) :
    w'.heap[b]? = w.heap[b]? ∧ h'.g b = h.g b := by
  cases hx with
  | cells e cs hcs =>
    obtain ⟨arr, _, h2, h3, h4, h5⟩ := r
    obtain ⟨arr', _, k2, k3, k4, k5⟩ := r'
    simp [inB] at hb
    subst hb
    rw [hρl] at k2 k4
    refine ⟨?_, by rw [h4, k4]⟩
    rw [h2, k2]
    congr 2
    apply Array.ext
    · rw [h3, k3]
    · intro i hi1 hi2
      have hic : i < cs.length := by omega
      have e1 := (h5 i arr[i] cs[i] (by simp [hi2]) (List.getElem?_eq_getElem hic)).1
      have e2 := (k5 i arr'[i] cs[i] (by simp [hi1]) (List.getElem?_eq_getElem hic)).1
      exact (hcs _ (List.getElem_mem hic)).same (fun k hk => hρ k (List.mem_flatMap.2 ⟨_, List.getElem_mem hic, hk⟩)) e1 e2
  | obj o =>
    obtain ⟨_, h2, h4⟩ := r
    obtain ⟨_, k2, k4⟩ := r'
    simp [inB] at hb
    subst hb
    rw [hρl] at k2 k4
    exact ⟨by rw [h2, k2], by rw [h4, k4]⟩
theorem callRes_exact {f : FuncId} {xs : List AV} {L : List (Nat × LV)} {x : AV} (hc : MCalls P f xs L (fun r M => r = [x] ∧ M = L)) (hX : ∀ l X, look L l = some X → XLV X ∧ ∀ k ∈ X.mentions, ∃ Y, look L k = some Y) (hm : x.mentions = [])
    {w : World} {h : Gh} {vs : List Value} (hz : GZ w h.g) (hr : RelAs w h vs xs) (hl : LocsOK (fun _ => True) w h L) :
    CallRes P (fun v w' => ∃ g', Ext w h.g w' g' ∧ RelA w' { h with g := g' } v x) ((callFunc f vs.toArray).run P w) := by
  have key := hc w h vs hz hr hl
  have fin : ∀ v w', (∃ h1 r1 L1, (r1 = [x] ∧ L1 = L) ∧ RelRA w' h1 v r1 ∧ LocsOK (fun _ => True) w' h1 L1 ∧ Chg L L1 w h w' h1) → ∃ g', Ext w h.g w' g' ∧ RelA w' { h with g := g' } v x := by
    rintro v w' ⟨h1, r1, L1, ⟨rfl, rfl⟩, hR, hL, hC⟩
    have same : ∀ b, ownB h L1 b → w'.heap[b]? = w.heap[b]? ∧ h1.g b = h.g b := by
      rintro b ⟨l, X, h1', h2⟩
      obtain ⟨k1, k2⟩ := hX l X h1'
      exact k1.same (hC.ρ l X h1') (fun k hk => by obtain ⟨Y, hY⟩ := k2 k hk; exact hC.ρ k Y hY) (hl.1 l X h1') (hL.1 l X h1') h2
    refine ⟨h1.g, ⟨⟨hC.below.os, hC.below.tape, hC.below.output, hC.below.size, fun k hk => ?_⟩, fun b hb => ?_, hC.gz⟩, ?_⟩
    · by_cases ho : ownB h L1 k
      · exact (same k ho).1
      · exact hC.below.block k hk ho
    · by_cases ho : ownB h L1 b
      · exact (same b ho).2
      · exact hC.gam b hb ho
    · exact relA_congr (h := h1) (k := { h with g := h1.g }) rfl (fun l hl => by rw [hm] at hl; cases hl) hR
  unfold CallRes at *
  split at key
  · exact key.mono fun e w' ⟨v, he, hR⟩ => ⟨v, he, fin v w' hR⟩
  · exact fin _ _ key
  · exact key.elim
theorem mcalls_of_rcalls {f : FuncId} {xs : List AV} {L : List (Nat × LV)} {x : AV} (hc : RCalls P f xs L x) : MCalls P f xs L (fun rs M => rs = [x] ∧ M = L) := by
  intro w h vs hz hr hl
  have key := hc w h vs hz hr hl
  have fin : ∀ v w', (∃ g', Ext w h.g w' g' ∧ RelA w' { h with g := g' } v x) → ∃ h1 r1 L1, (r1 = [x] ∧ L1 = L) ∧ RelRA w' h1 v r1 ∧ LocsOK (fun _ => True) w' h1 L1 ∧ Chg L L1 w h w' h1 := by
    rintro v w' ⟨g', he, hR⟩
    have tr := ext_trans (B := fun _ => True) hz (fun _ _ => trivial) he (fun _ => False)
    have hlok : ∀ l X, look L l = some X → LocOK (fun _ => True) w' { h with g := g' } l X ∧ inB { h with g := g' } l X = inB h l X := fun l X hX =>
      LocOK.trans tr (by simp) (fun hf => by cases hf) (fun b _ hno => hno) (hl.1 l X hX)
    refine ⟨{ h with g := g' }, _, _, ⟨rfl, rfl⟩, hR, ⟨fun l X hX => (hlok l X hX).1, fun l l' X X' b hne h1 h2 => ?_⟩, ⟨he.belowS, fun b hlt _ => he.gam b hlt, he.gz, he.keep hz, fun _ _ _ => rfl, fun _ _ _ => .inr ⟨rfl, rfl⟩, fun b ⟨l, X, h1, h2⟩ => .inr ⟨l, X, h1, ?_⟩⟩⟩
    · rw [(hlok l X h1).2, (hlok l' X' h2).2]
      exact hl.2 l l' X X' b hne h1 h2
    · rw [(hlok l X h1).2] at h2; exact h2
  unfold CallRes at *
  split at key
  · exact key.mono fun e w' ⟨v, he, hR⟩ => ⟨v, he, fin v w' hR⟩
  · exact fin _ _ key
  · exact key.elim
end Go.Proofs.Ytjfammnjpeeahaa.AL
set_option linter.unusedSimpArgs false
set_option linter.unusedVariables false
namespace Go.Proofs.Ytjfammnjpeeahaa
open Go.Proofs.Ytjfammnjpeeahaa.AL
def rowZ (l : List Int) : Nat → List Dat := fun i => [.v (.int .i64 (l.getD i 0))]
theorem rowZ_at (l : List Int) (i : Nat) : rowZ l i = [.v (.int .i64 (l.getD i 0))] := rfl
theorem ClipZ_c (n : Nat) (f : Nat → List Dat) (hn : n ≤ 140737488355328) : ACalls Try.prog 41 [.d (.sl 1 n f)] (· = [.d (.sl 1 n f)]) := by
  refine acalls_of_awp Try.func41 rfl (by decide +kernel) (by rw [Try.ntmps41]; simp) ?_; rw [Try.ntmps41]; simp only [frOf]
  (repeat (first | refine j0 ?_ | refine q7 rfl ?_ | refine awp_no rfl ?_ | refine j4 ?_ | (refine j5 fun K hK => ?_) | (refine q6 (by kernel_rfl) (by kernel_rfl) fun K hK => ?_) | ((first | refine z1 ?_ | refine z2 ?_ | ((first | refine x6 (hK _ ?_) | refine j6 (hK _ _ (z6 (by kernel_rfl)) ?_)); clear hK K)); (first | show AWP _ _ _ _ _ | ((try simp only [q4]); first | show loopQ _ _ _ _ _ _ | show cutQ _ _ _ _ | show AWP _ _ _ _ _))) | ((first | refine z7 [] rfl ?_ | refine x7 [] rfl ?_); simp (maxSteps := 2000000) (disch := omega) only [go_sem, seval]; (repeat (first | refine ⟨by omega, ?_⟩ | refine ⟨True.intro, ?_⟩)))))
  refine awp_ret ⟨_, ?_, rfl⟩; rw [Try.results41]; simp (disch := omega) only [ResVars, ResVar, ptrLoc, go_sem, seval]
  rfl
end Go.Proofs.Ytjfammnjpeeahaa
set_option linter.unusedSimpArgs false
set_option linter.unusedVariables false
namespace Go.Proofs.Ytjfammnjpeeahaa
open Go.Shelf Go.Proofs
def sortZ_ren : Go.Shelf.Ren := ⟨fun | 125 => 84 | 128 => 99 | 129 => 100 | 189 => 70 | 215 => 109 | 216 => 96 | 257 => 83 | 294 => 90 | 295 => 91 | 296 => 92 | 297 => 93 | 298 => 94 | 299 => 95 | 300 => 97 | 301 => 98 | 328 => 104 | 329 => 105 | 330 => 106 | 331 => 107 | 332 => 108 | 343 => 110 | n => n, fun | 0 => 0 | 3 => 3 | 4 => 4 | 5 => 5 | 9 => 9 | 28 => 65 | 46 => 138 | 51 => 155 | 53 => 36 | 131 => 69 | 182 => 147 | 183 => 148 | 218 => 158 | 222 => 162 | 228 => 164 | 229 => 165 | n => n, fun n => n⟩
theorem sortZ_lay : Lays.n189 Try.prog sortZ_ren where
  mixed := by kernel_rfl
  f125 := Try.func84.trans (congrArg some (by kernel_rfl))
  f128 := Try.func99.trans (congrArg some (by kernel_rfl))
  f129 := Try.func100.trans (congrArg some (by kernel_rfl))
  f189 := Try.func70.trans (congrArg some (by kernel_rfl))
  f215 := Try.func109.trans (congrArg some (by kernel_rfl))
  f216 := Try.func96.trans (congrArg some (by kernel_rfl))
  f257 := Try.func83.trans (congrArg some (by kernel_rfl))
  f294 := Try.func90.trans (congrArg some (by kernel_rfl))
  f295 := Try.func91.trans (congrArg some (by kernel_rfl))
  f296 := Try.func92.trans (congrArg some (by kernel_rfl))
  f297 := Try.func93.trans (congrArg some (by kernel_rfl))
  f298 := Try.func94.trans (congrArg some (by kernel_rfl))
  f299 := Try.func95.trans (congrArg some (by kernel_rfl))
  f300 := Try.func97.trans (congrArg some (by kernel_rfl))
  f301 := Try.func98.trans (congrArg some (by kernel_rfl))
  f328 := Try.func104.trans (congrArg some (by kernel_rfl))
  f329 := Try.func105.trans (congrArg some (by kernel_rfl))
  f330 := Try.func106.trans (congrArg some (by kernel_rfl))
  f331 := Try.func107.trans (congrArg some (by kernel_rfl))
  f332 := Try.func108.trans (congrArg some (by kernel_rfl))
  f343 := Try.func110.trans (congrArg some (by kernel_rfl))
  t0 := Try.underlying0
  a0 := Try.isAgg0
  z0 := Try.sizeOf0
  v0 := Try.zeroValue0
  t3 := Try.underlying3
  a3 := Try.isAgg3
  z3 := Try.sizeOf3
  v3 := Try.zeroValue3
  t4 := Try.underlying4
  a4 := Try.isAgg4
  z4 := Try.sizeOf4
  v4 := Try.zeroValue4
  t5 := Try.underlying5
  a5 := Try.isAgg5
  z5 := Try.sizeOf5
  v5 := Try.zeroValue5
  t9 := Try.underlying9
  a9 := Try.isAgg9
  z9 := Try.sizeOf9
  v9 := Try.zeroValue9
  t28 := Try.underlying65
  a28 := Try.isAgg65
  z28 := Try.sizeOf65
  v28 := Try.zeroValue65
  t46 := Try.underlying138
  a46 := Try.isAgg138
  z46 := Try.sizeOf138
  v46 := Try.zeroValue138
  t51 := Try.underlying155
  a51 := Try.isAgg155
  z51 := Try.sizeOf155
  v51 := Try.zeroValue155
  t53 := Try.underlying36
  a53 := Try.isAgg36
  z53 := Try.sizeOf36
  v53 := Try.zeroValue36
  t131 := Try.underlying69
  a131 := Try.isAgg69
  z131 := Try.sizeOf69
  v131 := Try.zeroValue69
  t182 := Try.underlying147
  a182 := Try.isAgg147
  z182 := Try.sizeOf147
  v182 := Try.zeroValue147
  t183 := Try.underlying148
  a183 := Try.isAgg148
  z183 := Try.sizeOf148
  v183 := Try.zeroValue148
  t218 := Try.underlying158
  a218 := Try.isAgg158
  z218 := Try.sizeOf158
  v218 := Try.zeroValue158
  t222 := Try.underlying162
  a222 := Try.isAgg162
  z222 := Try.sizeOf162
  v222 := Try.zeroValue162
  t228 := Try.underlying164
  a228 := Try.isAgg164
  z228 := Try.sizeOf164
  v228 := Try.zeroValue164
  t229 := Try.underlying165
  a229 := Try.isAgg165
  z229 := Try.sizeOf165
  v229 := Try.zeroValue165
end Go.Proofs.Ytjfammnjpeeahaa
set_option linter.unusedSimpArgs false
set_option linter.unusedVariables false
namespace Go.Proofs.Ytjfammnjpeeahaa
open Go.Proofs.Ytjfammnjpeeahaa.AL Go.RowKit Go.Sort
def srtZ (l : List Int) : List Int := l.mergeSort fun x y => decide (x ≤ y)
end Go.Proofs.Ytjfammnjpeeahaa
set_option linter.unusedSimpArgs false
set_option linter.unusedVariables false
namespace Go.Proofs.Ytjfammnjpeeahaa
open Go Go.Proofs.Ytjfammnjpeeahaa.AL Go.RowKit Go.Sort Go.Maps Go.Shelf
set_option maxRecDepth 100000 in
theorem insert_perm {H : Type} (x : Lit × DataW H) : ∀ l : List (Lit × DataW H), (DataW.insert x l).Perm (x :: l)
  | [] => List.Perm.refl _
  | y :: r => by
    unfold DataW.insert
    split
    · exact List.Perm.refl _
    · exact ((insert_perm x r).cons y).trans (List.Perm.swap x y r)
set_option maxRecDepth 100000 in
theorem sorted_perm {H : Type} : ∀ l : List (Lit × DataW H), (l.foldr DataW.insert []).Perm l
  | [] => List.Perm.refl _
  | x :: r => (insert_perm x _).trans ((sorted_perm r).cons x)
def inI64 (z : Int) : Prop := -9223372036854775808 ≤ z ∧ z ≤ 9223372036854775807
def keyR' : Value → Option (DataW Unit × List MemPlace) := fun _ => some (.nil, [])
set_option maxRecDepth 100000 in
theorem keyOf_z {z : Int} (hz : inI64 z) : keyOf Try.prog 3 (.int .i64 z) = some (.int .i64 z) := by
  have hu : Try.prog.underlying 3 = some (.int .i64) := Try.underlying3
  unfold keyOf
  rw [hu]
  unfold mapKey
  rw [hu]
  have hw : (Lit.int .i64 z).wf = true := by
    obtain ⟨h1, h2⟩ := hz
    simp [Lit.wf, IntKind.min, IntKind.max, IntKind.signed, IntKind.bits]
    omega
  simp [hw]
structure KeysIs (arr : Array MapEntry) (clock : Nat) (zs : List Int) : Prop where
  size : arr.size = zs.length
  key : ∀ (i : Nat) e, arr[i]? = some e → ∃ z, zs[i]? = some z ∧ e.key = .int .i64 z
  born : ∀ (i : Nat) e, arr[i]? = some e → e.born < clock
  inj : ∀ (i j : Nat) e e', arr[i]? = some e → arr[j]? = some e' → e.born = e'.born → i = j
set_option maxRecDepth 100000 in
theorem mapIs_keys {w : World} {g : Nat → Nat} {arr : Array MapEntry} {clock : Nat} {es : List (List Int × PV)} {zs : List Int} (hM : MapIs w g [.i64] arr clock es) (hes : es.map (·.1) = zs.map fun z => [z]) : KeysIs arr clock zs := by
  refine ⟨by rw [hM.size]; have := congrArg List.length hes; simpa using this, fun i e he => ?_, hM.born, hM.inj⟩
  have hi : i < es.length := by rw [← hM.size]; exact (Array.getElem?_eq_some_iff.1 he).1
  obtain ⟨h1, _, _⟩ := hM.at' i e es[i] he (List.getElem?_eq_getElem hi)
  have h2 : (es.map (·.1))[i]? = some es[i].1 := by rw [List.getElem?_map, List.getElem?_eq_getElem hi]; rfl
  rw [hes, List.getElem?_map] at h2
  cases hz : zs[i]? with
  | none => rw [hz] at h2; cases h2
  | some z =>
    rw [hz] at h2
    simp only [Option.map_some, Option.some.injEq] at h2
    rw [← h2] at h1
    exact ⟨z, rfl, h1⟩
set_option maxRecDepth 100000 in
theorem owns_keys {w : World} {b : Nat} {arr : Array MapEntry} {clock : Nat} {zs : List Int} (hb : w.heap[b]? = some (.map arr clock)) (hM : KeysIs arr clock zs)
    (hnd : zs.Nodup) (hwf : ∀ z ∈ zs, inI64 z) (hl : zs.length ≤ 1099511627776) :
    ∃ D0 : DataW Unit, w.ownsMap Try.prog 3 keyR' b arr.size D0 ∧ (intKeys D0).Perm zs ∧ Maps.size D0 = zs.length := by
  have hlen : arr.size = zs.length := hM.size
  have hkey := hM.key
  have hrd : ∀ x ∈ arr.toList, ∃ z, z ∈ zs ∧ x.key = .int .i64 z ∧ WideElems.rd Try.prog 3 keyR' x = some (.int .i64 z, .nil) := by
    intro x hx
    obtain ⟨i, hi⟩ := List.getElem?_of_mem hx
    obtain ⟨z, h1, h2⟩ := hkey i x (by simpa using hi)
    have hzm := List.mem_of_getElem? h1
    refine ⟨z, hzm, h2, ?_⟩
    unfold WideElems.rd
    rw [h2, keyOf_z (hwf z hzm)]
    rfl
  have hmap : arr.toList.map (WideElems.rg Try.prog 3 keyR') = zs.map fun z => (Lit.int .i64 z, DataW.nil) := by
    apply List.ext_getElem?
    intro i
    simp only [List.getElem?_map, Array.getElem?_toList]
    cases he : arr[i]? with
    | none =>
      have : arr.size ≤ i := by
        rw [Array.getElem?_eq_none_iff] at he; exact he
      rw [List.getElem?_eq_none (by omega)]; rfl
    | some e =>
      obtain ⟨z, h1, h2⟩ := hkey i e he
      rw [h1]
      simp only [Option.map_some, Option.some.injEq]
      unfold WideElems.rg WideElems.rd
      rw [h2, keyOf_z (hwf z (List.mem_of_getElem? h1))]
      rfl
  refine ⟨_, ⟨arr, clock, hb, ⟨by rw [hlen]; unfold maxLen; omega, ⟨fun x hx => ?_, ?_, ?_⟩, fun x hx => ?_⟩, Nat.le_refl _, rfl⟩, ?_, ?_⟩
  · obtain ⟨i, hi⟩ := List.getElem?_of_mem hx
    exact hM.born i x (by simpa using hi)
  · rw [List.Nodup, List.pairwise_iff_getElem]
    intro i j hi hj hij he
    simp only [List.length_map, Array.length_toList] at hi hj
    simp only [List.getElem_map, Array.getElem_toList] at he
    have := hM.inj i j _ _ (by simp [hi]) (by simp [hj]) he
    omega
  · have : arr.toList.map (·.key) = zs.map (Value.int .i64) := by
      apply List.ext_getElem?
      intro i
      simp only [List.getElem?_map, Array.getElem?_toList]
      cases he : arr[i]? with
      | none =>
        have : arr.size ≤ i := by rw [Array.getElem?_eq_none_iff] at he; exact he
        rw [List.getElem?_eq_none (by omega)]; rfl
      | some e =>
        obtain ⟨z, h1, h2⟩ := hkey i e he
        rw [h1]; simp [h2]
    rw [this]
    exact List.Pairwise.map _ (fun a b hab e => hab (by cases e; rfl)) hnd
  · obtain ⟨z, _, _, h⟩ := hrd x hx
    exact ⟨_, h⟩
  · rw [hmap]
    show ((List.foldr DataW.insert [] (zs.map fun z => (Lit.int .i64 z, (DataW.nil : DataW Unit)))).map fun p => _root_.Go.intOf p.1).Perm zs
    have := (sorted_perm (zs.map fun z => (Lit.int .i64 z, (DataW.nil : DataW Unit)))).map fun p => _root_.Go.intOf p.1
    rw [List.map_map] at this
    have e : (fun p : Lit × DataW Unit => _root_.Go.intOf p.1) ∘ (fun z => (Lit.int .i64 z, DataW.nil)) = id := by funext z; rfl
    rw [e, List.map_id] at this
    exact this
  · rw [hmap]
    show (List.foldr DataW.insert [] _).length = _
    rw [(sorted_perm _).length_eq, List.length_map]
set_option maxRecDepth 100000 in
theorem mergeSort_srtZ {ss zs : List Int} (h : ss.Perm zs) : (ss.mergeSort fun x y => decide (x ≤ y)) = srtZ zs := mergeSort_of_perm_i h
set_option maxRecDepth 100000 in
theorem sortsZ (m : Nat) : AnyZI.SortsIn Try.prog keysZ_ren Fence.wide m :=
  ⟨fun blk off cap ss W hH hblk hsz => callsIn_wide.2 (Any.slices_Sort_int sortZ_lay blk off cap ss W hH hblk hsz),
   fun p cap W => callsIn_wide.2 (Any.slices_Sort_int_none sortZ_lay p cap W)⟩
set_option maxRecDepth 100000 in
theorem sorted_core {zs : List Int} (hnd : zs.Nodup) (hwf : ∀ z ∈ zs, inI64 z) (hl : zs.length ≤ 1099511627776) {w : World} {g : Nat → Nat} (hz : GZ w g) {bc bm : Nat} {carr : Array Value} {e : TypeId} {marr : Array MapEntry} {clock : Nat}
    (hh : w.heap[bc]? = some (.cells carr e (0, 0))) (hc0 : carr[0]? = some (.map (some bm))) (m2 : w.heap[bm]? = some (.map marr clock)) (hK : KeysIs marr clock zs) :
    CallRes Try.prog (fun v w' => ∃ g', Ext w g w' g' ∧ RelD w' g' v (.sl 1 zs.length (rowZ (srtZ zs)))) ((callFunc 42 #[.func (.func 71) #[] #[.pointer (some ⟨bc, 0, none⟩)]]).run Try.prog w) := by
  have hm : w.cell? ⟨bc, 0, none⟩ = some (.map (some bm)) := by rw [heap_cell hh]; exact hc0
  obtain ⟨D0, hown, hperm, hsize⟩ := owns_keys m2 hK hnd hwf hl
  have hbl : bc < w.heap.size := (Array.getElem?_eq_some_iff.1 hh).1
  have hseq : SeqGives Fence.wide 2 Try.prog 71 #[.pointer (some ⟨bc, 0, none⟩)] encZ (fun ss => ss.Perm (intKeys D0)) (Maps.size D0) w :=
    AnyZI.keys_gives (ρ := keysZ_ren) { keysZ_lay with } Fence.wide _ trivial rfl (by omega) bc bm _ D0 w hbl hm hown
  have cS := AnyZI.sorted_in sortedZ_lay Fence.wide 5 trivial trivial trivial trivial rfl (by omega) (sortsZ _) (enters_of Try.func70 (by kernel_rfl) rfl) 71 #[.pointer (some ⟨bc, 0, none⟩)] trivial (enters_of Try.func71 (by kernel_rfl) rfl) _ _ (by rw [hsize]; unfold maxLen; omega) (by rw [hsize]; omega) w hseq
  change CallsIn _ _ Try.prog 42 _ _ _ at cS
  have cS' := (callsIn_wide (n := 5)).1 cS
  rw [callFunc_enter _ w Try.func42 rfl (by kernel_rfl)]
  show Calls Try.prog 42 _ w _
  refine cS'.mono fun e w' ⟨v, ss, he, hS, hrow, hnil, hb⟩ => ⟨v, he, ?_⟩
  have hsrt : (ss.mergeSort fun x y => decide (x ≤ y)) = srtZ zs := mergeSort_srtZ (hS.trans hperm)
  have hlen : ss.length = zs.length := (hS.trans hperm).length_eq
  rw [hsrt, hlen] at hrow
  have hsl : (srtZ zs).length = zs.length := by unfold srtZ; simp
  rcases hrow with ⟨hlx, ⟨hvn, hn0⟩ | ⟨gb, cap, cur, hvs, hgb, hheap, hnc, hcm, hcs, htake⟩⟩
  · refine ⟨g, ⟨hb, fun _ _ => rfl, fun b hb' => hz b (Nat.le_trans hb.size hb')⟩, ?_⟩
    rw [hvn, hn0]
    exact .sl0 _ _ _ _
  · have hlt : gb < w'.heap.size := (Array.getElem?_eq_some_iff.1 hheap).1
    refine ⟨setG g gb zs.length, ⟨hb, fun b hb' => ?_, fun b hb' => ?_⟩, ?_⟩
    · simp only [setG]; rw [if_neg (by omega)]
    · simp only [setG]; rw [if_neg (by omega)]; exact hz b (Nat.le_trans hb.size hb')
    · rw [hvs]
      refine .sl gb 0 zs.length cap 1 _ (fun i j => (cur[i + j]?).getD _root_.Go.undef) hnc (fun i hi => rfl) (fun i j hi hj => ?_) (by simp [setG]) (fun i j d hi hd => ?_)
      · have hj0 : j = 0 := by omega
        subst hj0
        rw [heap_cell hheap]
        have : i < cur.size := by rw [hcs]; omega
        simp [this]
      · have hj0 : j = 0 := by
          have := (List.getElem?_eq_some_iff.1 hd).1
          simp [rowZ] at this; omega
        subst hj0
        simp only [rowZ, List.getElem?_cons_zero, Option.some.injEq] at hd
        subst hd
        have hi2 : i < (srtZ zs).length := by omega
        have h1 : (cur.toList.take (zs.length * 1))[i]? = ((srtZ zs).map encZ)[i]? := by rw [htake]
        rw [List.getElem?_take_of_lt (by omega), List.getElem?_map, List.getElem?_eq_getElem hi2] at h1
        have h2 : cur[i]? = some (.int .i64 (srtZ zs)[i]) := by simpa using h1
        simp only [Nat.add_zero, h2]
        rw [List.getD_eq_getElem?_getD, List.getElem?_eq_getElem hi2]
        exact .v _ rfl
def keyL (X : LV) : List (Nat × LV) := [(1002, .cells 95 [.mp 1001]), (1001, X)]
def HasKeys (X : LV) (zs : List Int) : Prop := ∀ (w : World) (h : Gh), LocOK (fun _ => True) w h 1001 X → ∃ arr clock, w.heap[h.ρ 1001]? = some (.map arr clock) ∧ KeysIs arr clock zs
set_option maxRecDepth 100000 in
theorem Sorted_r (X : LV) (zs : List Int) (hX : HasKeys X zs) (hnd : zs.Nodup) (hwf : ∀ z ∈ zs, inI64 z) (hl : zs.length ≤ 1099511627776) :
    RCalls Try.prog 42 [.cl (.func 71) [] [.loc 1002 0]] (keyL X) (.p (.d (.sl 1 zs.length (rowZ (srtZ zs))))) := by
  intro w h vs hz hr hL
  obtain ⟨carr, b1, hh, hs, hg, hcell⟩ := hL.1 1002 _ rfl
  obtain ⟨marr, clock, m2, m4⟩ := hX w h (hL.1 1001 X rfl)
  have hv : vs = [.func (.func 71) #[] #[.pointer (some ⟨h.ρ 1002, 0, none⟩)]] := by
    match vs, hr with
    | [v], hr =>
      obtain ⟨us, cs, hv, h1, h2⟩ := hr.2 0 v _ rfl rfl
      have e1 : us = [] := List.eq_nil_of_length_eq_zero h1.1
      match cs, h2 with
      | [c], h2 =>
        have : c = .pointer (some ⟨h.ρ 1002, 0, none⟩) := h2.2 0 c _ rfl rfl
        rw [hv, e1, this]
      | [], h2 => exact absurd h2.1 (by simp)
      | _ :: _ :: _, h2 => exact absurd h2.1 (by simp)
    | [], hr => exact absurd hr.1 (by simp)
    | _ :: _ :: _, hr => exact absurd hr.1 (by simp)
  subst hv
  have hlt0 : 0 < carr.size := by rw [hs]; simp
  have h0 : carr[0]? = some (carr[0]'hlt0) := by simp [hlt0]
  have hc : carr[0]? = some (.map (some (h.ρ 1001))) := by
    have := (hcell 0 (carr[0]'hlt0) (.mp 1001) h0 rfl).1
    rw [h0]
    exact congrArg some this
  have := sorted_core hnd hwf hl hz hh hc m2 m4
  unfold CallRes at *
  split at this
  · exact this.mono fun e w' ⟨v, he, g', h1, h2⟩ => ⟨v, he, g', h1, .d _ _ h2⟩
  · obtain ⟨g', h1, h2⟩ := this; exact ⟨g', h1, .d _ _ h2⟩
  · exact this.elim
set_option maxRecDepth 100000 in
theorem Sorted_c (X : LV) (zs : List Int) (hX : HasKeys X zs) (hnd : zs.Nodup) (hwf : ∀ z ∈ zs, inI64 z) (hl : zs.length ≤ 1099511627776) :
    MCalls Try.prog 42 [.cl (.func 71) [] [.loc 1002 0]] (keyL X) (fun rs M => rs = [.p (.d (.sl 1 zs.length (rowZ (srtZ zs))))] ∧ M = keyL X) :=
  mcalls_of_rcalls (Sorted_r X zs hX hnd hwf hl)
set_option maxRecDepth 100000 in
theorem hasKeys_map {es : List (List Int × PV)} {zs : List Int} (hes : es.map (·.1) = zs.map fun z => [z]) : HasKeys (.map [.i64] es) zs := by
  rintro w h ⟨marr, clock, m1, m2, m3, m4⟩
  exact ⟨marr, clock, m2, mapIs_keys m4 hes⟩
set_option maxRecDepth 100000 in
theorem hasKeys_obj {arr : Array MapEntry} {clock : Nat} {zs : List Int} (hK : KeysIs arr clock zs) : HasKeys (.obj (.map arr clock)) zs := by
  rintro w h ⟨m1, m2, m3⟩
  exact ⟨arr, clock, m2, hK⟩
end Go.Proofs.Ytjfammnjpeeahaa
set_option linter.unusedSimpArgs false
set_option linter.unusedVariables false
namespace Go.Proofs.Ytjfammnjpeeahaa
open Go.Proofs.Ytjfammnjpeeahaa.AL
def tabsASh : Sh := .slice (.slice ruleSh)
def letterSh : Sh := .pair (.int .i64) (.pair (.int .i64) (.pair (.int .i64) (.pair (.int .i64) (.pair (.int .i64) (.pair tabsASh .unit)))))
def tabsN (N : Nat) (l : List (List Rule)) : Prop := l.length ≤ N ∧ ∀ r ∈ l, r.length ≤ N
theorem is_tabsA {N : Nat} {ds : List Dat} (h : Is N tabsASh ds) : ∃ l : List (List Rule), ds = [.sl 1 l.length (rowRR l)] ∧ tabsN N l :=
  is_list (fun r : List Rule => [Dat.sl 12 r.length (rowR r)]) [] (.slice ruleSh) (by
    have : rowR [] = fun _ => zeroSh ruleSh := by
      funext i
      show ruleD r0 = _
      simp only [ruleD, r0, hi_zero, lo_zero]; rfl
    show [Dat.sl 12 0 (rowR [])] = _
    rw [this]; rfl) (fun ds hd => is_rules hd) h
def Ltr.okN (N : Nat) (l : Ltr) : Prop := tabsN N l.ts ∧ inI64 l.ve
theorem is_letter {N : Nat} {ds : List Dat} (h : Is N letterSh ds) : ∃ l : Ltr, ds = letD l ∧ l.okN N := by
  obtain ⟨_, _, rfl, ⟨a, rfl, wa⟩, _, _, rfl, ⟨b, rfl, wb⟩, _, _, rfl, ⟨c, rfl, wc⟩, _, _, rfl, ⟨d, rfl, wd⟩, _, _, rfl, ⟨e, rfl, we⟩, _, _, rfl, hf, rfl⟩ := h
  obtain ⟨t, rfl, ht⟩ := is_tabsA hf
  have := wf_i64 wd
  exact ⟨⟨a, b, c, d, e, t⟩, rfl, ht, by unfold inI64; simp only []; omega⟩
theorem is_letters {N : Nat} {ds : List Dat} (h : Is N (.slice letterSh) ds) : ∃ l : List Ltr, ds = [.sl 6 l.length (rowL l)] ∧ l.length ≤ N ∧ ∀ x ∈ l, x.okN N :=
by
  have hz : zeroSh letterSh = letD ltr0 := by
    have h0 : rowR [] = fun _ => zeroSh ruleSh := by
      funext i
      show ruleD r0 = _
      simp only [ruleD, r0, hi_zero, lo_zero]; rfl
    have : rowRR [] = fun _ => zeroSh (.slice ruleSh) := by
      funext i
      show [Dat.sl 12 0 (rowR [])] = _
      rw [h0]; rfl
    show _ = [_, _, _, _, _, Dat.sl 1 0 (rowRR [])]
    rw [this]; rfl
  obtain ⟨l, h1, h2, h3⟩ := is_list (Q := fun x : Ltr => x.okN N) letD ltr0 letterSh hz.symm (fun ds hd => is_letter hd) h
  exact ⟨l, h1, h2, h3⟩
end Go.Proofs.Ytjfammnjpeeahaa
set_option linter.unusedSimpArgs false
set_option linter.unusedVariables false
namespace Go.Proofs.Ytjfammnjpeeahaa
open Go Go.Proofs.Ytjfammnjpeeahaa.AL
set_option maxRecDepth 100000 in
theorem Keys_c (es : List (List Int × PV)) : MCalls Try.prog 43 [.mp 1001] [(1001, .map [.i64] es)]
    (fun rs M => rs = [.cl (.func 71) [] [.loc 1 0]] ∧ M = [(1, .cells 95 [.mp 1001]), (1001, .map [.i64] es)]) := by
  refine q8 Try.func43 rfl (by decide +kernel) (by rw [Try.ntmps43]; simp) (fun l X h => by simp only [AL.look] at h; (repeat' split at h); all_goals first | omega | cases h) ?_; rw [Try.ntmps43]; simp only [frA]
  (repeat (first | refine j0 ?_ | refine q7 rfl ?_ | refine awp_no rfl ?_ | refine j4 ?_ | (refine j5 fun K hK => ?_) | (refine q6 (by kernel_rfl) (by kernel_rfl) fun K hK => ?_) | ((first | refine z1 ?_ | refine z2 ?_ | ((first | refine x6 (hK _ ?_) | refine j6 (hK _ _ (z6 (by kernel_rfl)) ?_)); clear hK K)); (first | show AWP _ _ _ _ _ | ((try simp only [q4]); first | show loopQ _ _ _ _ _ _ | show cutQ _ _ _ _ | show AWP _ _ _ _ _))) | ((first | refine z7 [1] rfl ?_ | refine x7 [1] rfl ?_); simp (maxSteps := 2000000) (disch := omega) only [go_sem, seval]; (repeat (first | refine ⟨by omega, ?_⟩ | refine ⟨True.intro, ?_⟩)))))
  refine awp_ret ?_
  refine (retM_list ⟨rfl, rfl⟩ ?_ ?_).1
  · exact ⟨rfl, trivial⟩
  · simp [AL.look]
set_option maxRecDepth 100000 in
theorem Keys_x (o : Obj) : MCalls Try.prog 43 [.mp 1001] [(1001, .obj o)]
    (fun rs M => rs = [.cl (.func 71) [] [.loc 1 0]] ∧ M = [(1, .cells 95 [.mp 1001]), (1001, .obj o)]) := by
  refine q8 Try.func43 rfl (by decide +kernel) (by rw [Try.ntmps43]; simp) (fun l X h => by simp only [AL.look] at h; (repeat' split at h); all_goals first | omega | cases h) ?_; rw [Try.ntmps43]; simp only [frA]
  (repeat (first | refine j0 ?_ | refine q7 rfl ?_ | refine awp_no rfl ?_ | refine j4 ?_ | (refine j5 fun K hK => ?_) | (refine q6 (by kernel_rfl) (by kernel_rfl) fun K hK => ?_) | ((first | refine z1 ?_ | refine z2 ?_ | ((first | refine x6 (hK _ ?_) | refine j6 (hK _ _ (z6 (by kernel_rfl)) ?_)); clear hK K)); (first | show AWP _ _ _ _ _ | ((try simp only [q4]); first | show loopQ _ _ _ _ _ _ | show cutQ _ _ _ _ | show AWP _ _ _ _ _))) | ((first | refine z7 [1] rfl ?_ | refine x7 [1] rfl ?_); simp (maxSteps := 2000000) (disch := omega) only [go_sem, seval]; (repeat (first | refine ⟨by omega, ?_⟩ | refine ⟨True.intro, ?_⟩)))))
  refine awp_ret ?_
  refine (retM_list ⟨rfl, rfl⟩ ?_ ?_).1
  · exact ⟨rfl, trivial⟩
  · simp [AL.look]
def verZ (a : Ag) : List Int := srtZ (a.es.map (·.1))
structure AgOk (a : Ag) : Prop where
  nd : (a.es.map (·.1)).Nodup
  wf : ∀ z ∈ a.es.map (·.1), inI64 z
  len : a.es.length ≤ 1099511627776
  small : ∀ e ∈ a.es, smallR e.2
set_option maxRecDepth 100000 in
theorem Versions_c (a : Ag) (ok : AgOk a) : MCalls Try.prog 20 [.loc 1000 0] (agL a) (fun rs M => rs = [.p (.d (.sl 1 (verZ a).length (rowZ (verZ a))))] ∧ M = agL a) := by
  have hl := ok.len
  have hlen : (verZ a).length = a.es.length := by unfold verZ srtZ; simp
  have k1 := Keys_c (agE a.es)
  have k2 := Sorted_c (.map [.i64] (agE a.es)) (a.es.map (·.1)) (hasKeys_map (by unfold agE; rw [List.map_map, List.map_map]; rfl)) ok.nd ok.wf (by simpa using hl)
  rw [List.length_map, ← hlen] at k2
  have e : srtZ (a.es.map (·.1)) = verZ a := rfl
  rw [e] at k2
  have k3 := ClipZ_c (verZ a).length (rowZ (verZ a)) (by omega)
  unfold agL
  refine q8 Try.func20 rfl (by decide +kernel) (by rw [Try.ntmps20]; simp) (fun l X h => by simp only [AL.look] at h; (repeat' split at h); all_goals first | omega | cases h) ?_; rw [Try.ntmps20]; simp only [frA]
  (repeat (first | refine j0 ?_ | refine q7 rfl ?_ | refine awp_no rfl ?_ | refine j4 ?_ | (refine j5 fun K hK => ?_) | (refine q6 (by kernel_rfl) (by kernel_rfl) fun K hK => ?_) | ((first | refine z1 ?_ | refine z2 ?_ | ((first | refine x6 (hK _ ?_) | refine j6 (hK _ _ (z6 (by kernel_rfl)) ?_)); clear hK K)); (first | show AWP _ _ _ _ _ | ((try simp only [q4]); first | show loopQ _ _ _ _ _ _ | show cutQ _ _ _ _ | show AWP _ _ _ _ _))) | ((first | refine z7 [] rfl ?_ | refine x7 [] rfl ?_); simp (maxSteps := 2000000) (disch := omega) only [go_sem, seval, agL, agC, keyL]; (repeat (first | refine ⟨by omega, ?_⟩ | refine ⟨True.intro, ?_⟩)))))
  (refine walkS_cons _ (step_mcall [(1001, 1001), (1, 501)] rfl rfl rfl rfl rfl rfl (k1) rfl (namesOK_of (by repeat (first | exact trivial | refine ⟨rfl, ?_⟩)) (by kernel_rfl))) ?_); simp (maxSteps := 2000000) (disch := omega) only [go_sem, seval, agL, agC, keyL]
  unfold keyL at k2
  (refine walkS_cons _ (step_mcall [(1001, 1001), (1002, 501)] rfl rfl rfl rfl rfl rfl (k2) rfl (namesOK_of (by repeat (first | exact trivial | refine ⟨rfl, ?_⟩)) (by kernel_rfl))) ?_); simp (maxSteps := 2000000) (disch := omega) only [go_sem, seval, agL, agC, keyL]
  (repeat (first | refine j0 ?_ | refine q7 rfl ?_ | refine awp_no rfl ?_ | refine j4 ?_ | (refine j5 fun K hK => ?_) | (refine q6 (by kernel_rfl) (by kernel_rfl) fun K hK => ?_) | ((first | refine z1 ?_ | refine z2 ?_ | ((first | refine x6 (hK _ ?_) | refine j6 (hK _ _ (z6 (by kernel_rfl)) ?_)); clear hK K)); (first | show AWP _ _ _ _ _ | ((try simp only [q4]); first | show loopQ _ _ _ _ _ _ | show cutQ _ _ _ _ | show AWP _ _ _ _ _))) | ((first | refine walkS_call3 rfl rfl rfl ?_ | refine walkD_call3 rfl rfl rfl ?_); simp (maxSteps := 2000000) (disch := omega) only [go_sem, seval, agL, agC, keyL]; (first | refine ⟨_, k3, ?_⟩)) | ((first | refine z7 [] rfl ?_ | refine x7 [] rfl ?_); simp (maxSteps := 2000000) (disch := omega) only [go_sem, seval, agL, agC, keyL]; (repeat (first | refine ⟨by omega, ?_⟩ | refine ⟨True.intro, ?_⟩)))))
  refine awp_ret ?_
  refine (retM_list ⟨rfl, rfl⟩ ?_ ?_).1
  · exact ⟨rfl, trivial⟩
  · simp [AL.look, agC]
end Go.Proofs.Ytjfammnjpeeahaa
set_option linter.unusedSimpArgs false
set_option linter.unusedVariables false
namespace Go.Proofs.Ytjfammnjpeeahaa
open Go Go.Proofs.Ytjfammnjpeeahaa.AL Go.RowKit Go.Sort Go.Maps Go.Shelf
def isX (u : Value) : AV := .is (· = u)
def agX (u0 u1 u2 : Value) : LV := .cells 97 [isX u0, isX u1, isX u2, .mp 1001]
def agXL (u0 u1 u2 : Value) (o : Obj) : List (Nat × LV) := [(1000, agX u0 u1 u2), (1001, .obj o)]
set_option maxRecDepth 100000 in
theorem agX_ok {u0 u1 u2 : Value} {o : Obj} : ∀ l X, AL.look (agXL u0 u1 u2 o) l = some X → XLV X ∧ ∀ k ∈ X.mentions, ∃ Y, AL.look (agXL u0 u1 u2 o) k = some Y := by
  intro l X hX
  simp only [agXL, AL.look] at hX
  split at hX
  · cases hX
    refine ⟨.cells _ _ fun c hc => ?_, fun k hk => ?_⟩
    · simp only [List.mem_cons, List.not_mem_nil, or_false] at hc
      rcases hc with rfl | rfl | rfl | rfl
      · exact .is u0
      · exact .is u1
      · exact .is u2
      · exact .mp 1001
    · have : k = 1001 := by simpa [agX, LV.mentions, AV.mentions, isX] using hk
      subst this
      exact ⟨_, rfl⟩
  · split at hX
    · cases hX
      exact ⟨.obj o, fun k hk => by simp [LV.mentions] at hk⟩
    · cases hX
set_option maxRecDepth 100000 in
theorem Current_x (u0 u1 u2 : Value) (o : Obj) : MCalls Try.prog 18 [.loc 1000 0] (agXL u0 u1 u2 o) (fun rs M => rs = [isX u1] ∧ M = agXL u0 u1 u2 o) := by
  unfold agXL
  refine q8 Try.func18 rfl (by decide +kernel) (by rw [Try.ntmps18]; simp) (fun l X h => by simp only [AL.look] at h; (repeat' split at h); all_goals first | omega | cases h) ?_; rw [Try.ntmps18]; simp only [frA]
  (repeat (first | refine j0 ?_ | refine q7 rfl ?_ | refine awp_no rfl ?_ | refine j4 ?_ | (refine j5 fun K hK => ?_) | (refine q6 (by kernel_rfl) (by kernel_rfl) fun K hK => ?_) | ((first | refine z1 ?_ | refine z2 ?_ | ((first | refine x6 (hK _ ?_) | refine j6 (hK _ _ (z6 (by kernel_rfl)) ?_)); clear hK K)); (first | show AWP _ _ _ _ _ | ((try simp only [q4]); first | show loopQ _ _ _ _ _ _ | show cutQ _ _ _ _ | show AWP _ _ _ _ _))) | ((first | refine z7 [] rfl ?_ | refine x7 [] rfl ?_); simp (maxSteps := 2000000) (disch := omega) only [go_sem, seval, agXL, agX, isX]; (repeat (first | refine ⟨by omega, ?_⟩ | refine ⟨True.intro, ?_⟩)))))
  refine awp_ret ?_
  refine (retM_list ⟨rfl, rfl⟩ ?_ ?_).1
  · exact ⟨rfl, trivial⟩
  · simp [AL.look, agX, isX]
set_option maxRecDepth 100000 in
theorem Versions_x (u0 u1 u2 : Value) (arr : Array MapEntry) (clock : Nat) (zs : List Int) (hK : KeysIs arr clock zs) (hnd : zs.Nodup) (hwf : ∀ z ∈ zs, inI64 z) (hl : zs.length ≤ 1099511627776) :
    MCalls Try.prog 20 [.loc 1000 0] (agXL u0 u1 u2 (.map arr clock)) (fun rs M => rs = [.p (.d (.sl 1 zs.length (rowZ (srtZ zs))))] ∧ M = agXL u0 u1 u2 (.map arr clock)) := by
  have k1 := Keys_x (.map arr clock)
  have k2 := Sorted_c (.obj (.map arr clock)) zs (hasKeys_obj hK) hnd hwf hl
  have k3 := ClipZ_c zs.length (rowZ (srtZ zs)) (by omega)
  unfold agXL
  refine q8 Try.func20 rfl (by decide +kernel) (by rw [Try.ntmps20]; simp) (fun l X h => by simp only [AL.look] at h; (repeat' split at h); all_goals first | omega | cases h) ?_; rw [Try.ntmps20]; simp only [frA]
  (repeat (first | refine j0 ?_ | refine q7 rfl ?_ | refine awp_no rfl ?_ | refine j4 ?_ | (refine j5 fun K hK => ?_) | (refine q6 (by kernel_rfl) (by kernel_rfl) fun K hK => ?_) | ((first | refine z1 ?_ | refine z2 ?_ | ((first | refine x6 (hK _ ?_) | refine j6 (hK _ _ (z6 (by kernel_rfl)) ?_)); clear hK K)); (first | show AWP _ _ _ _ _ | ((try simp only [q4]); first | show loopQ _ _ _ _ _ _ | show cutQ _ _ _ _ | show AWP _ _ _ _ _))) | ((first | refine z7 [] rfl ?_ | refine x7 [] rfl ?_); simp (maxSteps := 2000000) (disch := omega) only [go_sem, seval, agXL, agX, isX, keyL]; (repeat (first | refine ⟨by omega, ?_⟩ | refine ⟨True.intro, ?_⟩)))))
  (refine walkS_cons _ (step_mcall [(1001, 1001), (1, 501)] rfl rfl rfl rfl rfl rfl (k1) rfl (namesOK_of (by repeat (first | exact trivial | refine ⟨rfl, ?_⟩)) (by kernel_rfl))) ?_); simp (maxSteps := 2000000) (disch := omega) only [go_sem, seval, agXL, agX, isX, keyL]
  unfold keyL at k2
  (refine walkS_cons _ (step_mcall [(1001, 1001), (1002, 501)] rfl rfl rfl rfl rfl rfl (k2) rfl (namesOK_of (by repeat (first | exact trivial | refine ⟨rfl, ?_⟩)) (by kernel_rfl))) ?_); simp (maxSteps := 2000000) (disch := omega) only [go_sem, seval, agXL, agX, isX, keyL]
  (repeat (first | refine j0 ?_ | refine q7 rfl ?_ | refine awp_no rfl ?_ | refine j4 ?_ | (refine j5 fun K hK => ?_) | (refine q6 (by kernel_rfl) (by kernel_rfl) fun K hK => ?_) | ((first | refine z1 ?_ | refine z2 ?_ | ((first | refine x6 (hK _ ?_) | refine j6 (hK _ _ (z6 (by kernel_rfl)) ?_)); clear hK K)); (first | show AWP _ _ _ _ _ | ((try simp only [q4]); first | show loopQ _ _ _ _ _ _ | show cutQ _ _ _ _ | show AWP _ _ _ _ _))) | ((first | refine walkS_call3 rfl rfl rfl ?_ | refine walkD_call3 rfl rfl rfl ?_); simp (maxSteps := 2000000) (disch := omega) only [go_sem, seval, agXL, agX, isX, keyL]; (first | refine ⟨_, k3, ?_⟩)) | ((first | refine z7 [] rfl ?_ | refine x7 [] rfl ?_); simp (maxSteps := 2000000) (disch := omega) only [go_sem, seval, agXL, agX, isX, keyL]; (repeat (first | refine ⟨by omega, ?_⟩ | refine ⟨True.intro, ?_⟩)))))
  refine awp_ret ?_
  refine (retM_list ⟨rfl, rfl⟩ ?_ ?_).1
  · exact ⟨rfl, trivial⟩
  · simp [AL.look, agX, isX]
set_option maxRecDepth 100000 in
theorem agX_of {a : Ag} {w : World} {h : Gh} (hl : LocsOK (fun _ => True) w h (agL a)) : ∃ u2 arr clock, LocsOK (fun _ => True) w h (agXL (.int .i64 a.n) (.int .i64 a.cur) u2 (.map arr clock)) ∧ KeysIs arr clock (a.es.map (·.1)) := by
  obtain ⟨carr, b1, hh, hs, hg, hcell⟩ := hl.1 1000 _ rfl
  obtain ⟨marr, clock, m1, m2, m3, m4⟩ := hl.1 1001 _ rfl
  have hK := mapIs_keys m4 (zs := a.es.map (·.1)) (by unfold agE; rw [List.map_map, List.map_map]; rfl)
  refine ⟨.int .i64 a.ser, marr, clock, ⟨fun l X hX => ?_, fun l l' X X' b hne h1 h2 hb hb' => ?_⟩, hK⟩
  · simp only [agXL, AL.look] at hX
    split at hX
    · rename_i e; subst e; cases hX
      refine ⟨carr, b1, hh, hs, hg, fun i v x hv hx => ?_⟩
      match i, hx with
      | 0, hx => cases hx; obtain ⟨k1, k2⟩ := hcell 0 v _ hv rfl; exact ⟨relA_v k1, k2⟩
      | 1, hx => cases hx; obtain ⟨k1, k2⟩ := hcell 1 v _ hv rfl; exact ⟨relA_v k1, k2⟩
      | 2, hx => cases hx; obtain ⟨k1, k2⟩ := hcell 2 v _ hv rfl; exact ⟨relA_v k1, k2⟩
      | 3, hx => cases hx; exact hcell 3 v _ hv rfl
      | i + 4, hx => simp at hx
    · split at hX
      · rename_i e; subst e; cases hX
        exact ⟨m1, m2, m3⟩
      · cases hX
  · simp only [agXL, AL.look] at h1 h2
    have two : ∀ {l : Nat} {X : LV}, (if 1000 = l then some (agX (.int .i64 a.n) (.int .i64 a.cur) (.int .i64 a.ser)) else if 1001 = l then some (.obj (.map marr clock)) else none) = some X → inB h l X b → (l = 1000 ∧ inB h 1000 (agC 1000 1001 a) b) ∨ (l = 1001 ∧ inB h 1001 (.map [.i64] (agE a.es)) b) := by
      intro l X hX hb
      split at hX
      · rename_i e; subst e; cases hX; exact .inl ⟨rfl, hb⟩
      · split at hX
        · rename_i e; subst e; cases hX; exact .inr ⟨rfl, hb⟩
        · cases hX
    rcases two h1 hb with ⟨rfl, k1⟩ | ⟨rfl, k1⟩ <;> rcases two h2 hb' with ⟨rfl, k2⟩ | ⟨rfl, k2⟩
    · exact hne rfl
    · exact hl.2 1000 1001 _ _ b (by decide) rfl rfl k1 k2
    · exact hl.2 1001 1000 _ _ b (by decide) rfl rfl k1 k2
    · exact hne rfl
set_option maxRecDepth 100000 in
theorem Current_r (a : Ag) : RCalls Try.prog 18 [.loc 1000 0] (agL a) (intP a.cur) := by
  intro w h vs hz hr hl
  obtain ⟨u2, arr, clock, hx, _⟩ := agX_of hl
  have := callRes_exact (Current_x (.int .i64 a.n) (.int .i64 a.cur) u2 (.map arr clock)) agX_ok rfl hz hr hx
  unfold CallRes at *
  have cv : ∀ {v : Value} {w' : World} {g' : Nat → Nat}, RelA w' { h with g := g' } v (isX (.int .i64 a.cur)) → RelA w' { h with g := g' } v (intP a.cur) := fun r => by
    have e : _ = Value.int .i64 a.cur := r
    rw [e]; exact relA_mk rfl
  split at this
  · exact this.mono fun e w' ⟨v, he, g', h1, h2⟩ => ⟨v, he, g', h1, cv h2⟩
  · obtain ⟨g', h1, h2⟩ := this; exact ⟨g', h1, cv h2⟩
  · exact this.elim
set_option maxRecDepth 100000 in
theorem Versions_r (a : Ag) (ok : AgOk a) : RCalls Try.prog 20 [.loc 1000 0] (agL a) (.p (.d (.sl 1 (verZ a).length (rowZ (verZ a))))) := by
  intro w h vs hz hr hl
  obtain ⟨u2, arr, clock, hx, hK⟩ := agX_of hl
  have hlen : (verZ a).length = (a.es.map (·.1)).length := by unfold verZ srtZ; simp
  have v1 := Versions_x (.int .i64 a.n) (.int .i64 a.cur) u2 arr clock _ hK ok.nd ok.wf (by simpa using ok.len)
  rw [← hlen] at v1
  exact callRes_exact v1 agX_ok rfl hz hr hx
end Go.Proofs.Ytjfammnjpeeahaa
set_option linter.unusedSimpArgs false
set_option linter.unusedVariables false
namespace Go.Proofs.Ytjfammnjpeeahaa
open Go.Proofs.Ytjfammnjpeeahaa.AL Go.RowKit
end Go.Proofs.Ytjfammnjpeeahaa
set_option linter.unusedSimpArgs false
set_option linter.unusedVariables false
namespace Go.Proofs.Ytjfammnjpeeahaa
open Go.Proofs.Ytjfammnjpeeahaa.AL
end Go.Proofs.Ytjfammnjpeeahaa
set_option linter.unusedSimpArgs false
set_option linter.unusedVariables false
namespace Go.Proofs.Ytjfammnjpeeahaa
open Go.Proofs.Ytjfammnjpeeahaa.AL
def intsI (a b : List Int) (s : {i : Nat // i ≤ a.length ∧ (a.drop i == b.drop i) = (a == b)}) : ASt :=
  ⟨[(5, .p (.d (.v (.int .i64 (s.val : Int))))), (1, .p (.d (.sl 1 a.length (rowZ b)))), (0, .p (.d (.sl 1 a.length (rowZ a))))], []⟩
theorem Ints_c (a b : List Int) (ha : a.length ≤ 1099511627776) (hb : b.length ≤ 1099511627776) : ACalls Try.prog 19 [.d (.sl 1 a.length (rowZ a)), .d (.sl 1 b.length (rowZ b))] (· = [.d (.v (.bool (a == b)))]) := by
  by_cases hn : a.length = b.length
  · rw [← hn]
    generalize hR : (a == b) = R
    have q0 : ((a.length : Int) != (a.length : Int)) = false := bne_self_eq_false _
    refine acalls_of_awp Try.func19 rfl (by decide +kernel) (by rw [Try.ntmps19]; simp) ?_; rw [Try.ntmps19]; simp only [frOf]
    (repeat (first | refine j0 ?_ | refine q7 rfl ?_ | refine awp_no rfl ?_ | refine j4 ?_ | (refine j5 fun K hK => ?_) | (refine q6 (by kernel_rfl) (by kernel_rfl) fun K hK => ?_) | ((first | refine z1 ?_ | refine z2 ?_ | ((first | refine x6 (hK _ ?_) | refine j6 (hK _ _ (z6 (by kernel_rfl)) ?_)); clear hK K)); (first | show AWP _ _ _ _ _ | ((try simp only [q4]); first | show loopQ _ _ _ _ _ _ | show cutQ _ _ _ _ | show AWP _ _ _ _ _))) | ((first | refine z7 [] rfl ?_ | refine x7 [] rfl ?_); simp (maxSteps := 2000000) (disch := omega) only [go_sem, seval, q0]; (repeat (first | refine ⟨by omega, ?_⟩ | refine ⟨True.intro, ?_⟩)))))
    refine awp_loop (intsI a b) (fun s => a.length - s.val) ⟨0, Nat.zero_le _, by rw [List.drop_zero, List.drop_zero]⟩ ?_ (fun s => ?_)
    · unfold intsI
      refine Weak.list ?_ ?_; (all_goals simp (disch := omega) only [AllF, AllL, le_self, le_top, lle_self, exists_eq_left', Option.some.injEq, go_sem, seval]); (all_goals (repeat' (with_reducible apply And.intro))); (all_goals try (first | exact le_eq rfl | (refine le_int ?_; omega) | (refine le_eq ?_; simp; done)))
    obtain ⟨i, h1, h2⟩ := s
    unfold intsI
    simp only [] at h1 h2 ⊢
    rw [hR] at h2
    by_cases h : i < a.length
    · have h3 : i < b.length := by omega
      rw [drop_getD a i 0 h, drop_getD b i 0 h3] at h2
      have r1 := rowZ_at a i
      have r2 := rowZ_at b i
      generalize a.getD i 0 = x at h2 r1
      generalize b.getD i 0 = y at h2 r2
      by_cases hxy : x = y
      · subst hxy
        have q : (x != x) = false := bne_self_eq_false x
        have h4 : (a.drop (i + 1) == b.drop (i + 1)) = (a == b) := by
          rw [hR, ← h2]; simp
        (repeat (first | refine j0 ?_ | refine q7 rfl ?_ | refine awp_no rfl ?_ | refine j4 ?_ | (refine j5 fun K hK => ?_) | (refine q6 (by kernel_rfl) (by kernel_rfl) fun K hK => ?_) | ((first | refine z1 ?_ | refine z2 ?_ | ((first | refine x6 (hK _ ?_) | refine j6 (hK _ _ (z6 (by kernel_rfl)) ?_)); clear hK K)); (first | show AWP _ _ _ _ _ | ((try simp only [q4]); first | show loopQ _ _ _ _ _ _ | show cutQ _ _ _ _ | show AWP _ _ _ _ _))) | ((first | refine z7 [] rfl ?_ | refine x7 [] rfl ?_); simp (maxSteps := 2000000) (disch := omega) only [go_sem, seval, r1, r2, q]; (repeat (first | refine ⟨by omega, ?_⟩ | refine ⟨True.intro, ?_⟩)))))
        refine ⟨⟨i + 1, by omega, h4⟩, by simp only []; omega, ?_⟩
        refine Weak.list ?_ ?_; (all_goals simp (disch := omega) only [AllF, AllL, le_self, le_top, lle_self, exists_eq_left', Option.some.injEq, go_sem, seval, r1, r2, q]); (all_goals (repeat' (with_reducible apply And.intro))); (all_goals try (first | exact le_eq rfl | (refine le_int ?_; omega) | (refine le_eq ?_; simp; done)))
      · have q : (x != y) = true := by simpa using hxy
        have h4 : R = false := by rw [← h2]; simp [hxy]
        rw [h4]
        (repeat (first | refine j0 ?_ | refine q7 rfl ?_ | refine awp_no rfl ?_ | refine j4 ?_ | (refine j5 fun K hK => ?_) | (refine q6 (by kernel_rfl) (by kernel_rfl) fun K hK => ?_) | ((first | refine z1 ?_ | refine z2 ?_ | ((first | refine x6 (hK _ ?_) | refine j6 (hK _ _ (z6 (by kernel_rfl)) ?_)); clear hK K)); (first | show AWP _ _ _ _ _ | ((try simp only [q4]); first | show loopQ _ _ _ _ _ _ | show cutQ _ _ _ _ | show AWP _ _ _ _ _))) | ((first | refine z7 [] rfl ?_ | refine x7 [] rfl ?_); simp (maxSteps := 2000000) (disch := omega) only [go_sem, seval, r1, r2, q]; (repeat (first | refine ⟨by omega, ?_⟩ | refine ⟨True.intro, ?_⟩)))))
        refine awp_ret ⟨_, ?_, rfl⟩; rw [Try.results19]; simp (disch := omega) only [ResVars, ResVar, ptrLoc, go_sem, seval, r1, r2, q]
    · have h4 : R = true := by
        rw [← h2, List.drop_eq_nil_of_le (by omega), List.drop_eq_nil_of_le (by omega)]; rfl
      rw [h4]
      (repeat (first | refine j0 ?_ | refine q7 rfl ?_ | refine awp_no rfl ?_ | refine j4 ?_ | (refine j5 fun K hK => ?_) | (refine q6 (by kernel_rfl) (by kernel_rfl) fun K hK => ?_) | ((first | refine z1 ?_ | refine z2 ?_ | ((first | refine x6 (hK _ ?_) | refine j6 (hK _ _ (z6 (by kernel_rfl)) ?_)); clear hK K)); (first | show AWP _ _ _ _ _ | ((try simp only [q4]); first | show loopQ _ _ _ _ _ _ | show cutQ _ _ _ _ | show AWP _ _ _ _ _))) | ((first | refine z7 [] rfl ?_ | refine x7 [] rfl ?_); simp (maxSteps := 2000000) (disch := omega) only [go_sem, seval]; (repeat (first | refine ⟨by omega, ?_⟩ | refine ⟨True.intro, ?_⟩)))))
      refine awp_ret ⟨_, ?_, rfl⟩; rw [Try.results19]; simp (disch := omega) only [ResVars, ResVar, ptrLoc, go_sem, seval]
  · have h4 : (a == b) = false := by
      rw [Bool.eq_false_iff]
      intro h; exact hn (by rw [eq_of_beq h])
    have q : ((a.length : Int) != (b.length : Int)) = true := by simpa using (by omega : ¬ (a.length : Int) = (b.length : Int))
    rw [h4]
    refine acalls_of_awp Try.func19 rfl (by decide +kernel) (by rw [Try.ntmps19]; simp) ?_; rw [Try.ntmps19]; simp only [frOf]
    (repeat (first | refine j0 ?_ | refine q7 rfl ?_ | refine awp_no rfl ?_ | refine j4 ?_ | (refine j5 fun K hK => ?_) | (refine q6 (by kernel_rfl) (by kernel_rfl) fun K hK => ?_) | ((first | refine z1 ?_ | refine z2 ?_ | ((first | refine x6 (hK _ ?_) | refine j6 (hK _ _ (z6 (by kernel_rfl)) ?_)); clear hK K)); (first | show AWP _ _ _ _ _ | ((try simp only [q4]); first | show loopQ _ _ _ _ _ _ | show cutQ _ _ _ _ | show AWP _ _ _ _ _))) | ((first | refine z7 [] rfl ?_ | refine x7 [] rfl ?_); simp (maxSteps := 2000000) (disch := omega) only [go_sem, seval, q]; (repeat (first | refine ⟨by omega, ?_⟩ | refine ⟨True.intro, ?_⟩)))))
    refine awp_ret ⟨_, ?_, rfl⟩; rw [Try.results19]; simp (disch := omega) only [ResVars, ResVar, ptrLoc, go_sem, seval, q]
end Go.Proofs.Ytjfammnjpeeahaa
set_option linter.unusedSimpArgs false
set_option linter.unusedVariables false
namespace Go.Proofs.Ytjfammnjpeeahaa
open Go Go.Proofs.Ytjfammnjpeeahaa.AL
set_option maxRecDepth 100000 in
theorem mcalls_le1 {P : Program} {f : FuncId} {x y y' : AV} {L : List (Nat × LV)} {Q : List AV → List (Nat × LV) → Prop} (hle : Le y' y) (h : MCalls P f [x, y] L Q) : MCalls P f [x, y'] L Q := by
  intro w g vs hz hr hl
  refine h w g vs hz ⟨hr.1, fun j v z hv hx => ?_⟩ hl
  match j with
  | 0 => exact hr.2 0 v z hv hx
  | 1 =>
    simp only [List.getElem?_cons_succ, List.getElem?_cons_zero, Option.some.injEq] at hx
    subst hx
    exact hle w g v (hr.2 1 v y' hv rfl)
  | j + 2 => simp at hx
set_option maxRecDepth 100000 in
theorem le_p {x y : PV} (h : PLe x y) : Le (.p x) (.p y) := fun w g v r => h w g.g v r
def rule5 : Rule := { r0 with pr := 5 }
def tab5 : List (List Rule) := [[rule5]]
set_option maxRecDepth 100000 in
theorem rule5_d : ruleD rule5 = [.v (.int .i64 5), .v (.int .u64 0), .v (.int .u64 0), .v (.int .u64 0), .v (.int .u64 0), .v (.int .i64 0), .v (.int .i64 0), .v (.int .i64 0), .v (.int .u64 0), .v (.int .u64 0), .v (.int .u64 0), .v (.int .u64 0)] := by
  simp [ruleD, rule5, r0, hi0, lo0]
set_option maxRecDepth 100000 in
theorem tab5_le : Le (.p (.d (.sl 1 1 fun i => [[Dat.sl 12 1 fun i => [[Dat.v (.int .i64 5), Dat.v (.int .u64 0), Dat.v (.int .u64 0), Dat.v (.int .u64 0), Dat.v (.int .u64 0), Dat.v (.int .i64 0), Dat.v (.int .i64 0), Dat.v (.int .i64 0), Dat.v (.int .u64 0), Dat.v (.int .u64 0), Dat.v (.int .u64 0), Dat.v (.int .u64 0)]].getD i []]].getD i [])))
    (.p (.d (.sl 1 1 (rowRR tab5)))) := by
  refine le_p (ple_d (dle_sl rfl fun i hi => ?_))
  have : i = 0 := by omega
  subst this
  refine .cons (dle_sl rfl fun j hj => ?_) .nil
  have : j = 0 := by
    have : j < 1 := hj
    omega
  subst this
  exact DLes.of_eq rule5_d.symm
set_option maxRecDepth 100000 in
theorem small5 : smallR tab5 := ⟨by simp [tab5], fun l hl => by simp [tab5] at hl; subst hl; simp⟩
set_option maxRecDepth 100000 in
theorem nilL_le (l : Ltr) (h : l.ts = []) : Le (.p (.agg [.v (.int .i64 l.kd), .v (.int .i64 l.fr), .v (.int .i64 l.to), .v (.int .i64 l.ve), .v (.int .i64 l.se), .v (.slice none 0 0)])) (.p (.agg (letD l))) := by
  unfold letD
  rw [h]
  exact le_p (ple_agg (.cons (dle_refl _) (.cons (dle_refl _) (.cons (dle_refl _) (.cons (dle_refl _) (.cons (dle_refl _) (.cons dle_emp .nil)))))))
set_option maxRecDepth 100000 in
theorem srtZ_one (z : Int) : srtZ [z] = [z] := by simp [srtZ]
set_option maxRecDepth 100000 in
set_option maxHeartbeats 2000000 in
theorem awake23_c : ACalls Try.prog 12 [] (· = [.d (.v (.bool true))]) := by
  have n1 := New_c 2 1 1 tab5 small5
  have l1 := Letter_c ⟨2, 1, 1, [(1, tab5)]⟩ ⟨1, -1, 2, 2, 2, tab5⟩ small5
  rw [show Ag.step ⟨2, 1, 1, [(1, tab5)]⟩ ⟨1, -1, 2, 2, 2, tab5⟩ = (⟨2, 1, 2, [(1, tab5), (2, tab5)]⟩, 2) from rfl] at l1
  have l2 := mcalls_le1 (nilL_le ⟨3, -1, 2, 2, 2, []⟩ rfl) (Letter_c ⟨2, 1, 2, [(1, tab5), (2, tab5)]⟩ ⟨3, -1, 2, 2, 2, []⟩ ⟨by simp, by simp⟩)
  rw [show Ag.step ⟨2, 1, 2, [(1, tab5), (2, tab5)]⟩ ⟨3, -1, 2, 2, 2, []⟩ = (⟨2, 2, 2, [(1, tab5), (2, tab5)]⟩, 4) from rfl] at l2
  have l3 := mcalls_le1 (nilL_le ⟨5, -1, 2, 1, 2, []⟩ rfl) (Letter_c ⟨2, 2, 2, [(1, tab5), (2, tab5)]⟩ ⟨5, -1, 2, 1, 2, []⟩ ⟨by simp, by simp⟩)
  rw [show Ag.step ⟨2, 2, 2, [(1, tab5), (2, tab5)]⟩ ⟨5, -1, 2, 1, 2, []⟩ = (⟨2, 2, 2, [(2, tab5)]⟩, 6) from rfl] at l3
  have c1 := Current_c ⟨2, 2, 2, [(2, tab5)]⟩
  have v1 := Versions_c ⟨2, 2, 2, [(2, tab5)]⟩ ⟨by simp, by simp [inI64], by simp, by simp; exact small5⟩
  have ev : verZ ⟨2, 2, 2, [(2, tab5)]⟩ = [2] := srtZ_one 2
  rw [ev] at v1
  have r1 : ansD 2 2 2 2 0 = [Dat.v (.int .i64 2), Dat.v (.int .i64 2), Dat.v (.int .i64 (-1)), Dat.v (.int .i64 2), Dat.v (.int .i64 2), Dat.v (.slice none 0 0)] := rfl
  have r2 : ansD 4 2 2 2 0 = [Dat.v (.int .i64 4), Dat.v (.int .i64 2), Dat.v (.int .i64 (-1)), Dat.v (.int .i64 2), Dat.v (.int .i64 2), Dat.v (.slice none 0 0)] := rfl
  have r3 : ansD 6 2 1 2 0 = [Dat.v (.int .i64 6), Dat.v (.int .i64 2), Dat.v (.int .i64 (-1)), Dat.v (.int .i64 1), Dat.v (.int .i64 2), Dat.v (.slice none 0 0)] := rfl
  have a1 : ansA 2 2 2 2 = .p (.d (.sl 6 1 (ansD 2 2 2 2))) := rfl
  have a2 : ansA 4 2 2 2 = .p (.d (.sl 6 1 (ansD 4 2 2 2))) := rfl
  have a3 : ansA 6 2 1 2 = .p (.d (.sl 6 1 (ansD 6 2 1 2))) := rfl
  have tl : tab5.length = 1 := rfl
  simp only [letD, tl, a1, a2, a3, intP, agL, agC, agE, List.map_cons, List.map_nil, tabPV, List.length_cons, List.length_nil, Nat.zero_add] at n1 l1 l2 l3 c1 v1
  generalize ansD 2 2 2 2 = R1 at l1 r1
  generalize ansD 4 2 2 2 = R2 at l2 r2
  generalize ansD 6 2 1 2 = R3 at l3 r3
  generalize rowZ [2] = RZ at v1
  have t5 := tab5_le
  generalize rowRR tab5 = RT at n1 l1 l2 l3 c1 v1 t5
  refine acalls_of_awp Try.func12 rfl (by decide +kernel) (by rw [Try.ntmps12]; simp) ?_; rw [Try.ntmps12]; simp only [frOf]
  (repeat ((fail_if_success (show AWP _ _ (.region 2 _ _) _ _)); first | refine j0 ?_ | refine q7 rfl ?_ | refine awp_no rfl ?_ | refine j4 ?_ | (refine j5 fun K hK => ?_) | (refine q6 (by kernel_rfl) (by kernel_rfl) fun K hK => ?_) | ((first | refine z1 ?_ | refine z2 ?_ | ((first | refine x6 (hK _ ?_) | refine j6 (hK _ _ (z6 (by kernel_rfl)) ?_)); clear hK K)); (first | show AWP _ _ _ _ _ | ((try simp only [q4]); first | show loopQ _ _ _ _ _ _ | show cutQ _ _ _ _ | show AWP _ _ _ _ _))) | ((first | refine z7 [] rfl ?_ | refine x7 [] rfl ?_); simp (maxSteps := 2000000) (disch := omega) only [go_sem, seval, r1, r2, r3]; (repeat (first | refine ⟨by omega, ?_⟩ | refine ⟨True.intro, ?_⟩)))))
  refine awp_slot 1 _ _ rfl t5 ?_
  (repeat (first | refine j0 ?_ | refine q7 rfl ?_ | refine awp_no rfl ?_ | refine j4 ?_ | (refine j5 fun K hK => ?_) | (refine q6 (by kernel_rfl) (by kernel_rfl) fun K hK => ?_) | ((first | refine z1 ?_ | refine z2 ?_ | ((first | refine x6 (hK _ ?_) | refine j6 (hK _ _ (z6 (by kernel_rfl)) ?_)); clear hK K)); (first | show AWP _ _ _ _ _ | ((try simp only [q4]); first | show loopQ _ _ _ _ _ _ | show cutQ _ _ _ _ | show AWP _ _ _ _ _))) | ((first | refine z7 [] rfl ?_ | refine x7 [] rfl ?_); simp (maxSteps := 2000000) (disch := omega) only [go_sem, seval, r1, r2, r3]; (repeat (first | refine ⟨by omega, ?_⟩ | refine ⟨True.intro, ?_⟩)))))
  (refine walkS_cons _ (step_mcall [(18, 601), (12, 602)] rfl rfl rfl rfl rfl rfl (n1) rfl (namesOK_of (by repeat (first | exact trivial | refine ⟨rfl, ?_⟩)) (by kernel_rfl))) ?_); simp (maxSteps := 2000000) (disch := omega) only [go_sem, seval, r1, r2, r3]
  (repeat (first | refine j0 ?_ | refine q7 rfl ?_ | refine awp_no rfl ?_ | refine j4 ?_ | (refine j5 fun K hK => ?_) | (refine q6 (by kernel_rfl) (by kernel_rfl) fun K hK => ?_) | ((first | refine z1 ?_ | refine z2 ?_ | ((first | refine x6 (hK _ ?_) | refine j6 (hK _ _ (z6 (by kernel_rfl)) ?_)); clear hK K)); (first | show AWP _ _ _ _ _ | ((try simp only [q4]); first | show loopQ _ _ _ _ _ _ | show cutQ _ _ _ _ | show AWP _ _ _ _ _))) | ((first | refine z7 [] rfl ?_ | refine x7 [] rfl ?_); simp (maxSteps := 2000000) (disch := omega) only [go_sem, seval, r1, r2, r3]; (repeat (first | refine ⟨by omega, ?_⟩ | refine ⟨True.intro, ?_⟩)))))
  (refine walkS_cons _ (step_mcall [(1000, 601), (1001, 602)] rfl rfl rfl rfl rfl rfl (l1) rfl (namesOK_of (by repeat (first | exact trivial | refine ⟨rfl, ?_⟩)) (by kernel_rfl))) ?_); simp (maxSteps := 2000000) (disch := omega) only [go_sem, seval, r1, r2, r3]
  (repeat (first | refine j0 ?_ | refine q7 rfl ?_ | refine awp_no rfl ?_ | refine j4 ?_ | (refine j5 fun K hK => ?_) | (refine q6 (by kernel_rfl) (by kernel_rfl) fun K hK => ?_) | ((first | refine z1 ?_ | refine z2 ?_ | ((first | refine x6 (hK _ ?_) | refine j6 (hK _ _ (z6 (by kernel_rfl)) ?_)); clear hK K)); (first | show AWP _ _ _ _ _ | ((try simp only [q4]); first | show loopQ _ _ _ _ _ _ | show cutQ _ _ _ _ | show AWP _ _ _ _ _))) | ((first | refine z7 [] rfl ?_ | refine x7 [] rfl ?_); simp (maxSteps := 2000000) (disch := omega) only [go_sem, seval, r1, r2, r3]; (repeat (first | refine ⟨by omega, ?_⟩ | refine ⟨True.intro, ?_⟩)))))
  (refine walkS_cons _ (step_mcall [(1000, 601), (1001, 602)] rfl rfl rfl rfl rfl rfl (l2) rfl (namesOK_of (by repeat (first | exact trivial | refine ⟨rfl, ?_⟩)) (by kernel_rfl))) ?_); simp (maxSteps := 2000000) (disch := omega) only [go_sem, seval, r1, r2, r3]
  (repeat (first | refine j0 ?_ | refine q7 rfl ?_ | refine awp_no rfl ?_ | refine j4 ?_ | (refine j5 fun K hK => ?_) | (refine q6 (by kernel_rfl) (by kernel_rfl) fun K hK => ?_) | ((first | refine z1 ?_ | refine z2 ?_ | ((first | refine x6 (hK _ ?_) | refine j6 (hK _ _ (z6 (by kernel_rfl)) ?_)); clear hK K)); (first | show AWP _ _ _ _ _ | ((try simp only [q4]); first | show loopQ _ _ _ _ _ _ | show cutQ _ _ _ _ | show AWP _ _ _ _ _))) | ((first | refine z7 [] rfl ?_ | refine x7 [] rfl ?_); simp (maxSteps := 2000000) (disch := omega) only [go_sem, seval, r1, r2, r3]; (repeat (first | refine ⟨by omega, ?_⟩ | refine ⟨True.intro, ?_⟩)))))
  (refine walkS_cons _ (step_mcall [(1000, 601), (1001, 602)] rfl rfl rfl rfl rfl rfl (l3) rfl (namesOK_of (by repeat (first | exact trivial | refine ⟨rfl, ?_⟩)) (by kernel_rfl))) ?_); simp (maxSteps := 2000000) (disch := omega) only [go_sem, seval, r1, r2, r3]
  (repeat (first | refine j0 ?_ | refine q7 rfl ?_ | refine awp_no rfl ?_ | refine j4 ?_ | (refine j5 fun K hK => ?_) | (refine q6 (by kernel_rfl) (by kernel_rfl) fun K hK => ?_) | ((first | refine z1 ?_ | refine z2 ?_ | ((first | refine x6 (hK _ ?_) | refine j6 (hK _ _ (z6 (by kernel_rfl)) ?_)); clear hK K)); (first | show AWP _ _ _ _ _ | ((try simp only [q4]); first | show loopQ _ _ _ _ _ _ | show cutQ _ _ _ _ | show AWP _ _ _ _ _))) | ((first | refine z7 [] rfl ?_ | refine x7 [] rfl ?_); simp (maxSteps := 2000000) (disch := omega) only [go_sem, seval, r1, r2, r3]; (repeat (first | refine ⟨by omega, ?_⟩ | refine ⟨True.intro, ?_⟩)))))
  (refine walkS_cons _ (step_mcall [(1000, 601), (1001, 602)] rfl rfl rfl rfl rfl rfl (c1) rfl (namesOK_of (by repeat (first | exact trivial | refine ⟨rfl, ?_⟩)) (by kernel_rfl))) ?_); simp (maxSteps := 2000000) (disch := omega) only [go_sem, seval, r1, r2, r3]
  (repeat (first | refine j0 ?_ | refine q7 rfl ?_ | refine awp_no rfl ?_ | refine j4 ?_ | (refine j5 fun K hK => ?_) | (refine q6 (by kernel_rfl) (by kernel_rfl) fun K hK => ?_) | ((first | refine z1 ?_ | refine z2 ?_ | ((first | refine x6 (hK _ ?_) | refine j6 (hK _ _ (z6 (by kernel_rfl)) ?_)); clear hK K)); (first | show AWP _ _ _ _ _ | ((try simp only [q4]); first | show loopQ _ _ _ _ _ _ | show cutQ _ _ _ _ | show AWP _ _ _ _ _))) | ((first | refine z7 [] rfl ?_ | refine x7 [] rfl ?_); simp (maxSteps := 2000000) (disch := omega) only [go_sem, seval, r1, r2, r3]; (repeat (first | refine ⟨by omega, ?_⟩ | refine ⟨True.intro, ?_⟩)))))
  (refine walkS_cons _ (step_mcall [(1000, 601), (1001, 602)] rfl rfl rfl rfl rfl rfl (v1) rfl (namesOK_of (by repeat (first | exact trivial | refine ⟨rfl, ?_⟩)) (by kernel_rfl))) ?_); simp (maxSteps := 2000000) (disch := omega) only [go_sem, seval, r1, r2, r3]
  (repeat (first | refine j0 ?_ | refine q7 rfl ?_ | refine awp_no rfl ?_ | refine j4 ?_ | (refine j5 fun K hK => ?_) | (refine q6 (by kernel_rfl) (by kernel_rfl) fun K hK => ?_) | ((first | refine z1 ?_ | refine z2 ?_ | ((first | refine x6 (hK _ ?_) | refine j6 (hK _ _ (z6 (by kernel_rfl)) ?_)); clear hK K)); (first | show AWP _ _ _ _ _ | ((try simp only [q4]); first | show loopQ _ _ _ _ _ _ | show cutQ _ _ _ _ | show AWP _ _ _ _ _))) | ((first | refine z7 [] rfl ?_ | refine x7 [] rfl ?_); simp (maxSteps := 2000000) (disch := omega) only [go_sem, seval, r1, r2, r3]; (repeat (first | refine ⟨by omega, ?_⟩ | refine ⟨True.intro, ?_⟩)))))
  refine awp_ret ⟨_, ?_, rfl⟩; rw [Try.results12]; simp (disch := omega) only [ResVars, ResVar, ptrLoc, go_sem, seval, r1, r2, r3]
end Go.Proofs.Ytjfammnjpeeahaa
set_option linter.unusedSimpArgs false
set_option linter.unusedVariables false
namespace Go.Proofs.Ytjfammnjpeeahaa
open Go Go.Proofs.Ytjfammnjpeeahaa.AL
structure AgB (a : Ag) (k : Nat) : Prop where
  nd : (a.es.map (·.1)).Nodup
  wf : ∀ z ∈ a.es.map (·.1), inI64 z
  len : a.es.length ≤ k
  small : ∀ e ∈ a.es, smallR e.2
set_option maxRecDepth 100000 in
theorem AgB.ok {a : Ag} {k : Nat} (h : AgB a k) (hk : k ≤ 1099511627776) : AgOk a := ⟨h.nd, h.wf, by have := h.len; omega, h.small⟩
set_option maxRecDepth 100000 in
theorem putA_keys (v : Int) (t : List (List Rule)) : ∀ es : List (Int × List (List Rule)), (putA v t es).map (·.1) = if v ∈ es.map (·.1) then es.map (·.1) else es.map (·.1) ++ [v]
  | [] => by simp [putA]
  | e :: r => by
    have ih := putA_keys v t r
    unfold putA
    by_cases h : e.1 = v
    · rw [if_pos h]; simp [h]
    · rw [if_neg h, List.map_cons, ih]
      by_cases h2 : v ∈ r.map (·.1)
      · rw [if_pos h2, if_pos (by simp only [List.map_cons, List.mem_cons]; exact .inr h2)]; rfl
      · rw [if_neg h2, if_neg (by simp only [List.map_cons, List.mem_cons]; rintro (e | e); exact h e.symm; exact h2 e)]; rfl
set_option maxRecDepth 100000 in
theorem putA_mem {v : Int} {t : List (List Rule)} : ∀ {es : List (Int × List (List Rule))} {e}, e ∈ putA v t es → e = (v, t) ∨ e ∈ es
  | [], e, h => by simp [putA] at h; exact .inl h
  | x :: r, e, h => by
    unfold putA at h
    split at h
    · rcases List.mem_cons.1 h with h | h
      · exact .inl h
      · exact .inr (by simp [h])
    · rcases List.mem_cons.1 h with h | h
      · exact .inr (by simp [h])
      · rcases putA_mem h with h | h
        · exact .inl h
        · exact .inr (by simp [h])
set_option maxRecDepth 100000 in
theorem delA_sub (v : Int) : ∀ es : List (Int × List (List Rule)), (delA v es).Sublist es
  | [] => List.Sublist.refl _
  | e :: r => by
    unfold delA
    split
    · exact List.sublist_cons_self _ _
    · exact (delA_sub v r).cons_cons _
set_option maxRecDepth 100000 in
theorem AgB.step {a : Ag} {k : Nat} (h : AgB a k) (l : Ltr) (hs : smallR l.ts) (hv : inI64 l.ve) : AgB (a.step l).1 (k + 1) := by
  have same : ∀ {b : Ag}, b.es = a.es → AgB b (k + 1) := fun {b} e => ⟨by rw [e]; exact h.nd, by rw [e]; exact h.wf, by rw [e]; have := h.len; omega, by rw [e]; exact h.small⟩
  unfold Ag.step
  split
  · exact same rfl
  · split
    · refine ⟨?_, fun z hz => ?_, ?_, fun e he => ?_⟩
      · simp only [putA_keys]
        split
        · exact h.nd
        · rename_i hn
          refine List.nodup_append.2 ⟨h.nd, by simp, fun x hx y hy e => ?_⟩
          simp only [List.mem_singleton] at hy
          subst hy; subst e; exact hn hx
      · simp only [putA_keys] at hz
        split at hz
        · exact h.wf z hz
        · rcases List.mem_append.1 hz with hz | hz
          · exact h.wf z hz
          · simp only [List.mem_singleton] at hz; subst hz; exact hv
      · have := congrArg List.length (putA_keys l.ve l.ts a.es)
        have hl := h.len
        rw [List.length_map] at this
        simp only []
        rw [this]
        split <;> simp <;> omega
      · rcases putA_mem he with rfl | he
        · exact hs
        · exact h.small e he
    · split
      · split
        · exact same rfl
        · exact same rfl
      · split
        · split
          · exact same rfl
          · have hsub := delA_sub l.ve a.es
            exact ⟨(hsub.map _).nodup h.nd, fun z hz => h.wf z ((hsub.map _).subset hz), by have := hsub.length_le; have := h.len; simp only []; omega, fun e he => h.small e (hsub.subset he)⟩
        · exact same rfl
set_option maxRecDepth 100000 in
theorem getA_putA (v : Int) (t : List (List Rule)) : ∀ es, getA v (putA v t es) = some t
  | [] => by simp [putA, getA]
  | e :: r => by
    unfold putA
    split
    · simp [getA]
    · rename_i h; simp [getA, h, getA_putA v t r]
def late (a : Ag) (l : Ltr) : Prop := l.fr ≠ -1 ∨ l.to ≠ a.n ∨ l.se < a.ser
set_option maxRecDepth 100000 in
theorem step_late {a : Ag} {l : Ltr} (h : late a l) : a.step l = (a, 0) := by unfold Ag.step; exact if_pos h
set_option maxRecDepth 100000 in
theorem step_1 {a : Ag} {l : Ltr} (h : ¬ late a l) (k1 : l.kd = 1) : a.step l = ({ a with ser := l.se, es := putA l.ve l.ts a.es }, 2) := by unfold late at h; unfold Ag.step; rw [if_neg h, if_pos k1]
set_option maxRecDepth 100000 in
theorem step_3y {a : Ag} {l : Ltr} (h : ¬ late a l) (k3 : l.kd = 3) (hg : (getA l.ve a.es).isSome = true) : a.step l = ({ a with ser := l.se, cur := l.ve }, 4) := by unfold late at h; unfold Ag.step; rw [if_neg h, if_neg (by omega), if_pos k3, if_pos hg]
set_option maxRecDepth 100000 in
theorem step_3n {a : Ag} {l : Ltr} (h : ¬ late a l) (k3 : l.kd = 3) (hg : (getA l.ve a.es).isSome = false) : a.step l = ({ a with ser := l.se }, 0) := by unfold late at h; unfold Ag.step; rw [if_neg h, if_neg (by omega), if_pos k3, if_neg (by rw [hg]; simp)]
set_option maxRecDepth 100000 in
theorem step_5s {a : Ag} {l : Ltr} (h : ¬ late a l) (k5 : l.kd = 5) (hv : l.ve = a.cur) : a.step l = ({ a with ser := l.se }, 0) := by unfold late at h; unfold Ag.step; rw [if_neg h, if_neg (by omega), if_neg (by omega), if_pos k5, if_pos hv]
set_option maxRecDepth 100000 in
theorem step_5o {a : Ag} {l : Ltr} (h : ¬ late a l) (k5 : l.kd = 5) (hv : l.ve ≠ a.cur) : a.step l = ({ a with ser := l.se, es := delA l.ve a.es }, 6) := by unfold late at h; unfold Ag.step; rw [if_neg h, if_neg (by omega), if_neg (by omega), if_pos k5, if_neg hv]
set_option maxRecDepth 100000 in
theorem step_o {a : Ag} {l : Ltr} (h : ¬ late a l) (k1 : l.kd ≠ 1) (k3 : l.kd ≠ 3) (k5 : l.kd ≠ 5) : a.step l = ({ a with ser := l.se }, 0) := by unfold late at h; unfold Ag.step; rw [if_neg h, if_neg k1, if_neg k3, if_neg k5]
set_option maxRecDepth 100000 in
theorem step_n (a : Ag) (l : Ltr) : (a.step l).1.n = a.n := by
  unfold Ag.step
  repeat' split
  all_goals rfl
set_option maxRecDepth 100000 in
theorem ans_cases (k n ve se : Int) : (k = 0 ∧ ansA k n ve se = nilA) ∨ (k ≠ 0 ∧ ansA k n ve se = .p (.d (.sl 6 1 (ansD k n ve se)))) := by
  unfold ansA
  by_cases h : k = 0
  · exact .inl ⟨h, if_pos h⟩
  · exact .inr ⟨h, if_neg h⟩
end Go.Proofs.Ytjfammnjpeeahaa
set_option linter.unusedSimpArgs false
set_option linter.unusedVariables false
namespace Go.Proofs.Ytjfammnjpeeahaa
open Go Go.Proofs.Ytjfammnjpeeahaa.AL
set_option maxRecDepth 100000 in
theorem getA_put_ne {v u : Int} {t : List (List Rule)} (h : v ≠ u) : ∀ es, getA u (putA v t es) = getA u es
  | [] => by simp [putA, getA, h]
  | e :: r => by
    unfold putA
    split
    · rename_i e1; simp [getA, h, e1]
    · unfold getA; rw [getA_put_ne h r]
set_option maxRecDepth 100000 in
theorem getA_del_ne {v u : Int} (h : v ≠ u) : ∀ es, getA u (delA v es) = getA u es
  | [] => rfl
  | e :: r => by
    unfold delA
    split
    · rename_i e1
      have : e.1 ≠ u := fun e2 => h (e1.symm.trans e2)
      simp [getA, this]
    · unfold getA; rw [getA_del_ne h r]
def stA (a : Ag) (ls : List Ltr) : Nat → Ag
  | 0 => a
  | i + 1 => ((stA a ls i).step (ls.getD i ltr0)).1
def ltrOk (l : Ltr) : Prop := smallR l.ts ∧ inI64 l.ve
set_option maxRecDepth 100000 in
theorem ltrOk_at {ls : List Ltr} (h : ∀ l ∈ ls, ltrOk l) (i : Nat) : ltrOk (ls.getD i ltr0) := by
  by_cases hi : i < ls.length
  · exact h _ (getD_in hi ltr0)
  · rw [List.getD_eq_getElem?_getD, List.getElem?_eq_none (by omega)]
    exact ⟨⟨by simp [ltr0], by simp [ltr0]⟩, by simp [ltr0, inI64]⟩
set_option maxRecDepth 100000 in
theorem stA_ok {a : Ag} {ls : List Ltr} {k : Nat} (h : AgB a k) (hl : ∀ l ∈ ls, ltrOk l) : ∀ i, AgB (stA a ls i) (k + i)
  | 0 => h
  | i + 1 => (stA_ok h hl i).step _ (ltrOk_at hl i).1 (ltrOk_at hl i).2
end Go.Proofs.Ytjfammnjpeeahaa
set_option linter.unusedSimpArgs false
set_option linter.unusedVariables false
namespace Go.Proofs.Ytjfammnjpeeahaa
open Go Go.Proofs.Ytjfammnjpeeahaa.AL
abbrev Kn := Int × List (List Rule)
def k0 : Kn := (0, [])
def kD (e : Kn) : List Dat := [.v (.int .i64 e.1), .sl 1 e.2.length (rowRR e.2)]
def rowK (l : List Kn) : Nat → List Dat := fun i => kD (l.getD i k0)
set_option maxRecDepth 100000 in
theorem rowK_at (l : List Kn) (i : Nat) : rowK l i = kD (l.getD i k0) := rfl
structure Mo where
  n : Int
  cur : Int
  ser : Int
  l : List Kn
def moC (m : Mo) : LV := .cells 60 [.p (.d (.v (.int .i64 m.n))), .p (.d (.v (.int .i64 m.cur))), .p (.d (.v (.int .i64 m.ser))), .p (.d (.sl 2 m.l.length (rowK m.l)))]
def plc (v : Int) : List Kn → Nat × Bool
  | [] => (0, false)
  | e :: r => if v ≤ e.1 then (0, e.1 == v) else ((plc v r).1 + 1, (plc v r).2)
set_option maxRecDepth 100000 in
theorem plc_le (v : Int) : ∀ l, (plc v l).1 ≤ l.length
  | [] => Nat.le_refl _
  | e :: r => by
    have := plc_le v r
    unfold plc
    split
    · simp
    · simp; omega
def plcI (m : Mo) (v : Int) (R : Nat × Bool) (s : {i : Nat // i ≤ m.l.length ∧ (i + (plc v (m.l.drop i)).1, (plc v (m.l.drop i)).2) = R}) : ASt :=
  ⟨[(6, .p (.d (.v (.int .i64 (s.val : Int))))), (1, .p (.d (.v (.int .i64 v)))), (0, .loc 1000 0)], [(1000, moC m)]⟩
set_option maxRecDepth 100000 in
theorem drop_cons' (l : List Kn) (i : Nat) (h : i < l.length) : l.drop i = l.getD i k0 :: l.drop (i + 1) := by
  rw [List.drop_eq_getElem_cons h]
  simp [h]
set_option maxRecDepth 100000 in
set_option maxHeartbeats 2000000 in
theorem place_c (m : Mo) (v : Int) (hl : m.l.length ≤ 1099511627776) : MCalls Try.prog 17 [.loc 1000 0, .p (.d (.v (.int .i64 v)))] [(1000, moC m)]
    (fun rs M => rs = [.p (.d (.v (.int .i64 ((plc v m.l).1 : Int)))), .p (.d (.v (.bool (plc v m.l).2)))] ∧ M = [(1000, moC m)]) := by
  generalize hR : plc v m.l = R
  refine q8 Try.func17 rfl (by decide +kernel) (by rw [Try.ntmps17]; simp) (fun l X h => by simp only [AL.look] at h; (repeat' split at h); all_goals first | omega | cases h) ?_; rw [Try.ntmps17]; simp only [frA]
  (repeat (first | refine j0 ?_ | refine q7 rfl ?_ | refine awp_no rfl ?_ | refine j4 ?_ | (refine j5 fun K hK => ?_) | (refine q6 (by kernel_rfl) (by kernel_rfl) fun K hK => ?_) | ((first | refine z1 ?_ | refine z2 ?_ | ((first | refine x6 (hK _ ?_) | refine j6 (hK _ _ (z6 (by kernel_rfl)) ?_)); clear hK K)); (first | show AWP _ _ _ _ _ | ((try simp only [q4]); first | show loopQ _ _ _ _ _ _ | show cutQ _ _ _ _ | show AWP _ _ _ _ _))) | ((first | refine z7 [] rfl ?_ | refine x7 [] rfl ?_); simp (maxSteps := 2000000) (disch := omega) only [go_sem, seval, moC]; (repeat (first | refine ⟨by omega, ?_⟩ | refine ⟨True.intro, ?_⟩)))))
  refine awp_loop (plcI m v R) (fun s => m.l.length - s.val) ⟨0, by omega, by rw [List.drop_zero, ← hR]; simp⟩ ?_ (fun s => ?_)
  · unfold plcI
    refine Weak.list ?_ ?_; (all_goals simp (disch := omega) only [AllF, AllL, le_self, le_top, lle_self, exists_eq_left', Option.some.injEq, go_sem, seval, moC]); (all_goals (repeat' (with_reducible apply And.intro))); (all_goals try (first | exact le_eq rfl | (refine le_int ?_; omega) | (refine le_eq ?_; simp; done)))
  obtain ⟨i, hi, hr⟩ := s
  unfold plcI
  simp only [] at hi hr ⊢
  by_cases h : i < m.l.length
  · have r1 := rowK_at m.l i
    rw [drop_cons' m.l i h] at hr
    generalize m.l.getD i k0 = e at r1 hr
    obtain ⟨e1, e2⟩ := e
    unfold kD at r1
    simp only [] at r1
    unfold plc at hr
    simp only [] at hr
    by_cases hv : v ≤ e1
    · rw [if_pos hv] at hr
      subst hr
      have hg : decide (e1 ≥ v) = true := decide_eq_true hv
      (repeat (first | refine j0 ?_ | refine q7 rfl ?_ | refine awp_no rfl ?_ | refine j4 ?_ | (refine j5 fun K hK => ?_) | (refine q6 (by kernel_rfl) (by kernel_rfl) fun K hK => ?_) | ((first | refine z1 ?_ | refine z2 ?_ | ((first | refine x6 (hK _ ?_) | refine j6 (hK _ _ (z6 (by kernel_rfl)) ?_)); clear hK K)); (first | show AWP _ _ _ _ _ | ((try simp only [q4]); first | show loopQ _ _ _ _ _ _ | show cutQ _ _ _ _ | show AWP _ _ _ _ _))) | ((first | refine z7 [] rfl ?_ | refine x7 [] rfl ?_); simp (maxSteps := 2000000) (disch := omega) only [go_sem, seval, moC, r1, hg]; (repeat (first | refine ⟨by omega, ?_⟩ | refine ⟨True.intro, ?_⟩)))))
      refine awp_ret ?_
      refine (retM_list ⟨rfl, rfl⟩ ?_ ?_).1
      · exact ⟨rfl, rfl, trivial⟩
      · simp [AL.look, moC]
    · rw [if_neg hv] at hr
      have hg : decide (e1 ≥ v) = false := decide_eq_false hv
      (repeat (first | refine j0 ?_ | refine q7 rfl ?_ | refine awp_no rfl ?_ | refine j4 ?_ | (refine j5 fun K hK => ?_) | (refine q6 (by kernel_rfl) (by kernel_rfl) fun K hK => ?_) | ((first | refine z1 ?_ | refine z2 ?_ | ((first | refine x6 (hK _ ?_) | refine j6 (hK _ _ (z6 (by kernel_rfl)) ?_)); clear hK K)); (first | show AWP _ _ _ _ _ | ((try simp only [q4]); first | show loopQ _ _ _ _ _ _ | show cutQ _ _ _ _ | show AWP _ _ _ _ _))) | ((first | refine z7 [] rfl ?_ | refine x7 [] rfl ?_); simp (maxSteps := 2000000) (disch := omega) only [go_sem, seval, moC, r1, hg]; (repeat (first | refine ⟨by omega, ?_⟩ | refine ⟨True.intro, ?_⟩)))))
      refine ⟨⟨i + 1, by omega, by rw [← hr]; simp only []; congr 1; omega⟩, by simp only []; omega, ?_⟩
      refine Weak.list ?_ ?_; (all_goals simp (disch := omega) only [AllF, AllL, le_self, le_top, lle_self, exists_eq_left', Option.some.injEq, go_sem, seval, moC, r1, hg]); (all_goals (repeat' (with_reducible apply And.intro))); (all_goals try (first | exact le_eq rfl | (refine le_int ?_; omega) | (refine le_eq ?_; simp; done)))
  · have : i = m.l.length := by omega
    subst this
    rw [List.drop_length] at hr
    subst hr
    (repeat (first | refine j0 ?_ | refine q7 rfl ?_ | refine awp_no rfl ?_ | refine j4 ?_ | (refine j5 fun K hK => ?_) | (refine q6 (by kernel_rfl) (by kernel_rfl) fun K hK => ?_) | ((first | refine z1 ?_ | refine z2 ?_ | ((first | refine x6 (hK _ ?_) | refine j6 (hK _ _ (z6 (by kernel_rfl)) ?_)); clear hK K)); (first | show AWP _ _ _ _ _ | ((try simp only [q4]); first | show loopQ _ _ _ _ _ _ | show cutQ _ _ _ _ | show AWP _ _ _ _ _))) | ((first | refine z7 [] rfl ?_ | refine x7 [] rfl ?_); simp (maxSteps := 2000000) (disch := omega) only [go_sem, seval, moC]; (repeat (first | refine ⟨by omega, ?_⟩ | refine ⟨True.intro, ?_⟩)))))
    refine awp_ret ?_
    refine (retM_list ⟨rfl, rfl⟩ ?_ ?_).1
    · exact ⟨rfl, rfl, trivial⟩
    · simp [AL.look, moC]
end Go.Proofs.Ytjfammnjpeeahaa
set_option linter.unusedSimpArgs false
set_option linter.unusedVariables false
namespace Go.Proofs.Ytjfammnjpeeahaa
open Go Go.Proofs.Ytjfammnjpeeahaa.AL
inductive LesC : List AV → List AV → Prop
  | nil : LesC [] []
  | cons {x y : AV} {xs ys : List AV} (h : Le x y) (t : LesC xs ys) : LesC (x :: xs) (y :: ys)
set_option maxRecDepth 100000 in
theorem LesC.refl : ∀ xs : List AV, LesC xs xs
  | [] => .nil
  | x :: xs => .cons (Le.refl x) (LesC.refl xs)
set_option maxRecDepth 100000 in
theorem lle_cells {e : TypeId} {cs cs' : List AV} (h : LesC cs cs') : LLe (.cells e cs) (.cells e cs') := by
  refine ⟨rfl, ?_, ?_⟩
  · induction h with
    | nil => rfl
    | cons _ _ ih => simp [ih]
  · induction h with
    | nil => intro i x y h1; simp at h1
    | cons h t ih =>
      intro i x y h1 h2
      cases i with
      | zero => simp at h1 h2; subst h1; subst h2; exact h
      | succ i => exact ih i x y (by simpa using h1) (by simpa using h2)
set_option maxRecDepth 100000 in
theorem plc_lt {v : Int} : ∀ {l}, (plc v l).2 = true → (plc v l).1 < l.length
  | [], h => by simp [plc] at h
  | e :: r, h => by
    unfold plc at h ⊢
    split
    · simp
    · rename_i hv
      rw [if_neg hv] at h
      have := plc_lt (l := r) h
      simp only [List.length_cons]; omega
def Mo.step (m : Mo) (l : Ltr) : Mo × Int :=
  if l.fr ≠ -1 ∨ l.to ≠ m.n ∨ l.se < m.ser then (m, 0) else
  if l.kd = 1 then ({ m with ser := l.se, l := m.l.take (plc l.ve m.l).1 ++ (l.ve, l.ts) :: m.l.drop (if (plc l.ve m.l).2 then (plc l.ve m.l).1 + 1 else (plc l.ve m.l).1) }, 2) else
  if l.kd = 3 then (if (plc l.ve m.l).2 then ({ m with ser := l.se, cur := l.ve }, 4) else ({ m with ser := l.se }, 0)) else
  if l.kd = 5 then (if l.ve = m.cur then ({ m with ser := l.se }, 0) else (if (plc l.ve m.l).2 then ({ m with ser := l.se, l := m.l.take (plc l.ve m.l).1 ++ m.l.drop ((plc l.ve m.l).1 + 1) }, 6) else ({ m with ser := l.se }, 6))) else
  ({ m with ser := l.se }, 0)
set_option maxRecDepth 100000 in
theorem row3 (l r : List Kn) (x : Kn) (i n1 n2 : Nat) (f g1 g : Nat → List Dat) (h1 : n1 = i) (h2 : n2 = i + 1) (hg1 : ∀ k, g1 k = rowK l k) (hg : ∀ k, g k = rowK r k) (hi : i ≤ l.length) (k : Nat) :
    catF n2 (catF n1 (catF 0 f g1) fun j => [[Dat.v (.int .i64 x.1), Dat.sl 1 x.2.length (rowRR x.2)]].getD j []) g k = rowK (l.take i ++ x :: r) k := by
  subst h1 h2
  have hl : (l.take n1).length = n1 := by simp; omega
  unfold catF
  simp only [Nat.not_lt_zero, if_false, Nat.sub_zero]
  by_cases h1 : k < n1 + 1
  · rw [if_pos h1]
    by_cases h2 : k < n1
    · rw [if_pos h2, hg1]
      unfold rowK
      congr 1
      rw [List.getD_eq_getElem?_getD, List.getD_eq_getElem?_getD, List.getElem?_append_left (by omega), List.getElem?_take_of_lt h2]
    · rw [if_neg h2]
      have : k = n1 := by omega
      subst this
      unfold rowK
      rw [Nat.sub_self, List.getD_eq_getElem?_getD (l := List.take k l ++ _), List.getElem?_append_right (by omega), hl, Nat.sub_self]
      rfl
  · rw [if_neg h1, hg]
    unfold rowK
    congr 1
    rw [List.getD_eq_getElem?_getD, List.getD_eq_getElem?_getD, List.getElem?_append_right (by omega), hl, show k - n1 = (k - (n1 + 1)) + 1 by omega, List.getElem?_cons_succ]
set_option maxRecDepth 100000 in
theorem row2 (l r : List Kn) (i n1 : Nat) (f g1 g : Nat → List Dat) (h1 : n1 = i) (hg1 : ∀ k, g1 k = rowK l k) (hg : ∀ k, g k = rowK r k) (hi : i ≤ l.length) (k : Nat) :
    catF n1 (catF 0 f g1) g k = rowK (l.take i ++ r) k := by
  subst h1
  have hl : (l.take n1).length = n1 := by simp; omega
  unfold catF
  simp only [Nat.not_lt_zero, if_false, Nat.sub_zero]
  by_cases h2 : k < n1
  · rw [if_pos h2, hg1]
    unfold rowK
    congr 1
    rw [List.getD_eq_getElem?_getD, List.getD_eq_getElem?_getD, List.getElem?_append_left (by omega), List.getElem?_take_of_lt h2]
  · rw [if_neg h2, hg]
    unfold rowK
    congr 1
    rw [List.getD_eq_getElem?_getD, List.getD_eq_getElem?_getD, List.getElem?_append_right (by omega), hl]
set_option maxRecDepth 100000 in
theorem row_drop (l : List Kn) (i k : Nat) : rowK l (i + k) = rowK (l.drop i) k := by
  unfold rowK
  rw [List.getD_eq_getElem?_getD, List.getD_eq_getElem?_getD, List.getElem?_drop]
set_option maxRecDepth 100000 in
set_option maxHeartbeats 4000000 in
theorem MoLetter_c (m : Mo) (l : Ltr) (hl : m.l.length ≤ 1048576) : MCalls Try.prog 14 [.loc 1000 0, .p (.agg (letD l))] [(1000, moC m)] (fun rs M => rs = [intP (m.step l).2] ∧ M = [(1000, moC (m.step l).1)]) := by
  have fin : ∀ {A : ASt} {k : Int} {m' : Mo}, AL.look A.fr 4 = some (.p (.d (.v (.int .i64 k)))) → AL.look A.locs 1000 = some (moC m') → retM Try.prog Try.f14 (fun rs M => rs = [intP k] ∧ M = [(1000, moC m')]) .ret A :=
    fun {A k m'} h1 h2 => (retM_list (A := A) (rs := [intP k]) (L := [(1000, moC m')]) ⟨rfl, rfl⟩ (show ResVarsA Try.prog A [.tmp 4] [intP k] from ⟨h1, trivial⟩) (fun p hp => by simp at hp; subst hp; exact h2)).1
  by_cases h1 : l.fr = -1
  case neg =>
    have q1 : (l.fr != -1) = true := ine_tt h1
    have e : m.step l = (m, 0) := by unfold Mo.step; rw [if_pos (.inl h1)]
    rw [e]
    refine q8 Try.func14 rfl (by decide +kernel) (by rw [Try.ntmps14]; simp) (fun l X h => by simp only [AL.look] at h; (repeat' split at h); all_goals first | omega | cases h) ?_; rw [Try.ntmps14]; simp only [frA]
    (repeat (first | refine j0 ?_ | refine q7 rfl ?_ | refine awp_no rfl ?_ | refine j4 ?_ | (refine j5 fun K hK => ?_) | (refine q6 (by kernel_rfl) (by kernel_rfl) fun K hK => ?_) | ((first | refine z1 ?_ | refine z2 ?_ | ((first | refine x6 (hK _ ?_) | refine j6 (hK _ _ (z6 (by kernel_rfl)) ?_)); clear hK K)); (first | show AWP _ _ _ _ _ | ((try simp only [q4]); first | show loopQ _ _ _ _ _ _ | show cutQ _ _ _ _ | show AWP _ _ _ _ _))) | ((first | refine z7 [60, 98] rfl ?_ | refine x7 [60, 98] rfl ?_); simp (maxSteps := 2000000) (disch := omega) only [go_sem, seval, moC, letD, q1]; (repeat (first | refine ⟨by omega, ?_⟩ | refine ⟨True.intro, ?_⟩)))))
    exact awp_ret (fin rfl rfl)
  have q1 : (l.fr != -1) = false := ine_ff h1
  by_cases h2 : l.to = m.n
  case neg =>
    have q2 : (l.to != m.n) = true := ine_tt h2
    have e : m.step l = (m, 0) := by unfold Mo.step; rw [if_pos (.inr (.inl h2))]
    rw [e]
    refine q8 Try.func14 rfl (by decide +kernel) (by rw [Try.ntmps14]; simp) (fun l X h => by simp only [AL.look] at h; (repeat' split at h); all_goals first | omega | cases h) ?_; rw [Try.ntmps14]; simp only [frA]
    (repeat (first | refine j0 ?_ | refine q7 rfl ?_ | refine awp_no rfl ?_ | refine j4 ?_ | (refine j5 fun K hK => ?_) | (refine q6 (by kernel_rfl) (by kernel_rfl) fun K hK => ?_) | ((first | refine z1 ?_ | refine z2 ?_ | ((first | refine x6 (hK _ ?_) | refine j6 (hK _ _ (z6 (by kernel_rfl)) ?_)); clear hK K)); (first | show AWP _ _ _ _ _ | ((try simp only [q4]); first | show loopQ _ _ _ _ _ _ | show cutQ _ _ _ _ | show AWP _ _ _ _ _))) | ((first | refine z7 [60, 98] rfl ?_ | refine x7 [60, 98] rfl ?_); simp (maxSteps := 2000000) (disch := omega) only [go_sem, seval, moC, letD, q1, q2]; (repeat (first | refine ⟨by omega, ?_⟩ | refine ⟨True.intro, ?_⟩)))))
    exact awp_ret (fin rfl rfl)
  have q2 : (l.to != m.n) = false := ine_ff h2
  by_cases h3 : l.se < m.ser
  case pos =>
    have e : m.step l = (m, 0) := by unfold Mo.step; rw [if_pos (.inr (.inr h3))]
    rw [e]
    refine q8 Try.func14 rfl (by decide +kernel) (by rw [Try.ntmps14]; simp) (fun l X h => by simp only [AL.look] at h; (repeat' split at h); all_goals first | omega | cases h) ?_; rw [Try.ntmps14]; simp only [frA]
    (repeat (first | refine j0 ?_ | refine q7 rfl ?_ | refine awp_no rfl ?_ | refine j4 ?_ | (refine j5 fun K hK => ?_) | (refine q6 (by kernel_rfl) (by kernel_rfl) fun K hK => ?_) | ((first | refine z1 ?_ | refine z2 ?_ | ((first | refine x6 (hK _ ?_) | refine j6 (hK _ _ (z6 (by kernel_rfl)) ?_)); clear hK K)); (first | show AWP _ _ _ _ _ | ((try simp only [q4]); first | show loopQ _ _ _ _ _ _ | show cutQ _ _ _ _ | show AWP _ _ _ _ _))) | ((first | refine z7 [60, 98] rfl ?_ | refine x7 [60, 98] rfl ?_); simp (maxSteps := 2000000) (disch := omega) only [go_sem, seval, moC, letD, q1, q2]; (repeat (first | refine ⟨by omega, ?_⟩ | refine ⟨True.intro, ?_⟩)))))
    exact awp_ret (fin rfl rfl)
  have hno : ¬ (l.fr ≠ -1 ∨ l.to ≠ m.n ∨ l.se < m.ser) := by rintro (h | h | h); exact h h1; exact h h2; exact h3 h
  have pc := place_c { m with ser := l.se } l.ve (by simp only []; omega)
  have pl := plc_le l.ve m.l
  have pt := @plc_lt l.ve m.l
  unfold Mo.step
  rw [if_neg hno]
  simp only [] at pc
  generalize plc l.ve m.l = p at pc pl pt
  obtain ⟨p, b⟩ := p
  simp only [] at pc pl pt
  unfold moC at pc
  by_cases k1 : l.kd = 1
  · rw [if_pos k1]
    have g1 : (l.kd == 1) = true := ieq_tt k1
    cases b
    · refine q8 Try.func14 rfl (by decide +kernel) (by rw [Try.ntmps14]; simp) (fun l X h => by simp only [AL.look] at h; (repeat' split at h); all_goals first | omega | cases h) ?_; rw [Try.ntmps14]; simp only [frA]
      (repeat (first | refine j0 ?_ | refine q7 rfl ?_ | refine awp_no rfl ?_ | refine j4 ?_ | (refine j5 fun K hK => ?_) | (refine q6 (by kernel_rfl) (by kernel_rfl) fun K hK => ?_) | ((first | refine z1 ?_ | refine z2 ?_ | ((first | refine x6 (hK _ ?_) | refine j6 (hK _ _ (z6 (by kernel_rfl)) ?_)); clear hK K)); (first | show AWP _ _ _ _ _ | ((try simp only [q4]); first | show loopQ _ _ _ _ _ _ | show cutQ _ _ _ _ | show AWP _ _ _ _ _))) | ((first | refine z7 [60, 98] rfl ?_ | refine x7 [60, 98] rfl ?_); simp (maxSteps := 2000000) (disch := omega) only [go_sem, seval, moC, letD, q1, q2, g1]; (repeat (first | refine ⟨by omega, ?_⟩ | refine ⟨True.intro, ?_⟩)))))
      (refine walkS_cons _ (step_mcall [(1000, 1000)] rfl rfl rfl rfl rfl rfl (pc) rfl (namesOK_of (by repeat (first | exact trivial | refine ⟨rfl, ?_⟩)) (by kernel_rfl))) ?_); simp (maxSteps := 2000000) (disch := omega) only [go_sem, seval, moC, letD, q1, q2, g1]
      (repeat (first | refine j0 ?_ | refine q7 rfl ?_ | refine awp_no rfl ?_ | refine j4 ?_ | (refine j5 fun K hK => ?_) | (refine q6 (by kernel_rfl) (by kernel_rfl) fun K hK => ?_) | ((first | refine z1 ?_ | refine z2 ?_ | ((first | refine x6 (hK _ ?_) | refine j6 (hK _ _ (z6 (by kernel_rfl)) ?_)); clear hK K)); (first | show AWP _ _ _ _ _ | ((try simp only [q4]); first | show loopQ _ _ _ _ _ _ | show cutQ _ _ _ _ | show AWP _ _ _ _ _))) | ((first | refine z7 [60, 98] rfl ?_ | refine x7 [60, 98] rfl ?_); simp (maxSteps := 2000000) (disch := omega) only [go_sem, seval, moC, letD, q1, q2, g1]; (repeat (first | refine ⟨by omega, ?_⟩ | refine ⟨True.intro, ?_⟩)))))
      refine awp_weak (A' := ⟨[(4, .p (.d (.v (.int .i64 2))))], [(1000, moC { m with ser := l.se, l := m.l.take p ++ (l.ve, l.ts) :: m.l.drop p })]⟩) (Weak.list ⟨⟨_, rfl, Le.refl _⟩, trivial⟩ ⟨⟨_, rfl, ?_⟩, trivial⟩) (awp_ret (fin rfl rfl))
      refine lle_cells (.cons (Le.refl _) (.cons (Le.refl _) (.cons (Le.refl _) (.cons (le_gr ?_ fun k _ => ?_) .nil))))
      · simp; omega
      · exact row3 m.l (m.l.drop p) (l.ve, l.ts) p _ _ _ _ _ (by omega) (by omega) (fun _ => rfl) (fun k => row_drop m.l p k) pl k
    · have pl2 := pt rfl
      refine q8 Try.func14 rfl (by decide +kernel) (by rw [Try.ntmps14]; simp) (fun l X h => by simp only [AL.look] at h; (repeat' split at h); all_goals first | omega | cases h) ?_; rw [Try.ntmps14]; simp only [frA]
      (repeat (first | refine j0 ?_ | refine q7 rfl ?_ | refine awp_no rfl ?_ | refine j4 ?_ | (refine j5 fun K hK => ?_) | (refine q6 (by kernel_rfl) (by kernel_rfl) fun K hK => ?_) | ((first | refine z1 ?_ | refine z2 ?_ | ((first | refine x6 (hK _ ?_) | refine j6 (hK _ _ (z6 (by kernel_rfl)) ?_)); clear hK K)); (first | show AWP _ _ _ _ _ | ((try simp only [q4]); first | show loopQ _ _ _ _ _ _ | show cutQ _ _ _ _ | show AWP _ _ _ _ _))) | ((first | refine z7 [60, 98] rfl ?_ | refine x7 [60, 98] rfl ?_); simp (maxSteps := 2000000) (disch := omega) only [go_sem, seval, moC, letD, q1, q2, g1]; (repeat (first | refine ⟨by omega, ?_⟩ | refine ⟨True.intro, ?_⟩)))))
      (refine walkS_cons _ (step_mcall [(1000, 1000)] rfl rfl rfl rfl rfl rfl (pc) rfl (namesOK_of (by repeat (first | exact trivial | refine ⟨rfl, ?_⟩)) (by kernel_rfl))) ?_); simp (maxSteps := 2000000) (disch := omega) only [go_sem, seval, moC, letD, q1, q2, g1]
      (repeat (first | refine j0 ?_ | refine q7 rfl ?_ | refine awp_no rfl ?_ | refine j4 ?_ | (refine j5 fun K hK => ?_) | (refine q6 (by kernel_rfl) (by kernel_rfl) fun K hK => ?_) | ((first | refine z1 ?_ | refine z2 ?_ | ((first | refine x6 (hK _ ?_) | refine j6 (hK _ _ (z6 (by kernel_rfl)) ?_)); clear hK K)); (first | show AWP _ _ _ _ _ | ((try simp only [q4]); first | show loopQ _ _ _ _ _ _ | show cutQ _ _ _ _ | show AWP _ _ _ _ _))) | ((first | refine z7 [60, 98] rfl ?_ | refine x7 [60, 98] rfl ?_); simp (maxSteps := 2000000) (disch := omega) only [go_sem, seval, moC, letD, q1, q2, g1]; (repeat (first | refine ⟨by omega, ?_⟩ | refine ⟨True.intro, ?_⟩)))))
      refine awp_weak (A' := ⟨[(4, .p (.d (.v (.int .i64 2))))], [(1000, moC { m with ser := l.se, l := m.l.take p ++ (l.ve, l.ts) :: m.l.drop (p + 1) })]⟩) (Weak.list ⟨⟨_, rfl, Le.refl _⟩, trivial⟩ ⟨⟨_, rfl, ?_⟩, trivial⟩) (awp_ret (fin rfl rfl))
      refine lle_cells (.cons (Le.refl _) (.cons (Le.refl _) (.cons (Le.refl _) (.cons (le_gr ?_ fun k _ => ?_) .nil))))
      · simp; omega
      · exact row3 m.l (m.l.drop (p + 1)) (l.ve, l.ts) p _ _ _ _ _ (by omega) (by omega) (fun _ => rfl) (fun k => row_drop m.l (p + 1) k) pl k
  · rw [if_neg k1]
    have g1 : (l.kd == 1) = false := ieq_ff k1
    by_cases k3 : l.kd = 3
    · rw [if_pos k3]
      have g3 : (l.kd == 3) = true := ieq_tt k3
      cases b
      all_goals
        refine q8 Try.func14 rfl (by decide +kernel) (by rw [Try.ntmps14]; simp) (fun l X h => by simp only [AL.look] at h; (repeat' split at h); all_goals first | omega | cases h) ?_; rw [Try.ntmps14]; simp only [frA]
        (repeat (first | refine j0 ?_ | refine q7 rfl ?_ | refine awp_no rfl ?_ | refine j4 ?_ | (refine j5 fun K hK => ?_) | (refine q6 (by kernel_rfl) (by kernel_rfl) fun K hK => ?_) | ((first | refine z1 ?_ | refine z2 ?_ | ((first | refine x6 (hK _ ?_) | refine j6 (hK _ _ (z6 (by kernel_rfl)) ?_)); clear hK K)); (first | show AWP _ _ _ _ _ | ((try simp only [q4]); first | show loopQ _ _ _ _ _ _ | show cutQ _ _ _ _ | show AWP _ _ _ _ _))) | ((first | refine z7 [60, 98] rfl ?_ | refine x7 [60, 98] rfl ?_); simp (maxSteps := 2000000) (disch := omega) only [go_sem, seval, moC, letD, q1, q2, g1, g3]; (repeat (first | refine ⟨by omega, ?_⟩ | refine ⟨True.intro, ?_⟩)))))
        (refine walkS_cons _ (step_mcall [(1000, 1000)] rfl rfl rfl rfl rfl rfl (pc) rfl (namesOK_of (by repeat (first | exact trivial | refine ⟨rfl, ?_⟩)) (by kernel_rfl))) ?_); simp (maxSteps := 2000000) (disch := omega) only [go_sem, seval, moC, letD, q1, q2, g1, g3]
        (repeat (first | refine j0 ?_ | refine q7 rfl ?_ | refine awp_no rfl ?_ | refine j4 ?_ | (refine j5 fun K hK => ?_) | (refine q6 (by kernel_rfl) (by kernel_rfl) fun K hK => ?_) | ((first | refine z1 ?_ | refine z2 ?_ | ((first | refine x6 (hK _ ?_) | refine j6 (hK _ _ (z6 (by kernel_rfl)) ?_)); clear hK K)); (first | show AWP _ _ _ _ _ | ((try simp only [q4]); first | show loopQ _ _ _ _ _ _ | show cutQ _ _ _ _ | show AWP _ _ _ _ _))) | ((first | refine z7 [60, 98] rfl ?_ | refine x7 [60, 98] rfl ?_); simp (maxSteps := 2000000) (disch := omega) only [go_sem, seval, moC, letD, q1, q2, g1, g3]; (repeat (first | refine ⟨by omega, ?_⟩ | refine ⟨True.intro, ?_⟩)))))
        exact awp_ret (fin rfl rfl)
    · rw [if_neg k3]
      have g3 : (l.kd == 3) = false := ieq_ff k3
      by_cases k5 : l.kd = 5
      · rw [if_pos k5]
        have g5 : (l.kd == 5) = true := ieq_tt k5
        by_cases hv : l.ve = m.cur
        · rw [if_pos hv]
          have g6 : (l.ve != m.cur) = false := ine_ff hv
          cases b
          all_goals
            refine q8 Try.func14 rfl (by decide +kernel) (by rw [Try.ntmps14]; simp) (fun l X h => by simp only [AL.look] at h; (repeat' split at h); all_goals first | omega | cases h) ?_; rw [Try.ntmps14]; simp only [frA]
            (repeat (first | refine j0 ?_ | refine q7 rfl ?_ | refine awp_no rfl ?_ | refine j4 ?_ | (refine j5 fun K hK => ?_) | (refine q6 (by kernel_rfl) (by kernel_rfl) fun K hK => ?_) | ((first | refine z1 ?_ | refine z2 ?_ | ((first | refine x6 (hK _ ?_) | refine j6 (hK _ _ (z6 (by kernel_rfl)) ?_)); clear hK K)); (first | show AWP _ _ _ _ _ | ((try simp only [q4]); first | show loopQ _ _ _ _ _ _ | show cutQ _ _ _ _ | show AWP _ _ _ _ _))) | ((first | refine z7 [60, 98] rfl ?_ | refine x7 [60, 98] rfl ?_); simp (maxSteps := 2000000) (disch := omega) only [go_sem, seval, moC, letD, q1, q2, g1, g3, g5, g6]; (repeat (first | refine ⟨by omega, ?_⟩ | refine ⟨True.intro, ?_⟩)))))
            (refine walkS_cons _ (step_mcall [(1000, 1000)] rfl rfl rfl rfl rfl rfl (pc) rfl (namesOK_of (by repeat (first | exact trivial | refine ⟨rfl, ?_⟩)) (by kernel_rfl))) ?_); simp (maxSteps := 2000000) (disch := omega) only [go_sem, seval, moC, letD, q1, q2, g1, g3, g5, g6]
            (repeat (first | refine j0 ?_ | refine q7 rfl ?_ | refine awp_no rfl ?_ | refine j4 ?_ | (refine j5 fun K hK => ?_) | (refine q6 (by kernel_rfl) (by kernel_rfl) fun K hK => ?_) | ((first | refine z1 ?_ | refine z2 ?_ | ((first | refine x6 (hK _ ?_) | refine j6 (hK _ _ (z6 (by kernel_rfl)) ?_)); clear hK K)); (first | show AWP _ _ _ _ _ | ((try simp only [q4]); first | show loopQ _ _ _ _ _ _ | show cutQ _ _ _ _ | show AWP _ _ _ _ _))) | ((first | refine z7 [60, 98] rfl ?_ | refine x7 [60, 98] rfl ?_); simp (maxSteps := 2000000) (disch := omega) only [go_sem, seval, moC, letD, q1, q2, g1, g3, g5, g6]; (repeat (first | refine ⟨by omega, ?_⟩ | refine ⟨True.intro, ?_⟩)))))
            exact awp_ret (fin rfl rfl)
        · rw [if_neg hv]
          have g6 : (l.ve != m.cur) = true := ine_tt hv
          cases b
          · refine q8 Try.func14 rfl (by decide +kernel) (by rw [Try.ntmps14]; simp) (fun l X h => by simp only [AL.look] at h; (repeat' split at h); all_goals first | omega | cases h) ?_; rw [Try.ntmps14]; simp only [frA]
            (repeat (first | refine j0 ?_ | refine q7 rfl ?_ | refine awp_no rfl ?_ | refine j4 ?_ | (refine j5 fun K hK => ?_) | (refine q6 (by kernel_rfl) (by kernel_rfl) fun K hK => ?_) | ((first | refine z1 ?_ | refine z2 ?_ | ((first | refine x6 (hK _ ?_) | refine j6 (hK _ _ (z6 (by kernel_rfl)) ?_)); clear hK K)); (first | show AWP _ _ _ _ _ | ((try simp only [q4]); first | show loopQ _ _ _ _ _ _ | show cutQ _ _ _ _ | show AWP _ _ _ _ _))) | ((first | refine z7 [60, 98] rfl ?_ | refine x7 [60, 98] rfl ?_); simp (maxSteps := 2000000) (disch := omega) only [go_sem, seval, moC, letD, q1, q2, g1, g3, g5, g6]; (repeat (first | refine ⟨by omega, ?_⟩ | refine ⟨True.intro, ?_⟩)))))
            (refine walkS_cons _ (step_mcall [(1000, 1000)] rfl rfl rfl rfl rfl rfl (pc) rfl (namesOK_of (by repeat (first | exact trivial | refine ⟨rfl, ?_⟩)) (by kernel_rfl))) ?_); simp (maxSteps := 2000000) (disch := omega) only [go_sem, seval, moC, letD, q1, q2, g1, g3, g5, g6]
            (repeat (first | refine j0 ?_ | refine q7 rfl ?_ | refine awp_no rfl ?_ | refine j4 ?_ | (refine j5 fun K hK => ?_) | (refine q6 (by kernel_rfl) (by kernel_rfl) fun K hK => ?_) | ((first | refine z1 ?_ | refine z2 ?_ | ((first | refine x6 (hK _ ?_) | refine j6 (hK _ _ (z6 (by kernel_rfl)) ?_)); clear hK K)); (first | show AWP _ _ _ _ _ | ((try simp only [q4]); first | show loopQ _ _ _ _ _ _ | show cutQ _ _ _ _ | show AWP _ _ _ _ _))) | ((first | refine z7 [60, 98] rfl ?_ | refine x7 [60, 98] rfl ?_); simp (maxSteps := 2000000) (disch := omega) only [go_sem, seval, moC, letD, q1, q2, g1, g3, g5, g6]; (repeat (first | refine ⟨by omega, ?_⟩ | refine ⟨True.intro, ?_⟩)))))
            exact awp_ret (fin rfl rfl)
          · have pl2 := pt rfl
            refine q8 Try.func14 rfl (by decide +kernel) (by rw [Try.ntmps14]; simp) (fun l X h => by simp only [AL.look] at h; (repeat' split at h); all_goals first | omega | cases h) ?_; rw [Try.ntmps14]; simp only [frA]
            (repeat (first | refine j0 ?_ | refine q7 rfl ?_ | refine awp_no rfl ?_ | refine j4 ?_ | (refine j5 fun K hK => ?_) | (refine q6 (by kernel_rfl) (by kernel_rfl) fun K hK => ?_) | ((first | refine z1 ?_ | refine z2 ?_ | ((first | refine x6 (hK _ ?_) | refine j6 (hK _ _ (z6 (by kernel_rfl)) ?_)); clear hK K)); (first | show AWP _ _ _ _ _ | ((try simp only [q4]); first | show loopQ _ _ _ _ _ _ | show cutQ _ _ _ _ | show AWP _ _ _ _ _))) | ((first | refine z7 [60, 98] rfl ?_ | refine x7 [60, 98] rfl ?_); simp (maxSteps := 2000000) (disch := omega) only [go_sem, seval, moC, letD, q1, q2, g1, g3, g5, g6]; (repeat (first | refine ⟨by omega, ?_⟩ | refine ⟨True.intro, ?_⟩)))))
            (refine walkS_cons _ (step_mcall [(1000, 1000)] rfl rfl rfl rfl rfl rfl (pc) rfl (namesOK_of (by repeat (first | exact trivial | refine ⟨rfl, ?_⟩)) (by kernel_rfl))) ?_); simp (maxSteps := 2000000) (disch := omega) only [go_sem, seval, moC, letD, q1, q2, g1, g3, g5, g6]
            (repeat (first | refine j0 ?_ | refine q7 rfl ?_ | refine awp_no rfl ?_ | refine j4 ?_ | (refine j5 fun K hK => ?_) | (refine q6 (by kernel_rfl) (by kernel_rfl) fun K hK => ?_) | ((first | refine z1 ?_ | refine z2 ?_ | ((first | refine x6 (hK _ ?_) | refine j6 (hK _ _ (z6 (by kernel_rfl)) ?_)); clear hK K)); (first | show AWP _ _ _ _ _ | ((try simp only [q4]); first | show loopQ _ _ _ _ _ _ | show cutQ _ _ _ _ | show AWP _ _ _ _ _))) | ((first | refine z7 [60, 98] rfl ?_ | refine x7 [60, 98] rfl ?_); simp (maxSteps := 2000000) (disch := omega) only [go_sem, seval, moC, letD, q1, q2, g1, g3, g5, g6]; (repeat (first | refine ⟨by omega, ?_⟩ | refine ⟨True.intro, ?_⟩)))))
            refine awp_weak (A' := ⟨[(4, .p (.d (.v (.int .i64 6))))], [(1000, moC { m with ser := l.se, l := m.l.take p ++ m.l.drop (p + 1) })]⟩) (Weak.list ⟨⟨_, rfl, Le.refl _⟩, trivial⟩ ⟨⟨_, rfl, ?_⟩, trivial⟩) (awp_ret (fin rfl rfl))
            refine lle_cells (.cons (Le.refl _) (.cons (Le.refl _) (.cons (Le.refl _) (.cons (le_gr ?_ fun k _ => ?_) .nil))))
            · simp; omega
            · exact row2 m.l (m.l.drop (p + 1)) p _ _ _ _ (by omega) (fun _ => rfl) (fun k => row_drop m.l (p + 1) k) pl k
      · rw [if_neg k5]
        have g5 : (l.kd == 5) = false := ieq_ff k5
        cases b
        all_goals
          refine q8 Try.func14 rfl (by decide +kernel) (by rw [Try.ntmps14]; simp) (fun l X h => by simp only [AL.look] at h; (repeat' split at h); all_goals first | omega | cases h) ?_; rw [Try.ntmps14]; simp only [frA]
          (repeat (first | refine j0 ?_ | refine q7 rfl ?_ | refine awp_no rfl ?_ | refine j4 ?_ | (refine j5 fun K hK => ?_) | (refine q6 (by kernel_rfl) (by kernel_rfl) fun K hK => ?_) | ((first | refine z1 ?_ | refine z2 ?_ | ((first | refine x6 (hK _ ?_) | refine j6 (hK _ _ (z6 (by kernel_rfl)) ?_)); clear hK K)); (first | show AWP _ _ _ _ _ | ((try simp only [q4]); first | show loopQ _ _ _ _ _ _ | show cutQ _ _ _ _ | show AWP _ _ _ _ _))) | ((first | refine z7 [60, 98] rfl ?_ | refine x7 [60, 98] rfl ?_); simp (maxSteps := 2000000) (disch := omega) only [go_sem, seval, moC, letD, q1, q2, g1, g3, g5]; (repeat (first | refine ⟨by omega, ?_⟩ | refine ⟨True.intro, ?_⟩)))))
          (refine walkS_cons _ (step_mcall [(1000, 1000)] rfl rfl rfl rfl rfl rfl (pc) rfl (namesOK_of (by repeat (first | exact trivial | refine ⟨rfl, ?_⟩)) (by kernel_rfl))) ?_); simp (maxSteps := 2000000) (disch := omega) only [go_sem, seval, moC, letD, q1, q2, g1, g3, g5]
          (repeat (first | refine j0 ?_ | refine q7 rfl ?_ | refine awp_no rfl ?_ | refine j4 ?_ | (refine j5 fun K hK => ?_) | (refine q6 (by kernel_rfl) (by kernel_rfl) fun K hK => ?_) | ((first | refine z1 ?_ | refine z2 ?_ | ((first | refine x6 (hK _ ?_) | refine j6 (hK _ _ (z6 (by kernel_rfl)) ?_)); clear hK K)); (first | show AWP _ _ _ _ _ | ((try simp only [q4]); first | show loopQ _ _ _ _ _ _ | show cutQ _ _ _ _ | show AWP _ _ _ _ _))) | ((first | refine z7 [60, 98] rfl ?_ | refine x7 [60, 98] rfl ?_); simp (maxSteps := 2000000) (disch := omega) only [go_sem, seval, moC, letD, q1, q2, g1, g3, g5]; (repeat (first | refine ⟨by omega, ?_⟩ | refine ⟨True.intro, ?_⟩)))))
          exact awp_ret (fin rfl rfl)
end Go.Proofs.Ytjfammnjpeeahaa
set_option linter.unusedSimpArgs false
set_option linter.unusedVariables false
namespace Go.Proofs.Ytjfammnjpeeahaa
open Go Go.Proofs.Ytjfammnjpeeahaa.AL
def insM (v : Int) (t : List (List Rule)) : List Kn → List Kn
  | [] => [(v, t)]
  | e :: r => if v ≤ e.1 then (v, t) :: (if e.1 = v then r else e :: r) else e :: insM v t r
def delS (v : Int) : List Kn → List Kn
  | [] => []
  | e :: r => if v ≤ e.1 then r else e :: delS v r
set_option maxRecDepth 100000 in
theorem ins_eq (v : Int) (t : List (List Rule)) : ∀ l : List Kn, l.take (plc v l).1 ++ (v, t) :: l.drop (if (plc v l).2 then (plc v l).1 + 1 else (plc v l).1) = insM v t l
  | [] => rfl
  | e :: r => by
    have ih := ins_eq v t r
    unfold plc insM
    by_cases h : v ≤ e.1
    · rw [if_pos h, if_pos h]
      by_cases he : e.1 = v
      · simp [he]
      · simp [he]
    · rw [if_neg h, if_neg h, ← ih]
      cases hb : (plc v r).2 <;> simp
set_option maxRecDepth 100000 in
theorem del_eq (v : Int) : ∀ l : List Kn, (plc v l).2 = true → l.take (plc v l).1 ++ l.drop ((plc v l).1 + 1) = delS v l
  | [], h => by simp [plc] at h
  | e :: r, h => by
    unfold plc at h ⊢
    unfold delS
    by_cases hv : v ≤ e.1
    · rw [if_pos hv, if_pos hv]; simp
    · rw [if_neg hv] at h
      rw [if_neg hv, if_neg hv, ← del_eq v r h]; simp
def IncK (l : List Kn) : Prop := (l.map (·.1)).Pairwise (· < ·)
set_option maxRecDepth 100000 in
theorem incK_cons {e : Kn} {r : List Kn} (h : IncK (e :: r)) : (∀ x ∈ r.map (·.1), e.1 < x) ∧ IncK r := by
  unfold IncK at h; rw [List.map_cons, List.pairwise_cons] at h; exact h
set_option maxRecDepth 100000 in
theorem getA_none {v : Int} : ∀ {l : List Kn}, v ∉ l.map (·.1) → getA v l = none
  | [], _ => rfl
  | e :: r, h => by
    simp only [List.map_cons, List.mem_cons, not_or] at h
    unfold getA
    rw [if_neg (fun x => h.1 x.symm), getA_none h.2]
set_option maxRecDepth 100000 in
theorem getA_mem {v : Int} : ∀ {l : List Kn}, (getA v l).isSome = true ↔ v ∈ l.map (·.1)
  | [] => by simp [getA]
  | e :: r => by
    unfold getA
    by_cases h : e.1 = v
    · simp [h]
    · rw [if_neg h, getA_mem, List.map_cons, List.mem_cons]
      exact ⟨.inr, fun x => x.resolve_left fun e2 => h e2.symm⟩
set_option maxRecDepth 100000 in
theorem plc_some {v : Int} : ∀ {l : List Kn}, IncK l → (plc v l).2 = (getA v l).isSome
  | [], _ => rfl
  | e :: r, h => by
    obtain ⟨h1, h2⟩ := incK_cons h
    unfold plc getA
    by_cases hv : v ≤ e.1
    · rw [if_pos hv]
      by_cases he : e.1 = v
      · rw [if_pos he]; simp [he]
      · rw [if_neg he, getA_none fun hm => by have := h1 v hm; omega]
        simp [he]
    · rw [if_neg hv, if_neg (by omega)]
      exact plc_some h2
set_option maxRecDepth 100000 in
theorem insM_keys {v : Int} {t : List (List Rule)} : ∀ {l : List Kn} {x : Int}, x ∈ (insM v t l).map (·.1) → x = v ∨ x ∈ l.map (·.1)
  | [], x, h => by simp [insM] at h; exact .inl h
  | e :: r, x, h => by
    unfold insM at h
    split at h
    · split at h
      · simp only [List.map_cons, List.mem_cons] at h ⊢
        rcases h with h | h
        · exact .inl h
        · exact .inr (.inr h)
      · simp only [List.map_cons, List.mem_cons] at h ⊢
        rcases h with h | h | h
        · exact .inl h
        · exact .inr (.inl h)
        · exact .inr (.inr h)
    · simp only [List.map_cons, List.mem_cons] at h ⊢
      rcases h with h | h
      · exact .inr (.inl h)
      · rcases insM_keys h with h | h
        · exact .inl h
        · exact .inr (.inr h)
set_option maxRecDepth 100000 in
theorem insM_inc {v : Int} {t : List (List Rule)} : ∀ {l : List Kn}, IncK l → IncK (insM v t l)
  | [], _ => by simp [insM, IncK]
  | e :: r, h => by
    obtain ⟨h1, h2⟩ := incK_cons h
    unfold insM
    split
    · rename_i hv
      split
      · rename_i he
        unfold IncK
        rw [List.map_cons, List.pairwise_cons]
        exact ⟨fun x hx => by have := h1 x hx; simp only []; omega, h2⟩
      · rename_i he
        unfold IncK
        rw [List.map_cons, List.pairwise_cons]
        refine ⟨fun x hx => ?_, h⟩
        simp only [List.map_cons, List.mem_cons] at hx
        rcases hx with rfl | hx
        · simp only []; omega
        · have := h1 x hx; simp only []; omega
    · rename_i hv
      unfold IncK
      rw [List.map_cons, List.pairwise_cons]
      refine ⟨fun x hx => ?_, insM_inc h2⟩
      rcases insM_keys hx with rfl | hx
      · omega
      · exact h1 x hx
set_option maxRecDepth 100000 in
theorem getA_insM (v u : Int) (t : List (List Rule)) : ∀ l : List Kn, getA u (insM v t l) = if u = v then some t else getA u l
  | [] => by
    unfold insM getA
    by_cases h : u = v
    · simp [h]
    · rw [if_neg fun e => h e.symm, if_neg h]; rfl
  | e :: r => by
    have ih := getA_insM v u t r
    unfold insM
    by_cases hv : v ≤ e.1
    · rw [if_pos hv]
      by_cases h : u = v
      · rw [if_pos h]; unfold getA; rw [if_pos h.symm]
      · rw [if_neg h]
        by_cases he : e.1 = v
        · rw [if_pos he]
          have : e.1 ≠ u := fun e2 => h (e2.symm.trans he)
          simp only [getA, if_neg (fun x : v = u => h x.symm), if_neg this]
        · rw [if_neg he]
          simp only [getA, if_neg (fun x : v = u => h x.symm)]
    · rw [if_neg hv]
      simp only [getA]
      by_cases h : e.1 = u
      · rw [if_pos h, if_neg (by omega), if_pos h]
      · rw [if_neg h, if_neg h]; exact ih
set_option maxRecDepth 100000 in
theorem delS_sub (v : Int) : ∀ l : List Kn, (delS v l).Sublist l
  | [] => List.Sublist.refl _
  | e :: r => by
    unfold delS
    split
    · exact List.sublist_cons_self _ _
    · exact (delS_sub v r).cons_cons _
set_option maxRecDepth 100000 in
theorem delS_inc {v : Int} {l : List Kn} (h : IncK l) : IncK (delS v l) := List.Pairwise.sublist ((delS_sub v l).map _) h
set_option maxRecDepth 100000 in
theorem getA_delS (v u : Int) : ∀ {l : List Kn}, IncK l → (plc v l).2 = true → getA u (delS v l) = if u = v then none else getA u l
  | [], _, h => by simp [plc] at h
  | e :: r, hi, h => by
    obtain ⟨h1, h2⟩ := incK_cons hi
    unfold plc at h
    unfold delS
    by_cases hv : v ≤ e.1
    · rw [if_pos hv] at h ⊢
      have he : e.1 = v := by simpa using h
      by_cases hu : u = v
      · rw [if_pos hu]
        exact getA_none fun hm => by have := h1 u hm; omega
      · rw [if_neg hu]
        simp only [getA, if_neg (fun e2 : e.1 = u => hu (e2.symm.trans he))]
    · rw [if_neg hv] at h ⊢
      have ih := getA_delS v u h2 h
      simp only [getA]
      by_cases hu : e.1 = u
      · rw [if_pos hu, if_neg (by omega), if_pos hu]
      · rw [if_neg hu, if_neg hu]; exact ih
set_option maxRecDepth 100000 in
theorem getA_put (v u : Int) (t : List (List Rule)) (es : List Kn) : getA u (putA v t es) = if u = v then some t else getA u es := by
  by_cases h : u = v
  · subst h; rw [if_pos rfl, getA_putA]
  · rw [if_neg h, getA_put_ne fun e => h e.symm]
set_option maxRecDepth 100000 in
theorem getA_del (v u : Int) : ∀ {es : List Kn}, (es.map (·.1)).Nodup → getA u (delA v es) = if u = v then none else getA u es
  | es, hn => by
    by_cases h : u = v
    · subst h
      rw [if_pos rfl]
      refine getA_none ?_
      have key : ∀ es : List Kn, (es.map (·.1)).Nodup → u ∉ (delA u es).map (·.1) := by
        intro es
        induction es with
        | nil => intro _; simp [delA]
        | cons e r ih =>
          intro hn
          rw [List.map_cons, List.nodup_cons] at hn
          unfold delA
          by_cases he : e.1 = u
          · rw [if_pos he]; rw [← he]; exact hn.1
          · rw [if_neg he, List.map_cons, List.mem_cons, not_or]
            exact ⟨fun x => he x.symm, ih hn.2⟩
      exact key es hn
    · rw [if_neg h, getA_del_ne fun e => h e.symm]
set_option maxRecDepth 100000 in
theorem getA_at {l : List Kn} (h : IncK l) {k : Nat} (hk : k < l.length) : getA (l.getD k k0).1 l = some (l.getD k k0).2 := by
  induction l generalizing k with
  | nil => simp at hk
  | cons e r ih =>
    obtain ⟨h1, h2⟩ := incK_cons h
    cases k with
    | zero => simp [getA]
    | succ k =>
      have hk' : k < r.length := by simpa using hk
      rw [show (e :: r).getD (k + 1) k0 = r.getD k k0 from rfl]
      unfold getA
      have : (r.getD k k0).1 ∈ r.map (·.1) := List.mem_map.2 ⟨_, getD_in hk' k0, rfl⟩
      have := h1 _ this
      rw [if_neg (by omega)]
      exact ih h2 hk'
structure Side (a : Ag) (m : Mo) : Prop where
  n : a.n = m.n
  cur : a.cur = m.cur
  ser : a.ser = m.ser
  nd : (a.es.map (·.1)).Nodup
  inc : IncK m.l
  get : ∀ u, getA u a.es = getA u m.l
set_option maxRecDepth 100000 in
theorem Side.step {a : Ag} {m : Mo} (h : Side a m) (l : Ltr) (hn : (((a.step l).1).es.map (·.1)).Nodup) : (a.step l).2 = (m.step l).2 ∧ Side (a.step l).1 (m.step l).1 := by
  have hb : (plc l.ve m.l).2 = (getA l.ve a.es).isSome := by rw [plc_some h.inc, h.get]
  have hins := ins_eq l.ve l.ts m.l
  have hdel := del_eq l.ve m.l
  by_cases hl : late a l
  · have e : m.step l = (m, 0) := by
      unfold Mo.step
      rw [if_pos (by unfold late at hl; rw [← h.n, ← h.ser]; exact hl)]
    rw [step_late hl, e]
    exact ⟨rfl, h⟩
  · have hno : ¬ (l.fr ≠ -1 ∨ l.to ≠ m.n ∨ l.se < m.ser) := by unfold late at hl; rw [← h.n, ← h.ser]; exact hl
    unfold Mo.step
    rw [if_neg hno]
    by_cases k1 : l.kd = 1
    · rw [step_1 hl k1] at hn ⊢
      rw [if_pos k1, hins]
      exact ⟨rfl, ⟨h.n, h.cur, rfl, hn, insM_inc h.inc, fun u => by simp only []; rw [getA_put, getA_insM, h.get]⟩⟩
    · rw [if_neg k1]
      by_cases k3 : l.kd = 3
      · rw [if_pos k3, hb]
        cases hg : (getA l.ve a.es).isSome with
        | true => rw [step_3y hl k3 hg]; exact ⟨rfl, ⟨h.n, rfl, rfl, h.nd, h.inc, h.get⟩⟩
        | false => rw [step_3n hl k3 hg]; exact ⟨rfl, ⟨h.n, h.cur, rfl, h.nd, h.inc, h.get⟩⟩
      · rw [if_neg k3]
        by_cases k5 : l.kd = 5
        · rw [if_pos k5]
          by_cases hv : l.ve = a.cur
          · rw [if_pos (by rw [← h.cur]; exact hv), step_5s hl k5 hv]
            exact ⟨rfl, ⟨h.n, h.cur, rfl, h.nd, h.inc, h.get⟩⟩
          · rw [if_neg (by rw [← h.cur]; exact hv)]
            rw [step_5o hl k5 hv] at hn ⊢
            cases hp : (plc l.ve m.l).2 with
            | true =>
              rw [if_pos rfl, hdel hp]
              exact ⟨rfl, ⟨h.n, h.cur, rfl, hn, delS_inc h.inc, fun u => by simp only []; rw [getA_del _ _ h.nd, getA_delS _ _ h.inc hp, h.get]⟩⟩
            | false =>
              rw [if_neg (by simp)]
              refine ⟨rfl, ⟨h.n, h.cur, rfl, hn, h.inc, fun u => ?_⟩⟩
              simp only []
              rw [getA_del _ _ h.nd]
              by_cases hu : u = l.ve
              · rw [if_pos hu, ← h.get, hu]
                rw [hb] at hp
                cases hq : getA l.ve a.es with
                | none => rfl
                | some t => rw [hq] at hp; cases hp
              · rw [if_neg hu, h.get]
        · rw [if_neg k5, step_o hl k1 k3 k5]
          exact ⟨rfl, ⟨h.n, h.cur, rfl, h.nd, h.inc, h.get⟩⟩
set_option maxRecDepth 100000 in
theorem Side.keys {a : Ag} {m : Mo} (h : Side a m) : verZ a = m.l.map (·.1) := by
  have hnd : (m.l.map (·.1)).Nodup := List.Pairwise.imp (fun h e => by omega) h.inc
  have hp : (a.es.map (·.1)).Perm (m.l.map (·.1)) := (List.perm_ext_iff_of_nodup h.nd hnd).2 fun v => by rw [← getA_mem, ← getA_mem, h.get]
  have e := mergeSort_srtZ hp
  unfold verZ
  have e2 : srtZ (a.es.map (·.1)) = srtZ (m.l.map (·.1)) := e
  rw [e2]
  unfold srtZ
  exact List.mergeSort_of_pairwise (List.Pairwise.imp (fun h => by simp; omega) h.inc)
end Go.Proofs.Ytjfammnjpeeahaa
set_option linter.unusedSimpArgs false
set_option linter.unusedVariables false
namespace Go.Proofs.Ytjfammnjpeeahaa.AL
variable {P : Program} {nt : Nat} {Q : Exit → ASt → Prop} {A : ASt}
def cutQ {ι : Type} (I : ι → ASt) (Q : Exit → ASt → Prop) : Exit → ASt → Prop
  | .normal, A => ∃ i, Weak A (I i)
  | e, A => Q e A
theorem cut_n {ι : Type} {I : ι → ASt} {Q : Exit → ASt → Prop} {A : ASt} (i : ι) (h : Weak A (I i)) : cutQ I Q .normal A := ⟨i, h⟩
theorem awp_to {ι : Type} (I : ι → ASt) {x z : Code} (h1 : AWP P nt x (cutQ I Q) A) (h2 : ∀ i, AWP P nt z Q (I i)) : AWP P nt x (seqQ P nt z Q) A := by
  refine awp_mono h1 fun e A' h => ?_
  cases e with
  | normal => obtain ⟨i, hw⟩ := h; exact awp_weak hw (h2 i)
  | _ => exact h
attribute [irreducible] cutQ
inductive LesD : List AV → List AV → Prop
  | nil : LesD [] []
  | cons {x y : AV} {xs ys : List AV} (h : Le x y) (t : LesD xs ys) : LesD (x :: xs) (y :: ys)
theorem lle_cellsD {e : TypeId} {cs cs' : List AV} (h : LesD cs cs') : LLe (.cells e cs) (.cells e cs') := by
  refine ⟨rfl, ?_, ?_⟩
  · induction h with
    | nil => rfl
    | cons _ _ ih => simp [ih]
  · induction h with
    | nil => intro i x y h1; simp at h1
    | cons h t ih =>
      intro i x y h1 h2
      cases i with
      | zero => simp at h1 h2; subst h1; subst h2; exact h
      | succ i => exact ih i x y (by simpa using h1) (by simpa using h2)
end Go.Proofs.Ytjfammnjpeeahaa.AL
set_option linter.unusedSimpArgs false
set_option linter.unusedVariables false
namespace Go.Proofs.Ytjfammnjpeeahaa.AL
variable {P : Program} {nt : Nat} {Q : Exit → ASt → Prop} {A : ASt}
theorem cutQ_out {ι : Type} {I : ι → ASt} {e : Exit} (h : cutQ I Q e A) (hne : e ≠ .normal) : Q e A := by
  unfold cutQ at h
  cases e <;> first | exact absurd rfl hne | exact h
theorem awp_deep1 {ι : Type} (I : ι → ASt) {x y z : Code} (h1 : AWP P nt x (seqQ P nt y (cutQ I Q)) A) (h2 : ∀ i, AWP P nt z Q (I i)) : AWP P nt x (seqQ P nt (.seq y z) Q) A := by
  refine awp_mono h1 fun e A' h => ?_
  cases e with
  | normal => exact j0 (awp_to I h h2)
  | _ => exact (show Q _ A' from cutQ_out (I := I) (Q := Q) h (by simp))
theorem awp_mid1 {ι : Type} (I : ι → ASt) {x y y2 z : Code} (h1 : AWP P nt x (seqQ P nt y (seqQ P nt y2 (cutQ I Q))) A) (h2 : ∀ i, AWP P nt z Q (I i)) : AWP P nt x (seqQ P nt y (seqQ P nt (.seq y2 z) Q)) A := by
  refine awp_mono h1 fun e A' h => ?_
  cases e with
  | normal => exact awp_deep1 I h h2
  | _ => exact (show Q _ A' from cutQ_out (I := I) (Q := Q) h (by simp))
end Go.Proofs.Ytjfammnjpeeahaa.AL
set_option linter.unusedSimpArgs false
set_option linter.unusedVariables false
namespace Go.Proofs.Ytjfammnjpeeahaa
open Go Go.Proofs.Ytjfammnjpeeahaa.AL
def rulI (t : List (List Rule)) (i : {i : Nat // i ≤ t.length}) : ASt :=
  ⟨[(5, .p (.d (.v (.int .i64 (i.val : Int))))), (1, .p (.d (.sl 1 t.length (rowRR t)))), (0, .p (.d (.sl 1 t.length (rowRR t))))], []⟩
def rulJ (t : List (List Rule)) (i : Nat) (l : List Rule) (k : {k : Nat // k ≤ l.length}) : ASt :=
  ⟨[(6, .p (.d (.v (.int .i64 (k.val : Int))))), (5, .p (.d (.v (.int .i64 (i : Int))))), (1, .p (.d (.sl 1 t.length (rowRR t)))), (0, .p (.d (.sl 1 t.length (rowRR t))))], []⟩
set_option maxRecDepth 100000 in
set_option maxHeartbeats 2000000 in
theorem Rules_same (t : List (List Rule)) (ht : smallR t) : ACalls Try.prog 16 [.d (.sl 1 t.length (rowRR t)), .d (.sl 1 t.length (rowRR t))] (· = [.d (.v (.bool true))]) := by
  have hs := ht.1
  refine acalls_of_awp Try.func16 rfl (by decide +kernel) (by rw [Try.ntmps16]; simp) ?_; rw [Try.ntmps16]; simp only [frOf]
  (repeat (first | refine j0 ?_ | refine q7 rfl ?_ | refine awp_no rfl ?_ | refine j4 ?_ | (refine j5 fun K hK => ?_) | (refine q6 (by kernel_rfl) (by kernel_rfl) fun K hK => ?_) | ((first | refine z1 ?_ | refine z2 ?_ | ((first | refine x6 (hK _ ?_) | refine j6 (hK _ _ (z6 (by kernel_rfl)) ?_)); clear hK K)); (first | show AWP _ _ _ _ _ | ((try simp only [q4]); first | show loopQ _ _ _ _ _ _ | show cutQ _ _ _ _ | show AWP _ _ _ _ _))) | ((first | refine z7 [] rfl ?_ | refine x7 [] rfl ?_); simp (maxSteps := 2000000) (disch := omega) only [go_sem, seval, eqty44, bne_self_eq_false]; (repeat (first | refine ⟨by omega, ?_⟩ | refine ⟨True.intro, ?_⟩)))))
  refine awp_loop (rulI t) (fun s => t.length - s.val) ⟨0, by omega⟩ ?_ (fun s => ?_)
  · unfold rulI
    refine Weak.list ?_ ?_; (all_goals simp (disch := omega) only [AllF, AllL, le_self, le_top, lle_self, exists_eq_left', Option.some.injEq, go_sem, seval, eqty44, bne_self_eq_false]); (all_goals (repeat' (with_reducible apply And.intro))); (all_goals try (first | exact le_eq rfl | (refine le_int ?_; omega) | (refine le_eq ?_; simp; done)))
  obtain ⟨i, hi⟩ := s
  unfold rulI
  simp only [] at hi ⊢
  by_cases h : i < t.length
  · have r1 := rowRR_at t i
    have hb := smallR_at ht i
    generalize t.getD i [] = l at r1 hb
    (repeat (first | refine j0 ?_ | refine q7 rfl ?_ | refine awp_no rfl ?_ | refine j4 ?_ | (refine j5 fun K hK => ?_) | (refine q6 (by kernel_rfl) (by kernel_rfl) fun K hK => ?_) | ((first | refine z1 ?_ | refine z2 ?_ | ((first | refine x6 (hK _ ?_) | refine j6 (hK _ _ (z6 (by kernel_rfl)) ?_)); clear hK K)); (first | show AWP _ _ _ _ _ | ((try simp only [q4]); first | show loopQ _ _ _ _ _ _ | show cutQ _ _ _ _ | show AWP _ _ _ _ _))) | ((first | refine z7 [] rfl ?_ | refine x7 [] rfl ?_); simp (maxSteps := 2000000) (disch := omega) only [go_sem, seval, eqty44, r1, bne_self_eq_false]; (repeat (first | refine ⟨by omega, ?_⟩ | refine ⟨True.intro, ?_⟩)))))
    refine awp_loop (rulJ t i l) (fun s => l.length - s.val) ⟨0, by omega⟩ ?_ (fun s => ?_)
    · unfold rulJ
      refine Weak.list ?_ ?_; (all_goals simp (disch := omega) only [AllF, AllL, le_self, le_top, lle_self, exists_eq_left', Option.some.injEq, go_sem, seval, eqty44, r1, bne_self_eq_false]); (all_goals (repeat' (with_reducible apply And.intro))); (all_goals try (first | exact le_eq rfl | (refine le_int ?_; omega) | (refine le_eq ?_; simp; done)))
    obtain ⟨k, hk⟩ := s
    unfold rulJ
    simp only [] at hk ⊢
    by_cases h2 : k < l.length
    · have r2 := rowR_at l k
      generalize l.getD k r0 = x at r2
      have q := eqI_rule x x
      rw [beq_self_eq_true] at q
      unfold ruleD at r2
      (repeat (first | refine j0 ?_ | refine q7 rfl ?_ | refine awp_no rfl ?_ | refine j4 ?_ | (refine j5 fun K hK => ?_) | (refine q6 (by kernel_rfl) (by kernel_rfl) fun K hK => ?_) | ((first | refine z1 ?_ | refine z2 ?_ | ((first | refine x6 (hK _ ?_) | refine j6 (hK _ _ (z6 (by kernel_rfl)) ?_)); clear hK K)); (first | show AWP _ _ _ _ _ | ((try simp only [q4]); first | show loopQ _ _ _ _ _ _ | show cutQ _ _ _ _ | show AWP _ _ _ _ _))) | ((first | refine z7 [] rfl ?_ | refine x7 [] rfl ?_); simp (maxSteps := 2000000) (disch := omega) only [go_sem, seval, eqty44, r1, r2, q, bne_self_eq_false, Bool.not_true]; (repeat (first | refine ⟨by omega, ?_⟩ | refine ⟨True.intro, ?_⟩)))))
      refine ⟨⟨k + 1, by omega⟩, by simp only []; omega, ?_⟩
      refine Weak.list ?_ ?_; (all_goals simp (disch := omega) only [AllF, AllL, le_self, le_top, lle_self, exists_eq_left', Option.some.injEq, go_sem, seval, eqty44, r1, r2, q, bne_self_eq_false, Bool.not_true]); (all_goals (repeat' (with_reducible apply And.intro))); (all_goals try (first | exact le_eq rfl | (refine le_int ?_; omega) | (refine le_eq ?_; simp; done)))
    · have : k = l.length := by omega
      subst this
      (repeat (first | refine j0 ?_ | refine q7 rfl ?_ | refine awp_no rfl ?_ | refine j4 ?_ | (refine j5 fun K hK => ?_) | (refine q6 (by kernel_rfl) (by kernel_rfl) fun K hK => ?_) | ((first | refine z1 ?_ | refine z2 ?_ | ((first | refine x6 (hK _ ?_) | refine j6 (hK _ _ (z6 (by kernel_rfl)) ?_)); clear hK K)); (first | show AWP _ _ _ _ _ | ((try simp only [q4]); first | show loopQ _ _ _ _ _ _ | show cutQ _ _ _ _ | show AWP _ _ _ _ _))) | ((first | refine z7 [] rfl ?_ | refine x7 [] rfl ?_); simp (maxSteps := 2000000) (disch := omega) only [go_sem, seval, eqty44, r1, bne_self_eq_false]; (repeat (first | refine ⟨by omega, ?_⟩ | refine ⟨True.intro, ?_⟩)))))
      refine ⟨⟨i + 1, by omega⟩, by simp only []; omega, ?_⟩
      refine Weak.list ?_ ?_; (all_goals simp (disch := omega) only [AllF, AllL, le_self, le_top, lle_self, exists_eq_left', Option.some.injEq, go_sem, seval, eqty44, r1, bne_self_eq_false]); (all_goals (repeat' (with_reducible apply And.intro))); (all_goals try (first | exact le_eq rfl | (refine le_int ?_; omega) | (refine le_eq ?_; simp; done)))
  · have : i = t.length := by omega
    subst this
    (repeat (first | refine j0 ?_ | refine q7 rfl ?_ | refine awp_no rfl ?_ | refine j4 ?_ | (refine j5 fun K hK => ?_) | (refine q6 (by kernel_rfl) (by kernel_rfl) fun K hK => ?_) | ((first | refine z1 ?_ | refine z2 ?_ | ((first | refine x6 (hK _ ?_) | refine j6 (hK _ _ (z6 (by kernel_rfl)) ?_)); clear hK K)); (first | show AWP _ _ _ _ _ | ((try simp only [q4]); first | show loopQ _ _ _ _ _ _ | show cutQ _ _ _ _ | show AWP _ _ _ _ _))) | ((first | refine z7 [] rfl ?_ | refine x7 [] rfl ?_); simp (maxSteps := 2000000) (disch := omega) only [go_sem, seval, eqty44, bne_self_eq_false]; (repeat (first | refine ⟨by omega, ?_⟩ | refine ⟨True.intro, ?_⟩)))))
    refine awp_ret ⟨_, ?_, rfl⟩; rw [Try.results16]; simp (disch := omega) only [ResVars, ResVar, ptrLoc, go_sem, seval, eqty44, bne_self_eq_false]
set_option maxRecDepth 100000 in
theorem getA_small {v : Int} {t : List (List Rule)} : ∀ {es : List Kn}, (∀ e ∈ es, smallR e.2) → getA v es = some t → smallR t
  | [], _, h => by simp [getA] at h
  | e :: r, he, h => by
    unfold getA at h
    split at h
    · cases h; exact he e (by simp)
    · exact getA_small (fun e' h' => he e' (by simp [h'])) h
def stM (m : Mo) (ls : List Ltr) : Nat → Mo
  | 0 => m
  | i + 1 => ((stM m ls i).step (ls.getD i ltr0)).1
set_option maxRecDepth 100000 in
theorem stAM {a : Ag} {m : Mo} {ls : List Ltr} {k : Nat} (hs : Side a m) (hb : AgB a k) (hl : ∀ l ∈ ls, ltrOk l) : ∀ i, Side (stA a ls i) (stM m ls i)
  | 0 => hs
  | i + 1 => by
    have h1 := stAM hs hb hl i
    have h2 := stA_ok hb hl i
    have h3 := (h2.step _ (ltrOk_at hl i).1 (ltrOk_at hl i).2).nd
    exact (h1.step _ h3).2
set_option maxRecDepth 100000 in
theorem stA_n (a : Ag) (ls : List Ltr) : ∀ i, (stA a ls i).n = a.n
  | 0 => rfl
  | i + 1 => (step_n _ _).trans (stA_n a ls i)
set_option maxRecDepth 100000 in
theorem Side.len {a : Ag} {m : Mo} {k : Nat} (h : Side a m) (hb : AgB a k) : m.l.length ≤ k := by
  have := congrArg List.length h.keys
  unfold verZ srtZ at this
  simp at this
  have := hb.len
  omega
def letC (x : Ltr) : LV := .cells 62 [.p (.d (.v (.int .i64 x.kd))), .p (.d (.v (.int .i64 x.fr))), .p (.d (.v (.int .i64 x.to))), .p (.d (.v (.int .i64 x.ve))), .p (.d (.v (.int .i64 x.se))), .p (.d (.sl 1 x.ts.length (rowRR x.ts)))]
def playI (n : Int) (ls : List Ltr) (a0 : Ag) (m0 : Mo) (i : {i : Nat // i ≤ ls.length ∧ i ≤ 60}) : ASt :=
  ⟨[(13, .p (.d (.v (.int .i64 (i.val : Int))))), (12, .loc 45 0), (11, .loc 601 0), (4, .p (.d (.sl 6 ls.length (rowL ls)))), (0, .p (.d (.v (.int .i64 n))))],
   [(601, agC 601 602 (stA a0 ls i.val)), (602, .map [.i64] (agE (stA a0 ls i.val).es)), (45, moC (stM m0 ls i.val))]⟩
def playJ (n : Int) (ls : List Ltr) (i : Nat) (x : Ltr) (a : Ag) (m : Mo) (k : {k : Nat // k ≤ m.l.length}) : ASt :=
  ⟨[(19, .p (.d (.v (.int .i64 (k.val : Int))))), (18, .gr 116 k.val 1 k.val (rowZ (m.l.map (·.1)))), (14, .loc 14 0), (13, .p (.d (.v (.int .i64 (i : Int))))), (12, .loc 45 0), (11, .loc 601 0), (4, .p (.d (.sl 6 ls.length (rowL ls)))), (0, .p (.d (.v (.int .i64 n))))],
   [(116, .grow 3 1 k.val k.val), (14, letC x), (601, agC 601 602 a), (602, .map [.i64] (agE a.es)), (45, moC m)]⟩
set_option maxRecDepth 100000 in
theorem rowKeys_snoc (l : List Kn) (i : Nat) (hi : i < l.length) (k : Nat) (hk : k < i + 1) : catF i (rowZ (l.map (·.1))) (fun j => [[Dat.v (.int .i64 (l.getD i k0).1)]].getD j []) k = rowZ (l.map (·.1)) k := by
  unfold catF
  split
  · rfl
  · have : k = i := by omega
    subst this
    rw [Nat.sub_self]
    unfold rowZ
    simp [List.getD_eq_getElem?_getD, hi]
def playC (n : Int) (ls : List Ltr) (i : Nat) (x : Ltr) (a : Ag) (m : Mo) : ASt :=
  ⟨[(14, .loc 14 0), (13, .p (.d (.v (.int .i64 (i : Int))))), (12, .loc 45 0), (11, .loc 601 0), (4, .p (.d (.sl 6 ls.length (rowL ls)))), (0, .p (.d (.v (.int .i64 n))))],
   [(14, letC x), (601, agC 601 602 a), (602, .map [.i64] (agE a.es)), (45, moC m)]⟩
set_option maxRecDepth 100000 in
set_option maxHeartbeats 16000000 in
theorem AgentPlays_c (n v s : Int) (t : List (List Rule)) (ls : List Ltr) (hv : inI64 v) (ht : smallR t) (hn : ls.length ≤ 1099511627776) (hl : ∀ l ∈ ls, ltrOk l) :
    ACalls Try.prog 4 [.d (.v (.int .i64 n)), .d (.v (.int .i64 v)), .d (.v (.int .i64 s)), tabPV t, .d (.sl 6 ls.length (rowL ls))] (· = [.d (.v (.bool true))]) := by
  have n1 := New_c n v s t ht
  have b0 : AgB ⟨n, v, s, [(v, t)]⟩ 1 := ⟨by simp, by simpa using hv, by simp, by simp; exact ht⟩
  have s0 : stA ⟨n, v, s, [(v, t)]⟩ ls 0 = ⟨n, v, s, [(v, t)]⟩ := rfl
  have sm0 : stM ⟨n, v, s, [(v, t)]⟩ ls 0 = ⟨n, v, s, [(v, t)]⟩ := rfl
  have si0 : Side ⟨n, v, s, [(v, t)]⟩ ⟨n, v, s, [(v, t)]⟩ := ⟨rfl, rfl, rfl, by simp, by simp [IncK], fun _ => rfl⟩
  have hrow : rowK [(v, t)] 0 = [.v (.int .i64 v), .sl 1 t.length (rowRR t)] := rfl
  have hm0 : moC ⟨n, v, s, [(v, t)]⟩ = .cells 60 [.p (.d (.v (.int .i64 n))), .p (.d (.v (.int .i64 v))), .p (.d (.v (.int .i64 s))), .p (.d (.sl 2 1 (rowK [(v, t)])))] := rfl
  generalize ha : (⟨n, v, s, [(v, t)]⟩ : Ag) = a0 at n1 b0 s0 si0
  generalize hmo : (⟨n, v, s, [(v, t)]⟩ : Mo) = m0 at sm0 si0 hm0
  have hes : agE [(v, t)] = agE a0.es := by rw [← ha]
  have han : a0.n = n := by rw [← ha]
  rw [hes] at n1
  unfold agC at n1
  unfold tabPV
  refine acalls_of_awp Try.func4 rfl (by decide +kernel) (by rw [Try.ntmps4]; simp) ?_; rw [Try.ntmps4]; simp only [frOf]
  (repeat (first | refine j0 ?_ | refine q7 rfl ?_ | refine awp_no rfl ?_ | refine j4 ?_ | (refine j5 fun K hK => ?_) | (refine q6 (by kernel_rfl) (by kernel_rfl) fun K hK => ?_) | ((first | refine z1 ?_ | refine z2 ?_ | ((first | refine x6 (hK _ ?_) | refine j6 (hK _ _ (z6 (by kernel_rfl)) ?_)); clear hK K)); (first | show AWP _ _ _ _ _ | ((try simp only [q4]); first | show loopQ _ _ _ _ _ _ | show cutQ _ _ _ _ | show AWP _ _ _ _ _))) | ((first | refine z7 [45, 14, 17, 116] rfl ?_ | refine x7 [45, 14, 17, 116] rfl ?_); simp (maxSteps := 2000000) (disch := omega) only [go_sem, seval]; (repeat (first | refine ⟨by omega, ?_⟩ | refine ⟨True.intro, ?_⟩)))))
  (refine walkS_cons _ (step_mcall [(18, 601), (12, 602)] rfl rfl rfl rfl rfl rfl (n1) rfl (namesOK_of (by repeat (first | exact trivial | refine ⟨rfl, ?_⟩)) (by kernel_rfl))) ?_); simp (maxSteps := 2000000) (disch := omega) only [go_sem, seval]
  (repeat (first | refine j0 ?_ | refine q7 rfl ?_ | refine awp_no rfl ?_ | refine j4 ?_ | (refine j5 fun K hK => ?_) | (refine q6 (by kernel_rfl) (by kernel_rfl) fun K hK => ?_) | ((first | refine z1 ?_ | refine z2 ?_ | ((first | refine x6 (hK _ ?_) | refine j6 (hK _ _ (z6 (by kernel_rfl)) ?_)); clear hK K)); (first | show AWP _ _ _ _ _ | ((try simp only [q4]); first | show loopQ _ _ _ _ _ _ | show cutQ _ _ _ _ | show AWP _ _ _ _ _))) | ((first | refine walkS_call3 rfl rfl rfl ?_ | refine walkD_call3 rfl rfl rfl ?_); simp (maxSteps := 2000000) (disch := omega) only [go_sem, seval]; (first | refine ⟨_, awake23_c, ?_⟩)) | ((first | refine z7 [45, 14, 17, 116] rfl ?_ | refine x7 [45, 14, 17, 116] rfl ?_); simp (maxSteps := 2000000) (disch := omega) only [go_sem, seval]; (repeat (first | refine ⟨by omega, ?_⟩ | refine ⟨True.intro, ?_⟩)))))
  refine awp_loop (playI n ls a0 m0) (fun s => 60 - s.val) ⟨0, by omega, by omega⟩ ?_ (fun s => ?_)
  · unfold playI
    refine Weak.list ?_ ?_; (all_goals simp (disch := omega) only [AllF, AllL, le_self, le_top, lle_self, exists_eq_left', Option.some.injEq, go_sem, seval, s0, sm0, agC, hm0]); (all_goals (repeat' (with_reducible apply And.intro))); (all_goals try (first | exact le_eq rfl | (refine le_int ?_; omega) | (refine le_eq ?_; simp; done)))
    refine lle_cellsD (.cons (Le.refl _) (.cons (Le.refl _) (.cons (Le.refl _) (.cons (le_sl rfl fun i hi => ?_) .nil))))
    obtain rfl : i = 0 := by omega
    exact hrow.symm
  obtain ⟨i, hi, hi60⟩ := s
  unfold playI
  simp only [] at hi hi60 ⊢
  by_cases h : i < ls.length
  · by_cases h60 : i < 60
    · have bi := stA_ok b0 hl i
      have si := stAM si0 b0 hl i
      have ni := stA_n a0 ls i
      have hsucc : stA a0 ls (i + 1) = ((stA a0 ls i).step (ls.getD i ltr0)).1 := rfl
      have msucc : stM m0 ls (i + 1) = ((stM m0 ls i).step (ls.getD i ltr0)).1 := rfl
      have r1 := rowL_at ls i
      obtain ⟨x1, x2⟩ := ltrOk_at hl i
      generalize stA a0 ls i = a at *
      generalize stM m0 ls i = m at *
      generalize ls.getD i ltr0 = x at *
      have l1 := Letter_c a x x1
      have l2 := MoLetter_c m x (by have := si.len bi; omega)
      have b1 := bi.step x x1 x2
      obtain ⟨ek, si1⟩ := si.step x b1.nd
      have ml := si1.len b1
      have n2 := step_n a x
      generalize a.step x = p at *
      generalize m.step x = p2 at *
      obtain ⟨a', k⟩ := p
      obtain ⟨m', k2⟩ := p2
      simp only [] at l1 l2 b1 ek si1 ml hsucc msucc n2
      subst ek
      unfold agL agC letD at l1
      unfold letD moC at l2
      unfold letD at r1
      obtain ⟨P, eP, hP⟩ : ∃ P : PV, ansA k a.n x.ve x.se = .p P ∧ ((k = 0 ∧ P = .d (.v (.slice none 0 0))) ∨ (k ≠ 0 ∧ P = .d (.sl 6 1 (ansD k n x.ve x.se)))) := by
        rw [ni, han]
        rcases ans_cases k n x.ve x.se with ⟨hk, a1⟩ | ⟨hk, a1⟩
        · exact ⟨_, a1, .inl ⟨hk, rfl⟩⟩
        · exact ⟨_, a1, .inr ⟨hk, rfl⟩⟩
      rw [eP] at l1
      unfold intP at l2
      (repeat (first | refine j0 ?_ | refine q7 rfl ?_ | refine awp_no rfl ?_ | refine j4 ?_ | (refine j5 fun K hK => ?_) | (refine q6 (by kernel_rfl) (by kernel_rfl) fun K hK => ?_) | ((first | refine z1 ?_ | refine z2 ?_ | ((first | refine x6 (hK _ ?_) | refine j6 (hK _ _ (z6 (by kernel_rfl)) ?_)); clear hK K)); (first | show AWP _ _ _ _ _ | ((try simp only [q4]); first | show loopQ _ _ _ _ _ _ | show cutQ _ _ _ _ | show AWP _ _ _ _ _))) | ((first | refine z7 [45, 14, 17, 116] rfl ?_ | refine x7 [45, 14, 17, 116] rfl ?_); simp (maxSteps := 2000000) (disch := omega) only [go_sem, seval, agC, moC, r1]; (repeat (first | refine ⟨by omega, ?_⟩ | refine ⟨True.intro, ?_⟩)))))
      (refine walkS_cons _ (step_mcall [(1000, 601), (1001, 602)] rfl rfl rfl rfl rfl rfl (l1) rfl (namesOK_of (by repeat (first | exact trivial | refine ⟨rfl, ?_⟩)) (by kernel_rfl))) ?_); simp (maxSteps := 2000000) (disch := omega) only [go_sem, seval, agC, moC, r1]
      (repeat (first | refine j0 ?_ | refine q7 rfl ?_ | refine awp_no rfl ?_ | refine j4 ?_ | (refine j5 fun K hK => ?_) | (refine q6 (by kernel_rfl) (by kernel_rfl) fun K hK => ?_) | ((first | refine z1 ?_ | refine z2 ?_ | ((first | refine x6 (hK _ ?_) | refine j6 (hK _ _ (z6 (by kernel_rfl)) ?_)); clear hK K)); (first | show AWP _ _ _ _ _ | ((try simp only [q4]); first | show loopQ _ _ _ _ _ _ | show cutQ _ _ _ _ | show AWP _ _ _ _ _))) | ((first | refine z7 [45, 14, 17, 116] rfl ?_ | refine x7 [45, 14, 17, 116] rfl ?_); simp (maxSteps := 2000000) (disch := omega) only [go_sem, seval, agC, moC, r1]; (repeat (first | refine ⟨by omega, ?_⟩ | refine ⟨True.intro, ?_⟩)))))
      (refine walkS_cons _ (step_mcall [(1000, 45)] rfl rfl rfl rfl rfl rfl (l2) rfl (namesOK_of (by repeat (first | exact trivial | refine ⟨rfl, ?_⟩)) (by kernel_rfl))) ?_); simp (maxSteps := 2000000) (disch := omega) only [go_sem, seval, agC, moC, r1]
      (repeat ((fail_if_success (show AWP _ _ (.region 11 _ _) _ _)); first | refine j0 ?_ | refine q7 rfl ?_ | refine awp_no rfl ?_ | refine j4 ?_ | (refine j5 fun K hK => ?_) | (refine q6 (by kernel_rfl) (by kernel_rfl) fun K hK => ?_) | ((first | refine z1 ?_ | refine z2 ?_ | ((first | refine x6 (hK _ ?_) | refine j6 (hK _ _ (z6 (by kernel_rfl)) ?_)); clear hK K)); (first | show AWP _ _ _ _ _ | ((try simp only [q4]); first | show loopQ _ _ _ _ _ _ | show cutQ _ _ _ _ | show AWP _ _ _ _ _))) | ((first | refine z7 [45, 14, 17, 116] rfl ?_ | refine x7 [45, 14, 17, 116] rfl ?_); simp (maxSteps := 2000000) (disch := omega) only [go_sem, seval, agC, moC, r1]; (repeat (first | refine ⟨by omega, ?_⟩ | refine ⟨True.intro, ?_⟩)))))
      refine awp_mid1 (fun _ : Unit => playC n ls i x a' m') ?_ (fun _ => ?_)
      · rcases hP with ⟨hk, rfl⟩ | ⟨hk, rfl⟩
        · subst hk
          (repeat (first | refine j0 ?_ | refine q7 rfl ?_ | refine awp_no rfl ?_ | refine j4 ?_ | (refine j5 fun K hK => ?_) | (refine q6 (by kernel_rfl) (by kernel_rfl) fun K hK => ?_) | ((first | refine z1 ?_ | refine z2 ?_ | ((first | refine x6 (hK _ ?_) | refine j6 (hK _ _ (z6 (by kernel_rfl)) ?_)); clear hK K)); (first | show AWP _ _ _ _ _ | ((try simp only [q4]); first | show loopQ _ _ _ _ _ _ | show cutQ _ _ _ _ | show AWP _ _ _ _ _))) | ((first | refine z7 [45, 14, 17, 116] rfl ?_ | refine x7 [45, 14, 17, 116] rfl ?_); simp (maxSteps := 2000000) (disch := omega) only [go_sem, seval, agC, moC, r1]; (repeat (first | refine ⟨by omega, ?_⟩ | refine ⟨True.intro, ?_⟩)))))
          (show cutQ _ _ .normal _); refine cut_n (()) ?_
          unfold playC letC
          refine Weak.list ?_ ?_; (all_goals simp (disch := omega) only [AllF, AllL, le_self, le_top, lle_self, exists_eq_left', Option.some.injEq, go_sem, seval, agC, moC, r1]); (all_goals (repeat' (with_reducible apply And.intro))); (all_goals try (first | exact le_eq rfl | (refine le_int ?_; omega) | (refine le_eq ?_; simp; done)))
        · have q1 : (k == 0) = false := ieq_ff hk
          have q2 : (k != 0) = true := ine_tt hk
          have e0 : ansD k n x.ve x.se 0 = [.v (.int .i64 k), .v (.int .i64 n), .v (.int .i64 (-1)), .v (.int .i64 x.ve), .v (.int .i64 x.se), .v (.slice none 0 0)] := rfl
          (repeat (first | refine j0 ?_ | refine q7 rfl ?_ | refine awp_no rfl ?_ | refine j4 ?_ | (refine j5 fun K hK => ?_) | (refine q6 (by kernel_rfl) (by kernel_rfl) fun K hK => ?_) | ((first | refine z1 ?_ | refine z2 ?_ | ((first | refine x6 (hK _ ?_) | refine j6 (hK _ _ (z6 (by kernel_rfl)) ?_)); clear hK K)); (first | show AWP _ _ _ _ _ | ((try simp only [q4]); first | show loopQ _ _ _ _ _ _ | show cutQ _ _ _ _ | show AWP _ _ _ _ _))) | ((first | refine z7 [45, 14, 17, 116] rfl ?_ | refine x7 [45, 14, 17, 116] rfl ?_); simp (maxSteps := 2000000) (disch := omega) only [go_sem, seval, agC, moC, r1, q1, q2, bne_self_eq_false, e0]; (repeat (first | refine ⟨by omega, ?_⟩ | refine ⟨True.intro, ?_⟩)))))
          (show cutQ _ _ .normal _); refine cut_n (()) ?_
          unfold playC letC
          refine Weak.list ?_ ?_; (all_goals simp (disch := omega) only [AllF, AllL, le_self, le_top, lle_self, exists_eq_left', Option.some.injEq, go_sem, seval, agC, moC, r1, q1, q2, bne_self_eq_false, e0]); (all_goals (repeat' (with_reducible apply And.intro))); (all_goals try (first | exact le_eq rfl | (refine le_int ?_; omega) | (refine le_eq ?_; simp; done)))
      · have o1 : (getA x.ve a'.es).isSome = (plc x.ve m'.l).2 := by rw [plc_some si1.inc, si1.get]
        have c1 := Current_r a'
        have v1 := Versions_r a' (b1.ok (by omega))
        have vl : (verZ a').length ≤ 1099511627776 := by rw [si1.keys]; simp; omega
        have i1 := Ints_c (verZ a') (verZ a') vl vl
        have pc := place_c m' x.ve (by omega)
        have hm2 : m'.l.map (·.1) = verZ a' := si1.keys.symm
        have q0 : (m'.cur != m'.cur) = false := by simp
        have e1 := si1.cur
        unfold playC letC
        (repeat (first | refine j0 ?_ | refine q7 rfl ?_ | refine awp_no rfl ?_ | refine j4 ?_ | (refine j5 fun K hK => ?_) | (refine q6 (by kernel_rfl) (by kernel_rfl) fun K hK => ?_) | ((first | refine z1 ?_ | refine z2 ?_ | ((first | refine x6 (hK _ ?_) | refine j6 (hK _ _ (z6 (by kernel_rfl)) ?_)); clear hK K)); (first | show AWP _ _ _ _ _ | ((try simp only [q4]); first | show loopQ _ _ _ _ _ _ | show cutQ _ _ _ _ | show AWP _ _ _ _ _))) | ((first | refine z7 [45, 14, 17, 116] rfl ?_ | refine x7 [45, 14, 17, 116] rfl ?_); simp (maxSteps := 2000000) (disch := omega) only [go_sem, seval, agC, moC]; (repeat (first | refine ⟨by omega, ?_⟩ | refine ⟨True.intro, ?_⟩)))))
        refine awp_loop (playJ n ls i x a' m') (fun s => m'.l.length - s.val) ⟨0, by omega⟩ ?_ (fun s => ?_)
        · unfold playJ letC
          refine Weak.list ?_ ?_; (all_goals simp (disch := omega) only [AllF, AllL, le_self, le_top, lle_self, exists_eq_left', Option.some.injEq, go_sem, seval, agC, moC]); (all_goals (repeat' (with_reducible apply And.intro))); (all_goals try (first | exact le_eq rfl | (refine le_int ?_; omega) | (refine le_eq ?_; simp; done)))
          exact le_grgr rfl rfl fun i hi => absurd hi (Nat.not_lt_zero _)
        obtain ⟨j, hj⟩ := s
        unfold playJ letC
        simp only [] at hj ⊢
        by_cases hj2 : j < m'.l.length
        · have u1 := rowK_at m'.l j
          have g1 := getA_at si1.inc hj2
          have g2 := rowKeys_snoc m'.l j hj2
          generalize m'.l.getD j k0 = e at *
          obtain ⟨ev, et⟩ := e
          simp only [] at g1 g2
          rw [← si1.get] at g1
          have st := getA_small b1.small g1
          have t1 := Tables_some a' ev et g1 st
          have t2 := Rules_same et st
          unfold intP agL agC tabPV at t1
          unfold kD at u1
          simp only [] at u1
          (repeat (first | refine j0 ?_ | refine q7 rfl ?_ | refine awp_no rfl ?_ | refine j4 ?_ | (refine j5 fun K hK => ?_) | (refine q6 (by kernel_rfl) (by kernel_rfl) fun K hK => ?_) | ((first | refine z1 ?_ | refine z2 ?_ | ((first | refine x6 (hK _ ?_) | refine j6 (hK _ _ (z6 (by kernel_rfl)) ?_)); clear hK K)); (first | show AWP _ _ _ _ _ | ((try simp only [q4]); first | show loopQ _ _ _ _ _ _ | show cutQ _ _ _ _ | show AWP _ _ _ _ _))) | ((first | refine z7 [45, 14, 17, 116] rfl ?_ | refine x7 [45, 14, 17, 116] rfl ?_); simp (maxSteps := 2000000) (disch := omega) only [go_sem, seval, agC, moC, u1]; (repeat (first | refine ⟨by omega, ?_⟩ | refine ⟨True.intro, ?_⟩)))))
          (refine walkS_cons _ (step_mcall [(1000, 601), (1001, 602)] rfl rfl rfl rfl rfl rfl (t1) rfl (namesOK_of (by repeat (first | exact trivial | refine ⟨rfl, ?_⟩)) (by kernel_rfl))) ?_); simp (maxSteps := 2000000) (disch := omega) only [go_sem, seval, agC, moC, u1]
          (repeat (first | refine j0 ?_ | refine q7 rfl ?_ | refine awp_no rfl ?_ | refine j4 ?_ | (refine j5 fun K hK => ?_) | (refine q6 (by kernel_rfl) (by kernel_rfl) fun K hK => ?_) | ((first | refine z1 ?_ | refine z2 ?_ | ((first | refine x6 (hK _ ?_) | refine j6 (hK _ _ (z6 (by kernel_rfl)) ?_)); clear hK K)); (first | show AWP _ _ _ _ _ | ((try simp only [q4]); first | show loopQ _ _ _ _ _ _ | show cutQ _ _ _ _ | show AWP _ _ _ _ _))) | ((first | refine walkS_call3 rfl rfl rfl ?_ | refine walkD_call3 rfl rfl rfl ?_); simp (maxSteps := 2000000) (disch := omega) only [go_sem, seval, agC, moC, u1]; (first | refine ⟨_, t2, ?_⟩)) | ((first | refine z7 [45, 14, 17, 116] rfl ?_ | refine x7 [45, 14, 17, 116] rfl ?_); simp (maxSteps := 2000000) (disch := omega) only [go_sem, seval, agC, moC, u1]; (repeat (first | refine ⟨by omega, ?_⟩ | refine ⟨True.intro, ?_⟩)))))
          refine ⟨⟨j + 1, by omega⟩, by simp only []; omega, ?_⟩
          refine Weak.list ?_ ?_; (all_goals simp (disch := omega) only [AllF, AllL, le_self, le_top, lle_self, exists_eq_left', Option.some.injEq, go_sem, seval, agC, moC]); (all_goals (repeat' (with_reducible apply And.intro))); (all_goals try (first | exact le_eq rfl | (refine le_int ?_; omega) | (refine le_eq ?_; simp; done)))
          exact le_grgr rfl rfl g2
        · have : j = m'.l.length := by omega
          subst this
          unfold moC at pc
          unfold intP agL agC at c1
          unfold agL agC at v1
          have q5 : (a'.cur != m'.cur) = false := ine_ff e1
          have hlen : m'.l.length = (verZ a').length := by rw [← hm2]; simp
          have hrw : ∀ j, j < m'.l.length → rowZ (m'.l.map (·.1)) j = rowZ (verZ a') j := fun j _ => by rw [hm2]
          generalize (plc x.ve m'.l).1 = pl at pc
          rw [beq_self_eq_true] at i1
          cases hg : getA x.ve a'.es with
          | some tt =>
            rw [hg] at o1
            rw [← o1] at pc
            have st := getA_small b1.small hg
            have t1 := Tables_some a' x.ve tt hg st
            unfold intP agL agC tabPV at t1
            simp only [Option.isSome_some] at pc
            (repeat ((fail_if_success (show AWP _ _ (.region 27 _ _) _ _)); first | refine j0 ?_ | refine q7 rfl ?_ | refine awp_no rfl ?_ | refine j4 ?_ | (refine j5 fun K hK => ?_) | (refine q6 (by kernel_rfl) (by kernel_rfl) fun K hK => ?_) | ((first | refine z1 ?_ | refine z2 ?_ | ((first | refine x6 (hK _ ?_) | refine j6 (hK _ _ (z6 (by kernel_rfl)) ?_)); clear hK K)); (first | show AWP _ _ _ _ _ | ((try simp only [q4]); first | show loopQ _ _ _ _ _ _ | show cutQ _ _ _ _ | show AWP _ _ _ _ _))) | ((first | refine z7 [45, 14, 17, 116] rfl ?_ | refine x7 [45, 14, 17, 116] rfl ?_); simp (maxSteps := 2000000) (disch := omega) only [go_sem, seval, agC, moC, q5]; (repeat (first | refine ⟨by omega, ?_⟩ | refine ⟨True.intro, ?_⟩)))))
            refine awp_slot 18 _ (.p (.d (.sl 1 (verZ a').length (rowZ (verZ a'))))) rfl (le_gr hlen hrw) ?_
            (repeat (first | refine j0 ?_ | refine q7 rfl ?_ | refine awp_no rfl ?_ | refine j4 ?_ | (refine j5 fun K hK => ?_) | (refine q6 (by kernel_rfl) (by kernel_rfl) fun K hK => ?_) | ((first | refine z1 ?_ | refine z2 ?_ | ((first | refine x6 (hK _ ?_) | refine j6 (hK _ _ (z6 (by kernel_rfl)) ?_)); clear hK K)); (first | show AWP _ _ _ _ _ | ((try simp only [q4]); first | show loopQ _ _ _ _ _ _ | show cutQ _ _ _ _ | show AWP _ _ _ _ _))) | ((first | refine z7 [45, 14, 17, 116] rfl ?_ | refine x7 [45, 14, 17, 116] rfl ?_); simp (maxSteps := 2000000) (disch := omega) only [go_sem, seval, agC, moC, q5]; (repeat (first | refine ⟨by omega, ?_⟩ | refine ⟨True.intro, ?_⟩)))))
            (refine walkS_cons _ (step_mcall [(1000, 601), (1001, 602)] rfl rfl rfl rfl rfl rfl (t1) rfl (namesOK_of (by repeat (first | exact trivial | refine ⟨rfl, ?_⟩)) (by kernel_rfl))) ?_); simp (maxSteps := 2000000) (disch := omega) only [go_sem, seval, agC, moC, q5]
            (repeat (first | refine j0 ?_ | refine q7 rfl ?_ | refine awp_no rfl ?_ | refine j4 ?_ | (refine j5 fun K hK => ?_) | (refine q6 (by kernel_rfl) (by kernel_rfl) fun K hK => ?_) | ((first | refine z1 ?_ | refine z2 ?_ | ((first | refine x6 (hK _ ?_) | refine j6 (hK _ _ (z6 (by kernel_rfl)) ?_)); clear hK K)); (first | show AWP _ _ _ _ _ | ((try simp only [q4]); first | show loopQ _ _ _ _ _ _ | show cutQ _ _ _ _ | show AWP _ _ _ _ _))) | ((first | refine z7 [45, 14, 17, 116] rfl ?_ | refine x7 [45, 14, 17, 116] rfl ?_); simp (maxSteps := 2000000) (disch := omega) only [go_sem, seval, agC, moC, q5]; (repeat (first | refine ⟨by omega, ?_⟩ | refine ⟨True.intro, ?_⟩)))))
            (refine walkS_cons _ (step_mcall [(1000, 45)] rfl rfl rfl rfl rfl rfl (pc) rfl (namesOK_of (by repeat (first | exact trivial | refine ⟨rfl, ?_⟩)) (by kernel_rfl))) ?_); simp (maxSteps := 2000000) (disch := omega) only [go_sem, seval, agC, moC, q5]
            (repeat (first | refine j0 ?_ | refine q7 rfl ?_ | refine awp_no rfl ?_ | refine j4 ?_ | (refine j5 fun K hK => ?_) | (refine q6 (by kernel_rfl) (by kernel_rfl) fun K hK => ?_) | ((first | refine z1 ?_ | refine z2 ?_ | ((first | refine x6 (hK _ ?_) | refine j6 (hK _ _ (z6 (by kernel_rfl)) ?_)); clear hK K)); (first | show AWP _ _ _ _ _ | ((try simp only [q4]); first | show loopQ _ _ _ _ _ _ | show cutQ _ _ _ _ | show AWP _ _ _ _ _))) | ((first | refine z7 [45, 14, 17, 116] rfl ?_ | refine x7 [45, 14, 17, 116] rfl ?_); simp (maxSteps := 2000000) (disch := omega) only [go_sem, seval, agC, moC, q5]; (repeat (first | refine ⟨by omega, ?_⟩ | refine ⟨True.intro, ?_⟩)))))
            (refine walkD_rcall [(1000, 601), (1001, 602)] [601, 602] rfl rfl rfl rfl rfl rfl (c1) (by repeat (first | exact trivial | refine ⟨rfl, rfl, rfl, ?_⟩)) ?_); simp (maxSteps := 2000000) (disch := omega) only [go_sem, seval, agC, moC, q5]
            (repeat (first | refine j0 ?_ | refine q7 rfl ?_ | refine awp_no rfl ?_ | refine j4 ?_ | (refine j5 fun K hK => ?_) | (refine q6 (by kernel_rfl) (by kernel_rfl) fun K hK => ?_) | ((first | refine z1 ?_ | refine z2 ?_ | ((first | refine x6 (hK _ ?_) | refine j6 (hK _ _ (z6 (by kernel_rfl)) ?_)); clear hK K)); (first | show AWP _ _ _ _ _ | ((try simp only [q4]); first | show loopQ _ _ _ _ _ _ | show cutQ _ _ _ _ | show AWP _ _ _ _ _))) | ((first | refine z7 [45, 14, 17, 116] rfl ?_ | refine x7 [45, 14, 17, 116] rfl ?_); simp (maxSteps := 2000000) (disch := omega) only [go_sem, seval, agC, moC, q5]; (repeat (first | refine ⟨by omega, ?_⟩ | refine ⟨True.intro, ?_⟩)))))
            (refine walkD_rcall [(1000, 601), (1001, 602)] [601, 602] rfl rfl rfl rfl rfl rfl (v1) (by repeat (first | exact trivial | refine ⟨rfl, rfl, rfl, ?_⟩)) ?_); simp (maxSteps := 2000000) (disch := omega) only [go_sem, seval, agC, moC, q5]
            (repeat (first | refine j0 ?_ | refine q7 rfl ?_ | refine awp_no rfl ?_ | refine j4 ?_ | (refine j5 fun K hK => ?_) | (refine q6 (by kernel_rfl) (by kernel_rfl) fun K hK => ?_) | ((first | refine z1 ?_ | refine z2 ?_ | ((first | refine x6 (hK _ ?_) | refine j6 (hK _ _ (z6 (by kernel_rfl)) ?_)); clear hK K)); (first | show AWP _ _ _ _ _ | ((try simp only [q4]); first | show loopQ _ _ _ _ _ _ | show cutQ _ _ _ _ | show AWP _ _ _ _ _))) | ((first | refine walkS_call3 rfl rfl rfl ?_ | refine walkD_call3 rfl rfl rfl ?_); simp (maxSteps := 2000000) (disch := omega) only [go_sem, seval, agC, moC, q5]; (first | refine ⟨_, i1, ?_⟩)) | ((first | refine z7 [45, 14, 17, 116] rfl ?_ | refine x7 [45, 14, 17, 116] rfl ?_); simp (maxSteps := 2000000) (disch := omega) only [go_sem, seval, agC, moC, q5]; (repeat (first | refine ⟨by omega, ?_⟩ | refine ⟨True.intro, ?_⟩)))))
            refine ⟨⟨i + 1, by omega, by omega⟩, by simp only []; omega, ?_⟩
            refine Weak.list ?_ ?_; (all_goals simp (disch := omega) only [AllF, AllL, le_self, le_top, lle_self, exists_eq_left', Option.some.injEq, go_sem, seval, agC, moC, hsucc, msucc]); (all_goals (repeat' (with_reducible apply And.intro))); (all_goals try (first | exact le_eq rfl | (refine le_int ?_; omega) | (refine le_eq ?_; simp; done)))
          | none =>
            rw [hg] at o1
            rw [← o1] at pc
            have t1 := Tables_none a' x.ve hg
            unfold intP agL agC tabPV at t1
            simp only [Option.isSome_none] at pc
            (repeat ((fail_if_success (show AWP _ _ (.region 27 _ _) _ _)); first | refine j0 ?_ | refine q7 rfl ?_ | refine awp_no rfl ?_ | refine j4 ?_ | (refine j5 fun K hK => ?_) | (refine q6 (by kernel_rfl) (by kernel_rfl) fun K hK => ?_) | ((first | refine z1 ?_ | refine z2 ?_ | ((first | refine x6 (hK _ ?_) | refine j6 (hK _ _ (z6 (by kernel_rfl)) ?_)); clear hK K)); (first | show AWP _ _ _ _ _ | ((try simp only [q4]); first | show loopQ _ _ _ _ _ _ | show cutQ _ _ _ _ | show AWP _ _ _ _ _))) | ((first | refine z7 [45, 14, 17, 116] rfl ?_ | refine x7 [45, 14, 17, 116] rfl ?_); simp (maxSteps := 2000000) (disch := omega) only [go_sem, seval, agC, moC, q5]; (repeat (first | refine ⟨by omega, ?_⟩ | refine ⟨True.intro, ?_⟩)))))
            refine awp_slot 18 _ (.p (.d (.sl 1 (verZ a').length (rowZ (verZ a'))))) rfl (le_gr hlen hrw) ?_
            (repeat (first | refine j0 ?_ | refine q7 rfl ?_ | refine awp_no rfl ?_ | refine j4 ?_ | (refine j5 fun K hK => ?_) | (refine q6 (by kernel_rfl) (by kernel_rfl) fun K hK => ?_) | ((first | refine z1 ?_ | refine z2 ?_ | ((first | refine x6 (hK _ ?_) | refine j6 (hK _ _ (z6 (by kernel_rfl)) ?_)); clear hK K)); (first | show AWP _ _ _ _ _ | ((try simp only [q4]); first | show loopQ _ _ _ _ _ _ | show cutQ _ _ _ _ | show AWP _ _ _ _ _))) | ((first | refine z7 [45, 14, 17, 116] rfl ?_ | refine x7 [45, 14, 17, 116] rfl ?_); simp (maxSteps := 2000000) (disch := omega) only [go_sem, seval, agC, moC, q5]; (repeat (first | refine ⟨by omega, ?_⟩ | refine ⟨True.intro, ?_⟩)))))
            (refine walkS_cons _ (step_mcall [(1000, 601), (1001, 602)] rfl rfl rfl rfl rfl rfl (t1) rfl (namesOK_of (by repeat (first | exact trivial | refine ⟨rfl, ?_⟩)) (by kernel_rfl))) ?_); simp (maxSteps := 2000000) (disch := omega) only [go_sem, seval, agC, moC, q5]
            (repeat (first | refine j0 ?_ | refine q7 rfl ?_ | refine awp_no rfl ?_ | refine j4 ?_ | (refine j5 fun K hK => ?_) | (refine q6 (by kernel_rfl) (by kernel_rfl) fun K hK => ?_) | ((first | refine z1 ?_ | refine z2 ?_ | ((first | refine x6 (hK _ ?_) | refine j6 (hK _ _ (z6 (by kernel_rfl)) ?_)); clear hK K)); (first | show AWP _ _ _ _ _ | ((try simp only [q4]); first | show loopQ _ _ _ _ _ _ | show cutQ _ _ _ _ | show AWP _ _ _ _ _))) | ((first | refine z7 [45, 14, 17, 116] rfl ?_ | refine x7 [45, 14, 17, 116] rfl ?_); simp (maxSteps := 2000000) (disch := omega) only [go_sem, seval, agC, moC, q5]; (repeat (first | refine ⟨by omega, ?_⟩ | refine ⟨True.intro, ?_⟩)))))
            (refine walkS_cons _ (step_mcall [(1000, 45)] rfl rfl rfl rfl rfl rfl (pc) rfl (namesOK_of (by repeat (first | exact trivial | refine ⟨rfl, ?_⟩)) (by kernel_rfl))) ?_); simp (maxSteps := 2000000) (disch := omega) only [go_sem, seval, agC, moC, q5]
            (repeat (first | refine j0 ?_ | refine q7 rfl ?_ | refine awp_no rfl ?_ | refine j4 ?_ | (refine j5 fun K hK => ?_) | (refine q6 (by kernel_rfl) (by kernel_rfl) fun K hK => ?_) | ((first | refine z1 ?_ | refine z2 ?_ | ((first | refine x6 (hK _ ?_) | refine j6 (hK _ _ (z6 (by kernel_rfl)) ?_)); clear hK K)); (first | show AWP _ _ _ _ _ | ((try simp only [q4]); first | show loopQ _ _ _ _ _ _ | show cutQ _ _ _ _ | show AWP _ _ _ _ _))) | ((first | refine z7 [45, 14, 17, 116] rfl ?_ | refine x7 [45, 14, 17, 116] rfl ?_); simp (maxSteps := 2000000) (disch := omega) only [go_sem, seval, agC, moC, q5]; (repeat (first | refine ⟨by omega, ?_⟩ | refine ⟨True.intro, ?_⟩)))))
            (refine walkD_rcall [(1000, 601), (1001, 602)] [601, 602] rfl rfl rfl rfl rfl rfl (c1) (by repeat (first | exact trivial | refine ⟨rfl, rfl, rfl, ?_⟩)) ?_); simp (maxSteps := 2000000) (disch := omega) only [go_sem, seval, agC, moC, q5]
            (repeat (first | refine j0 ?_ | refine q7 rfl ?_ | refine awp_no rfl ?_ | refine j4 ?_ | (refine j5 fun K hK => ?_) | (refine q6 (by kernel_rfl) (by kernel_rfl) fun K hK => ?_) | ((first | refine z1 ?_ | refine z2 ?_ | ((first | refine x6 (hK _ ?_) | refine j6 (hK _ _ (z6 (by kernel_rfl)) ?_)); clear hK K)); (first | show AWP _ _ _ _ _ | ((try simp only [q4]); first | show loopQ _ _ _ _ _ _ | show cutQ _ _ _ _ | show AWP _ _ _ _ _))) | ((first | refine z7 [45, 14, 17, 116] rfl ?_ | refine x7 [45, 14, 17, 116] rfl ?_); simp (maxSteps := 2000000) (disch := omega) only [go_sem, seval, agC, moC, q5]; (repeat (first | refine ⟨by omega, ?_⟩ | refine ⟨True.intro, ?_⟩)))))
            (refine walkD_rcall [(1000, 601), (1001, 602)] [601, 602] rfl rfl rfl rfl rfl rfl (v1) (by repeat (first | exact trivial | refine ⟨rfl, rfl, rfl, ?_⟩)) ?_); simp (maxSteps := 2000000) (disch := omega) only [go_sem, seval, agC, moC, q5]
            (repeat (first | refine j0 ?_ | refine q7 rfl ?_ | refine awp_no rfl ?_ | refine j4 ?_ | (refine j5 fun K hK => ?_) | (refine q6 (by kernel_rfl) (by kernel_rfl) fun K hK => ?_) | ((first | refine z1 ?_ | refine z2 ?_ | ((first | refine x6 (hK _ ?_) | refine j6 (hK _ _ (z6 (by kernel_rfl)) ?_)); clear hK K)); (first | show AWP _ _ _ _ _ | ((try simp only [q4]); first | show loopQ _ _ _ _ _ _ | show cutQ _ _ _ _ | show AWP _ _ _ _ _))) | ((first | refine walkS_call3 rfl rfl rfl ?_ | refine walkD_call3 rfl rfl rfl ?_); simp (maxSteps := 2000000) (disch := omega) only [go_sem, seval, agC, moC, q5]; (first | refine ⟨_, i1, ?_⟩)) | ((first | refine z7 [45, 14, 17, 116] rfl ?_ | refine x7 [45, 14, 17, 116] rfl ?_); simp (maxSteps := 2000000) (disch := omega) only [go_sem, seval, agC, moC, q5]; (repeat (first | refine ⟨by omega, ?_⟩ | refine ⟨True.intro, ?_⟩)))))
            refine ⟨⟨i + 1, by omega, by omega⟩, by simp only []; omega, ?_⟩
            refine Weak.list ?_ ?_; (all_goals simp (disch := omega) only [AllF, AllL, le_self, le_top, lle_self, exists_eq_left', Option.some.injEq, go_sem, seval, agC, moC, hsucc, msucc]); (all_goals (repeat' (with_reducible apply And.intro))); (all_goals try (first | exact le_eq rfl | (refine le_int ?_; omega) | (refine le_eq ?_; simp; done)))
    · (repeat (first | refine j0 ?_ | refine q7 rfl ?_ | refine awp_no rfl ?_ | refine j4 ?_ | (refine j5 fun K hK => ?_) | (refine q6 (by kernel_rfl) (by kernel_rfl) fun K hK => ?_) | ((first | refine z1 ?_ | refine z2 ?_ | ((first | refine x6 (hK _ ?_) | refine j6 (hK _ _ (z6 (by kernel_rfl)) ?_)); clear hK K)); (first | show AWP _ _ _ _ _ | ((try simp only [q4]); first | show loopQ _ _ _ _ _ _ | show cutQ _ _ _ _ | show AWP _ _ _ _ _))) | ((first | refine z7 [45, 14, 17, 116] rfl ?_ | refine x7 [45, 14, 17, 116] rfl ?_); simp (maxSteps := 2000000) (disch := omega) only [go_sem, seval, agC, moC]; (repeat (first | refine ⟨by omega, ?_⟩ | refine ⟨True.intro, ?_⟩)))))
      refine awp_ret ⟨_, ?_, rfl⟩; rw [Try.results4]; simp (disch := omega) only [ResVars, ResVar, ptrLoc, go_sem, seval, agC, moC]
  · (repeat (first | refine j0 ?_ | refine q7 rfl ?_ | refine awp_no rfl ?_ | refine j4 ?_ | (refine j5 fun K hK => ?_) | (refine q6 (by kernel_rfl) (by kernel_rfl) fun K hK => ?_) | ((first | refine z1 ?_ | refine z2 ?_ | ((first | refine x6 (hK _ ?_) | refine j6 (hK _ _ (z6 (by kernel_rfl)) ?_)); clear hK K)); (first | show AWP _ _ _ _ _ | ((try simp only [q4]); first | show loopQ _ _ _ _ _ _ | show cutQ _ _ _ _ | show AWP _ _ _ _ _))) | ((first | refine z7 [45, 14, 17, 116] rfl ?_ | refine x7 [45, 14, 17, 116] rfl ?_); simp (maxSteps := 2000000) (disch := omega) only [go_sem, seval, agC, moC]; (repeat (first | refine ⟨by omega, ?_⟩ | refine ⟨True.intro, ?_⟩)))))
    refine awp_ret ⟨_, ?_, rfl⟩; rw [Try.results4]; simp (disch := omega) only [ResVars, ResVar, ptrLoc, go_sem, seval, agC, moC]
end Go.Proofs.Ytjfammnjpeeahaa
