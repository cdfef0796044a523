/- Part 5 of a proof: lemmas beneath the theorem that the last text bears. Conditions: none. -/
import Derived.Test.YtbiildleaelodaaKWalkStepsd
set_option linter.unusedSimpArgs false
set_option linter.unusedVariables false
namespace Go.Proofs.Ytbiildleaelodaa
open Go.Proofs.Ytbiildleaelodaa.AL
def portAt (t : List (List Port)) (n k : Nat) : Port := (t.getD n []).getD k p0
set_option maxRecDepth 100000 in
set_option maxHeartbeats 4000000 in
theorem Other_c (t : List (List Port)) (n k : Nat) (ht : small t) (hs : soundT t = 0) (hn : n < t.length) (hk : k < (t.getD n []).length) (hl : (portAt t n k).kd = 2) :
    ACalls Try.prog 79 [.agg (topoD t), .agg [.v (.int .i64 (n : Int)), .v (.int .i64 (k : Int))]] (· = [.agg [.v (.int .i64 (portAt t n k).pe), .v (.int .i64 (portAt t n k).at')], .d (.v (.bool true))]) := by
  have k1 := SoundT_c t ht
  rw [hs] at k1
  have r1 := rowPP_at t n
  have hb := small_at ht n
  unfold portAt at *
  generalize t.getD n [] = l at *
  have r2 : rowP l k = portD (l.getD k p0) := rfl
  generalize l.getD k p0 = p at *
  have q1 : (p.kd != 2) = false := ine_ff hl
  have hl1 := ht.1
  unfold topoD at *
  refine j10 Try.func79 rfl (by decide +kernel) (by rw [Try.ntmps79]; simp) ?_; rw [Try.ntmps79]; simp only [frOf]
  (repeat (first | refine j0 ?_ | refine q7 rfl ?_ | refine z7 rfl ?_ | refine j6 ?_ | (refine j4 fun K hK => ?_) | (refine x5 (by kernel_rfl) (by kernel_rfl) fun K hK => ?_) | ((first | refine z6 ?_ | refine x6 ?_ | ((first | refine z2 (hK _ ?_) | refine q6 (hK _ _ (j5 (by kernel_rfl)) ?_)); clear hK K)); (first | show AWP _ _ _ _ _ | ((try simp only [q8]); first | show loopQ _ _ _ _ _ _ | show cutQ _ _ _ _ | show AWP _ _ _ _ _))) | ((first | refine q10 rfl rfl rfl ?_ | refine z10 rfl rfl rfl ?_); simp (maxSteps := 2000000) (disch := omega) only [go_sem, seval, hd, cb, ruleD, portD, r1, r2, q1]; (first | refine ⟨_, k1, ?_⟩)) | ((first | refine x7 [] rfl ?_ | refine j7 [] rfl ?_); simp (maxSteps := 2000000) (disch := omega) only [go_sem, seval, hd, cb, ruleD, portD, r1, r2, q1]; (repeat (first | refine ⟨by omega, ?_⟩ | refine ⟨True.intro, ?_⟩)))))
  refine x8 ⟨_, ?_, rfl⟩; rw [Try.results79]; simp (disch := omega) only [ResVars, ResVar, ptrLoc, go_sem, seval, hd, cb, ruleD, portD, r1, r2, q1]
  first | done | rfl | exact ⟨rfl, rfl⟩
structure Hop where
  sw : Int
  tb : Int
  ru : Int
  h : BitVec 128
def hopD (x : Hop) : List Dat := [.v (.int .i64 x.sw), .v (.int .i64 x.tb), .v (.int .i64 x.ru), .v (.int .u64 (hi x.h)), .v (.int .u64 (lo x.h))]
def hop0 : Hop := ⟨0, 0, 0, 0⟩
def rowH (l : List Hop) : Nat → List Dat := fun i => hopD (l.getD i hop0)
theorem rowH_at (l : List Hop) (i : Nat) : rowH l i = hopD (l.getD i hop0) := rfl
theorem rowH_put (l : List Hop) (x : Hop) (i : Nat) (hlt : i < l.length + 1) : catF l.length (rowH l) (fun i => [hopD x].getD i []) i = rowH (l ++ [x]) i :=
  rowO_put hopD hop0 l x _ rfl i hlt
def wkC (c : Config) (n t : Int) (h : BitVec 128) (en an ap : Int) (hops : List Hop) : LV :=
  .cells 115 [.p (.d (.sl 1 c.tp.length (rowPP c.tp))), .p (.d (.v (.int .i64 c.po.tn))), .p (.d (.sl 2 c.po.peers.length (rowA c.po.peers))), .p (.d (.sl 3 c.po.ways.length (rowW c.po.ways))), .p (.d (.sl 1 c.tb.length (rowTT c.tb))),
    .p (.d (.v (.int .i64 n))), .p (.d (.v (.int .i64 t))), .p (.d (.v (.int .u64 (hi h)))), .p (.d (.v (.int .u64 (lo h)))), .p (.d (.v (.int .i64 en))), .p (.d (.v (.int .i64 an))), .p (.d (.v (.int .i64 ap))), .gr 1001 hops.length 5 hops.length (rowH hops)]
def wkL (c : Config) (n t : Int) (h : BitVec 128) (en an ap : Int) (hops : List Hop) : List (Nat × LV) := [(1000, wkC c n t h en an ap hops), (1001, .grow 92 5 hops.length hops.length)]
theorem wk_fin {A : ASt} {Q : Exit → ASt → Prop} {b : Bool} {c : Config} {n t : Int} {h : BitVec 128} {en an ap : Int} {hops : List Hop} {x : Hop} (h1 : AL.look A.fr 2 = some (.p (.d (.v (.bool b)))))
    (h2 : AL.look A.locs 1000 = some (.cells 115 [.p (.d (.sl 1 c.tp.length (rowPP c.tp))), .p (.d (.v (.int .i64 c.po.tn))), .p (.d (.sl 2 c.po.peers.length (rowA c.po.peers))), .p (.d (.sl 3 c.po.ways.length (rowW c.po.ways))), .p (.d (.sl 1 c.tb.length (rowTT c.tb))),
    .p (.d (.v (.int .i64 n))), .p (.d (.v (.int .i64 t))), .p (.d (.v (.int .u64 (hi h)))), .p (.d (.v (.int .u64 (lo h)))), .p (.d (.v (.int .i64 en))), .p (.d (.v (.int .i64 an))), .p (.d (.v (.int .i64 ap))), .gr 1001 (hops.length + 1) 5 (hops.length + 1) (catF hops.length (rowH hops) fun i => [hopD x].getD i [])]))
    (h3 : AL.look A.locs 1001 = some (.grow 92 5 (hops.length + 1) (hops.length + 1))) :
    (∀ A, retM Try.prog Try.f56 (fun rs M => rs = [.p (.d (.v (.bool b)))] ∧ M = wkL c n t h en an ap (hops ++ [x])) .ret A → Q .ret A) → AWP Try.prog 143 .ret Q A := by
  intro hQ
  have hl : (hops ++ [x]).length = hops.length + 1 := by simp
  refine awp_weak (A' := ⟨[(2, .p (.d (.v (.bool b))))], wkL c n t h en an ap (hops ++ [x])⟩) (Weak.list ⟨⟨_, h1, Le.refl _⟩, trivial⟩ ⟨⟨_, h2, ?_⟩, ⟨_, h3, lle_grow hl.symm hl.symm⟩, trivial⟩) (x8 (hQ _ (retM_of [_] (wkL c n t h en an ap (hops ++ [x])) ⟨rfl, trivial⟩ (fun p hp => ?_) ⟨rfl, rfl⟩)))
  · refine lle_cellsD ?_
    iterate 12 (refine LesD.cons (Le.refl _) ?_)
    exact .cons (le_grgr hl.symm hl.symm fun i hi => rowH_put hops x i hi) .nil
  · unfold wkL at hp ⊢
    simp only [List.mem_cons, List.not_mem_nil, or_false] at hp
    rcases hp with rfl | rfl <;> rfl
set_option maxRecDepth 100000 in
set_option maxHeartbeats 8000000 in
theorem step_none (c : Config) (n t : Nat) (h : BitVec 128) (hops : List Hop) (hc : c.small) (hn : n < c.tb.length) (ht : t < (c.tb.getD n []).length) (hk : hops.length ≤ 100000) (hf : findR ((c.tb.getD n []).getD t []) h = none) :
    MCalls Try.prog 56 [.loc 1000 0] (wkL c n t h 0 0 0 hops) (fun rs M => rs = [.p (.d (.v (.bool false)))] ∧ M = wkL c n t h 3 0 0 (hops ++ [⟨n, t, -1, h⟩])) := by
  have r1 := rowTT_at c.tb n
  have hs := hc.tb
  have ko := One_c (c.tb.getD n []) (t : Int) h (hc.at n)
  have e1 : oneR (c.tb.getD n []) (t : Int) h = none := by unfold oneR; rw [if_neg (by omega)]; exact hf
  have e2 : oneH (c.tb.getD n []) (t : Int) h = 0 := by unfold oneH; rw [e1]
  rw [e1, e2] at ko
  generalize c.tb.getD n [] = ts at *
  simp only [Option.getD_none, Option.isSome_none] at ko
  have fin := @wk_fin
  unfold wkL wkC at *
  refine mcalls_of_awp Try.func56 rfl (by decide +kernel) (by rw [Try.ntmps56]; simp) (fun l X h => by simp only [AL.look] at h; (repeat' split at h); all_goals first | omega | cases h) ?_; rw [Try.ntmps56]; simp only [frA]
  (repeat (first | refine j0 ?_ | refine q7 rfl ?_ | refine z7 rfl ?_ | refine j6 ?_ | (refine j4 fun K hK => ?_) | (refine x5 (by kernel_rfl) (by kernel_rfl) fun K hK => ?_) | ((first | refine z6 ?_ | refine x6 ?_ | ((first | refine z2 (hK _ ?_) | refine q6 (hK _ _ (j5 (by kernel_rfl)) ?_)); clear hK K)); (first | show AWP _ _ _ _ _ | ((try simp only [q8]); first | show loopQ _ _ _ _ _ _ | show cutQ _ _ _ _ | show AWP _ _ _ _ _))) | ((first | refine q10 rfl rfl rfl ?_ | refine z10 rfl rfl rfl ?_); simp (maxSteps := 2000000) (disch := omega) only [go_sem, seval, hd, cb, ruleD, portD, r1]; (first | refine ⟨_, ko, ?_⟩)) | ((first | refine x7 [6, 8, 9, 10] rfl ?_ | refine j7 [6, 8, 9, 10] rfl ?_); simp (maxSteps := 2000000) (disch := omega) only [go_sem, seval, hd, cb, ruleD, portD, r1]; (repeat (first | refine ⟨by omega, ?_⟩ | refine ⟨True.intro, ?_⟩)))))
  exact fin (b := false) (c := c) (n := n) (t := t) (h := h) (en := 3) (an := 0) (ap := 0) (hops := hops) (x := ⟨n, t, -1, h⟩) rfl rfl rfl fun _ h => h
def stepN (c : Config) (n : Nat) (x : Rule) : Int := if x.kd = 3 then (portAt c.tp n x.pt.toNat).pe else n
def stepT (t : Nat) (x : Rule) : Int := if x.kd = 3 then 0 else if x.kd = 4 then x.tb else t
def stepE (x : Rule) : Int := if x.kd = 4 then 0 else if x.kd = 3 then 0 else if x.kd = 2 then 2 else 1
def stepA (n : Nat) (x : Rule) : Int × Int := if x.kd = 2 then ((n : Int), x.pt) else (0, 0)
set_option maxRecDepth 100000 in
set_option maxHeartbeats 8000000 in
theorem step_some (c : Config) (n t a : Nat) (h : BitVec 128) (hops : List Hop) (x : Rule) (hc : c.small) (hts : soundT c.tp = 0) (hn : n < c.tb.length) (hnp : n < c.tp.length) (ht : t < (c.tb.getD n []).length) (hk : hops.length ≤ 100000)
    (hf : findR ((c.tb.getD n []).getD t []) h = some a) (hx : ((c.tb.getD n []).getD t []).getD a r0 = x) (hp : x.kd = 3 → 0 ≤ x.pt ∧ x.pt.toNat < (c.tp.getD n []).length ∧ (portAt c.tp n x.pt.toNat).kd = 2) :
    MCalls Try.prog 56 [.loc 1000 0] (wkL c n t h 0 0 0 hops) (fun rs M => rs = [.p (.d (.v (.bool (stepE x == 0))))] ∧ M = wkL c (stepN c n x) (stepT t x) (setH h x.st) (stepE x) (stepA n x).1 (stepA n x).2 (hops ++ [⟨n, t, a, h⟩])) := by
  have r1 := rowTT_at c.tb n
  have hs := hc.tb
  have hsm := hc.at n
  have ko := One_c (c.tb.getD n []) (t : Int) h hsm
  have e1 : oneR (c.tb.getD n []) (t : Int) h = some a := by unfold oneR; rw [if_neg (by omega)]; exact hf
  have e2 : oneH (c.tb.getD n []) (t : Int) h = setH h x.st := by unfold oneH; rw [e1]; simp only [Int.toNat_natCast]; rw [hx]
  rw [e1, e2] at ko
  have hal := findR_lt hf
  generalize c.tb.getD n [] = ts at *
  have r2 := rowRR_at ts t
  have hb := smallR_at hsm t
  generalize ts.getD t [] = l at *
  have r3 := rowR_at l a
  rw [hx] at r3
  simp only [Option.getD_some, Option.isSome_some] at ko
  have fin := @wk_fin
  generalize setH h x.st = h' at *
  by_cases k4 : x.kd = 4
  · have q : (x.kd == 4) = true := ieq_tt k4
    have s1 : stepN c n x = n := if_neg (by omega)
    have s2 : stepT t x = x.tb := by unfold stepT; rw [if_neg (by omega), if_pos k4]
    have s3 : stepE x = 0 := if_pos k4
    have s4 : stepA n x = (0, 0) := if_neg (by omega)
    rw [s1, s2, s3, s4]
    unfold wkL wkC at *
    refine mcalls_of_awp Try.func56 rfl (by decide +kernel) (by rw [Try.ntmps56]; simp) (fun l X h => by simp only [AL.look] at h; (repeat' split at h); all_goals first | omega | cases h) ?_; rw [Try.ntmps56]; simp only [frA]
    (repeat (first | refine j0 ?_ | refine q7 rfl ?_ | refine z7 rfl ?_ | refine j6 ?_ | (refine j4 fun K hK => ?_) | (refine x5 (by kernel_rfl) (by kernel_rfl) fun K hK => ?_) | ((first | refine z6 ?_ | refine x6 ?_ | ((first | refine z2 (hK _ ?_) | refine q6 (hK _ _ (j5 (by kernel_rfl)) ?_)); clear hK K)); (first | show AWP _ _ _ _ _ | ((try simp only [q8]); first | show loopQ _ _ _ _ _ _ | show cutQ _ _ _ _ | show AWP _ _ _ _ _))) | ((first | refine q10 rfl rfl rfl ?_ | refine z10 rfl rfl rfl ?_); simp (maxSteps := 2000000) (disch := omega) only [go_sem, seval, hd, cb, ruleD, portD, r1, r2, r3, q]; (first | refine ⟨_, ko, ?_⟩)) | ((first | refine x7 [6, 8, 9, 10] rfl ?_ | refine j7 [6, 8, 9, 10] rfl ?_); simp (maxSteps := 2000000) (disch := omega) only [go_sem, seval, hd, cb, ruleD, portD, r1, r2, r3, q]; (repeat (first | refine ⟨by omega, ?_⟩ | refine ⟨True.intro, ?_⟩)))))
    exact fin (x := ⟨n, t, a, h⟩) rfl rfl rfl fun _ h => h
  · have q4 : (x.kd == 4) = false := ieq_ff k4
    by_cases k3 : x.kd = 3
    · have q : (x.kd == 3) = true := ieq_tt k3
      obtain ⟨p1, p2, p3⟩ := hp k3
      have s1 : stepN c n x = (portAt c.tp n x.pt.toNat).pe := if_pos k3
      have s2 : stepT t x = 0 := if_pos k3
      have s3 : stepE x = 0 := by unfold stepE; rw [if_neg k4, if_pos k3]
      have s4 : stepA n x = (0, 0) := if_neg (by omega)
      have kt := Other_c c.tp n x.pt.toNat hc.tp hts hnp p2 p3
      rw [Int.toNat_of_nonneg p1] at kt
      rw [s1, s2, s3, s4]
      unfold topoD at kt
      unfold wkL wkC at *
      refine mcalls_of_awp Try.func56 rfl (by decide +kernel) (by rw [Try.ntmps56]; simp) (fun l X h => by simp only [AL.look] at h; (repeat' split at h); all_goals first | omega | cases h) ?_; rw [Try.ntmps56]; simp only [frA]
      (repeat (first | refine j0 ?_ | refine q7 rfl ?_ | refine z7 rfl ?_ | refine j6 ?_ | (refine j4 fun K hK => ?_) | (refine x5 (by kernel_rfl) (by kernel_rfl) fun K hK => ?_) | ((first | refine z6 ?_ | refine x6 ?_ | ((first | refine z2 (hK _ ?_) | refine q6 (hK _ _ (j5 (by kernel_rfl)) ?_)); clear hK K)); (first | show AWP _ _ _ _ _ | ((try simp only [q8]); first | show loopQ _ _ _ _ _ _ | show cutQ _ _ _ _ | show AWP _ _ _ _ _))) | ((first | refine q10 rfl rfl rfl ?_ | refine z10 rfl rfl rfl ?_); simp (maxSteps := 2000000) (disch := omega) only [go_sem, seval, hd, cb, ruleD, portD, r1, r2, r3, q4, q]; (first | refine ⟨_, ko, ?_⟩ | refine ⟨_, kt, ?_⟩)) | ((first | refine x7 [6, 8, 9, 10] rfl ?_ | refine j7 [6, 8, 9, 10] rfl ?_); simp (maxSteps := 2000000) (disch := omega) only [go_sem, seval, hd, cb, ruleD, portD, r1, r2, r3, q4, q]; (repeat (first | refine ⟨by omega, ?_⟩ | refine ⟨True.intro, ?_⟩)))))
      exact fin (x := ⟨n, t, a, h⟩) rfl rfl rfl fun _ h => h
    · have q3 : (x.kd == 3) = false := ieq_ff k3
      have s1 : stepN c n x = n := if_neg k3
      have s2 : stepT t x = t := by unfold stepT; rw [if_neg k3, if_neg k4]
      by_cases k2 : x.kd = 2
      · have q : (x.kd == 2) = true := ieq_tt k2
        have s3 : stepE x = 2 := by unfold stepE; rw [if_neg k4, if_neg k3, if_pos k2]
        have s4 : stepA n x = ((n : Int), x.pt) := if_pos k2
        rw [s1, s2, s3, s4]
        unfold wkL wkC at *
        refine mcalls_of_awp Try.func56 rfl (by decide +kernel) (by rw [Try.ntmps56]; simp) (fun l X h => by simp only [AL.look] at h; (repeat' split at h); all_goals first | omega | cases h) ?_; rw [Try.ntmps56]; simp only [frA]
        (repeat (first | refine j0 ?_ | refine q7 rfl ?_ | refine z7 rfl ?_ | refine j6 ?_ | (refine j4 fun K hK => ?_) | (refine x5 (by kernel_rfl) (by kernel_rfl) fun K hK => ?_) | ((first | refine z6 ?_ | refine x6 ?_ | ((first | refine z2 (hK _ ?_) | refine q6 (hK _ _ (j5 (by kernel_rfl)) ?_)); clear hK K)); (first | show AWP _ _ _ _ _ | ((try simp only [q8]); first | show loopQ _ _ _ _ _ _ | show cutQ _ _ _ _ | show AWP _ _ _ _ _))) | ((first | refine q10 rfl rfl rfl ?_ | refine z10 rfl rfl rfl ?_); simp (maxSteps := 2000000) (disch := omega) only [go_sem, seval, hd, cb, ruleD, portD, r1, r2, r3, q4, q3, q]; (first | refine ⟨_, ko, ?_⟩)) | ((first | refine x7 [6, 8, 9, 10] rfl ?_ | refine j7 [6, 8, 9, 10] rfl ?_); simp (maxSteps := 2000000) (disch := omega) only [go_sem, seval, hd, cb, ruleD, portD, r1, r2, r3, q4, q3, q]; (repeat (first | refine ⟨by omega, ?_⟩ | refine ⟨True.intro, ?_⟩)))))
        exact fin (x := ⟨n, t, a, h⟩) rfl rfl rfl fun _ h => h
      · have q : (x.kd == 2) = false := ieq_ff k2
        have s3 : stepE x = 1 := by unfold stepE; rw [if_neg k4, if_neg k3, if_neg k2]
        have s4 : stepA n x = (0, 0) := if_neg k2
        rw [s1, s2, s3, s4]
        unfold wkL wkC at *
        refine mcalls_of_awp Try.func56 rfl (by decide +kernel) (by rw [Try.ntmps56]; simp) (fun l X h => by simp only [AL.look] at h; (repeat' split at h); all_goals first | omega | cases h) ?_; rw [Try.ntmps56]; simp only [frA]
        (repeat (first | refine j0 ?_ | refine q7 rfl ?_ | refine z7 rfl ?_ | refine j6 ?_ | (refine j4 fun K hK => ?_) | (refine x5 (by kernel_rfl) (by kernel_rfl) fun K hK => ?_) | ((first | refine z6 ?_ | refine x6 ?_ | ((first | refine z2 (hK _ ?_) | refine q6 (hK _ _ (j5 (by kernel_rfl)) ?_)); clear hK K)); (first | show AWP _ _ _ _ _ | ((try simp only [q8]); first | show loopQ _ _ _ _ _ _ | show cutQ _ _ _ _ | show AWP _ _ _ _ _))) | ((first | refine q10 rfl rfl rfl ?_ | refine z10 rfl rfl rfl ?_); simp (maxSteps := 2000000) (disch := omega) only [go_sem, seval, hd, cb, ruleD, portD, r1, r2, r3, q4, q3, q]; (first | refine ⟨_, ko, ?_⟩)) | ((first | refine x7 [6, 8, 9, 10] rfl ?_ | refine j7 [6, 8, 9, 10] rfl ?_); simp (maxSteps := 2000000) (disch := omega) only [go_sem, seval, hd, cb, ruleD, portD, r1, r2, r3, q4, q3, q]; (repeat (first | refine ⟨by omega, ?_⟩ | refine ⟨True.intro, ?_⟩)))))
        exact fin (x := ⟨n, t, a, h⟩) rfl rfl rfl fun _ h => h
end Go.Proofs.Ytbiildleaelodaa
set_option linter.unusedSimpArgs false
set_option linter.unusedVariables false
namespace Go.Proofs.Ytbiildleaelodaa
open Go.Proofs.Ytbiildleaelodaa.AL
structure RunR where
  en : Int
  an : Int
  ap : Int
  hops : List Hop
def tabW (c : Config) (n t : Nat) : List Rule := (c.tb.getD n []).getD t []
def goW (c : Config) : Nat → Nat → Nat → BitVec 128 → List Hop → RunR
  | 0, _, _, _, hops => ⟨4, 0, 0, hops⟩
  | f + 1, n, t, h, hops => match findR (tabW c n t) h with
    | none => ⟨3, 0, 0, hops ++ [⟨n, t, -1, h⟩]⟩
    | some a => if stepE ((tabW c n t).getD a r0) = 0
      then goW c f (stepN c n ((tabW c n t).getD a r0)).toNat (stepT t ((tabW c n t).getD a r0)).toNat (setH h ((tabW c n t).getD a r0).st) (hops ++ [⟨n, t, a, h⟩])
      else ⟨stepE ((tabW c n t).getD a r0), (stepA n ((tabW c n t).getD a r0)).1, (stepA n ((tabW c n t).getD a r0)).2, hops ++ [⟨n, t, a, h⟩]⟩
structure InW (c : Config) (n t : Nat) : Prop where
  n1 : n < c.tb.length
  n2 : n < c.tp.length
  t1 : t < (c.tb.getD n []).length
theorem allF_at {f : Nat → Bool} {n i : Nat} (h : allF f n 0 = true) (hi : i < n) : f i = true := (allF_iff.1 h) i (Nat.zero_le _) hi
theorem sound_parts {c : Config} (h : soundC c = 0) : soundT c.tp = 0 ∧ c.tb.length = c.tp.length ∧ ∀ n, n < c.tb.length → soundTab (c.tb.getD n []) (c.tp.getD n []) = 0 := by
  unfold soundC at h
  split at h
  · rename_i h1; exact absurd h h1
  · rename_i h1
    split at h
    · rename_i h2; exact absurd h h2
    · split at h
      · cases h
      · rename_i h3
        refine ⟨by omega, by omega, fun n hn => ?_⟩
        have go : ∀ (f : Nat → Int) (m i : Nat), errF f m i = 0 → ∀ n, i ≤ n → n < i + m → f n = 0 := by
          intro f m
          induction m with
          | zero => intro i _ n h1 h2; omega
          | succ m ih =>
            intro i he n h1 h2
            unfold errF at he
            split at he
            · rename_i h0
              by_cases e : n = i
              · subst e; first | exact h0 | omega
              · exact ih (i + 1) he n (by omega) (by omega)
            · rename_i h0
              first | exact absurd he h0 | omega
        exact go (tabE c) c.tb.length 0 h n (Nat.zero_le _) (by omega)
theorem soundTab_parts {ts : List (List Rule)} {ps : List Port} (h : soundTab ts ps = 0) : 0 < ts.length ∧ ts.length ≤ 3 ∧ ∀ i k, i < ts.length → k < (ts.getD i []).length → soundR ((ts.getD i []).getD k r0) i ps = true ∧ ((ts.getD i []).getD k r0).tb < ts.length := by
  unfold soundTab at h
  split at h
  · cases h
  · rename_i h1
    split at h
    · cases h
    · split at h
      · rename_i h2
        refine ⟨by omega, by omega, fun i k hi hk => ?_⟩
        have := allF_at h2 hi
        unfold tabOk at this
        have := allF_at this hk
        unfold ruleOk at this
        rw [Bool.and_eq_true, decide_eq_true_iff] at this
        exact this
      · cases h
theorem portT_parts {t : List (List Port)} {n k : Nat} (h : portT t n k = true) (hk : (portAt t n k).kd = 2) : 0 ≤ (portAt t n k).pe ∧ (portAt t n k).pe < t.length := by
  unfold portT at h
  unfold portAt at *
  generalize (t.getD n []).getD k p0 = p at *
  simp only [hk] at h
  simp at h
  omega
theorem does_parts {x : Rule} {t : Nat} {ps : List Port} (h : soundR x t ps = true) : (x.kd = 1 ∨ x.kd = 2 ∨ x.kd = 3 ∨ x.kd = 4) ∧ (x.kd = 3 → 0 ≤ x.pt ∧ x.pt.toNat < ps.length ∧ (ps.getD x.pt.toNat p0).kd = 2) ∧ (x.kd = 4 → (t : Int) < x.tb) := by
  unfold soundR at h
  rw [Bool.and_eq_true] at h
  have h := h.2
  unfold doesR portR at h
  split at h
  · exact ⟨by omega, by omega, by omega⟩
  · split at h
    · exact ⟨by omega, by omega, by omega⟩
    · split at h
      · rename_i h3
        simp only [Bool.and_eq_true, decide_eq_true_iff] at h
        refine ⟨by omega, fun _ => ⟨by omega, by omega, eq_of_beq h.2⟩, by omega⟩
      · split at h
        · rename_i h4
          simp only [Bool.and_eq_true, decide_eq_true_iff] at h
          exact ⟨by omega, by omega, fun _ => h.1.2⟩
        · cases h
theorem step_ends {x : Rule} (h : stepE x = 0) : x.kd = 3 ∨ x.kd = 4 := by
  unfold stepE at h
  repeat (split at h)
  all_goals first | omega | exact absurd h (by decide)
theorem inW_rule {c : Config} (hs : soundC c = 0) {n t a : Nat} {h : BitVec 128} (hw : InW c n t) (hf : findR (tabW c n t) h = some a) : soundR ((tabW c n t).getD a r0) t (c.tp.getD n []) = true ∧ ((tabW c n t).getD a r0).tb < (c.tb.getD n []).length := by
  have hal := findR_lt hf
  exact (soundTab_parts ((sound_parts hs).2.2 n hw.n1)).2.2 t a hw.t1 hal
theorem inW_port {c : Config} (hs : soundC c = 0) {n t a : Nat} {h : BitVec 128} (hw : InW c n t) (hf : findR (tabW c n t) h = some a) (h3 : ((tabW c n t).getD a r0).kd = 3) :
    0 ≤ ((tabW c n t).getD a r0).pt ∧ ((tabW c n t).getD a r0).pt.toNat < (c.tp.getD n []).length ∧ (portAt c.tp n ((tabW c n t).getD a r0).pt.toNat).kd = 2 :=
  (does_parts (inW_rule hs hw hf).1).2.1 h3
theorem inW_next {c : Config} (hs : soundC c = 0) {n t a : Nat} {h : BitVec 128} (hw : InW c n t) (hf : findR (tabW c n t) h = some a) (he : stepE ((tabW c n t).getD a r0) = 0) :
    0 ≤ stepN c n ((tabW c n t).getD a r0) ∧ 0 ≤ stepT t ((tabW c n t).getD a r0) ∧ InW c (stepN c n ((tabW c n t).getD a r0)).toNat (stepT t ((tabW c n t).getD a r0)).toNat := by
  obtain ⟨r1, r2⟩ := inW_rule hs hw hf
  have r3 := inW_port hs hw hf
  obtain ⟨p1, p2, p3⟩ := sound_parts hs
  obtain ⟨d1, d2, d3⟩ := does_parts r1
  generalize (tabW c n t).getD a r0 = x at *
  have hn1 := hw.n1
  have hn2 := hw.n2
  have ht1 := hw.t1
  rcases step_ends he with h3 | h4
  · have s1 : stepN c n x = (portAt c.tp n x.pt.toNat).pe := if_pos h3
    have s2 : stepT t x = 0 := if_pos h3
    obtain ⟨q1, q2, q3⟩ := r3 h3
    obtain ⟨q4, q5⟩ := portT_parts (sound_ports p1 hn2 q2) q3
    rw [s1, s2]
    generalize (portAt c.tp n x.pt.toNat).pe = m at *
    refine ⟨q4, Int.le_refl _, by omega, by omega, ?_⟩
    exact (soundTab_parts (p3 m.toNat (by omega))).1
  · have n3 : x.kd ≠ 3 := by omega
    have s1 : stepN c n x = n := if_neg n3
    have s2 : stepT t x = x.tb := by unfold stepT; rw [if_neg n3, if_pos h4]
    have := d3 h4
    rw [s1, s2]
    refine ⟨by omega, by omega, by omega, by omega, ?_⟩
    simp only [Int.toNat_natCast]
    omega
end Go.Proofs.Ytbiildleaelodaa
set_option linter.unusedSimpArgs false
set_option linter.unusedVariables false
namespace Go.Proofs.Ytbiildleaelodaa.AL
open Go
theorem Weak.growCell (A : ASt) (l0 l j sz : Nat) (e e' : TypeId) (cs : List AV) (f : Nat → List Dat) (hl0 : look A.locs l0 = some (.cells e cs)) (hj : cs[j]? = some (.p (.d (.v (.slice none 0 0))))) (hne : l0 ≠ l)
    (hu : unusedB A l = true) (hn : look A.locs l = none) : Weak A ⟨A.fr, (l, .grow e' sz 0 0) :: (l0, .cells e (cs.set j (.gr l 0 sz 0 f))) :: A.locs⟩ := by
  intro w0 g0 nt h a w r
  let h' : Gh := { h with κ := fun k => if k = l then .slice none 0 0 else h.κ k, μ := fun k => if k = l then 0 else h.μ k }
  have un := unusedB_spec hu
  have tr : Trans w0.O w h w h' (fun _ => False) (some l) true := by
    refine ⟨BelowS.refl _ _, fun b _ _ => ⟨rfl, rfl⟩, ⟨fun b => Nat.le_refl _, fun b o _ => rfl⟩, r.gz, fun b _ => rfl, fun _ _ => rfl, fun k hk => ?_, fun k _ hf => by cases hf⟩
    have : k ≠ l := fun e => hk (by rw [e])
    simp [h', this]
  have nl : h'.κ l = .slice none 0 0 := by simp [h']
  have nm : h'.μ l = 0 := by simp [h']
  have old : ∀ k L, k ≠ l → look A.locs k = some L → LocOK w0.O w h' k L ∧ inB h' k L = inB h k L := fun k L hk hL =>
    LocOK.trans tr (fun e => hk (by cases e; rfl)) (fun _ l' hl' hm => by cases hl'; exact un.2.1 k L hL hm) (fun b _ => by simp) (r.locs k L hL)
  have cell0 : LocOK w0.O w h' l0 (.cells e (cs.set j (.gr l 0 sz 0 f))) := by
    obtain ⟨arr, c1, c2, c3, c4, c5⟩ := (old l0 _ hne hl0).1
    refine ⟨arr, c1, c2, by simpa using c3, c4, fun i v x hv hx => ?_⟩
    by_cases hi : i = j
    · subst hi
      have hlt := (List.getElem?_eq_some_iff.1 hj).1
      rw [List.getElem?_set_self hlt] at hx
      cases hx
      obtain ⟨k1, k2⟩ := c5 i v _ hv hj
      have hv0 := relA_nil k1
      refine ⟨?_, k2⟩
      rw [hv0]
      exact ⟨.sl0 _ _ _ _, by omega, fun _ => nl.symm⟩
    · rw [List.getElem?_set_ne (fun e => hi e.symm)] at hx
      exact c5 i v x hv hx
  refine ⟨h', r.size, r.defers, fun u y hy => ?_, fun k L hL => ?_, fun k k' L L' b hne2 hL hL' hbk => ?_, r.ext, fun k hk => ?_⟩
  · exact RelA.trans tr (fun _ l' hl' hm => by cases hl'; exact un.1 u y hy hm) (r.fr u y hy)
  · simp only [look] at hL
    split at hL
    · rename_i e2; subst e2; cases hL
      exact ⟨nm, ⟨[], by rw [nl]; exact World.ownsRow_nil _ _ _ _⟩, fun b c hb => by rw [nl] at hb; simp at hb, fun b hb => by rw [nl] at hb; simp [Value.ownBlock] at hb⟩
    · rename_i hk
      split at hL
      · rename_i e2; subst e2; cases hL; exact cell0
      · exact (old k L (fun e => hk e.symm) hL).1
  · have two : ∀ {k : Nat} {L : LV}, look ((l, LV.grow e' sz 0 0) :: (l0, .cells e (cs.set j (.gr l 0 sz 0 f))) :: A.locs) k = some L → inB h' k L b → k ≠ l ∧ ∃ L0, look A.locs k = some L0 ∧ inB h k L0 b := by
      intro k L hL hb
      simp only [look] at hL
      split at hL
      · rename_i e2; subst e2; cases hL
        simp [inB, nl, Value.ownBlock] at hb
      · rename_i hk
        refine ⟨fun e => hk e.symm, ?_⟩
        split at hL
        · rename_i e2; subst e2; cases hL
          exact ⟨_, hl0, hb⟩
        · exact ⟨L, hL, by rw [← (old k L (fun e => hk e.symm) hL).2]; exact hb⟩
    intro hin
    obtain ⟨a1, L1, a2, a3⟩ := two hL hbk
    obtain ⟨b1, L2, b2, b3⟩ := two hL' hin
    exact r.sep k k' L1 L2 b hne2 a2 b2 a3 b3
  · have : k ≠ l := by have := un.2.2; omega
    simp only [h', if_neg this]
    exact r.pin k hk
theorem awp_growCell {P : Program} {nt : Nat} {c : Code} {Q : Exit → ASt → Prop} {A : ASt} (l0 l j sz : Nat) (e' : TypeId) (f : Nat → List Dat) {e : TypeId} {cs : List AV} (hl0 : look A.locs l0 = some (.cells e cs)) (hj : cs[j]? = some (.p (.d (.v (.slice none 0 0))))) (hne : l0 ≠ l)
    (hu : unusedB A l = true) (hn : look A.locs l = none) (h : AWP P nt c Q ⟨A.fr, (l, .grow e' sz 0 0) :: (l0, .cells e (cs.set j (.gr l 0 sz 0 f))) :: A.locs⟩) : AWP P nt c Q A := awp_weak (Weak.growCell A l0 l j sz e e' cs f hl0 hj hne hu hn) h
end Go.Proofs.Ytbiildleaelodaa.AL
set_option linter.unusedSimpArgs false
set_option linter.unusedVariables false
namespace Go.Proofs.Ytbiildleaelodaa
open Go.Proofs.Ytbiildleaelodaa.AL
set_option maxRecDepth 100000 in
theorem step_go (c : Config) (n t a : Nat) (h : BitVec 128) (hops : List Hop) (hc : c.small) (hs : soundC c = 0) (hw : InW c n t) (hk : hops.length ≤ 100000) (hf : findR (tabW c n t) h = some a) (he : stepE ((tabW c n t).getD a r0) = 0) :
    MCalls Try.prog 56 [.loc 1000 0] (wkL c n t h 0 0 0 hops) (fun rs M => rs = [.p (.d (.v (.bool true)))] ∧
      M = wkL c ((stepN c n ((tabW c n t).getD a r0)).toNat : Nat) ((stepT t ((tabW c n t).getD a r0)).toNat : Nat) (setH h ((tabW c n t).getD a r0).st) 0 0 0 (hops ++ [⟨n, t, a, h⟩])) := by
  have hp := inW_port hs hw hf
  obtain ⟨p1, p2, -⟩ := inW_next hs hw hf he
  unfold tabW at *
  generalize hx : (((c.tb.getD n []).getD t []).getD a r0) = x at *
  have h1 := step_some c n t a h hops x hc (sound_parts hs).1 hw.n1 hw.n2 hw.t1 hk hf hx hp
  have s4 : stepA n x = (0, 0) := if_neg (by rcases step_ends he with h | h <;> omega)
  rw [s4, he] at h1
  rw [Int.toNat_of_nonneg p1, Int.toNat_of_nonneg p2]
  exact h1
set_option maxRecDepth 100000 in
theorem step_stop (c : Config) (n t a : Nat) (h : BitVec 128) (hops : List Hop) (hc : c.small) (hs : soundC c = 0) (hw : InW c n t) (hk : hops.length ≤ 100000) (hf : findR (tabW c n t) h = some a) (he : stepE ((tabW c n t).getD a r0) ≠ 0) :
    MCalls Try.prog 56 [.loc 1000 0] (wkL c n t h 0 0 0 hops) (fun rs M => rs = [.p (.d (.v (.bool false)))] ∧
      M = wkL c (stepN c n ((tabW c n t).getD a r0)) (stepT t ((tabW c n t).getD a r0)) (setH h ((tabW c n t).getD a r0).st) (stepE ((tabW c n t).getD a r0)) (stepA n ((tabW c n t).getD a r0)).1 (stepA n ((tabW c n t).getD a r0)).2 (hops ++ [⟨n, t, a, h⟩])) := by
  have hp := inW_port hs hw hf
  unfold tabW at *
  generalize hx : (((c.tb.getD n []).getD t []).getD a r0) = x at *
  have h1 := step_some c n t a h hops x hc (sound_parts hs).1 hw.n1 hw.n2 hw.t1 hk hf hx hp
  rw [ieq_ff he] at h1
  exact h1
def runD (r : RunR) : List Dat := [.v (.int .i64 r.en), .v (.int .i64 r.an), .v (.int .i64 r.ap), .sl 5 r.hops.length (rowH r.hops)]
def zeroRun : List Dat := [.v (.int .i64 0), .v (.int .i64 0), .v (.int .i64 0), .v (.slice none 0 0)]
structure WSt (c : Config) (R : RunR) where
  i : Nat
  n : Nat
  t : Nat
  h : BitVec 128
  hops : List Hop
  hi : i ≤ 10800
  hl : hops.length = i
  hw : InW c n t
  hg : goW c (10800 - i) n t h hops = R
def wkAt (c : Config) (n t : Int) (h : BitVec 128) (en an ap : Int) (hops : AV) : LV :=
  .cells 115 [.p (.d (.sl 1 c.tp.length (rowPP c.tp))), .p (.d (.v (.int .i64 c.po.tn))), .p (.d (.sl 2 c.po.peers.length (rowA c.po.peers))), .p (.d (.sl 3 c.po.ways.length (rowW c.po.ways))), .p (.d (.sl 1 c.tb.length (rowTT c.tb))),
    .p (.d (.v (.int .i64 n))), .p (.d (.v (.int .i64 t))), .p (.d (.v (.int .u64 (hi h)))), .p (.d (.v (.int .u64 (lo h)))), .p (.d (.v (.int .i64 en))), .p (.d (.v (.int .i64 an))), .p (.d (.v (.int .i64 ap))), hops]
def runZ : LV := .cells 83 [.p (.d (.v (.int .i64 0))), .p (.d (.v (.int .i64 0))), .p (.d (.v (.int .i64 0))), .p (.d (.v (.slice none 0 0)))]
def runI (c : Config) (R : RunR) (s : WSt c R) : ASt :=
  ⟨[(36, .p (.d (.v (.int .i64 (s.i : Int))))), (13, .cl (.func 56) [.loc 33 0] []), (12, .loc 33 0), (8, .loc 8 0)],
   [(33, wkAt c s.n s.t s.h 0 0 0 (.gr 5 s.hops.length 5 s.hops.length (rowH s.hops))), (5, .grow 92 5 s.hops.length s.hops.length), (8, runZ)]⟩
theorem run_out {c : Config} {n t : Int} {h : BitVec 128} {en an ap : Int} {l : List Hop} {k : Code} {Q : Exit → ASt → Prop} {A : ASt} {g : Nat} (h1 : AL.look A.fr 12 = some (.loc 33 0)) (h2 : AL.look A.fr 8 = some (.loc 8 0))
    (h3 : AL.look A.locs 33 = some (wkAt c n t h en an ap (.gr 5 g 5 l.length (rowH l)))) (h4 : AL.look A.locs 8 = some runZ)
    (hk : AWP Try.prog 54 k Q ⟨[(12, .loc 33 0), (8, .loc 8 0)], [(33, wkAt c n t h en an ap (.p (.d (.sl 5 l.length (rowH l))))), (8, runZ)]⟩) : AWP Try.prog 54 k Q A := by
  refine awp_weak (A' := ⟨[(12, .loc 33 0), (8, .loc 8 0)], [(33, wkAt c n t h en an ap (.p (.d (.sl 5 l.length (rowH l))))), (8, runZ)]⟩) (Weak.list ⟨⟨_, h1, Le.refl _⟩, ⟨_, h2, Le.refl _⟩, trivial⟩ ⟨⟨_, h3, ?_⟩, ⟨_, h4, of_eq_true (j8 _)⟩, trivial⟩) hk
  refine lle_cellsD ?_
  iterate 12 (refine LesD.cons (Le.refl _) ?_)
  exact .cons (le_gr rfl fun i hi => rfl) .nil
set_option maxRecDepth 100000 in
set_option maxHeartbeats 4000000 in
theorem Run_bad (c : Config) (s : Spot) (h : BitVec 128) (v : Int) (hc : c.small) (hv : -9223372036854775808 ≤ v ∧ v < 9223372036854775808) (he : stampE c s v ≠ 0) :
    ACalls Try.prog 36 [.agg (configD c), .agg (spotD s), .agg (hd h), .d (.v (.int .i64 v))] (· = [.agg zeroRun, .d (.v (.int .i64 (stampE c s v)))]) := by
  have s1 := StampC_c c s v hc hv
  have q1 : (stampE c s v != 0) = true := ine_tt he
  unfold zeroRun
  unfold configD spotD at *
  refine j10 Try.func36 rfl (by decide +kernel) (by rw [Try.ntmps36]; simp) ?_; rw [Try.ntmps36]; simp only [frOf]
  (repeat (first | refine j0 ?_ | refine q7 rfl ?_ | refine z7 rfl ?_ | refine j6 ?_ | (refine j4 fun K hK => ?_) | (refine x5 (by kernel_rfl) (by kernel_rfl) fun K hK => ?_) | ((first | refine z6 ?_ | refine x6 ?_ | ((first | refine z2 (hK _ ?_) | refine q6 (hK _ _ (j5 (by kernel_rfl)) ?_)); clear hK K)); (first | show AWP _ _ _ _ _ | ((try simp only [q8]); first | show loopQ _ _ _ _ _ _ | show cutQ _ _ _ _ | show AWP _ _ _ _ _))) | ((first | refine q10 rfl rfl rfl ?_ | refine z10 rfl rfl rfl ?_); simp (maxSteps := 2000000) (disch := omega) only [go_sem, seval, hd, cb, ruleD, portD, q1]; (first | refine ⟨_, s1, ?_⟩)) | ((first | refine x7 [8, 10, 33] rfl ?_ | refine j7 [8, 10, 33] rfl ?_); simp (maxSteps := 2000000) (disch := omega) only [go_sem, seval, hd, cb, ruleD, portD, q1]; (repeat (first | refine ⟨by omega, ?_⟩ | refine ⟨True.intro, ?_⟩)))))
  refine x8 ⟨_, ?_, rfl⟩; rw [Try.results36]; simp (disch := omega) only [ResVars, ResVar, ptrLoc, go_sem, seval, hd, cb, ruleD, portD, q1]
set_option maxRecDepth 100000 in
set_option maxHeartbeats 8000000 in
theorem Run_good (c : Config) (s : Spot) (h : BitVec 128) (v : Int) (R : RunR) (hc : c.small) (hv : -9223372036854775808 ≤ v ∧ v < 9223372036854775808) (he : stampE c s v = 0) (hs : soundC c = 0) (n : Nat) (hn : s.sw = n) (hw : InW c n 0)
    (hR : goW c 10800 n 0 (setH h (stampC c s v)) [] = R) :
    ACalls Try.prog 36 [.agg (configD c), .agg (spotD s), .agg (hd h), .d (.v (.int .i64 v))] (· = [.agg (runD R), .d (.v (.int .i64 0))]) := by
  have s1 := StampC_c c s v hc hv
  rw [he] at s1
  generalize stampC c s v = sc at *
  have s2 := Set_c h sc
  generalize setH h sc = h' at *
  obtain ⟨sw, po⟩ := s
  cases hn
  unfold configD spotD at *
  refine j10 Try.func36 rfl (by decide +kernel) (by rw [Try.ntmps36]; simp) ?_; rw [Try.ntmps36]; simp only [frOf]
  (repeat (first | refine j0 ?_ | refine q7 rfl ?_ | refine z7 rfl ?_ | refine j6 ?_ | (refine j4 fun K hK => ?_) | (refine x5 (by kernel_rfl) (by kernel_rfl) fun K hK => ?_) | ((first | refine z6 ?_ | refine x6 ?_ | ((first | refine z2 (hK _ ?_) | refine q6 (hK _ _ (j5 (by kernel_rfl)) ?_)); clear hK K)); (first | show AWP _ _ _ _ _ | ((try simp only [q8]); first | show loopQ _ _ _ _ _ _ | show cutQ _ _ _ _ | show AWP _ _ _ _ _))) | ((first | refine q10 rfl rfl rfl ?_ | refine z10 rfl rfl rfl ?_); simp (maxSteps := 2000000) (disch := omega) only [go_sem, seval, hd, cb, ruleD, portD]; (first | refine ⟨_, s1, ?_⟩ | refine ⟨_, s2, ?_⟩)) | ((first | refine x7 [8, 10, 33] rfl ?_ | refine j7 [8, 10, 33] rfl ?_); simp (maxSteps := 2000000) (disch := omega) only [go_sem, seval, hd, cb, ruleD, portD]; (repeat (first | refine ⟨by omega, ?_⟩ | refine ⟨True.intro, ?_⟩)))))
  refine awp_growCell 33 5 12 5 92 (rowH []) rfl rfl (by omega) (by kernel_rfl) rfl ?_
  refine awp_loop (runI c R) (fun s => 10800 - s.i) ⟨0, n, 0, h', [], by omega, rfl, hw, by rw [Nat.sub_zero]; exact hR⟩ ?_ (fun s => ?_)
  · unfold runI wkAt runZ
    refine Weak.list ?_ ?_; (all_goals simp (disch := omega) only [AllF, AllL, q9, x9, j8, exists_eq_left', Option.some.injEq, go_sem, seval, hd, cb, ruleD, portD]); (all_goals (repeat' (with_reducible apply And.intro))); (all_goals try (first | exact z8 rfl | (refine j9 ?_; omega) | (refine z8 ?_; simp; done)))
    exact of_eq_true (j8 _)
  obtain ⟨i, n, t, h, hops, hi, hl, hw, hg⟩ := s
  have hk : hops.length ≤ 100000 := by omega
  unfold runI wkAt runZ
  by_cases hi2 : i < 10800
  · obtain ⟨f, hf⟩ : ∃ f, 10800 - i = f + 1 := ⟨10800 - i - 1, by omega⟩
    rw [hf] at hg
    cases hfi : findR (tabW c n t) h with
    | none =>
      have k1 := step_none c n t h hops hc hw.n1 hw.t1 hk hfi
      unfold wkL wkC at k1
      obtain ⟨y, hy⟩ : ∃ y, y = hops ++ [⟨n, t, -1, h⟩] := ⟨_, rfl⟩
      rw [← hy] at k1
      have hR2 : R = ⟨3, 0, 0, y⟩ := by rw [← hg, hy]; unfold goW; rw [hfi]
      clear hg hR
      subst hR2
      unfold runD
      (repeat (first | refine j0 ?_ | refine q7 rfl ?_ | refine z7 rfl ?_ | refine j6 ?_ | (refine j4 fun K hK => ?_) | (refine x5 (by kernel_rfl) (by kernel_rfl) fun K hK => ?_) | ((first | refine z6 ?_ | refine x6 ?_ | ((first | refine z2 (hK _ ?_) | refine q6 (hK _ _ (j5 (by kernel_rfl)) ?_)); clear hK K)); (first | show AWP _ _ _ _ _ | ((try simp only [q8]); first | show loopQ _ _ _ _ _ _ | show cutQ _ _ _ _ | show AWP _ _ _ _ _))) | ((first | refine x7 [8, 10, 33] rfl ?_ | refine j7 [8, 10, 33] rfl ?_); simp (maxSteps := 2000000) (disch := omega) only [go_sem, seval, hd, cb, ruleD, portD]; (repeat (first | refine ⟨by omega, ?_⟩ | refine ⟨True.intro, ?_⟩)))))
      (refine walkS_cons _ (step_mcall [(1000, 33), (1001, 5)] rfl rfl rfl rfl rfl rfl (k1) rfl (j11 (by repeat (first | exact trivial | refine ⟨rfl, ?_⟩)) (by kernel_rfl))) ?_); simp (maxSteps := 2000000) (disch := omega) only [go_sem, seval, hd, cb, ruleD, portD]
      (repeat ((fail_if_success (show AWP _ _ (.region 9 _ _) _ _)); first | refine j0 ?_ | refine q7 rfl ?_ | refine z7 rfl ?_ | refine j6 ?_ | (refine j4 fun K hK => ?_) | (refine x5 (by kernel_rfl) (by kernel_rfl) fun K hK => ?_) | ((first | refine z6 ?_ | refine x6 ?_ | ((first | refine z2 (hK _ ?_) | refine q6 (hK _ _ (j5 (by kernel_rfl)) ?_)); clear hK K)); (first | show AWP _ _ _ _ _ | ((try simp only [q8]); first | show loopQ _ _ _ _ _ _ | show cutQ _ _ _ _ | show AWP _ _ _ _ _))) | ((first | refine x7 [8, 10, 33] rfl ?_ | refine j7 [8, 10, 33] rfl ?_); simp (maxSteps := 2000000) (disch := omega) only [go_sem, seval, hd, cb, ruleD, portD]; (repeat (first | refine ⟨by omega, ?_⟩ | refine ⟨True.intro, ?_⟩)))))
      refine run_out (l := y) rfl rfl rfl rfl ?_
      unfold wkAt runZ
      (repeat (first | refine j0 ?_ | refine q7 rfl ?_ | refine z7 rfl ?_ | refine j6 ?_ | (refine j4 fun K hK => ?_) | (refine x5 (by kernel_rfl) (by kernel_rfl) fun K hK => ?_) | ((first | refine z6 ?_ | refine x6 ?_ | ((first | refine z2 (hK _ ?_) | refine q6 (hK _ _ (j5 (by kernel_rfl)) ?_)); clear hK K)); (first | show AWP _ _ _ _ _ | ((try simp only [q8]); first | show loopQ _ _ _ _ _ _ | show cutQ _ _ _ _ | show AWP _ _ _ _ _))) | ((first | refine x7 [8, 10, 33] rfl ?_ | refine j7 [8, 10, 33] rfl ?_); simp (maxSteps := 2000000) (disch := omega) only [go_sem, seval, hd, cb, ruleD, portD]; (repeat (first | refine ⟨by omega, ?_⟩ | refine ⟨True.intro, ?_⟩)))))
      refine x8 ⟨_, ?_, rfl⟩; rw [Try.results36]; simp (disch := omega) only [ResVars, ResVar, ptrLoc, go_sem, seval, hd, cb, ruleD, portD]
    | some a =>
      by_cases he : stepE ((tabW c n t).getD a r0) = 0
      · have k1 := step_go c n t a h hops hc hs hw hk hfi he
        obtain ⟨-, -, w2⟩ := inW_next hs hw hfi he
        have hg2 : goW c f (stepN c n ((tabW c n t).getD a r0)).toNat (stepT t ((tabW c n t).getD a r0)).toNat (setH h ((tabW c n t).getD a r0).st) (hops ++ [⟨n, t, a, h⟩]) = R := by
          rw [← hg]; conv => rhs; unfold goW
          rw [hfi]; simp only []; rw [if_pos he]
        generalize (stepN c n ((tabW c n t).getD a r0)).toNat = n' at *
        generalize (stepT t ((tabW c n t).getD a r0)).toNat = t' at *
        generalize setH h ((tabW c n t).getD a r0).st = h2 at *
        obtain ⟨y, hy⟩ : ∃ y, y = hops ++ [⟨n, t, a, h⟩] := ⟨_, rfl⟩
        rw [← hy] at k1 hg2
        have hyl : y.length = i + 1 := by rw [hy]; simp [hl]
        unfold wkL wkC at k1
        (repeat (first | refine j0 ?_ | refine q7 rfl ?_ | refine z7 rfl ?_ | refine j6 ?_ | (refine j4 fun K hK => ?_) | (refine x5 (by kernel_rfl) (by kernel_rfl) fun K hK => ?_) | ((first | refine z6 ?_ | refine x6 ?_ | ((first | refine z2 (hK _ ?_) | refine q6 (hK _ _ (j5 (by kernel_rfl)) ?_)); clear hK K)); (first | show AWP _ _ _ _ _ | ((try simp only [q8]); first | show loopQ _ _ _ _ _ _ | show cutQ _ _ _ _ | show AWP _ _ _ _ _))) | ((first | refine x7 [8, 10, 33] rfl ?_ | refine j7 [8, 10, 33] rfl ?_); simp (maxSteps := 2000000) (disch := omega) only [go_sem, seval, hd, cb, ruleD, portD]; (repeat (first | refine ⟨by omega, ?_⟩ | refine ⟨True.intro, ?_⟩)))))
        (refine walkS_cons _ (step_mcall [(1000, 33), (1001, 5)] rfl rfl rfl rfl rfl rfl (k1) rfl (j11 (by repeat (first | exact trivial | refine ⟨rfl, ?_⟩)) (by kernel_rfl))) ?_); simp (maxSteps := 2000000) (disch := omega) only [go_sem, seval, hd, cb, ruleD, portD]
        (repeat (first | refine j0 ?_ | refine q7 rfl ?_ | refine z7 rfl ?_ | refine j6 ?_ | (refine j4 fun K hK => ?_) | (refine x5 (by kernel_rfl) (by kernel_rfl) fun K hK => ?_) | ((first | refine z6 ?_ | refine x6 ?_ | ((first | refine z2 (hK _ ?_) | refine q6 (hK _ _ (j5 (by kernel_rfl)) ?_)); clear hK K)); (first | show AWP _ _ _ _ _ | ((try simp only [q8]); first | show loopQ _ _ _ _ _ _ | show cutQ _ _ _ _ | show AWP _ _ _ _ _))) | ((first | refine x7 [8, 10, 33] rfl ?_ | refine j7 [8, 10, 33] rfl ?_); simp (maxSteps := 2000000) (disch := omega) only [go_sem, seval, hd, cb, ruleD, portD]; (repeat (first | refine ⟨by omega, ?_⟩ | refine ⟨True.intro, ?_⟩)))))
        refine ⟨⟨i + 1, n', t', h2, y, by omega, hyl, w2, by rw [show 10800 - (i + 1) = f by omega]; exact hg2⟩, by simp only []; omega, ?_⟩
        refine Weak.list ?_ ?_; (all_goals simp (disch := omega) only [AllF, AllL, q9, x9, j8, exists_eq_left', Option.some.injEq, go_sem, seval, hd, cb, ruleD, portD]); (all_goals (repeat' (with_reducible apply And.intro))); (all_goals try (first | exact z8 rfl | (refine j9 ?_; omega) | (refine z8 ?_; simp; done)))
      · have k1 := step_stop c n t a h hops hc hs hw hk hfi he
        have hR2 : R = ⟨stepE ((tabW c n t).getD a r0), (stepA n ((tabW c n t).getD a r0)).1, (stepA n ((tabW c n t).getD a r0)).2, hops ++ [⟨n, t, a, h⟩]⟩ := by
          rw [← hg]; conv => lhs; unfold goW
          rw [hfi]; simp only []; rw [if_neg he]
        generalize (stepN c n ((tabW c n t).getD a r0)) = n' at *
        generalize (stepT t ((tabW c n t).getD a r0)) = t' at *
        generalize setH h ((tabW c n t).getD a r0).st = h2 at *
        generalize stepE ((tabW c n t).getD a r0) = en at *
        generalize stepA n ((tabW c n t).getD a r0) = sa at *
        obtain ⟨an, ap⟩ := sa
        obtain ⟨y, hy⟩ : ∃ y, y = hops ++ [⟨n, t, a, h⟩] := ⟨_, rfl⟩
        rw [← hy] at k1 hR2
        clear hg hR
        subst hR2
        unfold wkL wkC at k1
        unfold runD
        (repeat (first | refine j0 ?_ | refine q7 rfl ?_ | refine z7 rfl ?_ | refine j6 ?_ | (refine j4 fun K hK => ?_) | (refine x5 (by kernel_rfl) (by kernel_rfl) fun K hK => ?_) | ((first | refine z6 ?_ | refine x6 ?_ | ((first | refine z2 (hK _ ?_) | refine q6 (hK _ _ (j5 (by kernel_rfl)) ?_)); clear hK K)); (first | show AWP _ _ _ _ _ | ((try simp only [q8]); first | show loopQ _ _ _ _ _ _ | show cutQ _ _ _ _ | show AWP _ _ _ _ _))) | ((first | refine x7 [8, 10, 33] rfl ?_ | refine j7 [8, 10, 33] rfl ?_); simp (maxSteps := 2000000) (disch := omega) only [go_sem, seval, hd, cb, ruleD, portD]; (repeat (first | refine ⟨by omega, ?_⟩ | refine ⟨True.intro, ?_⟩)))))
        (refine walkS_cons _ (step_mcall [(1000, 33), (1001, 5)] rfl rfl rfl rfl rfl rfl (k1) rfl (j11 (by repeat (first | exact trivial | refine ⟨rfl, ?_⟩)) (by kernel_rfl))) ?_); simp (maxSteps := 2000000) (disch := omega) only [go_sem, seval, hd, cb, ruleD, portD]
        (repeat ((fail_if_success (show AWP _ _ (.region 9 _ _) _ _)); first | refine j0 ?_ | refine q7 rfl ?_ | refine z7 rfl ?_ | refine j6 ?_ | (refine j4 fun K hK => ?_) | (refine x5 (by kernel_rfl) (by kernel_rfl) fun K hK => ?_) | ((first | refine z6 ?_ | refine x6 ?_ | ((first | refine z2 (hK _ ?_) | refine q6 (hK _ _ (j5 (by kernel_rfl)) ?_)); clear hK K)); (first | show AWP _ _ _ _ _ | ((try simp only [q8]); first | show loopQ _ _ _ _ _ _ | show cutQ _ _ _ _ | show AWP _ _ _ _ _))) | ((first | refine x7 [8, 10, 33] rfl ?_ | refine j7 [8, 10, 33] rfl ?_); simp (maxSteps := 2000000) (disch := omega) only [go_sem, seval, hd, cb, ruleD, portD]; (repeat (first | refine ⟨by omega, ?_⟩ | refine ⟨True.intro, ?_⟩)))))
        refine run_out (l := y) rfl rfl rfl rfl ?_
        unfold wkAt runZ
        (repeat (first | refine j0 ?_ | refine q7 rfl ?_ | refine z7 rfl ?_ | refine j6 ?_ | (refine j4 fun K hK => ?_) | (refine x5 (by kernel_rfl) (by kernel_rfl) fun K hK => ?_) | ((first | refine z6 ?_ | refine x6 ?_ | ((first | refine z2 (hK _ ?_) | refine q6 (hK _ _ (j5 (by kernel_rfl)) ?_)); clear hK K)); (first | show AWP _ _ _ _ _ | ((try simp only [q8]); first | show loopQ _ _ _ _ _ _ | show cutQ _ _ _ _ | show AWP _ _ _ _ _))) | ((first | refine x7 [8, 10, 33] rfl ?_ | refine j7 [8, 10, 33] rfl ?_); simp (maxSteps := 2000000) (disch := omega) only [go_sem, seval, hd, cb, ruleD, portD]; (repeat (first | refine ⟨by omega, ?_⟩ | refine ⟨True.intro, ?_⟩)))))
        refine x8 ⟨_, ?_, rfl⟩; rw [Try.results36]; simp (disch := omega) only [ResVars, ResVar, ptrLoc, go_sem, seval, hd, cb, ruleD, portD]
  · have : i = 10800 := by omega
    have hR2 : R = ⟨4, 0, 0, hops⟩ := by rw [← hg, this, Nat.sub_self]; unfold goW; rfl
    subst hR2
    unfold runD
    subst this
    (repeat ((fail_if_success (show AWP _ _ (.region 11 _ _) _ _)); first | refine j0 ?_ | refine q7 rfl ?_ | refine z7 rfl ?_ | refine j6 ?_ | (refine j4 fun K hK => ?_) | (refine x5 (by kernel_rfl) (by kernel_rfl) fun K hK => ?_) | ((first | refine z6 ?_ | refine x6 ?_ | ((first | refine z2 (hK _ ?_) | refine q6 (hK _ _ (j5 (by kernel_rfl)) ?_)); clear hK K)); (first | show AWP _ _ _ _ _ | ((try simp only [q8]); first | show loopQ _ _ _ _ _ _ | show cutQ _ _ _ _ | show AWP _ _ _ _ _))) | ((first | refine x7 [8, 10, 33] rfl ?_ | refine j7 [8, 10, 33] rfl ?_); simp (maxSteps := 2000000) (disch := omega) only [go_sem, seval, hd, cb, ruleD, portD]; (repeat (first | refine ⟨by omega, ?_⟩ | refine ⟨True.intro, ?_⟩)))))
    refine run_out (l := hops) rfl rfl rfl rfl ?_
    unfold wkAt runZ
    (repeat (first | refine j0 ?_ | refine q7 rfl ?_ | refine z7 rfl ?_ | refine j6 ?_ | (refine j4 fun K hK => ?_) | (refine x5 (by kernel_rfl) (by kernel_rfl) fun K hK => ?_) | ((first | refine z6 ?_ | refine x6 ?_ | ((first | refine z2 (hK _ ?_) | refine q6 (hK _ _ (j5 (by kernel_rfl)) ?_)); clear hK K)); (first | show AWP _ _ _ _ _ | ((try simp only [q8]); first | show loopQ _ _ _ _ _ _ | show cutQ _ _ _ _ | show AWP _ _ _ _ _))) | ((first | refine x7 [8, 10, 33] rfl ?_ | refine j7 [8, 10, 33] rfl ?_); simp (maxSteps := 2000000) (disch := omega) only [go_sem, seval, hd, cb, ruleD, portD]; (repeat (first | refine ⟨by omega, ?_⟩ | refine ⟨True.intro, ?_⟩)))))
    refine x8 ⟨_, ?_, rfl⟩; rw [Try.results36]; simp (disch := omega) only [ResVars, ResVar, ptrLoc, go_sem, seval, hd, cb, ruleD, portD]
end Go.Proofs.Ytbiildleaelodaa
set_option linter.unusedSimpArgs false
set_option linter.unusedVariables false
namespace Go.Proofs.Ytbiildleaelodaa
open Go.Proofs.Ytbiildleaelodaa.AL
end Go.Proofs.Ytbiildleaelodaa
set_option linter.unusedSimpArgs false
set_option linter.unusedVariables false
namespace Go.Proofs.Ytbiildleaelodaa
open Go.Proofs.Ytbiildleaelodaa.AL
end Go.Proofs.Ytbiildleaelodaa
set_option linter.unusedSimpArgs false
set_option linter.unusedVariables false
namespace Go.Proofs.Ytbiildleaelodaa
open Go.Proofs.Ytbiildleaelodaa.AL
def ixHI (l : List Hop) (g : FuncId) (caps : List PV) (p : Hop → Bool) (R : Int) (s : {i : Nat // i ≤ l.length ∧ idxF p (l.drop i) i = R}) : ASt :=
  ⟨[(8, .p (.d (.v (.int .i64 (s.val : Int))))), (7, .p (.d (.v (.int .i64 (l.length : Int))))), (1, .p (.fn (.func g) [] caps)), (0, .p (.d (.sl 5 l.length (rowH l))))], []⟩
theorem IndexH_c (g : FuncId) (caps : List PV) (p : Hop → Bool) (l : List Hop) (hl : l.length ≤ 140737488355328) (hp : ∀ k ∈ l, ACalls Try.prog g (.agg (hopD k) :: caps) (· = [.d (.v (.bool (p k)))])) :
    ACalls Try.prog 83 [.d (.sl 5 l.length (rowH l)), .fn (.func g) [] caps] (· = [.d (.v (.int .i64 (idxF p l 0)))]) := by
  obtain ⟨R, hR⟩ : ∃ R, idxF p l 0 = R := ⟨_, rfl⟩
  rw [hR]
  refine j10 Try.func83 rfl (by decide +kernel) (by rw [Try.ntmps83]; simp) ?_; rw [Try.ntmps83]; simp only [frOf]
  (repeat (first | refine j0 ?_ | refine q7 rfl ?_ | refine z7 rfl ?_ | refine j6 ?_ | (refine j4 fun K hK => ?_) | (refine x5 (by kernel_rfl) (by kernel_rfl) fun K hK => ?_) | ((first | refine z6 ?_ | refine x6 ?_ | ((first | refine z2 (hK _ ?_) | refine q6 (hK _ _ (j5 (by kernel_rfl)) ?_)); clear hK K)); (first | show AWP _ _ _ _ _ | ((try simp only [q8]); first | show loopQ _ _ _ _ _ _ | show cutQ _ _ _ _ | show AWP _ _ _ _ _))) | ((first | refine x7 [] rfl ?_ | refine j7 [] rfl ?_); simp (maxSteps := 2000000) (disch := omega) only [go_sem, seval, hd, hopD]; (repeat (first | refine ⟨by omega, ?_⟩ | refine ⟨True.intro, ?_⟩)))))
  refine awp_loop (ixHI l g caps p R) (fun s => l.length - s.val) ⟨0, by omega, by rw [List.drop_zero]; exact hR⟩ ?_ (fun s => ?_)
  · unfold ixHI
    refine Weak.list ?_ ?_; (all_goals simp (disch := omega) only [AllF, AllL, q9, x9, j8, exists_eq_left', Option.some.injEq, go_sem, seval, hd, hopD]); (all_goals (repeat' (with_reducible apply And.intro))); (all_goals try (first | exact z8 rfl | (refine j9 ?_; omega) | (refine z8 ?_; simp; done)))
  obtain ⟨i, hi, he⟩ := s
  unfold ixHI
  by_cases hn : i < l.length
  · rw [drop_getD l i hop0 hn] at he
    have r1 := rowH_at l i
    have hk := hp _ (getD_in hn hop0)
    generalize l.getD i hop0 = K at he r1 hk
    unfold idxF at he
    cases hb : p K
    all_goals
      rw [hb] at he hk
      simp only [Bool.false_eq_true, if_false, if_true] at he
      (repeat (first | refine j0 ?_ | refine q7 rfl ?_ | refine z7 rfl ?_ | refine j6 ?_ | (refine j4 fun K hK => ?_) | (refine x5 (by kernel_rfl) (by kernel_rfl) fun K hK => ?_) | ((first | refine z6 ?_ | refine x6 ?_ | ((first | refine z2 (hK _ ?_) | refine q6 (hK _ _ (j5 (by kernel_rfl)) ?_)); clear hK K)); (first | show AWP _ _ _ _ _ | ((try simp only [q8]); first | show loopQ _ _ _ _ _ _ | show cutQ _ _ _ _ | show AWP _ _ _ _ _))) | ((first | refine q10 rfl rfl rfl ?_ | refine z10 rfl rfl rfl ?_); simp (maxSteps := 2000000) (disch := omega) only [go_sem, seval, hd, hopD, r1]; (first | refine ⟨_, hk, ?_⟩)) | ((first | refine x7 [] rfl ?_ | refine j7 [] rfl ?_); simp (maxSteps := 2000000) (disch := omega) only [go_sem, seval, hd, hopD, r1]; (repeat (first | refine ⟨by omega, ?_⟩ | refine ⟨True.intro, ?_⟩)))))
    · refine ⟨⟨i + 1, by omega, he⟩, by simp only []; omega, ?_⟩
      refine Weak.list ?_ ?_; (all_goals simp (disch := omega) only [AllF, AllL, q9, x9, j8, exists_eq_left', Option.some.injEq, go_sem, seval, hd, hopD, r1]); (all_goals (repeat' (with_reducible apply And.intro))); (all_goals try (first | exact z8 rfl | (refine j9 ?_; omega) | (refine z8 ?_; simp; done)))
    · refine x8 ⟨_, ?_, rfl⟩; rw [Try.results83]; simp (disch := omega) only [ResVars, ResVar, ptrLoc, go_sem, seval, hd, hopD, r1]
      rw [he]
  · have : i = l.length := by omega
    subst this
    rw [List.drop_length] at he
    unfold idxF at he
    (repeat (first | refine j0 ?_ | refine q7 rfl ?_ | refine z7 rfl ?_ | refine j6 ?_ | (refine j4 fun K hK => ?_) | (refine x5 (by kernel_rfl) (by kernel_rfl) fun K hK => ?_) | ((first | refine z6 ?_ | refine x6 ?_ | ((first | refine z2 (hK _ ?_) | refine q6 (hK _ _ (j5 (by kernel_rfl)) ?_)); clear hK K)); (first | show AWP _ _ _ _ _ | ((try simp only [q8]); first | show loopQ _ _ _ _ _ _ | show cutQ _ _ _ _ | show AWP _ _ _ _ _))) | ((first | refine x7 [] rfl ?_ | refine j7 [] rfl ?_); simp (maxSteps := 2000000) (disch := omega) only [go_sem, seval, hd, hopD]; (repeat (first | refine ⟨by omega, ?_⟩ | refine ⟨True.intro, ?_⟩)))))
    refine x8 ⟨_, ?_, rfl⟩; rw [Try.results83]; simp (disch := omega) only [ResVars, ResVar, ptrLoc, go_sem, seval, hd, hopD]
    rw [he]
theorem ContainsH_c (g : FuncId) (caps : List PV) (p : Hop → Bool) (l : List Hop) (hl : l.length ≤ 140737488355328) (hp : ∀ k ∈ l, ACalls Try.prog g (.agg (hopD k) :: caps) (· = [.d (.v (.bool (p k)))])) :
    ACalls Try.prog 60 [.d (.sl 5 l.length (rowH l)), .fn (.func g) [] caps] (· = [.d (.v (.bool (l.any p)))]) := by
  have ix := IndexH_c g caps p l hl hp
  have ia := idxF_any p l 0
  generalize idxF p l 0 = R at ix ia
  refine j10 Try.func60 rfl (by decide +kernel) (by rw [Try.ntmps60]; simp) ?_; rw [Try.ntmps60]; simp only [frOf]
  (repeat (first | refine j0 ?_ | refine q7 rfl ?_ | refine z7 rfl ?_ | refine j6 ?_ | (refine j4 fun K hK => ?_) | (refine x5 (by kernel_rfl) (by kernel_rfl) fun K hK => ?_) | ((first | refine z6 ?_ | refine x6 ?_ | ((first | refine z2 (hK _ ?_) | refine q6 (hK _ _ (j5 (by kernel_rfl)) ?_)); clear hK K)); (first | show AWP _ _ _ _ _ | ((try simp only [q8]); first | show loopQ _ _ _ _ _ _ | show cutQ _ _ _ _ | show AWP _ _ _ _ _))) | ((first | refine q10 rfl rfl rfl ?_ | refine z10 rfl rfl rfl ?_); simp (maxSteps := 2000000) (disch := omega) only [go_sem, seval, hd, hopD]; (first | refine ⟨_, ix, ?_⟩)) | ((first | refine x7 [] rfl ?_ | refine j7 [] rfl ?_); simp (maxSteps := 2000000) (disch := omega) only [go_sem, seval, hd, hopD]; (repeat (first | refine ⟨by omega, ?_⟩ | refine ⟨True.intro, ?_⟩)))))
  refine x8 ⟨_, ?_, rfl⟩; rw [Try.results60]; simp (disch := omega) only [ResVars, ResVar, ptrLoc, go_sem, seval, hd, hopD]
  rw [ia]
end Go.Proofs.Ytbiildleaelodaa
set_option linter.unusedSimpArgs false
set_option linter.unusedVariables false
namespace Go.Proofs.Ytbiildleaelodaa
open Go.Proofs.Ytbiildleaelodaa.AL
theorem eqI_reflW : ∀ l : List Int, eqI l l = true
  | [] => rfl
  | a :: r => by simp [eqI, eqI_reflW r]
end Go.Proofs.Ytbiildleaelodaa
set_option linter.unusedSimpArgs false
set_option linter.unusedVariables false
namespace Go.Proofs.Ytbiildleaelodaa
open Go Go.Proofs.Ytbiildleaelodaa.AL
def DLe (x y : Dat) : Prop := ∀ (w : World) (g : Nat → Nat) (v : Value), RelD w g v x → RelD w g v y
inductive DLes : List Dat → List Dat → Prop
  | nil : DLes [] []
  | cons {x y : Dat} {xs ys : List Dat} (h : DLe x y) (t : DLes xs ys) : DLes (x :: xs) (y :: ys)
theorem dle_refl (x : Dat) : DLe x x := fun _ _ _ h => h
theorem DLes.refl : ∀ xs : List Dat, DLes xs xs
  | [] => .nil
  | x :: xs => .cons (dle_refl x) (DLes.refl xs)
theorem DLes.of_eq {xs ys : List Dat} (h : xs = ys) : DLes xs ys := h ▸ DLes.refl xs
theorem DLes.length {xs ys : List Dat} (h : DLes xs ys) : xs.length = ys.length := by
  induction h with
  | nil => rfl
  | cons _ _ ih => simp [ih]
theorem DLes.at {xs ys : List Dat} (h : DLes xs ys) : ∀ {j : Nat} {y : Dat}, ys[j]? = some y → ∃ x, xs[j]? = some x ∧ DLe x y := by
  induction h with
  | nil => intro j y h; simp at h
  | cons h t ih =>
    intro j y hy
    cases j with
    | zero => simp at hy; subst hy; exact ⟨_, by simp, h⟩
    | succ j => simp at hy; obtain ⟨x, h1, h2⟩ := ih hy; exact ⟨x, by simpa using h1, h2⟩
theorem dle_sl {sz n n' : Nat} {f f' : Nat → List Dat} (hn : n = n') (hf : ∀ i, i < n → DLes (f i) (f' i)) : DLe (.sl sz n f) (.sl sz n' f') := by
  subst hn
  intro w g v r
  cases r with
  | sl0 a c sz f => exact .sl0 _ _ _ _
  | sl b off n c sz f u h1 h2 h3 h4 h5 =>
    refine .sl b off n c sz f' u h1 (fun i hi => by rw [← (hf i hi).length]; exact h2 i hi) h3 h4 (fun i j y hi hy => ?_)
    obtain ⟨x, k1, k2⟩ := (hf i hi).at hy
    exact k2 _ _ _ (h5 i j x hi k1)
theorem dle_emp {a : Option Addr} {c sz : Nat} {f : Nat → List Dat} : DLe (.v (.slice a 0 c)) (.sl sz 0 f) := by
  intro w g v r
  cases r
  exact .sl0 _ _ _ _
theorem ple_agg {xs ys : List Dat} (h : DLes xs ys) : PLe (.agg xs) (.agg ys) := by
  intro w g v r
  cases r with
  | agg vs _ h1 h2 =>
    refine .agg vs ys (by rw [h1, h.length]) (fun j v y hv hy => ?_)
    obtain ⟨x, k1, k2⟩ := h.at hy
    exact k2 _ _ _ (h2 j v x hv k1)
theorem acalls_agg {P : Program} {f : FuncId} {xs : List PV} {ds ds' : List Dat} (h : DLes ds ds') (c : ACalls P f xs (· = [.agg ds])) : ACalls P f xs (· = [.agg ds']) := by
  refine acalls_iff.2 fun w g vs hz hr => ?_
  have := acalls_iff.1 c w g vs hz hr
  unfold CallRes at *
  split at this
  · refine this.mono fun e w' ⟨v, he, g', rs, h1, h2, h3⟩ => ?_
    subst h2
    exact ⟨v, he, g', _, h1, rfl, ple_agg h _ _ _ h3⟩
  · obtain ⟨g', rs, h1, h2, h3⟩ := this
    subst h2
    exact ⟨g', _, h1, rfl, ple_agg h _ _ _ h3⟩
  · exact this.elim
end Go.Proofs.Ytbiildleaelodaa
set_option linter.unusedSimpArgs false
set_option linter.unusedVariables false
namespace Go.Proofs.Ytbiildleaelodaa
open Go.Proofs.Ytbiildleaelodaa.AL
def passW (l : List Hop) (n : Int) : Bool := l.any fun x => x.sw == n
theorem passed1_c (x : Hop) (n : Int) : ACalls Try.prog 61 [.agg (hopD x), .d (.bx [.v (.int .i64 n)])] (· = [.d (.v (.bool (x.sw == n)))]) := by
  generalize hq : (x.sw == n) = q
  refine j10 Try.func61 rfl (by decide +kernel) (by rw [Try.ntmps61]; simp) ?_; rw [Try.ntmps61]; simp only [frOf]
  (repeat (first | refine j0 ?_ | refine q7 rfl ?_ | refine z7 rfl ?_ | refine j6 ?_ | (refine j4 fun K hK => ?_) | (refine x5 (by kernel_rfl) (by kernel_rfl) fun K hK => ?_) | ((first | refine z6 ?_ | refine x6 ?_ | ((first | refine z2 (hK _ ?_) | refine q6 (hK _ _ (j5 (by kernel_rfl)) ?_)); clear hK K)); (first | show AWP _ _ _ _ _ | ((try simp only [q8]); first | show loopQ _ _ _ _ _ _ | show cutQ _ _ _ _ | show AWP _ _ _ _ _))) | ((first | refine x7 [] rfl ?_ | refine j7 [] rfl ?_); simp (maxSteps := 2000000) (disch := omega) only [go_sem, seval, hd, hopD, runD, hq]; (repeat (first | refine ⟨by omega, ?_⟩ | refine ⟨True.intro, ?_⟩)))))
  refine x8 ⟨_, ?_, rfl⟩; rw [Try.results61]; simp (disch := omega) only [ResVars, ResVar, ptrLoc, go_sem, seval, hd, hopD, runD, hq]
theorem Passed_c (en an ap : Int) (l : List Hop) (n : Int) (hl : l.length ≤ 140737488355328) : ACalls Try.prog 41 [.agg [.v (.int .i64 en), .v (.int .i64 an), .v (.int .i64 ap), .sl 5 l.length (rowH l)], .d (.v (.int .i64 n))] (· = [.d (.v (.bool (passW l n)))]) := by
  have cf := ContainsH_c 61 [.d (.bx [.v (.int .i64 n)])] (fun x => x.sw == n) l hl (fun k _ => passed1_c k n)
  unfold passW
  generalize l.any (fun x => x.sw == n) = b at cf
  refine j10 Try.func41 rfl (by decide +kernel) (by rw [Try.ntmps41]; simp) ?_; rw [Try.ntmps41]; simp only [frOf]
  (repeat (first | refine j0 ?_ | refine q7 rfl ?_ | refine z7 rfl ?_ | refine j6 ?_ | (refine j4 fun K hK => ?_) | (refine x5 (by kernel_rfl) (by kernel_rfl) fun K hK => ?_) | ((first | refine z6 ?_ | refine x6 ?_ | ((first | refine z2 (hK _ ?_) | refine q6 (hK _ _ (j5 (by kernel_rfl)) ?_)); clear hK K)); (first | show AWP _ _ _ _ _ | ((try simp only [q8]); first | show loopQ _ _ _ _ _ _ | show cutQ _ _ _ _ | show AWP _ _ _ _ _))) | ((first | refine q10 rfl rfl rfl ?_ | refine z10 rfl rfl rfl ?_); simp (maxSteps := 2000000) (disch := omega) only [go_sem, seval, hd, hopD, runD]; (first | refine ⟨_, cf, ?_⟩)) | ((first | refine x7 [] rfl ?_ | refine j7 [] rfl ?_); simp (maxSteps := 2000000) (disch := omega) only [go_sem, seval, hd, hopD, runD]; (repeat (first | refine ⟨by omega, ?_⟩ | refine ⟨True.intro, ?_⟩)))))
  refine x8 ⟨_, ?_, rfl⟩; rw [Try.results41]; simp (disch := omega) only [ResVars, ResVar, ptrLoc, go_sem, seval, hd, hopD, runD]
theorem stamp_ok {c : Config} {s : Spot} {v : Int} (he : stampE c s v = 0) : soundC c = 0 ∧ 0 ≤ v ∧ v ≤ 255 ∧ s ∈ edgesT c.tp := by
  unfold stampE at he
  split at he
  · rename_i h; exact absurd he h
  · rename_i h1
    split at he
    · cases he
    · split at he
      · cases he
      · rename_i h2 h3
        refine ⟨by omega, by omega, by omega, ?_⟩
        unfold edgesHas at h3
        simpa using h3
theorem edge_in {c : Config} {s : Spot} (hs : soundC c = 0) (hm : s ∈ edgesT c.tp) : ∃ n : Nat, s.sw = n ∧ InW c n 0 := by
  obtain ⟨i, j, rfl, g1, -, -⟩ := edgesT_at hm
  obtain ⟨p1, p2, p3⟩ := sound_parts hs
  exact ⟨i, rfl, by omega, g1, (soundTab_parts (p3 i (by omega))).1⟩
def runOf (c : Config) (s : Spot) (h : BitVec 128) (v : Int) : RunR := goW c 10800 s.sw.toNat 0 (setH h (stampV (edgeT c.tp s) v)) []
theorem Run_ok (c : Config) (s : Spot) (h : BitVec 128) (v : Int) (hc : c.small) (he : stampE c s v = 0) :
    ACalls Try.prog 36 [.agg (configD c), .agg (spotD s), .agg (hd h), .d (.v (.int .i64 v))] (· = [.agg (runD (runOf c s h v)), .d (.v (.int .i64 0))]) := by
  obtain ⟨h1, h2, h3, h4⟩ := stamp_ok he
  obtain ⟨n, hn, hw⟩ := edge_in h1 h4
  refine Run_good c s h v _ hc (by omega) he h1 n hn hw ?_
  unfold runOf
  rw [show stampC c s v = stampV (edgeT c.tp s) v from if_pos he, hn, Int.toNat_natCast]
def ringK : Config := ⟨[[⟨1, 0, 0, 0, 0⟩, ⟨2, 0, 1, 0, 1⟩], [⟨2, 0, 0, 1, 1⟩, ⟨1, 0, 0, 0, 0⟩]], ⟨1, [], []⟩, [[[⟨0, ⟨1, 1⟩, 3, 1, 0, ⟨0, 0⟩⟩]], [[⟨0, ⟨1, 1⟩, 2, 1, 0, ⟨0, 0⟩⟩]]]⟩
def iI (n : Int) : Dat := .v (.int .i64 n)
def iU (n : Int) : Dat := .v (.int .u64 n)
def pRaw (a b c d e : Int) : List Dat := [iI a, iI b, iI c, iI d, iI e]
def rRaw (k : Int) : List Dat := [iI 0, iU 0, iU 1, iU 0, iU 1, iI k, iI 1, iI 0, iU 0, iU 0, iU 0, iU 0]
def tRaw (k : Int) : List Dat := [.sl 1 1 fun i => [[.sl 12 1 fun i => [rRaw k].getD i []]].getD i []]
def ringRaw : List Dat := [.sl 1 2 fun i => [[.sl 5 2 fun i => [pRaw 1 0 0 0 0, pRaw 2 0 1 0 1].getD i []], [.sl 5 2 fun i => [pRaw 2 0 0 1 1, pRaw 1 0 0 0 0].getD i []]].getD i [], iI 1, .v (.slice none 0 0), .v (.slice none 0 0),
  .sl 1 2 fun i => [tRaw 3, tRaw 2].getD i []]
theorem two_lt {i : Nat} (h : i < 2) : i = 0 ∨ i = 1 := by omega
theorem rRaw_eq (k : Int) (i : Nat) (h : i < 1) : [rRaw k].getD i [] = rowR [⟨0, ⟨1, 1⟩, k, 1, 0, ⟨0, 0⟩⟩] i := by
  obtain rfl : i = 0 := by omega
  show _ = ruleD _
  unfold ruleD
  simp only [List.getD_cons_zero, hi_zero, lo_zero, show hi 1 = 0 from by decide, show lo 1 = 1 from by decide]
  rfl
theorem tRaw_le (k : Int) : DLes (tRaw k) [.sl 1 1 (rowRR [[⟨0, ⟨1, 1⟩, k, 1, 0, ⟨0, 0⟩⟩]])] := by
  refine .cons (dle_sl rfl fun i h => ?_) .nil
  obtain rfl : i = 0 := by omega
  exact .cons (dle_sl rfl fun i h => .of_eq (rRaw_eq k i h)) .nil
theorem ringRaw_le : DLes ringRaw (configD ringK) := by
  refine .cons (dle_sl rfl fun i h => ?_) (.cons (dle_refl _) (.cons dle_emp (.cons dle_emp (.cons (dle_sl rfl fun i h => ?_) .nil))))
  · rcases two_lt h with rfl | rfl
    · refine .cons (dle_sl rfl fun i h => ?_) .nil
      rcases two_lt h with rfl | rfl <;> exact .of_eq rfl
    · refine .cons (dle_sl rfl fun i h => ?_) .nil
      rcases two_lt h with rfl | rfl <;> exact .of_eq rfl
  · rcases two_lt h with rfl | rfl
    · exact tRaw_le 3
    · exact tRaw_le 2
set_option maxRecDepth 100000 in
set_option maxHeartbeats 4000000 in
theorem ring_c : ACalls Try.prog 53 [] (· = [.agg (configD ringK)]) := by
  refine acalls_agg ringRaw_le ?_
  unfold ringRaw tRaw rRaw pRaw iI iU
  refine j10 Try.func53 rfl (by decide +kernel) (by rw [Try.ntmps53]; simp) ?_; rw [Try.ntmps53]; simp only [frOf]
  (repeat (first | refine j0 ?_ | refine q7 rfl ?_ | refine z7 rfl ?_ | refine j6 ?_ | (refine j4 fun K hK => ?_) | (refine x5 (by kernel_rfl) (by kernel_rfl) fun K hK => ?_) | ((first | refine z6 ?_ | refine x6 ?_ | ((first | refine z2 (hK _ ?_) | refine q6 (hK _ _ (j5 (by kernel_rfl)) ?_)); clear hK K)); (first | show AWP _ _ _ _ _ | ((try simp only [q8]); first | show loopQ _ _ _ _ _ _ | show cutQ _ _ _ _ | show AWP _ _ _ _ _))) | ((first | refine x7 [0, 1, 2] rfl ?_ | refine j7 [0, 1, 2] rfl ?_); simp (maxSteps := 2000000) (disch := omega) only [go_sem, seval, hd, hopD, runD]; (repeat (first | refine ⟨by omega, ?_⟩ | refine ⟨True.intro, ?_⟩)))))
  refine x8 ⟨_, ?_, rfl⟩; rw [Try.results53]; simp (disch := omega) only [ResVars, ResVar, ptrLoc, go_sem, seval, hd, hopD, runD]
theorem ringK_small : ringK.small := by
  refine ⟨⟨by decide, ?_⟩, ⟨by decide, by decide⟩, by decide, ?_⟩
  · intro l h
    simp only [ringK, List.mem_cons, List.not_mem_nil, or_false] at h
    rcases h with rfl | rfl <;> decide
  · intro t h
    simp only [ringK, List.mem_cons, List.not_mem_nil, or_false] at h
    rcases h with rfl | rfl
    all_goals
      refine ⟨by decide, fun l h => ?_⟩
      simp only [List.mem_singleton] at h
      subst h; decide
end Go.Proofs.Ytbiildleaelodaa
set_option linter.unusedSimpArgs false
set_option linter.unusedVariables false
namespace Go.Proofs.Ytbiildleaelodaa
open Go.Proofs.Ytbiildleaelodaa.AL
set_option maxRecDepth 100000 in
set_option maxHeartbeats 4000000 in
theorem awake9_c : ACalls Try.prog 35 [] (· = [.d (.v (.bool true))]) := by
  have k0 := ring_c
  have he : stampE ringK ⟨0, 0⟩ 0 = 0 := by decide +kernel
  have k1 := Run_ok ringK ⟨0, 0⟩ 1#128 0 ringK_small he
  have k2 := Run_ok ringK ⟨0, 0⟩ 0#128 0 ringK_small he
  have a1 : (runOf ringK ⟨0, 0⟩ 1#128 0).en = 2 := by decide +kernel
  have a2 : (runOf ringK ⟨0, 0⟩ 1#128 0).an = 1 := by decide +kernel
  have a3 : (runOf ringK ⟨0, 0⟩ 1#128 0).ap = 1 := by decide +kernel
  have a4 : (runOf ringK ⟨0, 0⟩ 1#128 0).hops.length = 2 := by decide +kernel
  have a5 : passW (runOf ringK ⟨0, 0⟩ 1#128 0).hops 1 = true := by decide +kernel
  have a6 : passW (runOf ringK ⟨0, 0⟩ 1#128 0).hops 2 = false := by decide +kernel
  have b1 : (runOf ringK ⟨0, 0⟩ 0#128 0).en = 3 := by decide +kernel
  generalize runOf ringK ⟨0, 0⟩ 1#128 0 = R at *
  generalize runOf ringK ⟨0, 0⟩ 0#128 0 = R2 at *
  have k3 := Passed_c R.en R.an R.ap R.hops 1 (by omega)
  have k4 := Passed_c R.en R.an R.ap R.hops 2 (by omega)
  rw [a5, a1, a2, a3, a4] at k3
  rw [a6, a1, a2, a3, a4] at k4
  unfold runD at k1 k2
  rw [a1, a2, a3, a4] at k1
  rw [b1] at k2
  generalize rowH R.hops = rw1 at *
  generalize rowH R2.hops = rw2 at *
  generalize R2.hops.length = n2 at *
  rw [show hd 1#128 = [.v (.int .u64 0), .v (.int .u64 1)] from by unfold hd; rw [show hi 1#128 = 0 from by decide, show lo 1#128 = 1 from by decide]] at k1
  rw [show hd 0#128 = [.v (.int .u64 0), .v (.int .u64 0)] from by unfold hd; rw [hi0, lo0]] at k2
  have zz : eqI [1, 1] [1, 1] = true := rfl
  clear he
  generalize ringK = K at *
  unfold configD spotD at *
  refine j10 Try.func35 rfl (by decide +kernel) (by rw [Try.ntmps35]; simp) ?_; rw [Try.ntmps35]; simp only [frOf]
  (repeat (first | refine j0 ?_ | refine q7 rfl ?_ | refine z7 rfl ?_ | refine j6 ?_ | (refine j4 fun K hK => ?_) | (refine x5 (by kernel_rfl) (by kernel_rfl) fun K hK => ?_) | ((first | refine z6 ?_ | refine x6 ?_ | ((first | refine z2 (hK _ ?_) | refine q6 (hK _ _ (j5 (by kernel_rfl)) ?_)); clear hK K)); (first | show AWP _ _ _ _ _ | ((try simp only [q8]); first | show loopQ _ _ _ _ _ _ | show cutQ _ _ _ _ | show AWP _ _ _ _ _))) | ((first | refine q10 rfl rfl rfl ?_ | refine z10 rfl rfl rfl ?_); simp (maxSteps := 2000000) (disch := omega) only [go_sem, seval, hd, cb, ruleD, x10, eqty25, zz]; (first | refine ⟨_, k0, ?_⟩ | refine ⟨_, k1, ?_⟩ | refine ⟨_, k2, ?_⟩ | refine ⟨_, k3, ?_⟩ | refine ⟨_, k4, ?_⟩)) | ((first | refine x7 [1, 2, 4] rfl ?_ | refine j7 [1, 2, 4] rfl ?_); simp (maxSteps := 2000000) (disch := omega) only [go_sem, seval, hd, cb, ruleD, x10, eqty25, zz]; (repeat (first | refine ⟨by omega, ?_⟩ | refine ⟨True.intro, ?_⟩)))))
  refine x8 ⟨_, ?_, rfl⟩; rw [Try.results35]; simp (disch := omega) only [ResVars, ResVar, ptrLoc, go_sem, seval, hd, cb, ruleD, x10, eqty25, zz]
end Go.Proofs.Ytbiildleaelodaa
set_option linter.unusedSimpArgs false
set_option linter.unusedVariables false
namespace Go.Proofs.Ytbiildleaelodaa
open Go.Proofs.Ytbiildleaelodaa.AL
end Go.Proofs.Ytbiildleaelodaa
set_option linter.unusedSimpArgs false
set_option linter.unusedVariables false
namespace Go.Proofs.Ytbiildleaelodaa
open Go.Proofs.Ytbiildleaelodaa.AL
def GoodW (c : Config) : Nat → Nat → Nat → BitVec 128 → List Hop → Int → Prop
  | 0, _, _, _, l, en => l = [] ∧ en = 4
  | f + 1, n, t, h, l, en => ∃ x l', l = x :: l' ∧ x.sw = n ∧ x.tb = t ∧ x.h = h ∧ InW c n t ∧ match findR (tabW c n t) h with
    | none => x.ru = -1 ∧ l' = [] ∧ en = 3
    | some a => x.ru = a ∧ if stepE ((tabW c n t).getD a r0) = 0
      then GoodW c f (stepN c n ((tabW c n t).getD a r0)).toNat (stepT t ((tabW c n t).getD a r0)).toNat (setH h ((tabW c n t).getD a r0).st) l' en
      else l' = [] ∧ en = stepE ((tabW c n t).getD a r0)
theorem goW_good (c : Config) (hs : soundC c = 0) : ∀ (f n t : Nat) (h : BitVec 128) (acc : List Hop), InW c n t → ∃ l, (goW c f n t h acc).hops = acc ++ l ∧ GoodW c f n t h l (goW c f n t h acc).en
  | 0, n, t, h, acc, _ => ⟨[], by simp [goW], rfl, rfl⟩
  | f + 1, n, t, h, acc, hw => by
    cases hf : findR (tabW c n t) h with
    | none =>
      refine ⟨[⟨n, t, -1, h⟩], by unfold goW; rw [hf], ?_⟩
      unfold GoodW
      refine ⟨⟨n, t, -1, h⟩, [], rfl, rfl, rfl, rfl, hw, ?_⟩
      rw [hf]
      exact ⟨rfl, rfl, by unfold goW; rw [hf]⟩
    | some a =>
      by_cases he : stepE ((tabW c n t).getD a r0) = 0
      · obtain ⟨-, -, w2⟩ := inW_next hs hw hf he
        have e : goW c (f + 1) n t h acc = goW c f (stepN c n ((tabW c n t).getD a r0)).toNat (stepT t ((tabW c n t).getD a r0)).toNat (setH h ((tabW c n t).getD a r0).st) (acc ++ [⟨n, t, a, h⟩]) := by
          conv => lhs; unfold goW
          rw [hf]; simp only []; rw [if_pos he]
        obtain ⟨l, h1, h2⟩ := goW_good c hs f _ _ (setH h ((tabW c n t).getD a r0).st) (acc ++ [⟨n, t, a, h⟩]) w2
        rw [e]
        refine ⟨⟨n, t, a, h⟩ :: l, by rw [h1]; simp, ?_⟩
        unfold GoodW
        refine ⟨⟨n, t, a, h⟩, l, rfl, rfl, rfl, rfl, hw, ?_⟩
        rw [hf]
        simp only []
        rw [if_pos he]
        exact ⟨by first | trivial | rfl, h2⟩
      · have e : goW c (f + 1) n t h acc = ⟨stepE ((tabW c n t).getD a r0), (stepA n ((tabW c n t).getD a r0)).1, (stepA n ((tabW c n t).getD a r0)).2, acc ++ [⟨n, t, a, h⟩]⟩ := by
          conv => lhs; unfold goW
          rw [hf]; simp only []; rw [if_neg he]
        rw [e]
        refine ⟨[⟨n, t, a, h⟩], rfl, ?_⟩
        unfold GoodW
        refine ⟨⟨n, t, a, h⟩, [], rfl, rfl, rfl, rfl, hw, ?_⟩
        rw [hf]
        simp only []
        rw [if_neg he]
        exact ⟨by first | trivial | rfl, by first | trivial | rfl, by first | trivial | rfl⟩
theorem stepE_out (x : Rule) (h : ¬ stepE x = 0) : stepE x = 1 ∨ stepE x = 2 := by
  unfold stepE at h ⊢
  by_cases h4 : x.kd = 4
  · simp [h4] at h
  · by_cases h3 : x.kd = 3
    · simp [h3] at h
    · by_cases h2 : x.kd = 2
      · simp [h2]
      · simp [h4, h3, h2]
theorem good_en {c : Config} : ∀ {f n t : Nat} {h : BitVec 128} {l : List Hop} {en : Int}, GoodW c f n t h l en → 1 ≤ en ∧ en ≤ 4 ∧ (en = 4 → l.length = f) ∧ l.length ≤ f
  | 0, n, t, h, l, en, hg => by
    obtain ⟨rfl, rfl⟩ := hg
    simp
  | f + 1, n, t, h, l, en, hg => by
    unfold GoodW at hg
    obtain ⟨x, l', rfl, -, -, -, -, hm⟩ := hg
    split at hm
    · obtain ⟨-, rfl, rfl⟩ := hm
      simp
    · obtain ⟨-, hm⟩ := hm
      split at hm
      · obtain ⟨h1, h2, h3, h4⟩ := good_en hm
        refine ⟨h1, h2, fun h => by simp [h3 h], by simp; omega⟩
      · rename_i he
        obtain ⟨rfl, rfl⟩ := hm
        rcases stepE_out _ he with e | e <;> rw [e] <;> simp
def HopOk (c : Config) (x : Hop) (last : Bool) (nh : BitVec 128) (en : Int) : Prop :=
  ∃ n t : Nat, x.sw = n ∧ x.tb = t ∧ InW c n t ∧ match findR (tabW c n t) x.h with
    | none => x.ru = -1 ∧ last = true ∧ en = 3
    | some a => x.ru = a ∧ (last = false → nh = setH x.h ((tabW c n t).getD a r0).st)
theorem good_hop {c : Config} : ∀ {f n t : Nat} {h : BitVec 128} {l : List Hop} {en : Int}, GoodW c f n t h l en → ∀ i, i < l.length → HopOk c (l.getD i hop0) (decide (i + 1 = l.length)) (l.getD (i + 1) hop0).h en
  | 0, n, t, h, l, en, hg, i, hi => by
    obtain ⟨rfl, rfl⟩ := hg
    simp at hi
  | f + 1, n, t, h, l, en, hg, i, hi => by
    unfold GoodW at hg
    obtain ⟨x, l', rfl, h1, h2, h3, hw, hm⟩ := hg
    cases i with
    | succ i =>
      split at hm
      · obtain ⟨-, rfl, rfl⟩ := hm
        simp at hi
      · obtain ⟨-, hm⟩ := hm
        split at hm
        · have := good_hop hm i (by simpa using hi)
          simpa using this
        · obtain ⟨rfl, rfl⟩ := hm
          simp at hi
    | zero =>
      refine ⟨n, t, by simpa using h1, by simpa using h2, hw, ?_⟩
      simp only [List.getD_cons_zero]
      rw [h3]
      split at hm
      · rename_i e
        obtain ⟨e1, rfl, rfl⟩ := hm
        exact ⟨e1, by simp, rfl⟩
      · rename_i a e
        obtain ⟨e1, hm⟩ := hm
        refine ⟨e1, fun hl => ?_⟩
        split at hm
        · cases f with
          | zero =>
            obtain ⟨rfl, rfl⟩ := hm
            simp at hl
          | succ f =>
            unfold GoodW at hm
            obtain ⟨y, l2, rfl, -, -, h6, -, -⟩ := hm
            simpa using h6
        · obtain ⟨rfl, rfl⟩ := hm
          simp at hl
theorem good_first {c : Config} {f n t : Nat} {h : BitVec 128} {l : List Hop} {en : Int} (hg : GoodW c (f + 1) n t h l en) : 1 ≤ l.length ∧ (l.getD 0 hop0).sw = n ∧ (l.getD 0 hop0).tb = t := by
  unfold GoodW at hg
  obtain ⟨x, l', rfl, h1, h2, -⟩ := hg
  exact ⟨by simp, by simpa using h1, by simpa using h2⟩
end Go.Proofs.Ytbiildleaelodaa
set_option linter.unusedSimpArgs false
set_option linter.unusedVariables false
namespace Go.Proofs.Ytbiildleaelodaa
open Go.Proofs.Ytbiildleaelodaa.AL
def stpI (c : Config) (R : RunR) (s : {i : Nat // i ≤ R.hops.length}) : ASt :=
  ⟨[(12, .p (.d (.v (.int .i64 (s.val : Int))))), (11, .p (.d (.v (.int .i64 (R.hops.length : Int))))), (9, .loc 9 0), (4, .p (.d (.bx (configD c))))],
   [(9, .cells 83 [.p (.d (.v (.int .i64 R.en))), .p (.d (.v (.int .i64 R.an))), .p (.d (.v (.int .i64 R.ap))), .p (.d (.sl 5 R.hops.length (rowH R.hops)))])]⟩
set_option maxRecDepth 100000 in
set_option maxHeartbeats 4000000 in
theorem WalkSteps_bad (c : Config) (s : Spot) (h : BitVec 128) (v : Nat) (hc : c.small) (hv : v < 256) (he : ¬ stampE c s v = 0) :
    ACalls Try.prog 14 [.agg (configD c), .agg (spotD s), .agg (hd h), .d (.v (.int .u8 (v : Int)))] (· = [.d (.v (.bool true))]) := by
  have k0 := awake9_c
  have k1 := Run_bad c s h v hc (by omega) he
  have q1 : (stampE c s v != 0) = true := ine_tt he
  generalize stampE c s v = e at *
  unfold configD spotD zeroRun at *
  refine j10 Try.func14 rfl (by decide +kernel) (by rw [Try.ntmps14]; simp) ?_; rw [Try.ntmps14]; simp only [frOf]
  (repeat (first | refine j0 ?_ | refine q7 rfl ?_ | refine z7 rfl ?_ | refine j6 ?_ | (refine j4 fun K hK => ?_) | (refine x5 (by kernel_rfl) (by kernel_rfl) fun K hK => ?_) | ((first | refine z6 ?_ | refine x6 ?_ | ((first | refine z2 (hK _ ?_) | refine q6 (hK _ _ (j5 (by kernel_rfl)) ?_)); clear hK K)); (first | show AWP _ _ _ _ _ | ((try simp only [q8]); first | show loopQ _ _ _ _ _ _ | show cutQ _ _ _ _ | show AWP _ _ _ _ _))) | ((first | refine q10 rfl rfl rfl ?_ | refine z10 rfl rfl rfl ?_); simp (maxSteps := 2000000) (disch := omega) only [go_sem, seval, hd, cb, ruleD, hopD, x10, eqty25, q1]; (first | refine ⟨_, k0, ?_⟩ | refine ⟨_, k1, ?_⟩)) | ((first | refine x7 [9, 13, 15] rfl ?_ | refine j7 [9, 13, 15] rfl ?_); simp (maxSteps := 2000000) (disch := omega) only [go_sem, seval, hd, cb, ruleD, hopD, x10, eqty25, q1]; (repeat (first | refine ⟨by omega, ?_⟩ | refine ⟨True.intro, ?_⟩)))))
  refine x8 ⟨_, ?_, rfl⟩; rw [Try.results14]; simp (disch := omega) only [ResVars, ResVar, ptrLoc, go_sem, seval, hd, cb, ruleD, hopD, x10, eqty25, q1]
set_option maxRecDepth 100000 in
set_option maxHeartbeats 8000000 in
theorem WalkSteps_c (c : Config) (s : Spot) (h : BitVec 128) (v : Nat) (hc : c.small) (hv : v < 256) :
    ACalls Try.prog 14 [.agg (configD c), .agg (spotD s), .agg (hd h), .d (.v (.int .u8 (v : Int)))] (· = [.d (.v (.bool true))]) := by
  by_cases he : stampE c s v = 0
  · have k0 := awake9_c
    have k1 := Run_ok c s h v hc he
    obtain ⟨h1, -, -, h4⟩ := stamp_ok he
    obtain ⟨n0, hn0, hw0⟩ := edge_in h1 h4
    have hR : ∃ l, (runOf c s h v).hops = [] ++ l ∧ GoodW c (10799 + 1) n0 0 (setH h (stampV (edgeT c.tp s) v)) l (runOf c s h v).en := by
      unfold runOf
      rw [hn0, Int.toNat_natCast]
      exact goW_good c h1 (10799 + 1) n0 0 _ [] hw0
    obtain ⟨l, hl1, hg⟩ := hR
    rw [List.nil_append] at hl1
    generalize runOf c s h v = R at *
    obtain ⟨en, an, ap, hops⟩ := R
    simp only [] at hl1 hg
    subst hl1
    obtain ⟨e1, e2, e3, e4⟩ := good_en hg
    obtain ⟨f1, f2, f3⟩ := good_first hg
    have hop := fun i hi => good_hop hg i hi
    obtain ⟨sw, po⟩ := s
    simp only [] at hn0
    subst hn0
    have r0' := rowH_at hops 0
    clear hg he h4 hw0
    generalize hops.getD 0 hop0 = x0 at *
    have hsb := hc.tb
    unfold configD spotD runD at *
    have q1 : ((n0 : Int) != (n0 : Int)) = false := ine_ff rfl
    refine j10 Try.func14 rfl (by decide +kernel) (by rw [Try.ntmps14]; simp) ?_; rw [Try.ntmps14]; simp only [frOf]
    (repeat (first | refine j0 ?_ | refine q7 rfl ?_ | refine z7 rfl ?_ | refine j6 ?_ | (refine j4 fun K hK => ?_) | (refine x5 (by kernel_rfl) (by kernel_rfl) fun K hK => ?_) | ((first | refine z6 ?_ | refine x6 ?_ | ((first | refine z2 (hK _ ?_) | refine q6 (hK _ _ (j5 (by kernel_rfl)) ?_)); clear hK K)); (first | show AWP _ _ _ _ _ | ((try simp only [q8]); first | show loopQ _ _ _ _ _ _ | show cutQ _ _ _ _ | show AWP _ _ _ _ _))) | ((first | refine q10 rfl rfl rfl ?_ | refine z10 rfl rfl rfl ?_); simp (maxSteps := 2000000) (disch := omega) only [go_sem, seval, hd, cb, ruleD, hopD, x10, eqty25, r0', f2, f3, q1]; (first | refine ⟨_, k0, ?_⟩ | refine ⟨_, k1, ?_⟩)) | ((first | refine x7 [9, 13, 15] rfl ?_ | refine j7 [9, 13, 15] rfl ?_); simp (maxSteps := 2000000) (disch := omega) only [go_sem, seval, hd, cb, ruleD, hopD, x10, eqty25, r0', f2, f3, q1]; (repeat (first | refine ⟨by omega, ?_⟩ | refine ⟨True.intro, ?_⟩)))))
    refine awp_loop (stpI c ⟨en, an, ap, hops⟩) (fun s => hops.length - s.val) ⟨0, by simp⟩ ?_ (fun s => ?_)
    · unfold stpI configD
      refine Weak.list ?_ ?_; (all_goals simp (disch := omega) only [AllF, AllL, q9, x9, j8, exists_eq_left', Option.some.injEq, go_sem, seval, hd, cb, ruleD, hopD, x10, eqty25, r0', f2, f3, q1]); (all_goals (repeat' (with_reducible apply And.intro))); (all_goals try (first | exact z8 rfl | (refine j9 ?_; omega) | (refine z8 ?_; simp; done)))
    obtain ⟨i, hi⟩ := s
    simp only [] at hi
    unfold stpI configD
    by_cases hi2 : i < hops.length
    · by_cases hi3 : i < 300
      · obtain ⟨n, t, x1, x2, hw, hm⟩ := hop i hi2
        have r1 := rowH_at hops i
        have r2 := rowH_at hops (i + 1)
        generalize hops.getD i hop0 = x at *
        generalize hops.getD (i + 1) hop0 = y at *
        obtain ⟨xs, xt, xr, xh⟩ := x
        simp only [] at x1 x2 hm
        subst x1
        subst x2
        have hn1 := hw.n1
        have ht1 := hw.t1
        have u1 := rowTT_at c.tb n
        have k2 := One_c (c.tb.getD n []) (t : Int) xh (hc.at n)
        have o1 : oneR (c.tb.getD n []) (t : Int) xh = findR (tabW c n t) xh := by unfold oneR; rw [if_neg (by omega)]; rfl
        cases hf : findR (tabW c n t) xh with
        | none =>
          rw [hf] at hm o1
          obtain ⟨rfl, m2, rfl⟩ := hm
          have m2 := of_decide_eq_true m2
          have o2 : oneH (c.tb.getD n []) (t : Int) xh = 0#128 := by unfold oneH; rw [o1]; rfl
          rw [o1, o2] at k2
          simp only [Option.getD_none, Option.isSome_none] at k2
          generalize c.tb.getD n [] = ts at *
          have q2 : ((i : Int) != (hops.length : Int) - 1) = false := ine_ff (by omega)
          (repeat (first | refine j0 ?_ | refine q7 rfl ?_ | refine z7 rfl ?_ | refine j6 ?_ | (refine j4 fun K hK => ?_) | (refine x5 (by kernel_rfl) (by kernel_rfl) fun K hK => ?_) | ((first | refine z6 ?_ | refine x6 ?_ | ((first | refine z2 (hK _ ?_) | refine q6 (hK _ _ (j5 (by kernel_rfl)) ?_)); clear hK K)); (first | show AWP _ _ _ _ _ | ((try simp only [q8]); first | show loopQ _ _ _ _ _ _ | show cutQ _ _ _ _ | show AWP _ _ _ _ _))) | ((first | refine q10 rfl rfl rfl ?_ | refine z10 rfl rfl rfl ?_); simp (maxSteps := 2000000) (disch := omega) only [go_sem, seval, hd, cb, ruleD, hopD, x10, eqty25, u1, r1, q2]; (first | refine ⟨_, k2, ?_⟩)) | ((first | refine x7 [9, 13, 15] rfl ?_ | refine j7 [9, 13, 15] rfl ?_); simp (maxSteps := 2000000) (disch := omega) only [go_sem, seval, hd, cb, ruleD, hopD, x10, eqty25, u1, r1, q2]; (repeat (first | refine ⟨by omega, ?_⟩ | refine ⟨True.intro, ?_⟩)))))
          refine ⟨⟨i + 1, by show _ ≤ hops.length; omega⟩, by simp only []; omega, ?_⟩
          refine Weak.list ?_ ?_; (all_goals simp (disch := omega) only [AllF, AllL, q9, x9, j8, exists_eq_left', Option.some.injEq, go_sem, seval, hd, cb, ruleD, hopD, x10, eqty25, u1, r1, q2]); (all_goals (repeat' (with_reducible apply And.intro))); (all_goals try (first | exact z8 rfl | (refine j9 ?_; omega) | (refine z8 ?_; simp; done)))
        | some a =>
          rw [hf] at hm o1
          obtain ⟨rfl, m2⟩ := hm
          have o2 : oneH (c.tb.getD n []) (t : Int) xh = setH xh ((tabW c n t).getD a r0).st := by unfold oneH; rw [o1]; rfl
          rw [o1, o2] at k2
          simp only [Option.getD_some, Option.isSome_some] at k2
          generalize c.tb.getD n [] = ts at *
          generalize setH xh ((tabW c n t).getD a r0).st = g at *
          have q3 : ((a : Int) != (a : Int)) = false := ine_ff rfl
          by_cases hl : i + 1 < hops.length
          · have m2 := m2 (by simp; omega)
            obtain ⟨ys, yt, yr, yh⟩ := y
            simp only [] at m2
            subst m2
            have q4 : ((i : Int) + 1) = ((i + 1 : Nat) : Int) := rfl
            (repeat (first | refine j0 ?_ | refine q7 rfl ?_ | refine z7 rfl ?_ | refine j6 ?_ | (refine j4 fun K hK => ?_) | (refine x5 (by kernel_rfl) (by kernel_rfl) fun K hK => ?_) | ((first | refine z6 ?_ | refine x6 ?_ | ((first | refine z2 (hK _ ?_) | refine q6 (hK _ _ (j5 (by kernel_rfl)) ?_)); clear hK K)); (first | show AWP _ _ _ _ _ | ((try simp only [q8]); first | show loopQ _ _ _ _ _ _ | show cutQ _ _ _ _ | show AWP _ _ _ _ _))) | ((first | refine q10 rfl rfl rfl ?_ | refine z10 rfl rfl rfl ?_); simp (maxSteps := 2000000) (disch := omega) only [go_sem, seval, hd, cb, ruleD, hopD, x10, eqty25, u1, r1, r2, q3, q4, eqI_reflW]; (first | refine ⟨_, k2, ?_⟩)) | ((first | refine x7 [9, 13, 15] rfl ?_ | refine j7 [9, 13, 15] rfl ?_); simp (maxSteps := 2000000) (disch := omega) only [go_sem, seval, hd, cb, ruleD, hopD, x10, eqty25, u1, r1, r2, q3, q4, eqI_reflW]; (repeat (first | refine ⟨by omega, ?_⟩ | refine ⟨True.intro, ?_⟩)))))
            refine ⟨⟨i + 1, by show _ ≤ hops.length; omega⟩, by simp only []; omega, ?_⟩
            refine Weak.list ?_ ?_; (all_goals simp (disch := omega) only [AllF, AllL, q9, x9, j8, exists_eq_left', Option.some.injEq, go_sem, seval, hd, cb, ruleD, hopD, x10, eqty25, u1, r1, r2, q3, q4, eqI_reflW]); (all_goals (repeat' (with_reducible apply And.intro))); (all_goals try (first | exact z8 rfl | (refine j9 ?_; omega) | (refine z8 ?_; simp; done)))
          · 
            (repeat (first | refine j0 ?_ | refine q7 rfl ?_ | refine z7 rfl ?_ | refine j6 ?_ | (refine j4 fun K hK => ?_) | (refine x5 (by kernel_rfl) (by kernel_rfl) fun K hK => ?_) | ((first | refine z6 ?_ | refine x6 ?_ | ((first | refine z2 (hK _ ?_) | refine q6 (hK _ _ (j5 (by kernel_rfl)) ?_)); clear hK K)); (first | show AWP _ _ _ _ _ | ((try simp only [q8]); first | show loopQ _ _ _ _ _ _ | show cutQ _ _ _ _ | show AWP _ _ _ _ _))) | ((first | refine q10 rfl rfl rfl ?_ | refine z10 rfl rfl rfl ?_); simp (maxSteps := 2000000) (disch := omega) only [go_sem, seval, hd, cb, ruleD, hopD, x10, eqty25, u1, r1, q3]; (first | refine ⟨_, k2, ?_⟩)) | ((first | refine x7 [9, 13, 15] rfl ?_ | refine j7 [9, 13, 15] rfl ?_); simp (maxSteps := 2000000) (disch := omega) only [go_sem, seval, hd, cb, ruleD, hopD, x10, eqty25, u1, r1, q3]; (repeat (first | refine ⟨by omega, ?_⟩ | refine ⟨True.intro, ?_⟩)))))
            refine ⟨⟨i + 1, by show _ ≤ hops.length; omega⟩, by simp only []; omega, ?_⟩
            refine Weak.list ?_ ?_; (all_goals simp (disch := omega) only [AllF, AllL, q9, x9, j8, exists_eq_left', Option.some.injEq, go_sem, seval, hd, cb, ruleD, hopD, x10, eqty25, u1, r1, q3]); (all_goals (repeat' (with_reducible apply And.intro))); (all_goals try (first | exact z8 rfl | (refine j9 ?_; omega) | (refine z8 ?_; simp; done)))
      · by_cases h4 : en = 4
        · have e3 := e3 h4
          subst h4
          have q5 : ((hops.length : Int) == 10800) = true := ieq_tt (by omega)
          (repeat (first | refine j0 ?_ | refine q7 rfl ?_ | refine z7 rfl ?_ | refine j6 ?_ | (refine j4 fun K hK => ?_) | (refine x5 (by kernel_rfl) (by kernel_rfl) fun K hK => ?_) | ((first | refine z6 ?_ | refine x6 ?_ | ((first | refine z2 (hK _ ?_) | refine q6 (hK _ _ (j5 (by kernel_rfl)) ?_)); clear hK K)); (first | show AWP _ _ _ _ _ | ((try simp only [q8]); first | show loopQ _ _ _ _ _ _ | show cutQ _ _ _ _ | show AWP _ _ _ _ _))) | ((first | refine x7 [9, 13, 15] rfl ?_ | refine j7 [9, 13, 15] rfl ?_); simp (maxSteps := 2000000) (disch := omega) only [go_sem, seval, hd, cb, ruleD, hopD, x10, eqty25, q5]; (repeat (first | refine ⟨by omega, ?_⟩ | refine ⟨True.intro, ?_⟩)))))
          refine x8 ⟨_, ?_, rfl⟩; rw [Try.results14]; simp (disch := omega) only [ResVars, ResVar, ptrLoc, go_sem, seval, hd, cb, ruleD, hopD, x10, eqty25, q5]
        · have q5 : (en != 4) = true := ine_tt h4
          (repeat (first | refine j0 ?_ | refine q7 rfl ?_ | refine z7 rfl ?_ | refine j6 ?_ | (refine j4 fun K hK => ?_) | (refine x5 (by kernel_rfl) (by kernel_rfl) fun K hK => ?_) | ((first | refine z6 ?_ | refine x6 ?_ | ((first | refine z2 (hK _ ?_) | refine q6 (hK _ _ (j5 (by kernel_rfl)) ?_)); clear hK K)); (first | show AWP _ _ _ _ _ | ((try simp only [q8]); first | show loopQ _ _ _ _ _ _ | show cutQ _ _ _ _ | show AWP _ _ _ _ _))) | ((first | refine x7 [9, 13, 15] rfl ?_ | refine j7 [9, 13, 15] rfl ?_); simp (maxSteps := 2000000) (disch := omega) only [go_sem, seval, hd, cb, ruleD, hopD, x10, eqty25, q5]; (repeat (first | refine ⟨by omega, ?_⟩ | refine ⟨True.intro, ?_⟩)))))
          refine x8 ⟨_, ?_, rfl⟩; rw [Try.results14]; simp (disch := omega) only [ResVars, ResVar, ptrLoc, go_sem, seval, hd, cb, ruleD, hopD, x10, eqty25, q5]
    · have : i = hops.length := by omega
      subst this
      by_cases h4 : en = 4
      · have e3 := e3 h4
        subst h4
        have q5 : ((hops.length : Int) == 10800) = true := ieq_tt (by omega)
        (repeat (first | refine j0 ?_ | refine q7 rfl ?_ | refine z7 rfl ?_ | refine j6 ?_ | (refine j4 fun K hK => ?_) | (refine x5 (by kernel_rfl) (by kernel_rfl) fun K hK => ?_) | ((first | refine z6 ?_ | refine x6 ?_ | ((first | refine z2 (hK _ ?_) | refine q6 (hK _ _ (j5 (by kernel_rfl)) ?_)); clear hK K)); (first | show AWP _ _ _ _ _ | ((try simp only [q8]); first | show loopQ _ _ _ _ _ _ | show cutQ _ _ _ _ | show AWP _ _ _ _ _))) | ((first | refine x7 [9, 13, 15] rfl ?_ | refine j7 [9, 13, 15] rfl ?_); simp (maxSteps := 2000000) (disch := omega) only [go_sem, seval, hd, cb, ruleD, hopD, x10, eqty25, q5]; (repeat (first | refine ⟨by omega, ?_⟩ | refine ⟨True.intro, ?_⟩)))))
        refine x8 ⟨_, ?_, rfl⟩; rw [Try.results14]; simp (disch := omega) only [ResVars, ResVar, ptrLoc, go_sem, seval, hd, cb, ruleD, hopD, x10, eqty25, q5]
      · have q5 : (en != 4) = true := ine_tt h4
        (repeat (first | refine j0 ?_ | refine q7 rfl ?_ | refine z7 rfl ?_ | refine j6 ?_ | (refine j4 fun K hK => ?_) | (refine x5 (by kernel_rfl) (by kernel_rfl) fun K hK => ?_) | ((first | refine z6 ?_ | refine x6 ?_ | ((first | refine z2 (hK _ ?_) | refine q6 (hK _ _ (j5 (by kernel_rfl)) ?_)); clear hK K)); (first | show AWP _ _ _ _ _ | ((try simp only [q8]); first | show loopQ _ _ _ _ _ _ | show cutQ _ _ _ _ | show AWP _ _ _ _ _))) | ((first | refine x7 [9, 13, 15] rfl ?_ | refine j7 [9, 13, 15] rfl ?_); simp (maxSteps := 2000000) (disch := omega) only [go_sem, seval, hd, cb, ruleD, hopD, x10, eqty25, q5]; (repeat (first | refine ⟨by omega, ?_⟩ | refine ⟨True.intro, ?_⟩)))))
        refine x8 ⟨_, ?_, rfl⟩; rw [Try.results14]; simp (disch := omega) only [ResVars, ResVar, ptrLoc, go_sem, seval, hd, cb, ruleD, hopD, x10, eqty25, q5]
  · exact WalkSteps_bad c s h v hc hv he
end Go.Proofs.Ytbiildleaelodaa
