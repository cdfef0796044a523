/- Part 4 of a proof: lemmas beneath the theorem that the last text bears. Conditions: none. -/
import Derived.Test.YtemcdefpihkfpaaGreatKSlimRunsc
import Derived.Shelf.Small.Bits
import Derived.Lib.ItoaNum
set_option maxHeartbeats 64000000
set_option linter.unusedSimpArgs false
set_option linter.unusedVariables false
namespace Go.Proofs.YtemcdefpihkfpaaGreat
open Go.Proofs.YtemcdefpihkfpaaGreat.AL
def rowTT (l : List (List (List Rule))) : Nat → List Dat := fun i => [.sl 1 (l.getD i []).length (rowRR (l.getD i []))]
theorem q38 (l : List (List (List Rule))) (i : Nat) : rowTT l i = [.sl 1 (l.getD i []).length (rowRR (l.getD i []))] := rfl
structure Config where
 tp : List (List Port)
 po : Policy
 tb : List (List (List Rule))
def configD (c : Config) : List Dat := [.sl 1 c.tp.length (rowPP c.tp),.v (.int .i64 c.po.tn),.sl 2 c.po.peers.length (rowA c.po.peers),.sl 3 c.po.ways.length (rowW c.po.ways),.sl 1 c.tb.length (rowTT c.tb)]
structure Config.small (c : Config) : Prop where
 tp : Go.Proofs.YtemcdefpihkfpaaGreat.small c.tp
 po : c.po.small
 tb : c.tb.length ≤ 1048576
 tabs : ∀ t ∈ c.tb,smallR t
theorem j163 : smallR [] := ⟨by simp,fun l h => by simp at h⟩
theorem Config.small.at {c : Config} (h : c.small) (i : Nat) : smallR (c.tb.getD i []) := by
 by_cases hi : i < c.tb.length
 ·exact h.tabs _ (q23 hi [])
 ·rw [List.getD_eq_getElem?_getD,List.getElem?_eq_none (by omega)];exact j163
theorem j74 {t : List (List Port)} {s : Spot} (h : s ∈ edgesT t) : ∃ i j : Nat,s = ⟨i,j⟩ ∧ i < t.length ∧ j < (t.getD i []).length ∧ edgeT t s = ((t.getD i []).getD j p0).tn := by
 obtain ⟨i,j,h1,h2,h3,rfl⟩ := z59.1 h
 refine ⟨i,j,rfl,h1,h2,?_⟩
 unfold edgeT
 rw [if_neg (by simp only [];omega),if_neg (by simp only [Int.toNat_natCast];omega),if_pos (by simp only [Int.toNat_natCast];exact h3)]
 simp only [Int.toNat_natCast]
def edgeOk (c : Config) (i : Nat) : Bool := tenantP c.po (edgeT c.tp ((edgesT c.tp).getD i s0))
def sizesB (c : Config) : Bool := allF (edgeOk c) (edgesT c.tp).length 0
def sizesC (c : Config) : Bool := if c.po.tn < 1 ∨ 4 < c.po.tn ∨ 16 < c.po.peers.length ∨ 4 < c.po.ways.length then false else sizesB c
theorem q103 (tn : Int) (a b : Nat) : tn < 1 ∨ (¬ tn < 1 ∧ 4 < tn) ∨ (¬ tn < 1 ∧ ¬ 4 < tn ∧ 16 < a) ∨ (¬ tn < 1 ∧ ¬ 4 < tn ∧ ¬ 16 < a ∧ 4 < b) ∨ (¬ tn < 1 ∧ ¬ 4 < tn ∧ ¬ 16 < a ∧ ¬ 4 < b) := by omega
def sizesI (c : Config) (l : List Spot) (R : Bool) (s : {i : Nat // i ≤ l.length ∧ allF (edgeOk c) l.length i = R}) : ASt :=
 ⟨[(32,.p (.d (.v (.int .i64 (s.val : Int))))),(31,.p (.d (.v (.int .i64 (l.length : Int))))),(30,.p (.d (.sl 2 l.length (rowS l)))),(3,.loc 3 0),(1,.p (.d (.bx (configD c))))],
  [(3,.cells 81 [.p (.d (.v (.int .i64 c.po.tn))),.p (.d (.sl 2 c.po.peers.length (rowA c.po.peers))),.p (.d (.sl 3 c.po.ways.length (rowW c.po.ways)))])]⟩
set_option maxRecDepth 100000 in
theorem sizes_c (c : Config) (hc : c.small) : ACalls Tryz.prog 109 [.agg (configD c)] (· = [.d (.v (.bool (sizesC c)))]) := by
 have hp := hc.po
 have hl1 := hp.1
 have hl2 := hp.2
 have ed := q162 c.tp hc.tp
 have eb := j33 hc.tp c.tp.length
 have et := hc.tp.1
 rw [show edgesTo c.tp c.tp.length = edgesT c.tp from rfl] at eb
 unfold sizesC
 simp only [topoD] at ed
 rcases q103 c.po.tn c.po.peers.length c.po.ways.length with h1 | ⟨h1,h2⟩ | ⟨h1,h2,h3⟩ | ⟨h1,h2,h3,h4⟩ | ⟨h1,h2,h3,h4⟩
 case' inr.inr.inr.inr =>
  rw [if_neg (by omega)]
  unfold sizesB
  have hin := fun i (h : i < (edgesT c.tp).length) => j74 (q23 h s0)
  have hok : ∀ i,edgeOk c i = tenantP c.po (edgeT c.tp ((edgesT c.tp).getD i s0)) := fun i => rfl
  generalize edgesT c.tp = l at ed eb hin hok
  generalize hR : allF (edgeOk c) l.length 0 = R
  refine q12 Tryz.func109 rfl (by decide +kernel) (by rw [Tryz.ntmps109];simp) ?_;rw [Tryz.ntmps109];simp only [frOf]
  (repeat (first | apply j0 | refine z7 rfl ?_ | refine x7 rfl ?_ | apply j6 | (refine x5 fun K hK => ?_) | (refine x8 fun K hK => ?_) | ((first | apply j5 | apply x6 | ((first | refine j4 (hK _ ?_) | refine q9 (hK _ _ j8 ?_));clear hK K));(first | show AWP _ _ _ _ _ | ((try simp only [z8]);first | show loopQ _ _ _ _ _ _ | show cutQ _ _ _ _ | show AWP _ _ _ _ _))) | ((first | refine x10 rfl rfl rfl ?_ | refine q13 rfl rfl rfl ?_);simp (disch:=omega) only [go_sem,seval,policyD,wayD,pairD,spotD,topoD,configD,z12];(first | refine ⟨_,ed,?_⟩)) | ((first | refine j7 [] rfl ?_ | refine q10 [] rfl ?_);simp (disch:=omega) only [go_sem,seval,policyD,wayD,pairD,spotD,topoD,configD,z12];(repeat (first | refine ⟨by omega,?_⟩ | refine ⟨True.intro,?_⟩)))))
  refine j13 (sizesI c l R) (fun s => l.length - s.val) ⟨0,Nat.zero_le _,hR⟩ ?_ (fun s => ?_)
  ·unfold sizesI
   refine Weak.list ?_ ?_;(all_goals simp (disch:=omega) only [AllF,AllL,q11,z11,j10,exists_eq_left',go_sem,seval,policyD,wayD,pairD,spotD,topoD,configD,z12]);(all_goals (repeat' (with_reducible apply And.intro)));(all_goals try (first | exact q8 rfl | (refine x11 ?_;omega) | (refine q8 ?_;simp;done)))
  obtain ⟨i,hi,hr⟩ := s
  unfold sizesI
  simp only [] at hi hr ⊢
  by_cases h : i < l.length
  ·rw [x18 h,hok] at hr
   have r1 := z102 l i
   obtain ⟨n,k,e1,e2,e3,e4⟩ := hin i h
   rw [e4] at hr
   rw [e1] at r1
   simp only [spotD] at r1
   have r2 := x20 c.tp n
   have r3 := j24 (c.tp.getD n []) k
   have l1 := q21 hc.tp n
   generalize c.tp.getD n [] = ps at r2 r3 e3 hr l1
   generalize ps.getD k p0 = p at r3 hr
   obtain ⟨kd,tn,pe,at',co⟩ := p
   simp only [portD] at r3
   simp only [] at hr
   have ct := x43 c.po tn
   simp only [policyD] at ct
   generalize tenantP c.po tn = b at hr ct
   cases b
   ·rw [Bool.false_and] at hr
    subst hr
    (repeat (first | apply j0 | refine z7 rfl ?_ | refine x7 rfl ?_ | apply j6 | (refine x5 fun K hK => ?_) | (refine x8 fun K hK => ?_) | ((first | apply j5 | apply x6 | ((first | refine j4 (hK _ ?_) | refine q9 (hK _ _ j8 ?_));clear hK K));(first | show AWP _ _ _ _ _ | ((try simp only [z8]);first | show loopQ _ _ _ _ _ _ | show cutQ _ _ _ _ | show AWP _ _ _ _ _))) | ((first | refine x10 rfl rfl rfl ?_ | refine q13 rfl rfl rfl ?_);simp (disch:=omega) only [go_sem,seval,policyD,wayD,pairD,spotD,topoD,configD,z12,r1,r2,r3];(first | refine ⟨_,ct,?_⟩)) | ((first | refine j7 [] rfl ?_ | refine q10 [] rfl ?_);simp (disch:=omega) only [go_sem,seval,policyD,wayD,pairD,spotD,topoD,configD,z12,r1,r2,r3];(repeat (first | refine ⟨by omega,?_⟩ | refine ⟨True.intro,?_⟩)))))
    refine j9 ⟨_,?_,rfl⟩;rw [Tryz.results109];simp (disch:=omega) only [ResVars,ResVar,ptrLoc,go_sem,seval,policyD,wayD,pairD,spotD,topoD,configD,z12,r1,r2,r3]
   ·rw [Bool.true_and] at hr
    (repeat (first | apply j0 | refine z7 rfl ?_ | refine x7 rfl ?_ | apply j6 | (refine x5 fun K hK => ?_) | (refine x8 fun K hK => ?_) | ((first | apply j5 | apply x6 | ((first | refine j4 (hK _ ?_) | refine q9 (hK _ _ j8 ?_));clear hK K));(first | show AWP _ _ _ _ _ | ((try simp only [z8]);first | show loopQ _ _ _ _ _ _ | show cutQ _ _ _ _ | show AWP _ _ _ _ _))) | ((first | refine x10 rfl rfl rfl ?_ | refine q13 rfl rfl rfl ?_);simp (disch:=omega) only [go_sem,seval,policyD,wayD,pairD,spotD,topoD,configD,z12,r1,r2,r3];(first | refine ⟨_,ct,?_⟩)) | ((first | refine j7 [] rfl ?_ | refine q10 [] rfl ?_);simp (disch:=omega) only [go_sem,seval,policyD,wayD,pairD,spotD,topoD,configD,z12,r1,r2,r3];(repeat (first | refine ⟨by omega,?_⟩ | refine ⟨True.intro,?_⟩)))))
    refine ⟨⟨i + 1,by omega,hr⟩,by simp only [];omega,?_⟩
    refine Weak.list ?_ ?_;(all_goals simp (disch:=omega) only [AllF,AllL,q11,z11,j10,exists_eq_left',go_sem,seval,policyD,wayD,pairD,spotD,topoD,configD,z12,r1,r2,r3]);(all_goals (repeat' (with_reducible apply And.intro)));(all_goals try (first | exact q8 rfl | (refine x11 ?_;omega) | (refine q8 ?_;simp;done)))
  ·rw [j18 (by omega)] at hr
   subst hr
   (repeat (first | apply j0 | refine z7 rfl ?_ | refine x7 rfl ?_ | apply j6 | (refine x5 fun K hK => ?_) | (refine x8 fun K hK => ?_) | ((first | apply j5 | apply x6 | ((first | refine j4 (hK _ ?_) | refine q9 (hK _ _ j8 ?_));clear hK K));(first | show AWP _ _ _ _ _ | ((try simp only [z8]);first | show loopQ _ _ _ _ _ _ | show cutQ _ _ _ _ | show AWP _ _ _ _ _))) | ((first | refine j7 [] rfl ?_ | refine q10 [] rfl ?_);simp (disch:=omega) only [go_sem,seval,policyD,wayD,pairD,spotD,topoD,configD,z12];(repeat (first | refine ⟨by omega,?_⟩ | refine ⟨True.intro,?_⟩)))))
   refine j9 ⟨_,?_,rfl⟩;rw [Tryz.results109];simp (disch:=omega) only [ResVars,ResVar,ptrLoc,go_sem,seval,policyD,wayD,pairD,spotD,topoD,configD,z12]
 all_goals
  rw [if_pos (by omega)]
  refine q12 Tryz.func109 rfl (by decide +kernel) (by rw [Tryz.ntmps109];simp) ?_;rw [Tryz.ntmps109];simp only [frOf]
  (repeat (first | apply j0 | refine z7 rfl ?_ | refine x7 rfl ?_ | apply j6 | (refine x5 fun K hK => ?_) | (refine x8 fun K hK => ?_) | ((first | apply j5 | apply x6 | ((first | refine j4 (hK _ ?_) | refine q9 (hK _ _ j8 ?_));clear hK K));(first | show AWP _ _ _ _ _ | ((try simp only [z8]);first | show loopQ _ _ _ _ _ _ | show cutQ _ _ _ _ | show AWP _ _ _ _ _))) | ((first | refine j7 [] rfl ?_ | refine q10 [] rfl ?_);simp (disch:=omega) only [go_sem,seval,policyD,wayD,pairD,spotD,topoD,configD,z12];(repeat (first | refine ⟨by omega,?_⟩ | refine ⟨True.intro,?_⟩)))))
  refine j9 ⟨_,?_,rfl⟩;rw [Tryz.results109];simp (disch:=omega) only [ResVars,ResVar,ptrLoc,go_sem,seval,policyD,wayD,pairD,spotD,topoD,configD,z12]
def pairOk (c : Config) (i : Nat) : Bool := tenantP c.po (c.po.peers.getD i (0,0)).1 && tenantP c.po (c.po.peers.getD i (0,0)).2
def wayOk (c : Config) (i : Nat) : Bool := tenantP c.po (c.po.ways.getD i w0).fr && tenantP c.po (c.po.ways.getD i w0).to && decide (0 ≤ (c.po.ways.getD i w0).via) && decide ((c.po.ways.getD i w0).via < c.tp.length)
def policyC (c : Config) : Bool := allF (pairOk c) c.po.peers.length 0 && allF (wayOk c) c.po.ways.length 0
def polyI (c : Config) (R : Bool) (s : {i : Nat // i ≤ c.po.peers.length ∧ (allF (pairOk c) c.po.peers.length i && allF (wayOk c) c.po.ways.length 0) = R}) : ASt :=
 ⟨[(13,.p (.d (.v (.int .i64 (s.val : Int))))),(12,.p (.d (.v (.int .i64 (c.po.peers.length : Int))))),(11,.p (.d (.sl 2 c.po.peers.length (rowA c.po.peers)))),(3,.loc 3 0),(1,.p (.d (.bx (configD c))))],
  [(3,.cells 81 [.p (.d (.v (.int .i64 c.po.tn))),.p (.d (.sl 2 c.po.peers.length (rowA c.po.peers))),.p (.d (.sl 3 c.po.ways.length (rowW c.po.ways)))])]⟩
def polyJ (c : Config) (R : Bool) (s : {i : Nat // i ≤ c.po.ways.length ∧ allF (wayOk c) c.po.ways.length i = R}) : ASt :=
 ⟨[(33,.p (.d (.v (.int .i64 (s.val : Int))))),(32,.p (.d (.v (.int .i64 (c.po.ways.length : Int))))),(31,.p (.d (.sl 3 c.po.ways.length (rowW c.po.ways)))),(3,.loc 3 0),(1,.p (.d (.bx (configD c))))],
  [(3,.cells 81 [.p (.d (.v (.int .i64 c.po.tn))),.p (.d (.sl 2 c.po.peers.length (rowA c.po.peers))),.p (.d (.sl 3 c.po.ways.length (rowW c.po.ways)))])]⟩
set_option maxRecDepth 100000 in
theorem q164 (c : Config) (hc : c.small) : ACalls Tryz.prog 110 [.agg (configD c)] (· = [.d (.v (.bool (policyC c)))]) := by
 have hl1 := hc.po.1
 have hl2 := hc.po.2
 have et := hc.tp.1
 unfold policyC
 generalize hR : (allF (pairOk c) c.po.peers.length 0 && allF (wayOk c) c.po.ways.length 0) = R
 refine q12 Tryz.func110 rfl (by decide +kernel) (by rw [Tryz.ntmps110];simp) ?_;rw [Tryz.ntmps110];simp only [frOf]
 (repeat (first | apply j0 | refine z7 rfl ?_ | refine x7 rfl ?_ | apply j6 | (refine x5 fun K hK => ?_) | ((first | apply j5 | apply x6 | (refine j4 (hK _ ?_);clear hK K));(first | show AWP _ _ _ _ _ | ((try simp only [z8]);first | show loopQ _ _ _ _ _ _ | show AWP _ _ _ _ _))) | (refine j7 [] rfl ?_;simp (disch:=omega) only [go_sem,seval,policyD,wayD,pairD,spotD,topoD,configD,z12];(repeat refine ⟨by omega,?_⟩))))
 refine j13 (polyI c R) (fun s => c.po.peers.length - s.val) ⟨0,Nat.zero_le _,hR⟩ ?_ (fun s => ?_)
 ·unfold polyI
  refine Weak.list ?_ ?_;(all_goals simp (disch:=omega) only [AllF,AllL,q11,z11,j10,exists_eq_left',go_sem,seval,policyD,wayD,pairD,spotD,topoD,configD,z12]);(all_goals (repeat' (with_reducible apply And.intro)));(all_goals try (first | exact q8 rfl | (refine x11 ?_;omega) | (refine q8 ?_;simp;done)))
 obtain ⟨i,hi,hr⟩ := s
 unfold polyI
 simp only [] at hi hr ⊢
 by_cases h : i < c.po.peers.length
 ·have hok : pairOk c i = (tenantP c.po (c.po.peers.getD i (0,0)).1 && tenantP c.po (c.po.peers.getD i (0,0)).2) := rfl
  rw [x18 h,hok] at hr
  have r1 := j59 c.po.peers i
  generalize c.po.peers.getD i (0,0) = x at r1 hr
  obtain ⟨x1,x2⟩ := x
  simp only [pairD] at r1
  simp only [] at hr
  have c1 := x43 c.po x1
  have c2 := x43 c.po x2
  simp only [policyD] at c1 c2
  generalize tenantP c.po x1 = b1 at c1 hr
  generalize tenantP c.po x2 = b2 at c2 hr
  cases b1
  ·simp only [Bool.false_and] at hr
   subst hr
   (repeat (first | apply j0 | refine z7 rfl ?_ | refine x7 rfl ?_ | apply j6 | (refine x5 fun K hK => ?_) | ((first | apply j5 | apply x6 | (refine j4 (hK _ ?_);clear hK K));(first | show AWP _ _ _ _ _ | ((try simp only [z8]);first | show loopQ _ _ _ _ _ _ | show AWP _ _ _ _ _))) | (refine x10 rfl rfl rfl ?_;simp (disch:=omega) only [go_sem,seval,policyD,wayD,pairD,spotD,topoD,configD,z12,r1];(first | refine ⟨_,c1,?_⟩)) | (refine j7 [] rfl ?_;simp (disch:=omega) only [go_sem,seval,policyD,wayD,pairD,spotD,topoD,configD,z12,r1];(repeat refine ⟨by omega,?_⟩))))
   refine j9 ⟨_,?_,rfl⟩;rw [Tryz.results110];simp (disch:=omega) only [ResVars,ResVar,ptrLoc,go_sem,seval,policyD,wayD,pairD,spotD,topoD,configD,z12,r1]
  ·cases b2
   ·simp only [Bool.true_and,Bool.false_and] at hr
    subst hr
    (repeat (first | apply j0 | refine z7 rfl ?_ | refine x7 rfl ?_ | apply j6 | (refine x5 fun K hK => ?_) | ((first | apply j5 | apply x6 | (refine j4 (hK _ ?_);clear hK K));(first | show AWP _ _ _ _ _ | ((try simp only [z8]);first | show loopQ _ _ _ _ _ _ | show AWP _ _ _ _ _))) | (refine x10 rfl rfl rfl ?_;simp (disch:=omega) only [go_sem,seval,policyD,wayD,pairD,spotD,topoD,configD,z12,r1];(first | refine ⟨_,c1,?_⟩ | refine ⟨_,c2,?_⟩)) | (refine j7 [] rfl ?_;simp (disch:=omega) only [go_sem,seval,policyD,wayD,pairD,spotD,topoD,configD,z12,r1];(repeat refine ⟨by omega,?_⟩))))
    refine j9 ⟨_,?_,rfl⟩;rw [Tryz.results110];simp (disch:=omega) only [ResVars,ResVar,ptrLoc,go_sem,seval,policyD,wayD,pairD,spotD,topoD,configD,z12,r1]
   ·simp only [Bool.true_and] at hr
    (repeat (first | apply j0 | refine z7 rfl ?_ | refine x7 rfl ?_ | apply j6 | (refine x5 fun K hK => ?_) | ((first | apply j5 | apply x6 | (refine j4 (hK _ ?_);clear hK K));(first | show AWP _ _ _ _ _ | ((try simp only [z8]);first | show loopQ _ _ _ _ _ _ | show AWP _ _ _ _ _))) | (refine x10 rfl rfl rfl ?_;simp (disch:=omega) only [go_sem,seval,policyD,wayD,pairD,spotD,topoD,configD,z12,r1];(first | refine ⟨_,c1,?_⟩ | refine ⟨_,c2,?_⟩)) | (refine j7 [] rfl ?_;simp (disch:=omega) only [go_sem,seval,policyD,wayD,pairD,spotD,topoD,configD,z12,r1];(repeat refine ⟨by omega,?_⟩))))
    refine ⟨⟨i + 1,by omega,hr⟩,by simp only [];omega,?_⟩
    refine Weak.list ?_ ?_;(all_goals simp (disch:=omega) only [AllF,AllL,q11,z11,j10,exists_eq_left',go_sem,seval,policyD,wayD,pairD,spotD,topoD,configD,z12,r1]);(all_goals (repeat' (with_reducible apply And.intro)));(all_goals try (first | exact q8 rfl | (refine x11 ?_;omega) | (refine q8 ?_;simp;done)))
 ·rw [j18 (show c.po.peers.length ≤ i by omega),Bool.true_and] at hr
  (repeat (first | apply j0 | refine z7 rfl ?_ | refine x7 rfl ?_ | apply j6 | (refine x5 fun K hK => ?_) | ((first | apply j5 | apply x6 | (refine j4 (hK _ ?_);clear hK K));(first | show AWP _ _ _ _ _ | ((try simp only [z8]);first | show loopQ _ _ _ _ _ _ | show AWP _ _ _ _ _))) | (refine j7 [] rfl ?_;simp (disch:=omega) only [go_sem,seval,policyD,wayD,pairD,spotD,topoD,configD,z12];(repeat refine ⟨by omega,?_⟩))))
  refine j13 (polyJ c R) (fun s => c.po.ways.length - s.val) ⟨0,Nat.zero_le _,hr⟩ ?_ (fun s => ?_)
  ·unfold polyJ
   refine Weak.list ?_ ?_;(all_goals simp (disch:=omega) only [AllF,AllL,q11,z11,j10,exists_eq_left',go_sem,seval,policyD,wayD,pairD,spotD,topoD,configD,z12]);(all_goals (repeat' (with_reducible apply And.intro)));(all_goals try (first | exact q8 rfl | (refine x11 ?_;omega) | (refine q8 ?_;simp;done)))
  obtain ⟨i,hi,hr⟩ := s
  unfold polyJ
  simp only [] at hi hr ⊢
  by_cases h : i < c.po.ways.length
  ·have hok : wayOk c i = (tenantP c.po (c.po.ways.getD i w0).fr && tenantP c.po (c.po.ways.getD i w0).to && decide (0 ≤ (c.po.ways.getD i w0).via) && decide ((c.po.ways.getD i w0).via < c.tp.length)) := rfl
   rw [x18 h,hok] at hr
   have r1 := x59 c.po.ways i
   generalize c.po.ways.getD i w0 = x at r1 hr
   obtain ⟨x1,x2,x3⟩ := x
   simp only [wayD] at r1
   simp only [] at hr
   have c1 := x43 c.po x1
   have c2 := x43 c.po x2
   simp only [policyD] at c1 c2
   generalize tenantP c.po x1 = b1 at c1 hr
   generalize tenantP c.po x2 = b2 at c2 hr
   cases b1
   ·simp only [Bool.false_and] at hr
    subst hr
    (repeat (first | apply j0 | refine z7 rfl ?_ | refine x7 rfl ?_ | apply j6 | (refine x5 fun K hK => ?_) | ((first | apply j5 | apply x6 | (refine j4 (hK _ ?_);clear hK K));(first | show AWP _ _ _ _ _ | ((try simp only [z8]);first | show loopQ _ _ _ _ _ _ | show AWP _ _ _ _ _))) | (refine x10 rfl rfl rfl ?_;simp (disch:=omega) only [go_sem,seval,policyD,wayD,pairD,spotD,topoD,configD,z12,r1];(first | refine ⟨_,c1,?_⟩)) | (refine j7 [] rfl ?_;simp (disch:=omega) only [go_sem,seval,policyD,wayD,pairD,spotD,topoD,configD,z12,r1];(repeat refine ⟨by omega,?_⟩))))
    refine j9 ⟨_,?_,rfl⟩;rw [Tryz.results110];simp (disch:=omega) only [ResVars,ResVar,ptrLoc,go_sem,seval,policyD,wayD,pairD,spotD,topoD,configD,z12,r1]
   ·cases b2
    ·simp only [Bool.true_and,Bool.false_and] at hr
     subst hr
     (repeat (first | apply j0 | refine z7 rfl ?_ | refine x7 rfl ?_ | apply j6 | (refine x5 fun K hK => ?_) | ((first | apply j5 | apply x6 | (refine j4 (hK _ ?_);clear hK K));(first | show AWP _ _ _ _ _ | ((try simp only [z8]);first | show loopQ _ _ _ _ _ _ | show AWP _ _ _ _ _))) | (refine x10 rfl rfl rfl ?_;simp (disch:=omega) only [go_sem,seval,policyD,wayD,pairD,spotD,topoD,configD,z12,r1];(first | refine ⟨_,c1,?_⟩ | refine ⟨_,c2,?_⟩)) | (refine j7 [] rfl ?_;simp (disch:=omega) only [go_sem,seval,policyD,wayD,pairD,spotD,topoD,configD,z12,r1];(repeat refine ⟨by omega,?_⟩))))
     refine j9 ⟨_,?_,rfl⟩;rw [Tryz.results110];simp (disch:=omega) only [ResVars,ResVar,ptrLoc,go_sem,seval,policyD,wayD,pairD,spotD,topoD,configD,z12,r1]
    ·by_cases h3 : 0 ≤ x3
     ·by_cases h4 : x3 < c.tp.length
      ·rw [decide_eq_true h3,decide_eq_true h4] at hr
       simp only [Bool.true_and] at hr
       (repeat (first | apply j0 | refine z7 rfl ?_ | refine x7 rfl ?_ | apply j6 | (refine x5 fun K hK => ?_) | ((first | apply j5 | apply x6 | (refine j4 (hK _ ?_);clear hK K));(first | show AWP _ _ _ _ _ | ((try simp only [z8]);first | show loopQ _ _ _ _ _ _ | show AWP _ _ _ _ _))) | (refine x10 rfl rfl rfl ?_;simp (disch:=omega) only [go_sem,seval,policyD,wayD,pairD,spotD,topoD,configD,z12,r1];(first | refine ⟨_,c1,?_⟩ | refine ⟨_,c2,?_⟩)) | (refine j7 [] rfl ?_;simp (disch:=omega) only [go_sem,seval,policyD,wayD,pairD,spotD,topoD,configD,z12,r1];(repeat refine ⟨by omega,?_⟩))))
       refine ⟨⟨i + 1,by omega,hr⟩,by simp only [];omega,?_⟩
       refine Weak.list ?_ ?_;(all_goals simp (disch:=omega) only [AllF,AllL,q11,z11,j10,exists_eq_left',go_sem,seval,policyD,wayD,pairD,spotD,topoD,configD,z12,r1]);(all_goals (repeat' (with_reducible apply And.intro)));(all_goals try (first | exact q8 rfl | (refine x11 ?_;omega) | (refine q8 ?_;simp;done)))
      ·rw [decide_eq_true h3,decide_eq_false h4] at hr
       simp only [Bool.true_and,Bool.false_and] at hr
       subst hr
       (repeat (first | apply j0 | refine z7 rfl ?_ | refine x7 rfl ?_ | apply j6 | (refine x5 fun K hK => ?_) | ((first | apply j5 | apply x6 | (refine j4 (hK _ ?_);clear hK K));(first | show AWP _ _ _ _ _ | ((try simp only [z8]);first | show loopQ _ _ _ _ _ _ | show AWP _ _ _ _ _))) | (refine x10 rfl rfl rfl ?_;simp (disch:=omega) only [go_sem,seval,policyD,wayD,pairD,spotD,topoD,configD,z12,r1];(first | refine ⟨_,c1,?_⟩ | refine ⟨_,c2,?_⟩)) | (refine j7 [] rfl ?_;simp (disch:=omega) only [go_sem,seval,policyD,wayD,pairD,spotD,topoD,configD,z12,r1];(repeat refine ⟨by omega,?_⟩))))
       refine j9 ⟨_,?_,rfl⟩;rw [Tryz.results110];simp (disch:=omega) only [ResVars,ResVar,ptrLoc,go_sem,seval,policyD,wayD,pairD,spotD,topoD,configD,z12,r1]
     ·rw [decide_eq_false h3] at hr
      simp only [Bool.true_and,Bool.false_and] at hr
      subst hr
      (repeat (first | apply j0 | refine z7 rfl ?_ | refine x7 rfl ?_ | apply j6 | (refine x5 fun K hK => ?_) | ((first | apply j5 | apply x6 | (refine j4 (hK _ ?_);clear hK K));(first | show AWP _ _ _ _ _ | ((try simp only [z8]);first | show loopQ _ _ _ _ _ _ | show AWP _ _ _ _ _))) | (refine x10 rfl rfl rfl ?_;simp (disch:=omega) only [go_sem,seval,policyD,wayD,pairD,spotD,topoD,configD,z12,r1];(first | refine ⟨_,c1,?_⟩ | refine ⟨_,c2,?_⟩)) | (refine j7 [] rfl ?_;simp (disch:=omega) only [go_sem,seval,policyD,wayD,pairD,spotD,topoD,configD,z12,r1];(repeat refine ⟨by omega,?_⟩))))
      refine j9 ⟨_,?_,rfl⟩;rw [Tryz.results110];simp (disch:=omega) only [ResVars,ResVar,ptrLoc,go_sem,seval,policyD,wayD,pairD,spotD,topoD,configD,z12,r1]
  ·rw [j18 (show c.po.ways.length ≤ i by omega)] at hr
   subst hr
   (repeat (first | apply j0 | refine z7 rfl ?_ | refine x7 rfl ?_ | apply j6 | (refine x5 fun K hK => ?_) | ((first | apply j5 | apply x6 | (refine j4 (hK _ ?_);clear hK K));(first | show AWP _ _ _ _ _ | ((try simp only [z8]);first | show loopQ _ _ _ _ _ _ | show AWP _ _ _ _ _))) | (refine j7 [] rfl ?_;simp (disch:=omega) only [go_sem,seval,policyD,wayD,pairD,spotD,topoD,configD,z12];(repeat refine ⟨by omega,?_⟩))))
   refine j9 ⟨_,?_,rfl⟩;rw [Tryz.results110];simp (disch:=omega) only [ResVars,ResVar,ptrLoc,go_sem,seval,policyD,wayD,pairD,spotD,topoD,configD,z12]
def spotSh : Sh := .pair (.int .i64) (.pair (.int .i64) .unit)
def pairSh : Sh := .pair (.int .i64) (.pair (.int .i64) .unit)
def waySh : Sh := .pair (.int .i64) (.pair (.int .i64) (.pair (.int .i64) .unit))
def topoSh : Sh := .pair (.slice (.slice portSh)) .unit
def policySh : Sh := .pair (.int .i64) (.pair (.slice pairSh) (.pair (.slice waySh) .unit))
def tabsSh : Sh := .slice (.slice ruleSh)
def configSh : Sh := .pair topoSh (.pair policySh (.pair (.slice tabsSh) .unit))
theorem is_spot {N : Nat} {ds : List Dat} (h : Is N spotSh ds) : ∃ s : Spot,ds = spotD s ∧ in64 s.sw ∧ in64 s.po := by
 obtain ⟨_,_,rfl,⟨a,rfl,wa⟩,_,_,rfl,⟨b,rfl,wb⟩,rfl⟩ := h
 exact ⟨⟨a,b⟩,rfl,x22 wa,x22 wb⟩
theorem is_pair {N : Nat} {ds : List Dat} (h : Is N pairSh ds) : ∃ p : Int × Int,ds = pairD p ∧ in64 p.1 ∧ in64 p.2 := by
 obtain ⟨_,_,rfl,⟨a,rfl,wa⟩,_,_,rfl,⟨b,rfl,wb⟩,rfl⟩ := h
 exact ⟨⟨a,b⟩,rfl,x22 wa,x22 wb⟩
theorem is_way {N : Nat} {ds : List Dat} (h : Is N waySh ds) : ∃ w : Way,ds = wayD w ∧ in64 w.fr := by
 obtain ⟨_,_,rfl,⟨a,rfl,wa⟩,_,_,rfl,⟨b,rfl,wb⟩,_,_,rfl,⟨c,rfl,wc⟩,rfl⟩ := h
 exact ⟨⟨a,b,c⟩,rfl,x22 wa⟩
theorem z164 {N : Nat} {ds : List Dat} (h : Is N (.slice (.slice portSh)) ds) : ∃ l : List (List Port),ds = [.sl 1 l.length (rowPP l)] ∧ l.length ≤ N ∧ ∀ r ∈ l,r.length ≤ N :=
 z33 (fun r : List Port => [Dat.sl 5 r.length (rowP r)]) [] (.slice portSh) rfl (fun ds hd => q161 hd) h
theorem is_tabs {N : Nat} {ds : List Dat} (h : Is N tabsSh ds) : ∃ l : List (List Rule),ds = [.sl 1 l.length (rowRR l)] ∧ l.length ≤ N ∧ ∀ r ∈ l,r.length ≤ N :=
 z33 (fun r : List Rule => [Dat.sl 12 r.length (rowR r)]) [] (.slice ruleSh) (by
  have : rowR [] = fun _ => zeroSh ruleSh := by
   funext i
   show ruleD r0 = _
   simp only [ruleD,r0,z24,x24];rfl
  show [Dat.sl 12 0 (rowR [])] = _
  rw [this];rfl) (fun ds hd => j160 hd) h
theorem x164 {N : Nat} {ds : List Dat} (h : Is N (.slice tabsSh) ds) : ∃ l : List (List (List Rule)),ds = [.sl 1 l.length (rowTT l)] ∧ l.length ≤ N ∧ ∀ t ∈ l,t.length ≤ N ∧ ∀ r ∈ t,r.length ≤ N :=
 z33 (Q := fun t : List (List Rule) => t.length ≤ N ∧ ∀ r ∈ t,r.length ≤ N) (fun t : List (List Rule) => [Dat.sl 1 t.length (rowRR t)]) [] tabsSh (by
  have h0 : rowR [] = fun _ => zeroSh ruleSh := by
   funext i
   show ruleD r0 = _
   simp only [ruleD,r0,z24,x24];rfl
  have : rowRR [] = fun _ => zeroSh (.slice ruleSh) := by
   funext i
   show [Dat.sl 12 0 (rowR [])] = _
   rw [h0];rfl
  show [Dat.sl 1 0 (rowRR [])] = _
  rw [this];rfl) (fun ds hd => is_tabs hd) h
theorem j164 {N : Nat} {ds : List Dat} (h : Is N (.slice pairSh) ds) : ∃ l : List (Int × Int),ds = [.sl 2 l.length (rowA l)] ∧ l.length ≤ N := by
 obtain ⟨l,h1,h2,_⟩ := z33 (Q := fun _ => True) pairD (0,0) pairSh rfl (fun ds hd => by obtain ⟨p,h1,_⟩ := is_pair hd;exact ⟨p,h1,trivial⟩) h
 exact ⟨l,h1,h2⟩
theorem is_ways {N : Nat} {ds : List Dat} (h : Is N (.slice waySh) ds) : ∃ l : List Way,ds = [.sl 3 l.length (rowW l)] ∧ l.length ≤ N := by
 obtain ⟨l,h1,h2,_⟩ := z33 (Q := fun _ => True) wayD w0 waySh rfl (fun ds hd => by obtain ⟨p,h1,_⟩ := is_way hd;exact ⟨p,h1,trivial⟩) h
 exact ⟨l,h1,h2⟩
theorem q165 {ds : List Dat} (h : Is 1048576 policySh ds) : ∃ p : Policy,ds = policyD p ∧ p.small ∧ in64 p.tn := by
 obtain ⟨_,_,rfl,⟨a,rfl,wa⟩,_,_,rfl,hb,_,_,rfl,hc,rfl⟩ := h
 obtain ⟨ps,rfl,h1⟩ := j164 hb
 obtain ⟨ws,rfl,h2⟩ := is_ways hc
 exact ⟨⟨a,ps,ws⟩,rfl,⟨by simp only [];omega,by simp only [];omega⟩,x22 wa⟩
theorem z165 {ds : List Dat} (h : Is 1048576 configSh ds) : ∃ c : Config,ds = configD c ∧ c.small := by
 obtain ⟨_,_,rfl,⟨_,_,rfl,ha,rfl⟩,_,_,rfl,hb,_,_,rfl,hc,rfl⟩ := h
 obtain ⟨tp,rfl,t1,t2⟩ := z164 ha
 obtain ⟨po,rfl,p1,_⟩ := q165 hb
 obtain ⟨tb,rfl,b1,b2⟩ := x164 hc
 exact ⟨⟨tp,po,tb⟩,rfl,⟨⟨t1,t2⟩,p1,b1,b2⟩⟩
theorem is_byte {N : Nat} {ds : List Dat} (h : Is N (.int .u8) ds) : ∃ n : Nat,ds = [.v (.int .u8 (n : Int))] ∧ n < 256 := by
 obtain ⟨n,rfl,hw⟩ := h
 have : 0 ≤ n ∧ n < 256 := by
  simp [Lit.wf,IntKind.min,IntKind.max,IntKind.signed,IntKind.bits] at hw
  omega
 exact ⟨n.toNat,by rw [Int.toNat_of_nonneg this.1],by omega⟩
section
variable {α : Type} {key : α → Int}
def seg (x : Nat → α) (a b : Nat) : List α := (List.range' a (b - a)).map x
theorem z60 {x : Nat → α} {a b : Nat} {e : α} : e ∈ seg x a b ↔ ∃ k,a ≤ k ∧ k < b ∧ x k = e := by
 unfold seg
 rw [List.mem_map]
 constructor
 ·rintro ⟨k,hk,h⟩
  rw [List.mem_range'_1] at hk
  exact ⟨k,hk.1,by omega,h⟩
 ·rintro ⟨k,h1,h2,h⟩
  exact ⟨k,List.mem_range'_1.2 ⟨h1,by omega⟩,h⟩
theorem z34 {x y : Nat → α} {a b : Nat} (h : ∀ k,a ≤ k → k < b → x k = y k) : seg x a b = seg y a b := by
 unfold seg
 refine List.map_congr_left fun k hk => ?_
 rw [List.mem_range'_1] at hk
 exact h k hk.1 (by omega)
theorem q25 (x : Nat → α) {a m b : Nat} (h1 : a ≤ m) (h2 : m ≤ b) : seg x a b = seg x a m ++ seg x m b := by
 unfold seg
 rw [← List.map_append]
 congr 1
 have := List.range'_append (s := a) (m := m - a) (n := b - m) (step := 1)
 rw [show a + 1 * (m - a) = m from by omega,show m - a + (b - m) = b - a from by omega] at this
 exact this.symm
structure SE (key : α → Int) (a b : Nat) (x y : Nat → α) : Prop where
 out : ∀ k,¬ (a ≤ k ∧ k < b) → y k = x k
 fil : ∀ p,(seg y a b).filter (fun e => key e == p) = (seg x a b).filter (fun e => key e == p)
theorem SE.refl (a b : Nat) (x : Nat → α) : SE key a b x x := ⟨fun _ _ => rfl,fun _ => rfl⟩
theorem SE.trans {a b : Nat} {x y z : Nat → α} (h : SE key a b x y) (k : SE key a b y z) : SE key a b x z :=
 ⟨fun i hi => (k.out i hi).trans (h.out i hi),fun p => (k.fil p).trans (h.fil p)⟩
theorem SE.widen {a b a' b' : Nat} {x y : Nat → α} (h : SE key a b x y) (h1 : a' ≤ a) (hab : a ≤ b) (h2 : b ≤ b') : SE key a' b' x y := by
 refine ⟨fun k hk => h.out k (by omega),fun p => ?_⟩
 rw [q25 y (show a' ≤ b by omega) h2,q25 y h1 hab,q25 x (show a' ≤ b by omega) h2,q25 x h1 hab]
 simp only [List.filter_append]
 rw [h.fil p,z34 (x := y) (y := x) (a := a') (b := a) (fun k _ hk => h.out k (by omega)),z34 (x := y) (y := x) (a := b) (b := b') (fun k hk _ => h.out k (by omega))]
theorem SE.mem {a b : Nat} {x y : Nat → α} (h : SE key a b x y) {k : Nat} (h1 : a ≤ k) (h2 : k < b) : ∃ k',a ≤ k' ∧ k' < b ∧ y k = x k' := by
 have : y k ∈ (seg y a b).filter (fun e => key e == key (y k)) := List.mem_filter.2 ⟨z60.2 ⟨k,h1,h2,rfl⟩,by simp⟩
 rw [h.fil] at this
 obtain ⟨k',a1,a2,a3⟩ := z60.1 (List.mem_filter.1 this).1
 exact ⟨k',a1,a2,a3.symm⟩
def swap2 (x : Nat → α) (i : Nat) : Nat → α := fun k => if k = i then x (i + 1) else if k = i + 1 then x i else x k
theorem SE.swap {x : Nat → α} {i : Nat} (h : key (x i) ≠ key (x (i + 1))) : SE key i (i + 2) x (swap2 x i) := by
 refine ⟨fun k hk => ?_,fun p => ?_⟩
 ·unfold swap2;rw [if_neg (by omega),if_neg (by omega)]
 ·have e1 : seg x i (i + 2) = [x i,x (i + 1)] := by
   unfold seg;rw [show i + 2 - i = 2 from by omega];rfl
  have e2 : seg (swap2 x i) i (i + 2) = [x (i + 1),x i] := by
   unfold seg;rw [show i + 2 - i = 2 from by omega]
   simp [List.range'_succ,swap2]
  rw [e1,e2]
  simp only [List.filter_cons,List.filter_nil]
  by_cases h1 : key (x i) = p
  ·have : ¬ key (x (i + 1)) = p := fun e => h (h1.trans e.symm)
   simp [h1,this]
  ·simp [h1]
def Srt (key : α → Int) (a b : Nat) (x : Nat → α) : Prop := ∀ i j,a ≤ i → i < j → j < b → key (x i) ≤ key (x j)
theorem Srt.le {a b : Nat} {x : Nat → α} (h : Srt key a b x) {i j : Nat} (h1 : a ≤ i) (h2 : i ≤ j) (h3 : j < b) : key (x i) ≤ key (x j) := by
 rcases Nat.lt_or_eq_of_le h2 with hlt | rfl
 ·exact h i j h1 hlt h3
 ·exact Int.le_refl _
theorem z103 : ∀ {l l' : List α},l.Pairwise (fun a b => key a ≤ key b) → l'.Pairwise (fun a b => key a ≤ key b) → (∀ p,l.filter (fun e => key e == p) = l'.filter (fun e => key e == p)) → l = l'
 | [],[],_,_,_ => rfl
 | [],e :: t,_,_,h => by have := h (key e);simp at this
 | e :: t,[],_,_,h => by have := h (key e);simp at this
 |e :: t,e' :: t',h1,h2,h => by
  have hle : ∀ {e e' : α} {t t' : List α},(e' :: t').Pairwise (fun a b => key a ≤ key b) → (∀ p,(e :: t).filter (fun e => key e == p) = (e' :: t').filter (fun e => key e == p)) → key e' ≤ key e := by
   intro e e' t t' h2 h
   have hm : e ∈ (e :: t).filter (fun x => key x == key e) := List.mem_filter.2 ⟨by simp,by simp⟩
   rw [h] at hm
   rcases List.mem_cons.1 (List.mem_filter.1 hm).1 with rfl | hm
   ·exact Int.le_refl _
   ·exact (List.pairwise_cons.1 h2).1 e hm
  have hk : key e = key e' := Int.le_antisymm (hle h1 fun p => (h p).symm) (hle h2 h)
  have he : e = e' := by
   have := h (key e)
   rw [List.filter_cons,List.filter_cons,if_pos (by simp),if_pos (by simp [hk])] at this
   exact (List.cons.inj this).1
  subst he
  congr 1
  refine z103 (List.pairwise_cons.1 h1).2 (List.pairwise_cons.1 h2).2 fun p => ?_
  have := h p
  rw [List.filter_cons,List.filter_cons] at this
  split at this
  ·exact (List.cons.inj this).2
  ·exact this
def ins (key : α → Int) (e : α) : List α → List α
 | [] => [e]
 | y :: t => if key e ≤ key y then e :: y :: t else y :: ins key e t
def isort (key : α → Int) : List α → List α
 | [] => []
 | e :: t => ins key e (isort key t)
theorem x103 (e : α) (p : Int) : ∀ l : List α,(ins key e l).filter (fun x => key x == p) = (e :: l).filter (fun x => key x == p)
 | [] => rfl
 |y :: t => by
  unfold ins
  split
  ·rfl
  ·rename_i h
   have ih := x103 e p t
   rw [List.filter_cons] at ih
   rw [List.filter_cons,ih,List.filter_cons,List.filter_cons]
   by_cases h1 : key y = p
   ·have : ¬ key e = p := by omega
    simp [h1,this]
   ·simp [h1]
theorem j103 {e x : α} : ∀ {l : List α},x ∈ ins key e l → x = e ∨ x ∈ l
 | [],h => by simp [ins] at h;exact .inl h
 |y :: t,h => by
  unfold ins at h
  split at h
  ·simpa using h
  ·rcases List.mem_cons.1 h with rfl | h
   ·exact .inr (by simp)
   ·rcases j103 h with h | h
    ·exact .inl h
    ·exact .inr (by simp [h])
theorem q104 (e : α) : ∀ {l : List α},l.Pairwise (fun a b => key a ≤ key b) → (ins key e l).Pairwise (fun a b => key a ≤ key b)
 | [],_ => by simp [ins]
 |y :: t,h => by
  unfold ins
  have ⟨h1,h2⟩ := List.pairwise_cons.1 h
  split
  ·rename_i hle
   refine List.pairwise_cons.2 ⟨fun x hx => ?_,h⟩
   rcases List.mem_cons.1 hx with rfl | hx
   ·exact hle
   ·exact Int.le_trans hle (h1 x hx)
  ·rename_i hlt
   refine List.pairwise_cons.2 ⟨fun x hx => ?_,q104 e h2⟩
   rcases j103 hx with rfl | hx
   ·omega
   ·exact h1 x hx
theorem x60 (p : Int) : ∀ l : List α,(isort key l).filter (fun x => key x == p) = l.filter (fun x => key x == p)
 | [] => rfl
 |e :: t => by
  show (ins key e (isort key t)).filter _ = _
  rw [x103,List.filter_cons,x60 p t,List.filter_cons]
theorem q75 : ∀ l : List α,(isort key l).Pairwise (fun a b => key a ≤ key b)
 | [] => List.Pairwise.nil
 | e :: t => q104 e (q75 t)
structure InsAt (key : α → Int) (a i j : Nat) (y : Nat → α) : Prop where
 left : ∀ p q,a ≤ p → p < q → q ≤ i → p ≠ j → q ≠ j → key (y p) ≤ key (y q)
 right : ∀ q,j < q → q ≤ i → key (y j) < key (y q)
theorem InsAt.start {a i : Nat} {y : Nat → α} (h : Srt key a i y) : InsAt key a i i y :=
 ⟨fun p q h1 h2 h3 _ h5 => h p q h1 h2 (by omega),fun q h1 h2 => by omega⟩
theorem InsAt.step {a i j : Nat} {y : Nat → α} (h : InsAt key a i (j + 1) y) (ha : a ≤ j) (hi : j + 1 ≤ i) (hc : key (y (j + 1)) < key (y j)) : InsAt key a i j (swap2 y j) := by
 have g : ∀ k,swap2 y j k = if k = j then y (j + 1) else if k = j + 1 then y j else y k := fun _ => rfl
 refine ⟨fun p q h1 h2 h3 h4 h5 => ?_,fun q h1 h2 => ?_⟩
 ·rw [g p,g q,if_neg h4,if_neg h5]
  by_cases hp : p = j + 1
  ·rw [if_pos hp,if_neg (by omega)]
   exact h.left j q (by omega) (by omega) h3 (by omega) (by omega)
  ·rw [if_neg hp]
   by_cases hq : q = j + 1
   ·rw [if_pos hq]
    exact h.left p j h1 (by omega) (by omega) (by omega) (by omega)
   ·rw [if_neg hq]
    exact h.left p q h1 h2 h3 hp hq
 ·rw [g j,g q,if_pos rfl,if_neg (by omega)]
  by_cases hq : q = j + 1
  ·rw [if_pos hq];exact hc
  ·rw [if_neg hq];exact h.right q (by omega) h2
theorem InsAt.done {a i j : Nat} {y : Nat → α} (h : InsAt key a i j y) (hj : j ≤ i) (hc : j ≤ a ∨ key (y (j - 1)) ≤ key (y j)) : Srt key a (i + 1) y := by
 intro p q h1 h2 h3
 by_cases hp : p = j
 ·subst hp;exact Int.le_of_lt (h.right q h2 (by omega))
 ·by_cases hq : q = j
  ·subst hq
   rcases hc with hc | hc
   ·omega
   ·by_cases hpj : p = q - 1
    ·rw [hpj];exact hc
    ·exact Int.le_trans (h.left p (q - 1) h1 (by omega) (by omega) (by omega) (by omega)) hc
  ·exact h.left p q h1 h2 (by omega) hp hq
def BS (key : α → Int) (c lo hi : Nat) (x : Nat → α) : Prop := ∀ i j,lo ≤ i → i < j → j < hi → i / c = j / c → key (x i) ≤ key (x j)
theorem x165 {a c i j : Nat} (hc : 0 < c) (h : a % c = 0) (i1 : a ≤ i) (i2 : i < a + c) (j1 : a ≤ j) (j2 : j < a + c) : i / c = j / c := by
 obtain ⟨q,rfl⟩ := Nat.dvd_of_mod_eq_zero h
 have key : ∀ k,c * q ≤ k → k < c * q + c → k / c = q := by
  intro k k1 k2
  refine Nat.div_eq_of_lt_le ?_ ?_
  ·rw [Nat.mul_comm];exact k1
  ·rw [Nat.add_mul,Nat.one_mul,Nat.mul_comm];exact k2
 rw [key i i1 i2,key j j1 j2]
theorem j165 {a c i j : Nat} (hc : 0 < c) (h : a % c = 0) (h1 : i < a) (h2 : a ≤ j) : i / c ≠ j / c := by
 obtain ⟨q,rfl⟩ := Nat.dvd_of_mod_eq_zero h
 have e1 : i / c < q := (Nat.div_lt_iff_lt_mul hc).2 (by rw [Nat.mul_comm];exact h1)
 have e2 : q ≤ j / c := (Nat.le_div_iff_mul_le hc).2 (by rw [Nat.mul_comm];exact h2)
 omega
theorem BS.srt {a b c lo hi : Nat} {x : Nat → α} (h : BS key c lo hi x) (hc : 0 < c) (ha : a % c = 0) (h1 : lo ≤ a) (h2 : b ≤ hi) (h3 : b ≤ a + c) : Srt key a b x :=
 fun i j i1 i2 i3 => h i j (by omega) i2 (by omega) (x165 hc ha i1 (by omega) (by omega) (by omega))
theorem BS.more {a b c : Nat} {x y : Nat → α} (h : BS key c 0 a x) (hc : 0 < c) (ha : a % c = 0) (hb : b ≤ a + c) (hy : ∀ k,k < a → y k = x k) (hs : Srt key a b y) : BS key c 0 b y := by
 intro i j _ h2 h3 h4
 by_cases hi : a ≤ i
 ·exact hs i j hi h2 h3
 ·by_cases hj : j < a
  ·rw [hy i (by omega),hy j hj];exact h i j (by omega) h2 hj h4
  ·exact absurd h4 (j165 hc ha (by omega) (by omega))
theorem BS.drop {c lo lo' hi hi' : Nat} {x y : Nat → α} (h : BS key c lo hi x) (h1 : lo ≤ lo') (h2 : hi' ≤ hi) (hy : ∀ k,lo' ≤ k → k < hi' → y k = x k) : BS key c lo' hi' y := by
 intro i j i1 i2 i3 i4
 rw [hy i i1 (by omega),hy j (by omega) i3]
 exact h i j (by omega) i2 (by omega) i4
theorem BS.end {n c : Nat} {x : Nat → α} (h : BS key c 0 n x) (hc : n ≤ c) : Srt key 0 n x := by
 intro i j _ h2 h3
 refine h i j (Nat.zero_le _) h2 h3 ?_
 rw [Nat.div_eq_of_lt (by omega),Nat.div_eq_of_lt (by omega)]
end
end Go.Proofs.YtemcdefpihkfpaaGreat
namespace Go.Proofs.YtemcdefpihkfpaaGreat
open Go.Proofs.YtemcdefpihkfpaaGreat.AL
set_option maxRecDepth 100000 in
theorem q166 (n : Nat) (f : Nat → List Dat) (h0 : 0 < n) (hn : n ≤ 1099511627776) : MCalls Tryz.prog 74 [.p (.d (.sl 12 n f))] [] (fun rs M => rs = [.ow 5 1 12 n] ∧ M = [(5,.own 69 12 n 1 f)]) := by
 refine q20 Tryz.func74 rfl (by decide +kernel) (by rw [Tryz.ntmps74];simp) (fun l X h => by simp only [AL.look] at h;(repeat' split at h);all_goals first | omega | cases h) ?_;rw [Tryz.ntmps74];simp only [frA]
 (repeat (first | apply j0 | refine z7 rfl ?_ | refine x7 rfl ?_ | apply j6 | (refine x5 fun K hK => ?_) | ((first | apply j5 | apply x6 | (refine j4 (hK _ ?_);clear hK K));show AWP _ _ _ _ _) | (refine j7 [10005] rfl ?_;simp (disch:=omega) only [go_sem,seval,hd,cb,ruleD];(repeat refine ⟨by omega,?_⟩))))
 refine j157 5 f rfl (fun i hi => by unfold catF;rw [if_neg (by omega)];rfl) ?_
 refine j9 ?_
 exact q158 rfl rfl rfl ⟨rfl,rfl⟩
def keyR (r : Rule) : Int := -r.pr
def sortR (l : List Rule) : List Rule := isort keyR l
def bestTo (u : Nat → Bool) (x : Nat → Rule) : Nat → Option Nat
 | 0 => none
 |i + 1 => match bestTo u x i with
  | none => if u i then none else some i
  | some b => if u i then some b else if (x b).pr < (x i).pr then some i else some b
theorem z38 (u : Nat → Bool) (x : Nat → Rule) : ∀ i,match bestTo u x i with
  | none => ∀ q,q < i → u q = true
  | some p => p < i ∧ u p = false ∧ ∀ q,q < i → u q = false → (x q).pr ≤ (x p).pr ∧ (q < p → (x q).pr < (x p).pr)
 | 0 => fun q h => by omega
 |i + 1 => by
  have ih := z38 u x i
  unfold bestTo
  cases hb : bestTo u x i with
  |none =>
   rw [hb] at ih
   cases hu : u i
   ·simp only [Bool.false_eq_true,if_false]
    refine ⟨by omega,hu,fun q hq hq2 => ?_⟩
    have : q = i := by
     refine Classical.byContradiction fun hne => ?_
     have := ih q (by omega)
     rw [hq2] at this;cases this
    subst this
    exact ⟨Int.le_refl _,fun h => by omega⟩
   ·simp only [if_true]
    intro q hq
    by_cases h : q = i
    ·rw [h];exact hu
    ·exact ih q (by omega)
  |some b =>
   rw [hb] at ih
   obtain ⟨h1,h2,h3⟩ := ih
   cases hu : u i
   ·simp only [Bool.false_eq_true,if_false]
    split
    ·rename_i p hp
     split at hp <;> cases hp
    ·rename_i p hp
     split at hp
     ·rename_i hlt
      cases hp
      refine ⟨by omega,hu,fun q hq hq2 => ?_⟩
      by_cases h : q = i
      ·subst h;exact ⟨Int.le_refl _,fun h => by omega⟩
      ·have := (h3 q (by omega) hq2).1
       exact ⟨by omega,fun _ => by omega⟩
     ·rename_i hlt
      cases hp
      refine ⟨by omega,h2,fun q hq hq2 => ?_⟩
      by_cases h : q = i
      ·subst h;exact ⟨by omega,fun h => by omega⟩
      ·exact h3 q (by omega) hq2
   ·simp only [if_true]
    refine ⟨by omega,h2,fun q hq hq2 => ?_⟩
    by_cases h : q = i
    ·subst h;rw [hu] at hq2;cases hq2
    ·exact h3 q (by omega) hq2
def rem (n : Nat) (out : List Nat) : List Nat := (List.range n).filter fun i => !out.contains i
theorem z166 {α : Type} {key : α → Int} (x : Nat → α) {r : List Nat} {p : Nat} (hr : r.Pairwise (· < ·)) (hp : p ∈ r) (hmin : ∀ q ∈ r,key (x p) ≤ key (x q) ∧ (q < p → key (x p) < key (x q))) :
  isort key (r.map x) = x p :: isort key ((r.filter (· != p)).map x) := by
 obtain ⟨r1,r2,rfl⟩ := List.append_of_mem hp
 have ⟨q1,q2,q3⟩ := List.pairwise_append.1 hr
 have q4 := List.pairwise_cons.1 q2
 have n1 : ∀ q ∈ r1,q < p := fun q hq => q3 q hq p (by simp)
 have n2 : ∀ q ∈ r2,p < q := fun q hq => q4.1 q hq
 have hf : (r1 ++ p :: r2).filter (· != p) = r1 ++ r2 := by
  rw [List.filter_append,List.filter_cons]
  simp only [bne_self_eq_false,Bool.false_eq_true,if_false]
  rw [List.filter_eq_self.2 fun q hq => by have := n1 q hq;simp;omega,List.filter_eq_self.2 fun q hq => by have := n2 q hq;simp;omega]
 rw [hf]
 refine z103 (q75 _) (List.pairwise_cons.2 ⟨fun e he => ?_,q75 _⟩) fun k => ?_
 ·have : e ∈ (isort key ((r1 ++ r2).map x)).filter (fun z => key z == key e) := List.mem_filter.2 ⟨he,by simp⟩
  rw [x60] at this
  obtain ⟨q,hq,rfl⟩ := List.mem_map.1 (List.mem_filter.1 this).1
  refine (hmin q ?_).1
  rcases List.mem_append.1 hq with h | h
  ·simp [h]
  ·simp [h]
 ·rw [x60,List.filter_cons,x60]
  simp only [List.map_append,List.map_cons,List.filter_append,List.filter_cons]
  by_cases hk : key (x p) = k
  ·have : (r1.map x).filter (fun e => key e == k) = [] := by
    rw [List.filter_eq_nil_iff]
    intro e he hk2
    obtain ⟨q,hq,rfl⟩ := List.mem_map.1 he
    have := (hmin q (by simp [hq])).2 (n1 q hq)
    have := beq_iff_eq.1 hk2
    omega
   rw [this];simp [hk]
  ·simp [hk]
theorem z104 {n : Nat} {out : List Nat} {p : Nat} : rem n (out ++ [p]) = (rem n out).filter (· != p) := by
 unfold rem
 rw [List.filter_filter]
 refine List.filter_congr fun i hi => ?_
 simp only [List.contains_append,List.contains_cons,List.contains_nil,Bool.or_false]
 cases out.contains i <;> simp [bne]
theorem j60 {n : Nat} {out : List Nat} {i : Nat} : i ∈ rem n out ↔ i < n ∧ i ∉ out := by
 unfold rem
 rw [List.mem_filter,List.mem_range]
 simp
theorem x104 {n : Nat} : ∀ {r : List Nat} {p : Nat},r.Pairwise (· < ·) → p ∈ r → (r.filter (· != p)).length + 1 = r.length
 | [],p,_,h => by cases h
 |q :: r,p,h,hp => by
  have ⟨h1,h2⟩ := List.pairwise_cons.1 h
  rw [List.filter_cons]
  rcases List.mem_cons.1 hp with rfl | hp
  ·simp only [bne_self_eq_false,Bool.false_eq_true,if_false]
   rw [List.filter_eq_self.2 fun q hq => by have := h1 q hq;simp;omega];rfl
  ·have := h1 p hp
   have hq : (q != p) = true := by simp;omega
   rw [if_pos hq,List.length_cons,List.length_cons,x104 (n := n) h2 hp]
theorem j104 (n : Nat) (out : List Nat) : (rem n out).Pairwise (· < ·) := List.Pairwise.filter _ List.pairwise_lt_range
structure Ord (l : List Rule) (out : List Nat) : Prop where
 lt : ∀ i ∈ out,i < l.length
 len : out.length + (rem l.length out).length = l.length
 eq : out.map (fun i => l.getD i r0) ++ sortR ((rem l.length out).map fun i => l.getD i r0) = sortR l
theorem Ord.start (l : List Rule) : Ord l [] := by
 have e : rem l.length [] = List.range l.length := by unfold rem;exact List.filter_eq_self.2 fun _ _ => rfl
 refine ⟨fun i h => (by cases h),by rw [e];simp,?_⟩
 rw [e]
 have : (List.range l.length).map (fun i => l.getD i r0) = l := by
  apply List.ext_getElem
  ·simp
  ·intro k h1 h2;simp [h2]
 rw [this];rfl
theorem Ord.step {l : List Rule} {out : List Nat} (h : Ord l out) (hlt : out.length < l.length) : ∃ p,bestTo (fun i => out.contains i) (fun i => l.getD i r0) l.length = some p ∧ p < l.length ∧ p ∉ out ∧ Ord l (out ++ [p]) := by
 have sp := z38 (fun i => out.contains i) (fun i => l.getD i r0) l.length
 cases hb : bestTo (fun i => out.contains i) (fun i => l.getD i r0) l.length with
 |none =>
  rw [hb] at sp
  have : rem l.length out = [] := by
   rw [List.eq_nil_iff_forall_not_mem]
   intro i hi
   obtain ⟨h1,h2⟩ := j60.1 hi
   have := sp i h1
   simp at this
   exact h2 this
  have := h.len
  rw [‹rem l.length out = []›] at this
  simp at this
  omega
 |some p =>
  rw [hb] at sp
  obtain ⟨h1,h2,h3⟩ := sp
  have hno : p ∉ out := by simpa using h2
  have hp : p ∈ rem l.length out := j60.2 ⟨h1,hno⟩
  refine ⟨p,rfl,h1,hno,⟨fun i hi => ?_,?_,?_⟩⟩
  ·rcases List.mem_append.1 hi with hi | hi
   ·exact h.lt i hi
   ·simp at hi;subst hi;exact h1
  ·rw [z104,List.length_append]
   have := x104 (n := l.length) (j104 l.length out) hp
   have := h.len
   simp;omega
  ·rw [z104,← h.eq,List.map_append,List.append_assoc]
   congr 1
   unfold sortR
   rw [z166 (key := keyR) (fun i => l.getD i r0) (j104 l.length out) hp fun q hq => ?_]
   ·rfl
   ·obtain ⟨q1,q2⟩ := j60.1 hq
    have := h3 q q1 (by simpa using q2)
    unfold keyR
    exact ⟨by have := this.1;omega,fun hlt => by have := this.2 hlt;omega⟩
theorem Ord.done {l : List Rule} {out : List Nat} (h : Ord l out) (hl : ¬ out.length < l.length) : out.length = l.length ∧ out.map (fun i => l.getD i r0) = sortR l := by
 have := h.len
 have e : rem l.length out = [] := List.eq_nil_of_length_eq_zero (by omega)
 refine ⟨by omega,?_⟩
 have := h.eq
 rw [e] at this
 simpa [sortR,isort] using this
def rowI (l : List Nat) : Nat → List Dat := fun i => [.v (.int .i64 ((l.getD i 0 : Nat) : Int))]
theorem z75 (l : List Nat) (i : Nat) : rowI l i = [.v (.int .i64 ((l.getD i 0 : Nat) : Int))] := rfl
def ordTo (l : List Rule) : Nat → List Nat
 | 0 => []
 |k + 1 => match bestTo (fun i => (ordTo l k).contains i) (fun i => l.getD i r0) l.length with
  | some p => ordTo l k ++ [p]
  | none => ordTo l k
theorem q44 (l : List Rule) : ∀ k,k ≤ l.length → Ord l (ordTo l k) ∧ (ordTo l k).length = k
 | 0,_ => ⟨Ord.start l,rfl⟩
 |k + 1,hk => by
  obtain ⟨h1,h2⟩ := q44 l k (by omega)
  obtain ⟨p,e,_,_,h3⟩ := h1.step (by omega)
  unfold ordTo
  rw [e]
  exact ⟨h3,by simp [h2]⟩
def orderR (l : List Rule) : List Nat := ordTo l l.length
def bestI (b : Option Nat) : Int := match b with
 | none => -1
 | some p => (p : Int)
theorem x166 (u : Nat → Bool) (x : Nat → Rule) (i : Nat) : bestTo u x (i + 1) = match bestTo u x i with
  | none => if u i then none else some i
  | some b => if u i then some b else if (x b).pr < (x i).pr then some i else some b := rfl
section
variable {α : Type}
def swp (x : Nat → α) (i j : Nat) : Nat → α := fun k => if k = j then x i else if k = i then x j else x k
theorem j166 (x : Nat → α) (i : Nat) : swp x i i = x := by
 funext k;unfold swp
 by_cases h : k = i
 ·rw [if_pos h,h]
 ·rw [if_neg h,if_neg h]
theorem q167 (x : Nat → α) (i j : Nat) : swp x i j = swp x j i := by
 funext k;unfold swp
 by_cases h : k = j
 ·by_cases h2 : k = i
  ·rw [if_pos h,if_pos h2];congr 1;omega
  ·rw [if_pos h,if_neg h2,if_pos h]
 ·by_cases h2 : k = i
  ·rw [if_neg h,if_pos h2,if_pos h2]
  ·rw [if_neg h,if_neg h2,if_neg h2,if_neg h]
theorem z44 (x : Nat → α) (i j : Nat) : swp x i j i = x j := by
 unfold swp
 by_cases h : i = j
 ·rw [if_pos h,h]
 ·rw [if_neg h,if_pos rfl]
theorem x44 (x : Nat → α) (i j : Nat) : swp x i j j = x i := by unfold swp;rw [if_pos rfl]
theorem j22 (x : Nat → α) {i j k : Nat} (h1 : k ≠ i) (h2 : k ≠ j) : swp x i j k = x k := by unfold swp;rw [if_neg h2,if_neg h1]
theorem q61 (x : Nat → α) (a : Nat) : seg x a (a + 1) = [x a] := by
 unfold seg;rw [show a + 1 - a = 1 from by omega];rfl
structure PE (a b : Nat) (x y : Nat → α) : Prop where
 out : ∀ k,¬ (a ≤ k ∧ k < b) → y k = x k
 perm : (seg y a b).Perm (seg x a b)
theorem PE.refl (a b : Nat) (x : Nat → α) : PE a b x x := ⟨fun _ _ => rfl,List.Perm.refl _⟩
theorem PE.trans {a b : Nat} {x y z : Nat → α} (h : PE a b x y) (k : PE a b y z) : PE a b x z :=
 ⟨fun i hi => (k.out i hi).trans (h.out i hi),k.perm.trans h.perm⟩
theorem PE.widen {a b a' b' : Nat} {x y : Nat → α} (h : PE a b x y) (h1 : a' ≤ a) (hab : a ≤ b) (h2 : b ≤ b') : PE a' b' x y := by
 refine ⟨fun k hk => h.out k (by omega),?_⟩
 rw [q25 y (show a' ≤ b by omega) h2,q25 y h1 hab,q25 x (show a' ≤ b by omega) h2,q25 x h1 hab]
 rw [z34 (x := y) (y := x) (a := a') (b := a) (fun k _ hk => h.out k (by omega)),z34 (x := y) (y := x) (a := b) (b := b') (fun k hk _ => h.out k (by omega))]
 exact (h.perm.append_left _).append_right _
theorem PE.mem {a b : Nat} {x y : Nat → α} (h : PE a b x y) {k : Nat} (h1 : a ≤ k) (h2 : k < b) : ∃ k',a ≤ k' ∧ k' < b ∧ y k = x k' := by
 have : y k ∈ seg y a b := z60.2 ⟨k,h1,h2,rfl⟩
 obtain ⟨k',a1,a2,a3⟩ := z60.1 (h.perm.mem_iff.1 this)
 exact ⟨k',a1,a2,a3.symm⟩
theorem PE.swp_lt {x : Nat → α} {a b i j : Nat} (h1 : a ≤ i) (h2 : i < j) (h3 : j < b) : PE a b x (swp x i j) := by
 refine ⟨fun k hk => j22 x (by omega) (by omega),?_⟩
 have e : ∀ y : Nat → α,seg y a b = seg y a i ++ (seg y i (i + 1) ++ (seg y (i + 1) j ++ (seg y j (j + 1) ++ seg y (j + 1) b))) := by
  intro y
  rw [q25 y h1 (show i ≤ b by omega),q25 y (show i ≤ i + 1 by omega) (show i + 1 ≤ b by omega),q25 y (show i + 1 ≤ j by omega) (show j ≤ b by omega),q25 y (show j ≤ j + 1 by omega) (show j + 1 ≤ b by omega)]
 rw [e,e,q61,q61,q61,q61,z44,x44]
 rw [z34 (x := swp x i j) (y := x) (a := a) (b := i) (fun k _ _ => j22 x (by omega) (by omega)),
  z34 (x := swp x i j) (y := x) (a := i + 1) (b := j) (fun k _ _ => j22 x (by omega) (by omega)),
  z34 (x := swp x i j) (y := x) (a := j + 1) (b := b) (fun k _ _ => j22 x (by omega) (by omega))]
 refine List.Perm.append_left _ ?_
 simp only [List.singleton_append]
 refine (List.Perm.cons _ List.perm_middle).trans ?_
 exact (List.Perm.swap _ _ _).trans (List.Perm.cons _ List.perm_middle.symm)
theorem PE.swp {x : Nat → α} {a b i j : Nat} (h1 : a ≤ i) (h2 : i < b) (h3 : a ≤ j) (h4 : j < b) : PE a b x (swp x i j) := by
 by_cases h : i = j
 ·subst h;rw [j166];exact PE.refl _ _ _
 ·by_cases h' : i < j
  ·exact PE.swp_lt h1 h' h4
  ·rw [q167];exact PE.swp_lt h3 (by omega) h2
structure Dom (n N : Nat) (x : Nat → Nat) : Prop where
 lt : ∀ k,k < n → x k < N
 nd : (seg x 0 n).Nodup
theorem Dom.pe {n N a b : Nat} {x y : Nat → Nat} (h : Dom n N x) (p : PE a b x y) (hab : a ≤ b) (hb : b ≤ n) : Dom n N y := by
 have p' := p.widen (Nat.zero_le a) hab hb
 refine ⟨fun k hk => ?_,p'.perm.nodup_iff.2 h.nd⟩
 obtain ⟨k',_,h2,h3⟩ := p'.mem (Nat.zero_le k) hk
 rw [h3];exact h.lt k' h2
theorem Dom.inj {n N : Nat} {x : Nat → Nat} (h : Dom n N x) {i j : Nat} (hi : i < n) (hj : j < n) (e : x i = x j) : i = j := by
 have hn := h.nd
 unfold seg at hn
 rw [List.Nodup,List.pairwise_map,List.pairwise_iff_getElem] at hn
 apply Classical.byContradiction
 intro hne
 rcases Nat.lt_or_gt_of_ne hne with hlt | hlt
 ·have := hn i j (by simpa using hi) (by simpa using hj) hlt
  simp at this;exact this e
 ·have := hn j i (by simpa using hj) (by simpa using hi) hlt
  simp at this;exact this e.symm
theorem z61 (x : Nat → α) (j : Nat) : swap2 x j = swp x (j + 1) j := by
 funext k;unfold swap2 swp
 by_cases h : k = j
 ·rw [if_pos h]
 ·rw [if_neg h]
end
def rowN (x : Nat → Nat) : Nat → List Dat := fun i => [.v (.int .i64 (x i : Int))]
theorem z16 (x : Nat → Nat) (i : Nat) : rowN x i = [.v (.int .i64 (x i : Int))] := rfl
theorem q105 (x : Nat → Nat) (i : Nat) (r : Nat) (k : Nat) : putEl (rowN x) i 0 [.v (.int .i64 (r : Int))] k = rowN (fun k => if k = i then r else x k) k := by
 unfold putEl rowN
 by_cases h : k = i
 ·subst h;simp
 ·simp [h]
theorem q24 (x : Nat → Nat) (i j : Nat) (k : Nat) : putEl (putEl (rowN x) i 0 [.v (.int .i64 (x j : Int))]) j 0 [.v (.int .i64 (x i : Int))] k = rowN (swp x i j) k := by
 rw [show putEl (rowN x) i 0 [.v (.int .i64 (x j : Int))] = rowN (fun k => if k = i then x j else x k) from funext (q105 x i (x j)),q105]
 rfl
structure CmpN (P : Program) (g : FuncId) (o : PV) (N : Nat) (key : Nat → Int) (c : Nat → Nat → Int) : Prop where
 call : ∀ p q,p < N → q < N → ACalls P g [o,.d (.v (.int .i64 (p : Int))),.d (.v (.int .i64 (q : Int)))] (· = [.d (.v (.int .i64 (c p q)))])
 lt : ∀ p q,p < N → q < N → (c p q < 0 ↔ key p < key q)
 inj : ∀ p q,p < N → q < N → key p = key q → p = q
end Go.Proofs.YtemcdefpihkfpaaGreat
namespace Go.Proofs.YtemcdefpihkfpaaGreat
open Go.Proofs.YtemcdefpihkfpaaGreat.AL
def ltR (l : List Rule) (a b : Nat) : Prop := (l.getD b r0).pr < (l.getD a r0).pr ∨ ((l.getD b r0).pr = (l.getD a r0).pr ∧ a < b)
theorem x75 {l : List Rule} {a : Nat} : ¬ ltR l a a := by unfold ltR;omega
theorem z105 {l : List Rule} {a b : Nat} (h : ltR l a b) : ¬ ltR l b a := by unfold ltR at *;omega
theorem x105 (l : List Rule) : ∀ k,k ≤ l.length → (ordTo l k).Pairwise (ltR l) ∧ (∀ a ∈ ordTo l k,∀ q,q < l.length → q ∉ ordTo l k → ltR l a q)
 | 0,_ => ⟨List.Pairwise.nil,fun a h => by cases h⟩
 |k + 1,hk => by
  obtain ⟨h1,h2⟩ := x105 l k (by omega)
  obtain ⟨h3,h4⟩ := q44 l k (by omega)
  obtain ⟨p,e,p1,p2,_⟩ := h3.step (by omega)
  have sp := z38 (fun i => (ordTo l k).contains i) (fun i => l.getD i r0) l.length
  rw [e] at sp
  obtain ⟨_,_,s3⟩ := sp
  have e2 : ordTo l (k + 1) = ordTo l k ++ [p] := by
   show (match bestTo (fun i => (ordTo l k).contains i) (fun i => l.getD i r0) l.length with
    | some p => ordTo l k ++ [p]
    | none => ordTo l k) = _
   rw [e]
  rw [e2]
  refine ⟨List.pairwise_append.2 ⟨h1,by simp,fun a ha b hb => ?_⟩,fun a ha q hq hq2 => ?_⟩
  ·simp only [List.mem_singleton] at hb
   subst hb
   exact h2 a ha b p1 p2
  ·simp only [List.mem_append,List.mem_singleton,not_or] at hq2
   rcases List.mem_append.1 ha with ha | ha
   ·exact h2 a ha q hq hq2.1
   ·simp only [List.mem_singleton] at ha
    subst ha
    obtain ⟨t1,t2⟩ := s3 q hq (by simpa using hq2.1)
    unfold ltR
    by_cases hlt : q < a
    ·exact .inl (t2 hlt)
    ·omega
theorem j44 (l : List Rule) : (orderR l).Pairwise (ltR l) := (x105 l l.length (Nat.le_refl _)).1
theorem z30 (l : List Rule) : (orderR l).length = l.length := (q44 l l.length (Nat.le_refl _)).2
theorem x34 {l : List Rule} {i : Nat} (h : i ∈ orderR l) : i < l.length := (q44 l l.length (Nat.le_refl _)).1.lt i h
theorem z25 {l : List Rule} {i : Nat} : i ∈ orderR l ↔ i < l.length := by
 refine ⟨x34,fun h => Classical.byContradiction fun hn => ?_⟩
 have h1 := (q44 l l.length (Nat.le_refl _)).1.len
 have h2 := z30 l
 unfold orderR at h2 hn
 have h3 : rem l.length (ordTo l l.length) = [] := List.eq_nil_of_length_eq_zero (by omega)
 have h4 := j60.2 ⟨h,hn⟩
 rw [h3] at h4
 cases h4
def keyO (l : List Rule) (k : Nat) : Int := ((orderR l).idxOf k : Int)
theorem q45 {l : List Rule} {p q : Nat} (hp : p < l.length) (hq : q < l.length) (h : keyO l p = keyO l q) : p = q := by
 unfold keyO at h
 have h1 := List.getElem_idxOf (List.idxOf_lt_length_of_mem (z25.2 hp))
 have h2 := List.getElem_idxOf (List.idxOf_lt_length_of_mem (z25.2 hq))
 rw [← h1,← h2]
 congr 1
 omega
theorem z45 {l : List Rule} {p q : Nat} (hp : p < l.length) (hq : q < l.length) : keyO l p < keyO l q ↔ ltR l p q := by
 have key : ∀ p q,p < l.length → q < l.length → keyO l p < keyO l q → ltR l p q := by
  intro p q hp hq h
  have i1 := List.idxOf_lt_length_of_mem (z25.2 hp)
  have i2 := List.idxOf_lt_length_of_mem (z25.2 hq)
  have h1 := List.getElem_idxOf i1
  have h2 := List.getElem_idxOf i2
  have := List.pairwise_iff_getElem.1 (j44 l) _ _ i1 i2 (by unfold keyO at h;omega)
  rw [h1,h2] at this
  exact this
 refine ⟨key p q hp hq,fun h => ?_⟩
 apply Classical.byContradiction
 intro hn
 have hne : p ≠ q := fun e => by subst e;exact x75 h
 have : keyO l p ≠ keyO l q := fun e => hne (q45 hp hq e)
 exact z105 h (key q p hq hp (by omega))
theorem rise_id {n : Nat} {f : Nat → Nat} (h1 : ∀ i,i < n → f i < n) (h2 : ∀ i j,i < j → j < n → f i < f j) : ∀ i,i < n → f i = i := by
 have lo : ∀ i,i < n → i ≤ f i := by
  intro i
  induction i with
  | zero => intro _;omega
  | succ i ih => intro hi;have := ih (by omega);have := h2 i (i + 1) (by omega) hi;omega
 have hi : ∀ d i,i < n → n - 1 - i = d → f i ≤ i := by
  intro d
  induction d with
  | zero => intro i hi he;have := h1 i hi;omega
  | succ d ih => intro i hi he;have := ih (i + 1) (by omega) (by omega);have := h2 i (i + 1) (by omega) (by omega);omega
 intro i h;have := lo i h;have := hi _ i h rfl;omega
theorem z167 {l : List Rule} {y : Nat → Nat} (hp : PE 0 l.length id y) (hs : Srt (keyO l) 0 l.length y) (i : Nat) (hi : i < l.length) : y i = (orderR l).getD i 0 := by
 have dy : Dom l.length l.length y := by
  refine Dom.pe (x := id) ⟨fun k hk => hk,?_⟩ hp (Nat.zero_le _) (Nat.le_refl _)
  unfold seg;simp [List.nodup_range']
 have r : (orderR l).idxOf (y i) = i := rise_id (n := l.length) (f := fun i => (orderR l).idxOf (y i)) (fun i hi => by
   have := List.idxOf_lt_length_of_mem (z25.2 (dy.lt i hi));rw [z30] at this;exact this)
  (fun i j hij hj => by
   have h1 := hs i j (Nat.zero_le _) hij hj
   have h2 : keyO l (y i) ≠ keyO l (y j) := fun e => by
    have := dy.inj (by omega) hj (q45 (dy.lt i (by omega)) (dy.lt j hj) e);omega
   unfold keyO at h1 h2;omega) i hi
 have i1 := List.idxOf_lt_length_of_mem (z25.2 (dy.lt i hi))
 have h1 := List.getElem_idxOf i1
 rw [List.getD_eq_getElem?_getD,List.getElem?_eq_getElem (by rw [z30];exact hi)]
 simp only [Option.getD_some]
 rw [← h1]
 congr 1
theorem pnP (a b : Nat) : ((a : Int) + (b : Int)).toNat = a + b := by omega
theorem pnM (a b : Nat) : ((a : Int) - (b : Int)).toNat = a - b := by omega
theorem pnP1 (a : Nat) : ((a : Int) + 1).toNat = a + 1 := by omega
theorem pnM1 (a : Nat) : ((a : Int) - 1).toNat = a - 1 := by omega
def inI (key : Nat → Int) (x : Nat → Nat) (n N gen a b : Nat) (g : FuncId) (o : PV) (s : {s : Nat × (Nat → Nat) // a + 1 ≤ s.1 ∧ (s.1 ≤ b ∨ s.1 = a + 1) ∧ PE a b x s.2 ∧ Srt key a s.1 s.2}) : ASt :=
 ⟨[(8,.p (.d (.v (.int .i64 (s.val.1 : Int))))),(3,.p (.fn (.func g) [o] [])),(2,.p (.d (.v (.int .i64 (b : Int))))),(1,.p (.d (.v (.int .i64 (a : Int))))),(0,.ow 1000 gen 1 n)],
  [(1000,.own 3 1 n gen (rowN s.val.2))]⟩
def inJ (key : Nat → Int) (x : Nat → Nat) (n N gen a b i : Nat) (g : FuncId) (o : PV) (s : {s : Nat × (Nat → Nat) // a ≤ s.1 ∧ s.1 ≤ i ∧ PE a b x s.2 ∧ InsAt key a i s.1 s.2}) : ASt :=
 ⟨[(9,.p (.d (.v (.int .i64 (s.val.1 : Int))))),(8,.p (.d (.v (.int .i64 (i : Int))))),(3,.p (.fn (.func g) [o] [])),(2,.p (.d (.v (.int .i64 (b : Int))))),(1,.p (.d (.v (.int .i64 (a : Int))))),(0,.ow 1000 gen 1 n)],
  [(1000,.own 3 1 n gen (rowN s.val.2))]⟩
set_option maxRecDepth 100000 in
theorem insN_c {key : Nat → Int} {c : Nat → Nat → Int} {g : FuncId} {o : PV} {N : Nat} (hc : CmpN Tryz.prog g o N key c) (x : Nat → Nat) (n gen a b : Nat) (ai bi : Int) (ha' : ai = a) (hb' : bi = b) (hab : a ≤ b) (hb : b ≤ n) (hn : n ≤ 1099511627776) (hx : Dom n N x) :
  MCalls Tryz.prog 165 [.ow 1000 gen 1 n,.p (.d (.v (.int .i64 ai))),.p (.d (.v (.int .i64 bi))),.p (.fn (.func g) [o] [])] [(1000,.own 3 1 n gen (rowN x))]
   (fun rs M => ∃ y : {y : Nat → Nat // PE a b x y ∧ Srt key a b y},rs = [] ∧ M = [(1000,.own 3 1 n gen (rowN y.val))]) := by
 subst ha' hb'
 refine q20 Tryz.func165 rfl (by decide +kernel) (by rw [Tryz.ntmps165];simp) (fun l X h => by simp only [AL.look] at h;(repeat' split at h);all_goals first | omega | cases h) ?_;rw [Tryz.ntmps165];simp only [frA]
 (repeat (first | apply j0 | refine z7 rfl ?_ | refine x7 rfl ?_ | apply j6 | (refine x5 fun K hK => ?_) | (refine x8 fun K hK => ?_) | ((first | apply j5 | apply x6 | ((first | refine j4 (hK _ ?_) | refine q9 (hK _ _ j8 ?_));clear hK K));(first | show AWP _ _ _ _ _ | ((try simp only [z8]);first | show loopQ _ _ _ _ _ _ | show cutQ _ _ _ _ | show AWP _ _ _ _ _))) | ((first | refine j7 [] rfl ?_ | refine q10 [] rfl ?_);simp (disch:=omega) only [go_sem,seval,pnP,pnM,pnP1,pnM1];(repeat (first | refine ⟨by omega,?_⟩ | refine ⟨True.intro,?_⟩)))))
 refine j13 (inI key x n N gen a b g o) (fun s => b - s.val.1) ⟨(a + 1,x),by simp,by simp,PE.refl _ _ _,fun i j h1 h2 h3 => by simp only [] at h3;omega⟩ ?_ (fun s => ?_)
 ·unfold inI
  refine Weak.list ?_ ?_;(all_goals simp (disch:=omega) only [AllF,AllL,q11,z11,j10,exists_eq_left',go_sem,seval,pnP,pnM,pnP1,pnM1]);(all_goals (repeat' (with_reducible apply And.intro)));(all_goals try (first | exact q8 rfl | (refine x11 ?_;omega) | (refine q8 ?_;simp;done)))
 obtain ⟨⟨i,y⟩,hi,hi2,hse,hs⟩ := s
 unfold inI
 simp only [] at hi hi2 hse hs
 by_cases h : i < b
 ·(repeat (first | apply j0 | refine z7 rfl ?_ | refine x7 rfl ?_ | apply j6 | (refine x5 fun K hK => ?_) | (refine x8 fun K hK => ?_) | ((first | apply j5 | apply x6 | ((first | refine j4 (hK _ ?_) | refine q9 (hK _ _ j8 ?_));clear hK K));(first | show AWP _ _ _ _ _ | ((try simp only [z8]);first | show loopQ _ _ _ _ _ _ | show cutQ _ _ _ _ | show AWP _ _ _ _ _))) | ((first | refine j7 [] rfl ?_ | refine q10 [] rfl ?_);simp (disch:=omega) only [go_sem,seval,pnP,pnM,pnP1,pnM1];(repeat (first | refine ⟨by omega,?_⟩ | refine ⟨True.intro,?_⟩)))))
  refine j13 (inJ key x n N gen a b i g o) (fun s => s.val.1) ⟨(i,y),by simp only [];omega,Nat.le_refl _,hse,InsAt.start hs⟩ ?_ (fun s => ?_)
  ·unfold inJ
   refine Weak.list ?_ ?_;(all_goals simp (disch:=omega) only [AllF,AllL,q11,z11,j10,exists_eq_left',go_sem,seval,pnP,pnM,pnP1,pnM1]);(all_goals (repeat' (with_reducible apply And.intro)));(all_goals try (first | exact q8 rfl | (refine x11 ?_;omega) | (refine q8 ?_;simp;done)))
  obtain ⟨⟨j,z⟩,hj,hj2,hse2,hin⟩ := s
  unfold inJ
  simp only [] at hj hj2 hse2 hin
  have dz := hx.pe hse2 hab hb
  by_cases hja : a < j
  ·obtain ⟨j,rfl⟩ : ∃ k,j = k + 1 := ⟨j - 1,by omega⟩
   have r1 := z16 z (j + 1)
   have r2 := z16 z j
   have cc := hc.call (z (j + 1)) (z j) (dz.lt _ (by omega)) (dz.lt _ (by omega))
   have cl := hc.lt (z (j + 1)) (z j) (dz.lt _ (by omega)) (dz.lt _ (by omega))
   generalize c (z (j + 1)) (z j) = c0 at cc cl
   by_cases hlt : c0 < 0
   ·(repeat (first | apply j0 | refine z7 rfl ?_ | refine x7 rfl ?_ | apply j6 | (refine x5 fun K hK => ?_) | (refine x8 fun K hK => ?_) | ((first | apply j5 | apply x6 | ((first | refine j4 (hK _ ?_) | refine q9 (hK _ _ j8 ?_));clear hK K));(first | show AWP _ _ _ _ _ | ((try simp only [z8]);first | show loopQ _ _ _ _ _ _ | show cutQ _ _ _ _ | show AWP _ _ _ _ _))) | ((first | refine x10 rfl rfl rfl ?_ | refine q13 rfl rfl rfl ?_);simp (disch:=omega) only [go_sem,seval,pnP,pnM,pnP1,pnM1,r1,r2];(first | refine ⟨_,cc,?_⟩)) | ((first | refine j7 [] rfl ?_ | refine q10 [] rfl ?_);simp (disch:=omega) only [go_sem,seval,pnP,pnM,pnP1,pnM1,r1,r2];(repeat (first | refine ⟨by omega,?_⟩ | refine ⟨True.intro,?_⟩)))))
    (repeat (first | apply j0 | refine z7 rfl ?_ | refine x7 rfl ?_ | apply j6 | (refine x5 fun K hK => ?_) | (refine x8 fun K hK => ?_) | ((first | apply j5 | apply x6 | ((first | refine j4 (hK _ ?_) | refine q9 (hK _ _ j8 ?_));clear hK K));(first | show AWP _ _ _ _ _ | ((try simp only [z8]);first | show loopQ _ _ _ _ _ _ | show cutQ _ _ _ _ | show AWP _ _ _ _ _))) | ((first | refine x10 rfl rfl rfl ?_ | refine q13 rfl rfl rfl ?_);simp (disch:=omega) only [go_sem,seval,pnP,pnM,pnP1,pnM1,r1,r2];(first | refine ⟨_,cc,?_⟩)) | ((first | refine j7 [] rfl ?_ | refine q10 [] rfl ?_);simp (disch:=omega) only [go_sem,seval,pnP,pnM,pnP1,pnM1,r1,r2];(repeat (first | refine ⟨by omega,?_⟩ | refine ⟨True.intro,?_⟩)))))
    refine ⟨⟨(j,swap2 z j),by simp only [];omega,by simp only [];omega,hse2.trans (by rw [z61];exact PE.swp (by omega) (by omega) (by omega) (by omega)),hin.step (by omega) (by omega) (cl.1 hlt)⟩,by simp only [];omega,?_⟩
    refine Weak.list ?_ ?_;(all_goals simp (disch:=omega) only [AllF,AllL,q11,z11,j10,exists_eq_left',go_sem,seval,pnP,pnM,pnP1,pnM1,r1,r2]);(all_goals (repeat' (with_reducible apply And.intro)));(all_goals try (first | exact q8 rfl | (refine x11 ?_;omega) | (refine q8 ?_;simp;done)))
    exact z20 rfl rfl (fun k _ => (q24 z (j + 1) j k).trans (by rw [z61]))
   ·(repeat (first | apply j0 | refine z7 rfl ?_ | refine x7 rfl ?_ | apply j6 | (refine x5 fun K hK => ?_) | (refine x8 fun K hK => ?_) | ((first | apply j5 | apply x6 | ((first | refine j4 (hK _ ?_) | refine q9 (hK _ _ j8 ?_));clear hK K));(first | show AWP _ _ _ _ _ | ((try simp only [z8]);first | show loopQ _ _ _ _ _ _ | show cutQ _ _ _ _ | show AWP _ _ _ _ _))) | ((first | refine x10 rfl rfl rfl ?_ | refine q13 rfl rfl rfl ?_);simp (disch:=omega) only [go_sem,seval,pnP,pnM,pnP1,pnM1,r1,r2];(first | refine ⟨_,cc,?_⟩)) | ((first | refine j7 [] rfl ?_ | refine q10 [] rfl ?_);simp (disch:=omega) only [go_sem,seval,pnP,pnM,pnP1,pnM1,r1,r2];(repeat (first | refine ⟨by omega,?_⟩ | refine ⟨True.intro,?_⟩)))))
    refine ⟨⟨(i + 1,z),by simp only [];omega,by simp only [];omega,hse2,hin.done hj2 (.inr (by have : ¬ key (z (j + 1)) < key (z j) := fun e => hlt (cl.2 e);rw [Nat.add_sub_cancel];omega))⟩,by simp only [];omega,?_⟩
    refine Weak.list ?_ ?_;(all_goals simp (disch:=omega) only [AllF,AllL,q11,z11,j10,exists_eq_left',go_sem,seval,pnP,pnM,pnP1,pnM1,r1,r2]);(all_goals (repeat' (with_reducible apply And.intro)));(all_goals try (first | exact q8 rfl | (refine x11 ?_;omega) | (refine q8 ?_;simp;done)))
  ·(repeat (first | apply j0 | refine z7 rfl ?_ | refine x7 rfl ?_ | apply j6 | (refine x5 fun K hK => ?_) | (refine x8 fun K hK => ?_) | ((first | apply j5 | apply x6 | ((first | refine j4 (hK _ ?_) | refine q9 (hK _ _ j8 ?_));clear hK K));(first | show AWP _ _ _ _ _ | ((try simp only [z8]);first | show loopQ _ _ _ _ _ _ | show cutQ _ _ _ _ | show AWP _ _ _ _ _))) | ((first | refine j7 [] rfl ?_ | refine q10 [] rfl ?_);simp (disch:=omega) only [go_sem,seval,pnP,pnM,pnP1,pnM1];(repeat (first | refine ⟨by omega,?_⟩ | refine ⟨True.intro,?_⟩)))))
   refine ⟨⟨(i + 1,z),by simp only [];omega,by simp only [];omega,hse2,hin.done hj2 (.inl (by omega))⟩,by simp only [];omega,?_⟩
   refine Weak.list ?_ ?_;(all_goals simp (disch:=omega) only [AllF,AllL,q11,z11,j10,exists_eq_left',go_sem,seval,pnP,pnM,pnP1,pnM1]);(all_goals (repeat' (with_reducible apply And.intro)));(all_goals try (first | exact q8 rfl | (refine x11 ?_;omega) | (refine q8 ?_;simp;done)))
 ·(repeat (first | apply j0 | refine z7 rfl ?_ | refine x7 rfl ?_ | apply j6 | (refine x5 fun K hK => ?_) | (refine x8 fun K hK => ?_) | ((first | apply j5 | apply x6 | ((first | refine j4 (hK _ ?_) | refine q9 (hK _ _ j8 ?_));clear hK K));(first | show AWP _ _ _ _ _ | ((try simp only [z8]);first | show loopQ _ _ _ _ _ _ | show cutQ _ _ _ _ | show AWP _ _ _ _ _))) | ((first | refine j7 [] rfl ?_ | refine q10 [] rfl ?_);simp (disch:=omega) only [go_sem,seval,pnP,pnM,pnP1,pnM1];(repeat (first | refine ⟨by omega,?_⟩ | refine ⟨True.intro,?_⟩)))))
  have hs' : Srt key a b y := fun p q h1 h2 h3 => hs p q h1 h2 (by omega)
  (first | (refine j4 (hK _ ?_);refine And.left (q16 (l := 1000) rfl rfl ?_)) | (refine x6 ?_;refine And.left (q16 (l := 1000) rfl rfl ?_)) | (refine j5 ?_;refine And.left (q16 (l := 1000) rfl rfl ?_)) | (refine j9 ?_;refine And.right (q16 (l := 1000) rfl rfl ?_)) | refine And.left (q16 (l := 1000) rfl rfl ?_))
  exact ⟨⟨y,hse,hs'⟩,rfl,rfl⟩
section
variable {key : Nat → Int}
def Hp (key : Nat → Int) (f : Nat) (x : Nat → Nat) (lo hi : Nat) : Prop := ∀ p c,lo ≤ p → (c = 2 * p + 1 ∨ c = 2 * p + 2) → c < hi → key (x (f + c)) ≤ key (x (f + p))
structure HpX (key : Nat → Int) (f : Nat) (x : Nat → Nat) (lo hi r : Nat) : Prop where
 oth : ∀ p c,lo ≤ p → p ≠ r → (c = 2 * p + 1 ∨ c = 2 * p + 2) → c < hi → key (x (f + c)) ≤ key (x (f + p))
 up : ∀ p c,lo ≤ p → (r = 2 * p + 1 ∨ r = 2 * p + 2) → (c = 2 * r + 1 ∨ c = 2 * r + 2) → c < hi → key (x (f + c)) ≤ key (x (f + p))
theorem HpX.start {f lo hi : Nat} {x : Nat → Nat} (h : Hp key f x (lo + 1) hi) : HpX key f x lo hi lo :=
 ⟨fun p c h1 h2 h3 h4 => h p c (by omega) h3 h4,fun p c h1 h2 _ _ => by omega⟩
theorem HpX.done {f lo hi r : Nat} {x : Nat → Nat} (h : HpX key f x lo hi r) (hr : ∀ c,(c = 2 * r + 1 ∨ c = 2 * r + 2) → c < hi → key (x (f + c)) ≤ key (x (f + r))) : Hp key f x lo hi := by
 intro p c h1 h2 h3
 by_cases e : p = r
 ·subst e;exact hr c h2 h3
 ·exact h.oth p c h1 e h2 h3
theorem HpX.step {f lo hi r c : Nat} {x : Nat → Nat} (h : HpX key f x lo hi r) (hlo : lo ≤ r) (hc : c = 2 * r + 1 ∨ c = 2 * r + 2) (hch : c < hi) (hlt : key (x (f + r)) ≤ key (x (f + c)))
  (hmax : ∀ d,(d = 2 * r + 1 ∨ d = 2 * r + 2) → d < hi → key (x (f + d)) ≤ key (x (f + c))) : HpX key f (swp x (f + r) (f + c)) lo hi c := by
 have sr : swp x (f + r) (f + c) (f + r) = x (f + c) := z44 _ _ _
 have sc : swp x (f + r) (f + c) (f + c) = x (f + r) := x44 _ _ _
 have so : ∀ k,k ≠ r → k ≠ c → swp x (f + r) (f + c) (f + k) = x (f + k) := fun k h1 h2 => j22 _ (by omega) (by omega)
 refine ⟨fun p d h1 h2 h3 h4 => ?_,fun p d h1 h2 h3 h4 => ?_⟩
 ·by_cases e : p = r
  ·subst e
   rw [sr]
   by_cases e2 : d = c
   ·subst e2;rw [sc];exact hlt
   ·rw [so d (by omega) e2];exact hmax d h3 h4
  ·rw [so p e h2]
   by_cases e2 : d = r
   ·subst e2;rw [sr];exact h.up p c h1 h3 hc hch
   ·by_cases e3 : d = c
    ·omega
    ·rw [so d e2 e3];exact h.oth p d h1 e h3 h4
 ·have e : p = r := by omega
  subst e
  rw [sr,so d (by omega) (by omega)]
  exact h.oth c d (by omega) (by omega) h3 h4
theorem Hp.root {f hi : Nat} {x : Nat → Nat} (h : Hp key f x 0 hi) : ∀ c,c < hi → key (x (f + c)) ≤ key (x (f + 0)) := by
 intro c
 induction c using Nat.strongRecOn with
 |_ c ih =>
  intro hc
  by_cases h0 : c = 0
  ·subst h0;exact Int.le_refl _
  ·have := ih ((c - 1) / 2) (by omega) (by omega)
   have h2 := h ((c - 1) / 2) c (by omega) (by omega) hc
   omega
theorem Hp.mono {f lo hi lo' hi' : Nat} {x y : Nat → Nat} (h : Hp key f x lo hi) (h1 : lo ≤ lo') (h2 : hi' ≤ hi) (hy : ∀ k,lo' ≤ k → k < hi' → y (f + k) = x (f + k)) : Hp key f y lo' hi' := by
 intro p c h3 h4 h5
 rw [hy p h3 (by omega),hy c (by omega) h5]
 exact h p c (by omega) h4 (by omega)
theorem Hp.none {f hi m : Nat} {x : Nat → Nat} (h : hi ≤ 2 * m + 1) : Hp key f x m hi := by
 intro p c h1 h2 h3;omega
structure HS (key : Nat → Int) (f b i : Nat) (y : Nat → Nat) : Prop where
 hp : Hp key f y 0 i
 srt : Srt key (f + i) b y
 up : ∀ p q,p < i → f + i ≤ q → q < b → key (y (f + p)) ≤ key (y q)
theorem HS.out {f b i : Nat} {y : Nat → Nat} (h : HS key f b (i + 1) y) (hb : f + i < b) : Hp key f (swp y f (f + i)) 1 i ∧ Srt key (f + i) b (swp y f (f + i)) ∧ ∀ p q,p < i → f + i ≤ q → q < b → key (swp y f (f + i) (f + p)) ≤ key (swp y f (f + i) q) := by
 have sr : swp y f (f + i) (f + i) = y f := x44 _ _ _
 have s0 : swp y f (f + i) f = y (f + i) := z44 _ _ _
 have so : ∀ k,k ≠ f → k ≠ f + i → swp y f (f + i) k = y k := fun k h1 h2 => j22 _ h1 h2
 have rt := h.hp.root
 refine ⟨h.hp.mono (by omega) (by omega) fun k h1 h2 => so _ (by omega) (by omega),fun p q h1 h2 h3 => ?_,fun p q h1 h2 h3 => ?_⟩
 ·rw [so q (by omega) (by omega)]
  by_cases e : p = f + i
  ·subst e;rw [sr];exact h.up 0 q (by omega) (by omega) h3
  ·rw [so p (by omega) e];exact h.srt p q (by omega) h2 h3
 ·by_cases e : q = f + i
  ·subst e;rw [sr]
   by_cases e2 : p = 0
   ·subst e2;rw [Nat.add_zero,s0];exact rt i (by omega)
   ·rw [so _ (by omega) (by omega)];exact rt p (by omega)
  ·rw [so q (by omega) e]
   by_cases e2 : p = 0
   ·subst e2;rw [Nat.add_zero,s0];exact h.up i q (by omega) (by omega) h3
   ·rw [so _ (by omega) (by omega)];exact h.up p q (by omega) (by omega) h3
theorem HS.next {f b i : Nat} {y z : Nat → Nat} (hs : Srt key (f + i) b y) (hu : ∀ p q,p < i → f + i ≤ q → q < b → key (y (f + p)) ≤ key (y q)) (hp : PE f (f + i) y z) (hh : Hp key f z 0 i) : HS key f b i z := by
 have zo : ∀ q,f + i ≤ q → z q = y q := fun q h => hp.out q (by omega)
 refine ⟨hh,fun p q h1 h2 h3 => ?_,fun p q h1 h2 h3 => ?_⟩
 ·rw [zo p h1,zo q (by omega)];exact hs p q h1 h2 h3
 ·obtain ⟨k,k1,k2,k3⟩ := hp.mem (show f ≤ f + p by omega) (by omega)
  rw [k3,zo q h2]
  have := hu (k - f) q (by omega) h2 h3
  rwa [show f + (k - f) = k by omega] at this
theorem HS.end {f b : Nat} {y : Nat → Nat} (h : HS key f b 0 y) : Srt key f b y := h.srt
structure Prt (key : Nat → Int) (a m b : Nat) (y : Nat → Nat) : Prop where
 lo : ∀ k,a ≤ k → k < m → key (y k) ≤ key (y m)
 hi : ∀ k,m < k → k < b → key (y m) ≤ key (y k)
theorem Prt.srt {a m b : Nat} {y : Nat → Nat} (h : Prt key a m b y) (h1 : Srt key a m y) (h2 : Srt key (m + 1) b y) (ha : a ≤ m) : Srt key a b y := by
 intro p q h3 h4 h5
 by_cases e1 : q < m
 ·exact h1 p q h3 h4 e1
 ·by_cases e2 : q = m
  ·subst e2;exact h.lo p h3 h4
  ·by_cases e3 : p < m
   ·exact Int.le_trans (h.lo p h3 e3) (h.hi q (by omega) h5)
   ·by_cases e4 : p = m
    ·subst e4;exact h.hi q (by omega) h5
    ·exact h2 p q (by omega) h4 h5
theorem Prt.pe {a m b c d : Nat} {y z : Nat → Nat} (h : Prt key a m b y) (hp : PE c d y z) (hcd : (a ≤ c ∧ c ≤ d ∧ d ≤ m) ∨ (m < c ∧ c ≤ d ∧ d ≤ b)) : Prt key a m b z := by
 have zm : z m = y m := hp.out m (by omega)
 refine ⟨fun k h1 h2 => ?_,fun k h1 h2 => ?_⟩
 ·rw [zm]
  by_cases e : c ≤ k ∧ k < d
  ·obtain ⟨k',k1,k2,k3⟩ := hp.mem e.1 e.2
   rw [k3];exact h.lo k' (by omega) (by omega)
  ·rw [hp.out k e];exact h.lo k h1 h2
 ·rw [zm]
  by_cases e : c ≤ k ∧ k < d
  ·obtain ⟨k',k1,k2,k3⟩ := hp.mem e.1 e.2
   rw [k3];exact h.hi k' (by omega) (by omega)
  ·rw [hp.out k e];exact h.hi k h1 h2
def Blw (key : Nat → Int) (a b : Nat) (y : Nat → Nat) : Prop := ∀ k,0 < a → a ≤ k → k < b → key (y (a - 1)) ≤ key (y k)
theorem Blw.pe {a b : Nat} {y z : Nat → Nat} (h : Blw key a b y) (hp : PE a b y z) : Blw key a b z := by
 intro k h0 h1 h2
 rw [hp.out (a - 1) (by omega)]
 obtain ⟨k',k1,k2,k3⟩ := hp.mem h1 h2
 rw [k3];exact h k' h0 k1 k2
end
end Go.Proofs.YtemcdefpihkfpaaGreat
namespace Go.Proofs.YtemcdefpihkfpaaGreat.AL
variable {P : Program} {nt : Nat} {Q : Exit → ASt → Prop} {A : ASt}
def cutQ {ι : Type} (I : ι → ASt) (Q : Exit → ASt → Prop) : Exit → ASt → Prop
 | .normal,A => ∃ i,Weak A (I i)
 | e,A => Q e A
theorem j17 {ι : Type} {I : ι → ASt} {Q : Exit → ASt → Prop} {A : ASt} (i : ι) (h : Weak A (I i)) : cutQ I Q .normal A := ⟨i,h⟩
theorem awp_to {ι : Type} (I : ι → ASt) {x z : Code} (h1 : AWP P nt x (cutQ I Q) A) (h2 : ∀ i,AWP P nt z Q (I i)) : AWP P nt x (seqQ P nt z Q) A := by
 refine z70 h1 fun e A' h => ?_
 cases e with
 | normal => obtain ⟨i,hw⟩ := h;exact q18 hw (h2 i)
 | _ => exact h
theorem j34 {ι : Type} (I : ι → ASt) {x y z : Code} (h1 : AWP P nt x (seqQ P nt y (cutQ I Q)) A) (h2 : ∀ i,AWP P nt z Q (I i)) : AWP P nt x (seqQ P nt y (seqQ P nt z Q)) A := by
 refine z70 h1 fun e A' h => ?_
 cases e with
 | normal => exact awp_to I h h2
 | _ => exact h
theorem x38 {ι : Type} (I : ι → ASt) {x z : Code} {id : Nat} (h1 : AWP P nt x (blockQ id (cutQ I Q)) A) (h2 : ∀ i,AWP P nt z Q (I i)) : AWP P nt x (blockQ id (seqQ P nt z Q)) A := by
 have key : ∀ e A',cutQ I Q e A' → seqQ P nt z Q e A' := by
  intro e A' h
  cases e with
  | normal => obtain ⟨i,hw⟩ := h;exact q18 hw (h2 i)
  | _ => exact h
 refine z70 h1 fun e A' h => ?_
 cases e with
 |exit i =>
  simp only [blockQ] at *
  split
  ·rename_i e;rw [if_pos e] at h;exact key _ _ h
  ·rename_i e;rw [if_neg e] at h;exact key _ _ h
 | _ => simp only [blockQ] at h ⊢;exact key _ _ h
theorem x167 {ι : Type} {I : ι → ASt} {Q : Exit → ASt → Prop} {A : ASt} (h : Q .ret A) : cutQ I Q .ret A := h
attribute [irreducible] cutQ
theorem j75 {α : Type} {M : List (Nat × α)} : ∀ {L : List (Nat × α)},(∀ p ∈ L,look M p.1 = some p.2) → ∀ l X,look L l = some X → look M l = some X
 | [],_,l,X,h => by cases h
 |p :: r,hl,l,X,h => by
  simp only [look] at h
  split at h
  ·rename_i e;subst e;cases h;exact hl p (by simp)
  ·exact j75 (fun q hq => hl q (by simp [hq])) l X h
theorem z21 {fn : Func} {Q : List AV → List (Nat × LV) → Prop} (rs : List AV) (L : List (Nat × LV)) (hr : ResVarsA P A fn.results.toList rs) (hl : ∀ p ∈ L,look A.locs p.1 = some p.2) (hq : Q rs L) : retM P fn Q .ret A :=
 ⟨rs,L,hr,j75 hl,hq⟩
theorem j167 {fn : Func} {Q : List AV → List (Nat × LV) → Prop} (rs : List AV) (L : List (Nat × LV)) (hr : ResVarsA P A fn.results.toList rs) (hl : ∀ p ∈ L,look A.locs p.1 = some p.2) (hq : Q rs L) : retM P fn Q .normal A :=
 ⟨rs,L,hr,j75 hl,hq⟩
inductive LesD : List AV → List AV → Prop
 | nil : LesD [] []
 | cons {x y : AV} {xs ys : List AV} (h : Le x y) (t : LesD xs ys) : LesD (x :: xs) (y :: ys)
theorem x45 {e : TypeId} {cs cs' : List AV} (h : LesD cs cs') : LLe (.cells e cs) (.cells e cs') := by
 refine ⟨rfl,?_,?_⟩
 ·induction h with
  | nil => rfl
  | cons _ _ ih => simp [ih]
 ·induction h with
  | nil => intro i x y h1;simp at h1
  |cons h t ih =>
   intro i x y h1 h2
   cases i with
   | zero => simp at h1 h2;subst h1;subst h2;exact h
   | succ i => exact ih i x y (by simpa using h1) (by simpa using h2)
end Go.Proofs.YtemcdefpihkfpaaGreat.AL
namespace Go.Proofs.YtemcdefpihkfpaaGreat
open Go.Proofs.YtemcdefpihkfpaaGreat.AL
theorem pnP2 (a b : Nat) : ((a : Int) + (b : Int) + 1).toNat = a + b + 1 := by omega
def sdI (key : Nat → Int) (x : Nat → Nat) (n gen lo hi f : Nat) (g : FuncId) (o : PV) (s : {s : Nat × (Nat → Nat) // lo ≤ s.1 ∧ s.1 ≤ hi ∧ PE (f + lo) (f + hi) x s.2 ∧ HpX key f s.2 lo hi s.1}) : ASt :=
 ⟨[(10,.p (.d (.v (.int .i64 (s.val.1 : Int))))),(4,.p (.fn (.func g) [o] [])),(3,.p (.d (.v (.int .i64 (f : Int))))),(2,.p (.d (.v (.int .i64 (hi : Int))))),(0,.ow 1000 gen 1 n)],
  [(1000,.own 3 1 n gen (rowN s.val.2))]⟩
def sdC (n gen hi f : Nat) (g : FuncId) (o : PV) (y : Nat → Nat) (r c : Nat) : ASt :=
 ⟨[(11,.p (.d (.v (.int .i64 (c : Int))))),(10,.p (.d (.v (.int .i64 (r : Int))))),(4,.p (.fn (.func g) [o] [])),(3,.p (.d (.v (.int .i64 (f : Int))))),(2,.p (.d (.v (.int .i64 (hi : Int))))),(0,.ow 1000 gen 1 n)],
  [(1000,.own 3 1 n gen (rowN y))]⟩
set_option maxRecDepth 100000 in
theorem j105 {key : Nat → Int} {c : Nat → Nat → Int} {g : FuncId} {o : PV} {N : Nat} (hc : CmpN Tryz.prog g o N key c) (x : Nat → Nat) (n gen lo hi f : Nat) (loi hii fi : Int) (h1' : loi = lo) (h2' : hii = hi) (h3' : fi = f) (hlh : lo ≤ hi) (hb : f + hi ≤ n) (hn : n ≤ 1099511627776) (hx : Dom n N x) (hp : Hp key f x (lo + 1) hi) :
  MCalls Tryz.prog 192 [.ow 1000 gen 1 n,.p (.d (.v (.int .i64 loi))),.p (.d (.v (.int .i64 hii))),.p (.d (.v (.int .i64 fi))),.p (.fn (.func g) [o] [])] [(1000,.own 3 1 n gen (rowN x))]
   (fun rs M => ∃ y : {y : Nat → Nat // PE (f + lo) (f + hi) x y ∧ Hp key f y lo hi},rs = [] ∧ M = [(1000,.own 3 1 n gen (rowN y.val))]) := by
 subst h1' h2' h3'
 refine q20 Tryz.func192 rfl (by decide +kernel) (by rw [Tryz.ntmps192];simp) (fun l X h => by simp only [AL.look] at h;(repeat' split at h);all_goals first | omega | cases h) ?_;rw [Tryz.ntmps192];simp only [frA]
 (repeat (first | apply j0 | refine z7 rfl ?_ | refine x7 rfl ?_ | apply j6 | (refine x5 fun K hK => ?_) | (refine x8 fun K hK => ?_) | ((first | apply j5 | apply x6 | ((first | refine j4 (hK _ ?_) | refine q9 (hK _ _ j8 ?_));clear hK K));(first | show AWP _ _ _ _ _ | ((try simp only [z8]);first | show loopQ _ _ _ _ _ _ | show cutQ _ _ _ _ | show AWP _ _ _ _ _))) | ((first | refine j7 [] rfl ?_ | refine q10 [] rfl ?_);simp (disch:=omega) only [go_sem,seval,pnP,pnM,pnP1,pnM1,pnP2];(repeat (first | refine ⟨by omega,?_⟩ | refine ⟨True.intro,?_⟩)))))
 refine j13 (sdI key x n gen lo hi f g o) (fun s => hi - s.val.1) ⟨(lo,x),Nat.le_refl _,hlh,PE.refl _ _ _,HpX.start hp⟩ ?_ (fun s => ?_)
 ·unfold sdI
  refine Weak.list ?_ ?_;(all_goals simp (disch:=omega) only [AllF,AllL,q11,z11,j10,exists_eq_left',go_sem,seval,pnP,pnM,pnP1,pnM1,pnP2]);(all_goals (repeat' (with_reducible apply And.intro)));(all_goals try (first | exact q8 rfl | (refine x11 ?_;omega) | (refine q8 ?_;simp;done)))
 obtain ⟨⟨r,y⟩,hr,hr2,hpe,hh⟩ := s
 unfold sdI
 simp only [] at hr hr2 hpe hh
 have dy := hx.pe hpe (by omega) hb
 by_cases hch : 2 * r + 1 < hi
 ·(repeat ((fail_if_success (show AWP _ _ (.region 3 _ _) _ _));first | apply j0 | refine z7 rfl ?_ | refine x7 rfl ?_ | apply j6 | (refine x5 fun K hK => ?_) | (refine x8 fun K hK => ?_) | ((first | apply j5 | apply x6 | ((first | refine j4 (hK _ ?_) | refine q9 (hK _ _ j8 ?_));clear hK K));(first | show AWP _ _ _ _ _ | ((try simp only [z8]);first | show loopQ _ _ _ _ _ _ | show cutQ _ _ _ _ | show AWP _ _ _ _ _))) | ((first | refine j7 [] rfl ?_ | refine q10 [] rfl ?_);simp (disch:=omega) only [go_sem,seval,pnP,pnM,pnP1,pnM1,pnP2];(repeat (first | refine ⟨by omega,?_⟩ | refine ⟨True.intro,?_⟩)))))
  refine q18 (A' := sdC n gen hi f g o y r (2 * r + 1)) ?_ ?_
  ·unfold sdC
   refine Weak.list ?_ ?_;(all_goals simp (disch:=omega) only [AllF,AllL,q11,z11,j10,exists_eq_left',go_sem,seval,pnP,pnM,pnP1,pnM1,pnP2]);(all_goals (repeat' (with_reducible apply And.intro)));(all_goals try (first | exact q8 rfl | (refine x11 ?_;omega) | (refine q8 ?_;simp;done)))
  refine j34 (fun d : {d : Nat // (d = 2 * r + 1 ∨ d = 2 * r + 2) ∧ d < hi ∧ ∀ e,(e = 2 * r + 1 ∨ e = 2 * r + 2) → e < hi → key (y (f + e)) ≤ key (y (f + d))} => sdC n gen hi f g o y r d.val) ?_ ?_
  ·unfold sdC
   by_cases h2 : 2 * r + 1 + 1 < hi
   ·have r1 := z16 y (f + (2 * r + 1))
    have r2 := z16 y (f + (2 * r + 1) + 1)
    have cc := hc.call (y (f + (2 * r + 1))) (y (f + (2 * r + 1) + 1)) (dy.lt _ (by omega)) (dy.lt _ (by omega))
    have cl := hc.lt (y (f + (2 * r + 1))) (y (f + (2 * r + 1) + 1)) (dy.lt _ (by omega)) (dy.lt _ (by omega))
    generalize hd : 2 * r + 1 = d at *
    generalize c (y (f + d)) (y (f + d + 1)) = c0 at cc cl
    by_cases hlt : c0 < 0
    ·(repeat (first | apply j0 | refine z7 rfl ?_ | refine x7 rfl ?_ | apply j6 | (refine x5 fun K hK => ?_) | (refine x8 fun K hK => ?_) | ((first | apply j5 | apply x6 | ((first | refine j4 (hK _ ?_) | refine q9 (hK _ _ j8 ?_));clear hK K));(first | show AWP _ _ _ _ _ | ((try simp only [z8]);first | show loopQ _ _ _ _ _ _ | show cutQ _ _ _ _ | show AWP _ _ _ _ _))) | ((first | refine x10 rfl rfl rfl ?_ | refine q13 rfl rfl rfl ?_);simp (disch:=omega) only [go_sem,seval,pnP,pnM,pnP1,pnM1,pnP2,r1,r2];(first | refine ⟨_,cc,?_⟩)) | ((first | refine j7 [] rfl ?_ | refine q10 [] rfl ?_);simp (disch:=omega) only [go_sem,seval,pnP,pnM,pnP1,pnM1,pnP2,r1,r2];(repeat (first | refine ⟨by omega,?_⟩ | refine ⟨True.intro,?_⟩)))))
     (show cutQ _ _ .normal _);refine j17 (⟨d + 1,by omega,by omega,fun e he he2 => ?_⟩) ?_
     ·have := cl.1 hlt
      rcases he with rfl | rfl
      ·subst hd;rw [show f + (2 * r + 1 + 1) = f + (2 * r + 1) + 1 by omega];omega
      ·rw [show 2 * r + 2 = d + 1 by omega];exact Int.le_refl _
     ·refine Weak.list ?_ ?_;(all_goals simp (disch:=omega) only [AllF,AllL,q11,z11,j10,exists_eq_left',go_sem,seval,pnP,pnM,pnP1,pnM1,pnP2,r1,r2]);(all_goals (repeat' (with_reducible apply And.intro)));(all_goals try (first | exact q8 rfl | (refine x11 ?_;omega) | (refine q8 ?_;simp;done)))
    ·(repeat (first | apply j0 | refine z7 rfl ?_ | refine x7 rfl ?_ | apply j6 | (refine x5 fun K hK => ?_) | (refine x8 fun K hK => ?_) | ((first | apply j5 | apply x6 | ((first | refine j4 (hK _ ?_) | refine q9 (hK _ _ j8 ?_));clear hK K));(first | show AWP _ _ _ _ _ | ((try simp only [z8]);first | show loopQ _ _ _ _ _ _ | show cutQ _ _ _ _ | show AWP _ _ _ _ _))) | ((first | refine x10 rfl rfl rfl ?_ | refine q13 rfl rfl rfl ?_);simp (disch:=omega) only [go_sem,seval,pnP,pnM,pnP1,pnM1,pnP2,r1,r2];(first | refine ⟨_,cc,?_⟩)) | ((first | refine j7 [] rfl ?_ | refine q10 [] rfl ?_);simp (disch:=omega) only [go_sem,seval,pnP,pnM,pnP1,pnM1,pnP2,r1,r2];(repeat (first | refine ⟨by omega,?_⟩ | refine ⟨True.intro,?_⟩)))))
     (show cutQ _ _ .normal _);refine j17 (⟨d,by omega,by omega,fun e he he2 => ?_⟩) ?_
     ·have : ¬ key (y (f + d)) < key (y (f + d + 1)) := fun h => hlt (cl.2 h)
      rcases he with rfl | rfl
      ·subst hd;exact Int.le_refl _
      ·rw [show f + (2 * r + 2) = f + d + 1 by omega];omega
     ·refine Weak.list ?_ ?_;(all_goals simp (disch:=omega) only [AllF,AllL,q11,z11,j10,exists_eq_left',go_sem,seval,pnP,pnM,pnP1,pnM1,pnP2,r1,r2]);(all_goals (repeat' (with_reducible apply And.intro)));(all_goals try (first | exact q8 rfl | (refine x11 ?_;omega) | (refine q8 ?_;simp;done)))
   ·generalize hd : 2 * r + 1 = d at *
    (repeat (first | apply j0 | refine z7 rfl ?_ | refine x7 rfl ?_ | apply j6 | (refine x5 fun K hK => ?_) | (refine x8 fun K hK => ?_) | ((first | apply j5 | apply x6 | ((first | refine j4 (hK _ ?_) | refine q9 (hK _ _ j8 ?_));clear hK K));(first | show AWP _ _ _ _ _ | ((try simp only [z8]);first | show loopQ _ _ _ _ _ _ | show cutQ _ _ _ _ | show AWP _ _ _ _ _))) | ((first | refine j7 [] rfl ?_ | refine q10 [] rfl ?_);simp (disch:=omega) only [go_sem,seval,pnP,pnM,pnP1,pnM1,pnP2];(repeat (first | refine ⟨by omega,?_⟩ | refine ⟨True.intro,?_⟩)))))
    (show cutQ _ _ .normal _);refine j17 (⟨d,by omega,by omega,fun e he he2 => ?_⟩) ?_
    ·rw [show e = d by omega];exact Int.le_refl _
    ·refine Weak.list ?_ ?_;(all_goals simp (disch:=omega) only [AllF,AllL,q11,z11,j10,exists_eq_left',go_sem,seval,pnP,pnM,pnP1,pnM1,pnP2]);(all_goals (repeat' (with_reducible apply And.intro)));(all_goals try (first | exact q8 rfl | (refine x11 ?_;omega) | (refine q8 ?_;simp;done)))
  ·rintro ⟨d,hd,hd2,hd3⟩
   unfold sdC
   have r1 := z16 y (f + r)
   have r2 := z16 y (f + d)
   have cc := hc.call (y (f + r)) (y (f + d)) (dy.lt _ (by omega)) (dy.lt _ (by omega))
   have cl := hc.lt (y (f + r)) (y (f + d)) (dy.lt _ (by omega)) (dy.lt _ (by omega))
   generalize c (y (f + r)) (y (f + d)) = c0 at cc cl
   by_cases hlt : c0 < 0
   ·(repeat (first | apply j0 | refine z7 rfl ?_ | refine x7 rfl ?_ | apply j6 | (refine x5 fun K hK => ?_) | (refine x8 fun K hK => ?_) | ((first | apply j5 | apply x6 | ((first | refine j4 (hK _ ?_) | refine q9 (hK _ _ j8 ?_));clear hK K));(first | show AWP _ _ _ _ _ | ((try simp only [z8]);first | show loopQ _ _ _ _ _ _ | show cutQ _ _ _ _ | show AWP _ _ _ _ _))) | ((first | refine x10 rfl rfl rfl ?_ | refine q13 rfl rfl rfl ?_);simp (disch:=omega) only [go_sem,seval,pnP,pnM,pnP1,pnM1,pnP2,r1,r2];(first | refine ⟨_,cc,?_⟩)) | ((first | refine j7 [] rfl ?_ | refine q10 [] rfl ?_);simp (disch:=omega) only [go_sem,seval,pnP,pnM,pnP1,pnM1,pnP2,r1,r2];(repeat (first | refine ⟨by omega,?_⟩ | refine ⟨True.intro,?_⟩)))))
    refine ⟨⟨(d,swp y (f + r) (f + d)),by simp only [];omega,by simp only [];omega,hpe.trans (PE.swp (by omega) (by omega) (by omega) (by omega)),hh.step hr hd hd2 (by have := cl.1 hlt;omega) hd3⟩,by simp only [];omega,?_⟩
    refine Weak.list ?_ ?_;(all_goals simp (disch:=omega) only [AllF,AllL,q11,z11,j10,exists_eq_left',go_sem,seval,pnP,pnM,pnP1,pnM1,pnP2,r1,r2]);(all_goals (repeat' (with_reducible apply And.intro)));(all_goals try (first | exact q8 rfl | (refine x11 ?_;omega) | (refine q8 ?_;simp;done)))
    exact z20 rfl rfl (fun k _ => q24 y (f + r) (f + d) k)
   ·(repeat (first | apply j0 | refine z7 rfl ?_ | refine x7 rfl ?_ | apply j6 | (refine x5 fun K hK => ?_) | (refine x8 fun K hK => ?_) | ((first | apply j5 | apply x6 | ((first | refine j4 (hK _ ?_) | refine q9 (hK _ _ j8 ?_));clear hK K));(first | show AWP _ _ _ _ _ | ((try simp only [z8]);first | show loopQ _ _ _ _ _ _ | show cutQ _ _ _ _ | show AWP _ _ _ _ _))) | ((first | refine x10 rfl rfl rfl ?_ | refine q13 rfl rfl rfl ?_);simp (disch:=omega) only [go_sem,seval,pnP,pnM,pnP1,pnM1,pnP2,r1,r2];(first | refine ⟨_,cc,?_⟩)) | ((first | refine j7 [] rfl ?_ | refine q10 [] rfl ?_);simp (disch:=omega) only [go_sem,seval,pnP,pnM,pnP1,pnM1,pnP2,r1,r2];(repeat (first | refine ⟨by omega,?_⟩ | refine ⟨True.intro,?_⟩)))))
    (first | (refine j4 (hK _ ?_);refine And.left (q16 (l := 1000) rfl rfl ?_)) | (refine x6 ?_;refine And.left (q16 (l := 1000) rfl rfl ?_)) | (refine j5 ?_;refine And.left (q16 (l := 1000) rfl rfl ?_)) | (refine j9 ?_;refine And.right (q16 (l := 1000) rfl rfl ?_)) | refine And.left (q16 (l := 1000) rfl rfl ?_))
    refine ⟨⟨y,hpe,hh.done fun e he he2 => ?_⟩,rfl,rfl⟩
    have : ¬ key (y (f + r)) < key (y (f + d)) := fun h => hlt (cl.2 h)
    have := hd3 e he he2
    omega
 ·(repeat (first | apply j0 | refine z7 rfl ?_ | refine x7 rfl ?_ | apply j6 | (refine x5 fun K hK => ?_) | (refine x8 fun K hK => ?_) | ((first | apply j5 | apply x6 | ((first | refine j4 (hK _ ?_) | refine q9 (hK _ _ j8 ?_));clear hK K));(first | show AWP _ _ _ _ _ | ((try simp only [z8]);first | show loopQ _ _ _ _ _ _ | show cutQ _ _ _ _ | show AWP _ _ _ _ _))) | ((first | refine j7 [] rfl ?_ | refine q10 [] rfl ?_);simp (disch:=omega) only [go_sem,seval,pnP,pnM,pnP1,pnM1,pnP2];(repeat (first | refine ⟨by omega,?_⟩ | refine ⟨True.intro,?_⟩)))))
  (first | (refine j4 (hK _ ?_);refine And.left (q16 (l := 1000) rfl rfl ?_)) | (refine x6 ?_;refine And.left (q16 (l := 1000) rfl rfl ?_)) | (refine j5 ?_;refine And.left (q16 (l := 1000) rfl rfl ?_)) | (refine j9 ?_;refine And.right (q16 (l := 1000) rfl rfl ?_)) | refine And.left (q16 (l := 1000) rfl rfl ?_))
  exact ⟨⟨y,hpe,hh.done fun e he he2 => by omega⟩,rfl,rfl⟩
def hsA (key : Nat → Int) (x : Nat → Nat) (n gen a b : Nat) (g : FuncId) (o : PV) (s : {s : Nat × (Nat → Nat) // s.1 ≤ b - a ∧ PE a b x s.2 ∧ Hp key a s.2 s.1 (b - a)}) : ASt :=
 ⟨[(11,.p (.d (.v (.int .i64 ((s.val.1 : Int) - 1))))),(10,.p (.d (.v (.int .i64 ((b - a : Nat) : Int))))),(9,.p (.d (.v (.int .i64 0)))),(8,.p (.d (.v (.int .i64 (a : Int))))),(3,.p (.fn (.func g) [o] [])),(0,.ow 1000 gen 1 n)],
  [(1000,.own 3 1 n gen (rowN s.val.2))]⟩
def hsB (key : Nat → Int) (x : Nat → Nat) (n gen a b : Nat) (g : FuncId) (o : PV) (s : {s : Nat × (Nat → Nat) // s.1 ≤ b - a ∧ PE a b x s.2 ∧ HS key a b s.1 s.2}) : ASt :=
 ⟨[(12,.p (.d (.v (.int .i64 ((s.val.1 : Int) - 1))))),(9,.p (.d (.v (.int .i64 0)))),(8,.p (.d (.v (.int .i64 (a : Int))))),(3,.p (.fn (.func g) [o] [])),(0,.ow 1000 gen 1 n)],
  [(1000,.own 3 1 n gen (rowN s.val.2))]⟩
theorem hs_half (d : Nat) : ((d : Int) - 1).tdiv 2 = (((d + 1) / 2 : Nat) : Int) - 1 ∨ d = 0 := by
 by_cases h : d = 0
 ·exact .inr h
 ·left
  obtain ⟨e,rfl⟩ : ∃ e,d = e + 1 := ⟨d - 1,by omega⟩
  rw [show ((e + 1 : Nat) : Int) - 1 = (e : Int) by omega,Int.tdiv_eq_ediv_of_nonneg (by omega)]
  omega
set_option maxRecDepth 100000 in
theorem heapN_c {key : Nat → Int} {c : Nat → Nat → Int} {g : FuncId} {o : PV} {N : Nat} (hc : CmpN Tryz.prog g o N key c) (x : Nat → Nat) (n gen a b : Nat) (ai bi : Int) (ha' : ai = a) (hb' : bi = b) (hab : a < b) (hb : b ≤ n) (hn : n ≤ 1099511627776) (hx : Dom n N x) :
  MCalls Tryz.prog 166 [.ow 1000 gen 1 n,.p (.d (.v (.int .i64 ai))),.p (.d (.v (.int .i64 bi))),.p (.fn (.func g) [o] [])] [(1000,.own 3 1 n gen (rowN x))]
   (fun rs M => ∃ y : {y : Nat → Nat // PE a b x y ∧ Srt key a b y},rs = [] ∧ M = [(1000,.own 3 1 n gen (rowN y.val))]) := by
 subst ha' hb'
 have hhalf := hs_half (b - a)
 rw [show ((b - a : Nat) : Int) = (b : Int) - a by omega] at hhalf
 have hh := hhalf.resolve_right (by omega)
 refine q20 Tryz.func166 rfl (by decide +kernel) (by rw [Tryz.ntmps166];simp) (fun l X h => by simp only [AL.look] at h;(repeat' split at h);all_goals first | omega | cases h) ?_;rw [Tryz.ntmps166];simp only [frA]
 (repeat (first | apply j0 | refine z7 rfl ?_ | refine x7 rfl ?_ | apply j6 | (refine x5 fun K hK => ?_) | (refine x8 fun K hK => ?_) | ((first | apply j5 | apply x6 | ((first | refine j4 (hK _ ?_) | refine q9 (hK _ _ j8 ?_));clear hK K));(first | show AWP _ _ _ _ _ | ((try simp only [z8]);first | show loopQ _ _ _ _ _ _ | show cutQ _ _ _ _ | show AWP _ _ _ _ _))) | ((first | refine j7 [] rfl ?_ | refine q10 [] rfl ?_);simp (disch:=omega) only [go_sem,seval,pnP,pnM,pnP1,pnM1,pnP2,hh];(repeat (first | refine ⟨by omega,?_⟩ | refine ⟨True.intro,?_⟩)))))
 refine j13 (hsA key x n gen a b g o) (fun s => s.val.1) ⟨((b - a + 1) / 2,x),by simp only [];omega,PE.refl _ _ _,Hp.none (by simp only [];omega)⟩ ?_ (fun s => ?_)
 ·unfold hsA
  refine Weak.list ?_ ?_;(all_goals simp (disch:=omega) only [AllF,AllL,q11,z11,j10,exists_eq_left',go_sem,seval,pnP,pnM,pnP1,pnM1,pnP2,hh]);(all_goals (repeat' (with_reducible apply And.intro)));(all_goals try (first | exact q8 rfl | (refine x11 ?_;omega) | (refine q8 ?_;simp;done)))
 obtain ⟨⟨i,y⟩,hi,hpe,hhp⟩ := s
 unfold hsA
 simp only [] at hi hpe hhp
 have dy := hx.pe hpe (by omega) hb
 by_cases hz : i = 0
 ·subst hz
  (repeat (first | apply j0 | refine z7 rfl ?_ | refine x7 rfl ?_ | apply j6 | (refine x5 fun K hK => ?_) | (refine x8 fun K hK => ?_) | ((first | apply j5 | apply x6 | ((first | refine j4 (hK _ ?_) | refine q9 (hK _ _ j8 ?_));clear hK K));(first | show AWP _ _ _ _ _ | ((try simp only [z8]);first | show loopQ _ _ _ _ _ _ | show cutQ _ _ _ _ | show AWP _ _ _ _ _))) | ((first | refine j7 [] rfl ?_ | refine q10 [] rfl ?_);simp (disch:=omega) only [go_sem,seval,pnP,pnM,pnP1,pnM1,pnP2];(repeat (first | refine ⟨by omega,?_⟩ | refine ⟨True.intro,?_⟩)))))
  refine j13 (hsB key x n gen a b g o) (fun s => s.val.1) ⟨(b - a,y),Nat.le_refl _,hpe,hhp,fun p q h1 h2 h3 => by omega,fun p q h1 h2 h3 => by omega⟩ ?_ (fun s => ?_)
  ·unfold hsB
   refine Weak.list ?_ ?_;(all_goals simp (disch:=omega) only [AllF,AllL,q11,z11,j10,exists_eq_left',go_sem,seval,pnP,pnM,pnP1,pnM1,pnP2]);(all_goals (repeat' (with_reducible apply And.intro)));(all_goals try (first | exact q8 rfl | (refine x11 ?_;omega) | (refine q8 ?_;simp;done)))
  obtain ⟨⟨i,z⟩,hi,hpe,hs⟩ := s
  unfold hsB
  simp only [] at hi hpe hs
  have dz := hx.pe hpe (by omega) hb
  by_cases hz : i = 0
  ·subst hz
   (repeat (first | apply j0 | refine z7 rfl ?_ | refine x7 rfl ?_ | apply j6 | (refine x5 fun K hK => ?_) | (refine x8 fun K hK => ?_) | ((first | apply j5 | apply x6 | ((first | refine j4 (hK _ ?_) | refine q9 (hK _ _ j8 ?_));clear hK K));(first | show AWP _ _ _ _ _ | ((try simp only [z8]);first | show loopQ _ _ _ _ _ _ | show cutQ _ _ _ _ | show AWP _ _ _ _ _))) | ((first | refine j7 [] rfl ?_ | refine q10 [] rfl ?_);simp (disch:=omega) only [go_sem,seval,pnP,pnM,pnP1,pnM1,pnP2];(repeat (first | refine ⟨by omega,?_⟩ | refine ⟨True.intro,?_⟩)))))
   (first | (refine j4 (hK _ ?_);refine And.left (q16 (l := 1000) rfl rfl ?_)) | (refine x6 ?_;refine And.left (q16 (l := 1000) rfl rfl ?_)) | (refine j5 ?_;refine And.left (q16 (l := 1000) rfl rfl ?_)) | (refine j9 ?_;refine And.right (q16 (l := 1000) rfl rfl ?_)) | refine And.left (q16 (l := 1000) rfl rfl ?_))
   exact ⟨⟨z,hpe,hs.end⟩,rfl,rfl⟩
  ·obtain ⟨i,rfl⟩ : ∃ k,i = k + 1 := ⟨i - 1,by omega⟩
   have r1 := z16 z (a + i)
   have r2 := z16 z a
   obtain ⟨o1,o2,o3⟩ := hs.out (by omega)
   have p1 : PE a b z (swp z a (a + i)) := PE.swp (by omega) (by omega) (by omega) (by omega)
   have dw := hx.pe (hpe.trans p1) (by omega) hb
   (repeat ((fail_if_success (show AWP _ _ (.region 11 _ _) _ _));first | apply j0 | refine z7 rfl ?_ | refine x7 rfl ?_ | apply j6 | (refine x5 fun K hK => ?_) | (refine x8 fun K hK => ?_) | ((first | apply j5 | apply x6 | ((first | refine j4 (hK _ ?_) | refine q9 (hK _ _ j8 ?_));clear hK K));(first | show AWP _ _ _ _ _ | ((try simp only [z8]);first | show loopQ _ _ _ _ _ _ | show cutQ _ _ _ _ | show AWP _ _ _ _ _))) | ((first | refine j7 [] rfl ?_ | refine q10 [] rfl ?_);simp (disch:=omega) only [go_sem,seval,pnP,pnM,pnP1,pnM1,pnP2,r1,r2];(repeat (first | refine ⟨by omega,?_⟩ | refine ⟨True.intro,?_⟩)))))
   refine q18 (A' := ⟨[(12,.p (.d (.v (.int .i64 (i : Int))))),(9,.p (.d (.v (.int .i64 0)))),(8,.p (.d (.v (.int .i64 (a : Int))))),(3,.p (.fn (.func g) [o] [])),(0,.ow 1000 gen 1 n)],[(1000,.own 3 1 n gen (rowN (swp z a (a + i))))]⟩) ?_ ?_
   ·refine Weak.list ?_ ?_;(all_goals simp (disch:=omega) only [AllF,AllL,q11,z11,j10,exists_eq_left',go_sem,seval,pnP,pnM,pnP1,pnM1,pnP2]);(all_goals (repeat' (with_reducible apply And.intro)));(all_goals try (first | exact q8 rfl | (refine x11 ?_;omega) | (refine q8 ?_;simp;done)))
    exact z20 rfl rfl (fun k _ => q24 z a (a + i) k)
   (repeat (first | apply j0 | refine z7 rfl ?_ | refine x7 rfl ?_ | apply j6 | (refine x5 fun K hK => ?_) | (refine x8 fun K hK => ?_) | ((first | apply j5 | apply x6 | ((first | refine j4 (hK _ ?_) | refine q9 (hK _ _ j8 ?_));clear hK K));(first | show AWP _ _ _ _ _ | ((try simp only [z8]);first | show loopQ _ _ _ _ _ _ | show cutQ _ _ _ _ | show AWP _ _ _ _ _))) | ((first | refine j7 [] rfl ?_ | refine q10 [] rfl ?_);simp (disch:=omega) only [go_sem,seval,pnP,pnM,pnP1,pnM1,pnP2];(repeat (first | refine ⟨by omega,?_⟩ | refine ⟨True.intro,?_⟩)))))
   (refine z18 (x17 [(1000,1000)] rfl rfl rfl rfl rfl rfl (j105 hc (swp z a (a + i)) n gen 0 i a 0 i a rfl rfl rfl (by omega) (by omega) hn dw o1) (fun _ => rfl) (q15 (by repeat (first | exact trivial | refine ⟨rfl,?_⟩)) (by kernel_rfl)) (fun _ => (q15 (by repeat (first | exact trivial | refine ⟨rfl,?_⟩)) (by kernel_rfl)))) ?_);rintro ⟨u,hu,hu2⟩;simp (disch:=omega) only [go_sem,seval,pnP,pnM,pnP1,pnM1,pnP2]
   (repeat (first | apply j0 | refine z7 rfl ?_ | refine x7 rfl ?_ | apply j6 | (refine x5 fun K hK => ?_) | (refine x8 fun K hK => ?_) | ((first | apply j5 | apply x6 | ((first | refine j4 (hK _ ?_) | refine q9 (hK _ _ j8 ?_));clear hK K));(first | show AWP _ _ _ _ _ | ((try simp only [z8]);first | show loopQ _ _ _ _ _ _ | show cutQ _ _ _ _ | show AWP _ _ _ _ _))) | ((first | refine j7 [] rfl ?_ | refine q10 [] rfl ?_);simp (disch:=omega) only [go_sem,seval,pnP,pnM,pnP1,pnM1,pnP2];(repeat (first | refine ⟨by omega,?_⟩ | refine ⟨True.intro,?_⟩)))))
   refine ⟨⟨(i,u),by simp only [];omega,(hpe.trans p1).trans (hu.widen (by omega) (by omega) (by omega)),HS.next o2 o3 hu hu2⟩,by simp only [];omega,?_⟩
   refine Weak.list ?_ ?_;(all_goals simp (disch:=omega) only [AllF,AllL,q11,z11,j10,exists_eq_left',go_sem,seval,pnP,pnM,pnP1,pnM1,pnP2]);(all_goals (repeat' (with_reducible apply And.intro)));(all_goals try (first | exact q8 rfl | (refine x11 ?_;omega) | (refine q8 ?_;simp;done)))
 ·obtain ⟨i,rfl⟩ : ∃ k,i = k + 1 := ⟨i - 1,by omega⟩
  (repeat (first | apply j0 | refine z7 rfl ?_ | refine x7 rfl ?_ | apply j6 | (refine x5 fun K hK => ?_) | (refine x8 fun K hK => ?_) | ((first | apply j5 | apply x6 | ((first | refine j4 (hK _ ?_) | refine q9 (hK _ _ j8 ?_));clear hK K));(first | show AWP _ _ _ _ _ | ((try simp only [z8]);first | show loopQ _ _ _ _ _ _ | show cutQ _ _ _ _ | show AWP _ _ _ _ _))) | ((first | refine j7 [] rfl ?_ | refine q10 [] rfl ?_);simp (disch:=omega) only [go_sem,seval,pnP,pnM,pnP1,pnM1,pnP2];(repeat (first | refine ⟨by omega,?_⟩ | refine ⟨True.intro,?_⟩)))))
  (refine z18 (x17 [(1000,1000)] rfl rfl rfl rfl rfl rfl (j105 hc y n gen i (b - a) a i (b - a : Nat) a rfl rfl rfl (by omega) (by omega) hn dy hhp) (fun _ => rfl) (q15 (by repeat (first | exact trivial | refine ⟨rfl,?_⟩)) (by kernel_rfl)) (fun _ => (q15 (by repeat (first | exact trivial | refine ⟨rfl,?_⟩)) (by kernel_rfl)))) ?_);rintro ⟨u,hu,hu2⟩;simp (disch:=omega) only [go_sem,seval,pnP,pnM,pnP1,pnM1,pnP2]
  (repeat (first | apply j0 | refine z7 rfl ?_ | refine x7 rfl ?_ | apply j6 | (refine x5 fun K hK => ?_) | (refine x8 fun K hK => ?_) | ((first | apply j5 | apply x6 | ((first | refine j4 (hK _ ?_) | refine q9 (hK _ _ j8 ?_));clear hK K));(first | show AWP _ _ _ _ _ | ((try simp only [z8]);first | show loopQ _ _ _ _ _ _ | show cutQ _ _ _ _ | show AWP _ _ _ _ _))) | ((first | refine j7 [] rfl ?_ | refine q10 [] rfl ?_);simp (disch:=omega) only [go_sem,seval,pnP,pnM,pnP1,pnM1,pnP2];(repeat (first | refine ⟨by omega,?_⟩ | refine ⟨True.intro,?_⟩)))))
  refine ⟨⟨(i,u),by simp only [];omega,hpe.trans (hu.widen (by omega) (by omega) (by omega)),hu2⟩,by simp only [];omega,?_⟩
  refine Weak.list ?_ ?_;(all_goals simp (disch:=omega) only [AllF,AllL,q11,z11,j10,exists_eq_left',go_sem,seval,pnP,pnM,pnP1,pnM1,pnP2]);(all_goals (repeat' (with_reducible apply And.intro)));(all_goals try (first | exact q8 rfl | (refine x11 ?_;omega) | (refine q8 ?_;simp;done)))
def swC (s : Int) : LV := .cells 3 [.p (.d (.v (.int .i64 s)))]
def rwL (n gen : Nat) (x : Nat → Nat) (s : Int) : List (Nat × LV) := [(1000,.own 3 1 n gen (rowN x)),(1001,swC s)]
set_option maxRecDepth 100000 in
theorem q168 {key : Nat → Int} {c : Nat → Nat → Int} {g : FuncId} {o : PV} {N : Nat} (hc : CmpN Tryz.prog g o N key c) (x : Nat → Nat) (n gen a b : Nat) (s : Int) (ha : a < n) (hb : b < n) (hn : n ≤ 1099511627776) (hx : Dom n N x) :
  MCalls Tryz.prog 202 [.ow 1000 gen 1 n,.p (.d (.v (.int .i64 (a : Int)))),.p (.d (.v (.int .i64 (b : Int)))),.loc 1001 0,.p (.fn (.func g) [o] [])] (rwL n gen x s)
   (fun rs M => ∃ r : {r : Nat × Nat × Int // (r.1 = a ∧ r.2.1 = b) ∨ (r.1 = b ∧ r.2.1 = a)},rs = [.p (.d (.v (.int .i64 (r.val.1 : Int)))),.p (.d (.v (.int .i64 (r.val.2.1 : Int))))] ∧ M = rwL n gen x r.val.2.2) := by
 have r1 := z16 x a
 have r2 := z16 x b
 have cc := hc.call (x b) (x a) (hx.lt _ hb) (hx.lt _ ha)
 generalize c (x b) (x a) = c0 at cc
 unfold rwL swC
 by_cases hlt : c0 < 0
 ·refine q20 Tryz.func202 rfl (by decide +kernel) (by rw [Tryz.ntmps202];simp) (fun l X h => by simp only [AL.look] at h;(repeat' split at h);all_goals first | omega | cases h) ?_;rw [Tryz.ntmps202];simp only [frA]
  (repeat (first | apply j0 | refine z7 rfl ?_ | refine x7 rfl ?_ | apply j6 | (refine x5 fun K hK => ?_) | (refine x8 fun K hK => ?_) | ((first | apply j5 | apply x6 | ((first | refine j4 (hK _ ?_) | refine q9 (hK _ _ j8 ?_));clear hK K));show AWP _ _ _ _ _) | ((first | refine x10 rfl rfl rfl ?_ | refine q13 rfl rfl rfl ?_);simp (disch:=omega) only [go_sem,seval,pnP,pnM,pnP1,pnM1,r1,r2];(first | refine ⟨_,cc,?_⟩)) | ((first | refine j7 [] rfl ?_ | refine q10 [] rfl ?_);simp (disch:=omega) only [go_sem,seval,pnP,pnM,pnP1,pnM1,r1,r2];(repeat (first | refine ⟨by omega,?_⟩ | refine ⟨True.intro,?_⟩)))))
  exact j9 (z21 [_,_] [(1000,_),(1001,_)] ⟨rfl,rfl,trivial⟩ (by simp [AL.look] <;> first | rfl | exact ⟨rfl,rfl⟩) ⟨⟨(b,a,_),.inr ⟨rfl,rfl⟩⟩,rfl,rfl⟩)
 ·refine q20 Tryz.func202 rfl (by decide +kernel) (by rw [Tryz.ntmps202];simp) (fun l X h => by simp only [AL.look] at h;(repeat' split at h);all_goals first | omega | cases h) ?_;rw [Tryz.ntmps202];simp only [frA]
  (repeat (first | apply j0 | refine z7 rfl ?_ | refine x7 rfl ?_ | apply j6 | (refine x5 fun K hK => ?_) | (refine x8 fun K hK => ?_) | ((first | apply j5 | apply x6 | ((first | refine j4 (hK _ ?_) | refine q9 (hK _ _ j8 ?_));clear hK K));show AWP _ _ _ _ _) | ((first | refine x10 rfl rfl rfl ?_ | refine q13 rfl rfl rfl ?_);simp (disch:=omega) only [go_sem,seval,pnP,pnM,pnP1,pnM1,r1,r2];(first | refine ⟨_,cc,?_⟩)) | ((first | refine j7 [] rfl ?_ | refine q10 [] rfl ?_);simp (disch:=omega) only [go_sem,seval,pnP,pnM,pnP1,pnM1,r1,r2];(repeat (first | refine ⟨by omega,?_⟩ | refine ⟨True.intro,?_⟩)))))
  exact j9 (z21 [_,_] [(1000,_),(1001,_)] ⟨rfl,rfl,trivial⟩ (by simp [AL.look] <;> first | rfl | exact ⟨rfl,rfl⟩) ⟨⟨(a,b,s),.inl ⟨rfl,rfl⟩⟩,rfl,rfl⟩)
set_option maxRecDepth 100000 in
theorem q106 {key : Nat → Int} {c : Nat → Nat → Int} {g : FuncId} {o : PV} {N : Nat} (hc : CmpN Tryz.prog g o N key c) (x : Nat → Nat) (n gen a b d : Nat) (s : Int) (ha : a < n) (hb : b < n) (hd : d < n) (hn : n ≤ 1099511627776) (hx : Dom n N x) :
  MCalls Tryz.prog 196 [.ow 1000 gen 1 n,.p (.d (.v (.int .i64 (a : Int)))),.p (.d (.v (.int .i64 (b : Int)))),.p (.d (.v (.int .i64 (d : Int)))),.loc 1001 0,.p (.fn (.func g) [o] [])] (rwL n gen x s)
   (fun rs M => ∃ r : {r : Nat × Int // r.1 = a ∨ r.1 = b ∨ r.1 = d},rs = [.p (.d (.v (.int .i64 (r.val.1 : Int))))] ∧ M = rwL n gen x r.val.2) := by
 have k := fun p q s h1 h2 => q168 hc x n gen p q s h1 h2 hn hx
 unfold rwL swC at *
 refine q20 Tryz.func196 rfl (by decide +kernel) (by rw [Tryz.ntmps196];simp) (fun l X h => by simp only [AL.look] at h;(repeat' split at h);all_goals first | omega | cases h) ?_;rw [Tryz.ntmps196];simp only [frA]
 (repeat (first | apply j0 | refine z7 rfl ?_ | refine x7 rfl ?_ | apply j6 | (refine x5 fun K hK => ?_) | ((first | apply j5 | apply x6 | (refine j4 (hK _ ?_);clear hK K));show AWP _ _ _ _ _) | (refine j7 [] rfl ?_;simp (disch:=omega) only [go_sem,seval,pnP,pnM,pnP1,pnM1];(repeat refine ⟨by omega,?_⟩))))
 (refine z18 (x17 [(1000,1000),(1001,1001)] rfl rfl rfl rfl rfl rfl (k a b s ha hb) (fun _ => rfl) (q15 (by repeat (first | exact trivial | refine ⟨rfl,?_⟩)) (by kernel_rfl)) (fun _ => (q15 (by repeat (first | exact trivial | refine ⟨rfl,?_⟩)) (by kernel_rfl)))) ?_);rintro ⟨⟨a1,b1,s1⟩,h1⟩;simp (disch:=omega) only [go_sem,seval,pnP,pnM,pnP1,pnM1]
 simp only [] at h1
 (repeat (first | apply j0 | refine z7 rfl ?_ | refine x7 rfl ?_ | apply j6 | (refine x5 fun K hK => ?_) | ((first | apply j5 | apply x6 | (refine j4 (hK _ ?_);clear hK K));show AWP _ _ _ _ _) | (refine j7 [] rfl ?_;simp (disch:=omega) only [go_sem,seval,pnP,pnM,pnP1,pnM1];(repeat refine ⟨by omega,?_⟩))))
 (refine z18 (x17 [(1000,1000),(1001,1001)] rfl rfl rfl rfl rfl rfl (k b1 d s1 (by omega) hd) (fun _ => rfl) (q15 (by repeat (first | exact trivial | refine ⟨rfl,?_⟩)) (by kernel_rfl)) (fun _ => (q15 (by repeat (first | exact trivial | refine ⟨rfl,?_⟩)) (by kernel_rfl)))) ?_);rintro ⟨⟨b2,d2,s2⟩,h2⟩;simp (disch:=omega) only [go_sem,seval,pnP,pnM,pnP1,pnM1]
 simp only [] at h2
 (repeat (first | apply j0 | refine z7 rfl ?_ | refine x7 rfl ?_ | apply j6 | (refine x5 fun K hK => ?_) | ((first | apply j5 | apply x6 | (refine j4 (hK _ ?_);clear hK K));show AWP _ _ _ _ _) | (refine j7 [] rfl ?_;simp (disch:=omega) only [go_sem,seval,pnP,pnM,pnP1,pnM1];(repeat refine ⟨by omega,?_⟩))))
 (refine z18 (x17 [(1000,1000),(1001,1001)] rfl rfl rfl rfl rfl rfl (k a1 b2 s2 (by omega) (by omega)) (fun _ => rfl) (q15 (by repeat (first | exact trivial | refine ⟨rfl,?_⟩)) (by kernel_rfl)) (fun _ => (q15 (by repeat (first | exact trivial | refine ⟨rfl,?_⟩)) (by kernel_rfl)))) ?_);rintro ⟨⟨a3,b3,s3⟩,h3⟩;simp (disch:=omega) only [go_sem,seval,pnP,pnM,pnP1,pnM1]
 simp only [] at h3
 (repeat (first | apply j0 | refine z7 rfl ?_ | refine x7 rfl ?_ | apply j6 | (refine x5 fun K hK => ?_) | ((first | apply j5 | apply x6 | (refine j4 (hK _ ?_);clear hK K));show AWP _ _ _ _ _) | (refine j7 [] rfl ?_;simp (disch:=omega) only [go_sem,seval,pnP,pnM,pnP1,pnM1];(repeat refine ⟨by omega,?_⟩))))
 exact j9 (z21 [_] [(1000,_),(1001,_)] ⟨rfl,trivial⟩ (by simp [AL.look] <;> first | rfl | exact ⟨rfl,rfl⟩) ⟨⟨(b3,s3),by simp only [];omega⟩,rfl,rfl⟩)
set_option maxRecDepth 100000 in
theorem z168 {key : Nat → Int} {c : Nat → Nat → Int} {g : FuncId} {o : PV} {N : Nat} (hc : CmpN Tryz.prog g o N key c) (x : Nat → Nat) (n gen a : Nat) (s : Int) (ha : 0 < a) (hb : a + 1 < n) (hn : n ≤ 1099511627776) (hx : Dom n N x) :
  MCalls Tryz.prog 195 [.ow 1000 gen 1 n,.p (.d (.v (.int .i64 (a : Int)))),.loc 1001 0,.p (.fn (.func g) [o] [])] (rwL n gen x s)
   (fun rs M => ∃ r : {r : Nat × Int // r.1 + 1 = a ∨ r.1 = a ∨ r.1 = a + 1},rs = [.p (.d (.v (.int .i64 (r.val.1 : Int))))] ∧ M = rwL n gen x r.val.2) := by
 obtain ⟨a,rfl⟩ : ∃ k,a = k + 1 := ⟨a - 1,by omega⟩
 have k := q106 hc x n gen a (a + 1) (a + 2) s (by omega) (by omega) (by omega) hn hx
 have e1 : ((a : Int) + 1 - 1) = (a : Int) := by omega
 have e2 : ((a : Int) + 1 + 1) = (a : Int) + 2 := by omega
 unfold rwL swC at *
 simp only [Int.natCast_add,Int.cast_ofNat_Int] at k ⊢
 refine q20 Tryz.func195 rfl (by decide +kernel) (by rw [Tryz.ntmps195];simp) (fun l X h => by simp only [AL.look] at h;(repeat' split at h);all_goals first | omega | cases h) ?_;rw [Tryz.ntmps195];simp only [frA]
 (repeat (first | apply j0 | refine z7 rfl ?_ | refine x7 rfl ?_ | apply j6 | (refine x5 fun K hK => ?_) | ((first | apply j5 | apply x6 | (refine j4 (hK _ ?_);clear hK K));show AWP _ _ _ _ _) | (refine j7 [] rfl ?_;simp (disch:=omega) only [go_sem,seval,pnP,pnM,pnP1,pnM1,e1,e2,Int.natCast_add,Int.cast_ofNat_Int];(repeat refine ⟨by omega,?_⟩))))
 (refine z18 (x17 [(1000,1000),(1001,1001)] rfl rfl rfl rfl rfl rfl (k) (fun _ => rfl) (q15 (by repeat (first | exact trivial | refine ⟨rfl,?_⟩)) (by kernel_rfl)) (fun _ => (q15 (by repeat (first | exact trivial | refine ⟨rfl,?_⟩)) (by kernel_rfl)))) ?_);rintro ⟨⟨r,s1⟩,h1⟩;simp (disch:=omega) only [go_sem,seval,pnP,pnM,pnP1,pnM1,e1,e2,Int.natCast_add,Int.cast_ofNat_Int]
 simp only [] at h1
 (repeat (first | apply j0 | refine z7 rfl ?_ | refine x7 rfl ?_ | apply j6 | (refine x5 fun K hK => ?_) | ((first | apply j5 | apply x6 | (refine j4 (hK _ ?_);clear hK K));show AWP _ _ _ _ _) | (refine j7 [] rfl ?_;simp (disch:=omega) only [go_sem,seval,pnP,pnM,pnP1,pnM1,e1,e2,Int.natCast_add,Int.cast_ofNat_Int];(repeat refine ⟨by omega,?_⟩))))
 exact j9 (z21 [_] [(1000,_),(1001,_)] ⟨rfl,trivial⟩ (by simp [AL.look] <;> first | rfl | exact ⟨rfl,rfl⟩) ⟨⟨(r,s1),by simp only [];omega⟩,rfl,rfl⟩)
def cpI (n gen a b : Nat) (x : Nat → Nat) (g : FuncId) (o : PV) (s : Int) (i j k : Nat) : ASt :=
 ⟨[(14,.p (.d (.v (.int .i64 (k : Int))))),(13,.p (.d (.v (.int .i64 (j : Int))))),(12,.p (.d (.v (.int .i64 (i : Int))))),(11,.loc 11 0),(10,.p (.d (.v (.int .i64 ((b : Int) - a))))),(3,.p (.fn (.func g) [o] [])),(0,.ow 1000 gen 1 n)],
  [(1000,.own 3 1 n gen (rowN x)),(11,swC s)]⟩
set_option maxRecDepth 100000 in
theorem x168 {key : Nat → Int} {c : Nat → Nat → Int} {g : FuncId} {o : PV} {N : Nat} (hc : CmpN Tryz.prog g o N key c) (x : Nat → Nat) (n gen a b : Nat) (hab : a + 12 < b) (hb : b ≤ n) (hn : n ≤ 1099511627776) (hx : Dom n N x) :
  MCalls Tryz.prog 168 [.ow 1000 gen 1 n,.p (.d (.v (.int .i64 (a : Int)))),.p (.d (.v (.int .i64 (b : Int)))),.p (.fn (.func g) [o] [])] [(1000,.own 3 1 n gen (rowN x))]
   (fun rs M => ∃ r : {r : Nat × Int // a ≤ r.1 ∧ r.1 < b ∧ (r.2 = 0 ∨ r.2 = 1 ∨ r.2 = 2)},rs = [.p (.d (.v (.int .i64 (r.val.1 : Int)))),.p (.d (.v (.int .i64 r.val.2)))] ∧ M = [(1000,.own 3 1 n gen (rowN x))]) := by
 have q4 : ((b : Int) - a).tdiv 4 = (((b - a) / 4 : Nat) : Int) := by
  rw [show (b : Int) - a = ((b - a : Nat) : Int) by omega,Int.tdiv_eq_ediv_of_nonneg (by omega)];omega
 have qd : 4 * ((b - a) / 4) ≤ b - a ∧ b - a < 4 * ((b - a) / 4) + 4 := by omega
 generalize (b - a) / 4 = d at q4 qd
 have adj := fun p s h1 h2 => z168 hc x n gen p s h1 h2 hn hx
 have med := fun p q r s h1 h2 h3 => q106 hc x n gen p q r s h1 h2 h3 hn hx
 unfold rwL at adj med
 refine q20 Tryz.func168 rfl (by decide +kernel) (by rw [Tryz.ntmps168];simp) (fun l X h => by simp only [AL.look] at h;(repeat' split at h);all_goals first | omega | cases h) ?_;rw [Tryz.ntmps168];simp only [frA]
 (repeat ((fail_if_success (show AWP _ _ (.region 6 _ _) _ _));first | apply j0 | refine z7 rfl ?_ | refine x7 rfl ?_ | apply j6 | (refine x5 fun K hK => ?_) | ((first | apply j5 | apply x6 | (refine j4 (hK _ ?_);clear hK K));show AWP _ _ _ _ _) | (refine j7 [11] rfl ?_;simp (disch:=omega) only [go_sem,seval,pnP,pnM,pnP1,pnM1,q4];(repeat refine ⟨by omega,?_⟩))))
 refine q18 (A' := cpI n gen a b x g o 0 (a + d) (a + 2 * d) (a + 3 * d)) ?_ ?_
 ·unfold cpI swC
  refine Weak.list ?_ ?_;(all_goals simp (disch:=omega) only [AllF,AllL,q11,z11,j10,exists_eq_left',go_sem,seval,pnP,pnM,pnP1,pnM1,q4]);(all_goals (repeat' (with_reducible apply And.intro)));(all_goals try (first | exact q8 rfl | (refine x11 ?_;omega) | (refine q8 ?_;simp;done)))
 unfold cpI
 by_cases h50 : b - a ≥ 50
 ·(repeat (first | apply j0 | refine z7 rfl ?_ | refine x7 rfl ?_ | apply j6 | (refine x5 fun K hK => ?_) | ((first | apply j5 | apply x6 | (refine j4 (hK _ ?_);clear hK K));show AWP _ _ _ _ _) | (refine j7 [11] rfl ?_;simp (disch:=omega) only [go_sem,seval,pnP,pnM,pnP1,pnM1];(repeat refine ⟨by omega,?_⟩))))
  unfold swC at *
  (refine z18 (x17 [(1000,1000),(1001,11)] rfl rfl rfl rfl rfl rfl (adj (a + d) 0 (by omega) (by omega)) (fun _ => rfl) (q15 (by repeat (first | exact trivial | refine ⟨rfl,?_⟩)) (by kernel_rfl)) (fun _ => (q15 (by repeat (first | exact trivial | refine ⟨rfl,?_⟩)) (by kernel_rfl)))) ?_);rintro ⟨⟨i,s1⟩,h1⟩;simp (disch:=omega) only [go_sem,seval,pnP,pnM,pnP1,pnM1]
  simp only [] at h1
  (repeat (first | apply j0 | refine z7 rfl ?_ | refine x7 rfl ?_ | apply j6 | (refine x5 fun K hK => ?_) | ((first | apply j5 | apply x6 | (refine j4 (hK _ ?_);clear hK K));show AWP _ _ _ _ _) | (refine j7 [11] rfl ?_;simp (disch:=omega) only [go_sem,seval,pnP,pnM,pnP1,pnM1];(repeat refine ⟨by omega,?_⟩))))
  (refine z18 (x17 [(1000,1000),(1001,11)] rfl rfl rfl rfl rfl rfl (adj (a + 2 * d) s1 (by omega) (by omega)) (fun _ => rfl) (q15 (by repeat (first | exact trivial | refine ⟨rfl,?_⟩)) (by kernel_rfl)) (fun _ => (q15 (by repeat (first | exact trivial | refine ⟨rfl,?_⟩)) (by kernel_rfl)))) ?_);rintro ⟨⟨j,s2⟩,h2⟩;simp (disch:=omega) only [go_sem,seval,pnP,pnM,pnP1,pnM1]
  simp only [] at h2
  (repeat (first | apply j0 | refine z7 rfl ?_ | refine x7 rfl ?_ | apply j6 | (refine x5 fun K hK => ?_) | ((first | apply j5 | apply x6 | (refine j4 (hK _ ?_);clear hK K));show AWP _ _ _ _ _) | (refine j7 [11] rfl ?_;simp (disch:=omega) only [go_sem,seval,pnP,pnM,pnP1,pnM1];(repeat refine ⟨by omega,?_⟩))))
  (refine z18 (x17 [(1000,1000),(1001,11)] rfl rfl rfl rfl rfl rfl (adj (a + 3 * d) s2 (by omega) (by omega)) (fun _ => rfl) (q15 (by repeat (first | exact trivial | refine ⟨rfl,?_⟩)) (by kernel_rfl)) (fun _ => (q15 (by repeat (first | exact trivial | refine ⟨rfl,?_⟩)) (by kernel_rfl)))) ?_);rintro ⟨⟨k,s3⟩,h3⟩;simp (disch:=omega) only [go_sem,seval,pnP,pnM,pnP1,pnM1]
  simp only [] at h3
  (repeat (first | apply j0 | refine z7 rfl ?_ | refine x7 rfl ?_ | apply j6 | (refine x5 fun K hK => ?_) | ((first | apply j5 | apply x6 | (refine j4 (hK _ ?_);clear hK K));show AWP _ _ _ _ _) | (refine j7 [11] rfl ?_;simp (disch:=omega) only [go_sem,seval,pnP,pnM,pnP1,pnM1];(repeat refine ⟨by omega,?_⟩))))
  (refine z18 (x17 [(1000,1000),(1001,11)] rfl rfl rfl rfl rfl rfl (med i j k s3 (by omega) (by omega) (by omega)) (fun _ => rfl) (q15 (by repeat (first | exact trivial | refine ⟨rfl,?_⟩)) (by kernel_rfl)) (fun _ => (q15 (by repeat (first | exact trivial | refine ⟨rfl,?_⟩)) (by kernel_rfl)))) ?_);rintro ⟨⟨p,s4⟩,h4⟩;simp (disch:=omega) only [go_sem,seval,pnP,pnM,pnP1,pnM1]
  simp only [] at h4
  have hp : a ≤ p ∧ p < b := by rcases h4 with rfl | rfl | rfl <;> omega
  by_cases k0 : s4 = 0
  ·have q0 : (s4 == 0) = true := j14 k0
   (repeat (first | apply j0 | refine z7 rfl ?_ | refine x7 rfl ?_ | apply j6 | (refine x5 fun K hK => ?_) | ((first | apply j5 | apply x6 | (refine j4 (hK _ ?_);clear hK K));show AWP _ _ _ _ _) | (refine j7 [11] rfl ?_;simp (disch:=omega) only [go_sem,seval,pnP,pnM,pnP1,pnM1,q0];(repeat refine ⟨by omega,?_⟩))))
   exact j9 (z21 [_,_] [(1000,_)] ⟨rfl,rfl,trivial⟩ (by simp [AL.look] <;> first | rfl | exact ⟨rfl,rfl⟩) ⟨⟨(p,1),hp.1,hp.2,.inr (.inl rfl)⟩,rfl,rfl⟩)
  ·have q0 : (s4 == 0) = false := z14 k0
   by_cases k1 : s4 = 12
   ·have q1 : (s4 == 12) = true := j14 k1
    (repeat (first | apply j0 | refine z7 rfl ?_ | refine x7 rfl ?_ | apply j6 | (refine x5 fun K hK => ?_) | ((first | apply j5 | apply x6 | (refine j4 (hK _ ?_);clear hK K));show AWP _ _ _ _ _) | (refine j7 [11] rfl ?_;simp (disch:=omega) only [go_sem,seval,pnP,pnM,pnP1,pnM1,q0,q1];(repeat refine ⟨by omega,?_⟩))))
    exact j9 (z21 [_,_] [(1000,_)] ⟨rfl,rfl,trivial⟩ (by simp [AL.look] <;> first | rfl | exact ⟨rfl,rfl⟩) ⟨⟨(p,2),hp.1,hp.2,.inr (.inr rfl)⟩,rfl,rfl⟩)
   ·have q1 : (s4 == 12) = false := z14 k1
    (repeat (first | apply j0 | refine z7 rfl ?_ | refine x7 rfl ?_ | apply j6 | (refine x5 fun K hK => ?_) | ((first | apply j5 | apply x6 | (refine j4 (hK _ ?_);clear hK K));show AWP _ _ _ _ _) | (refine j7 [11] rfl ?_;simp (disch:=omega) only [go_sem,seval,pnP,pnM,pnP1,pnM1,q0,q1];(repeat refine ⟨by omega,?_⟩))))
    exact j9 (z21 [_,_] [(1000,_)] ⟨rfl,rfl,trivial⟩ (by simp [AL.look] <;> first | rfl | exact ⟨rfl,rfl⟩) ⟨⟨(p,0),hp.1,hp.2,.inl rfl⟩,rfl,rfl⟩)
 ·(repeat (first | apply j0 | refine z7 rfl ?_ | refine x7 rfl ?_ | apply j6 | (refine x5 fun K hK => ?_) | ((first | apply j5 | apply x6 | (refine j4 (hK _ ?_);clear hK K));show AWP _ _ _ _ _) | (refine j7 [11] rfl ?_;simp (disch:=omega) only [go_sem,seval,pnP,pnM,pnP1,pnM1];(repeat refine ⟨by omega,?_⟩))))
  unfold swC at *
  (refine z18 (x17 [(1000,1000),(1001,11)] rfl rfl rfl rfl rfl rfl (med (a + d) (a + 2 * d) (a + 3 * d) 0 (by omega) (by omega) (by omega)) (fun _ => rfl) (q15 (by repeat (first | exact trivial | refine ⟨rfl,?_⟩)) (by kernel_rfl)) (fun _ => (q15 (by repeat (first | exact trivial | refine ⟨rfl,?_⟩)) (by kernel_rfl)))) ?_);rintro ⟨⟨p,s4⟩,h4⟩;simp (disch:=omega) only [go_sem,seval,pnP,pnM,pnP1,pnM1]
  simp only [] at h4
  have hp : a ≤ p ∧ p < b := by rcases h4 with rfl | rfl | rfl <;> omega
  by_cases k0 : s4 = 0
  ·have q0 : (s4 == 0) = true := j14 k0
   (repeat (first | apply j0 | refine z7 rfl ?_ | refine x7 rfl ?_ | apply j6 | (refine x5 fun K hK => ?_) | ((first | apply j5 | apply x6 | (refine j4 (hK _ ?_);clear hK K));show AWP _ _ _ _ _) | (refine j7 [11] rfl ?_;simp (disch:=omega) only [go_sem,seval,pnP,pnM,pnP1,pnM1,q0];(repeat refine ⟨by omega,?_⟩))))
   exact j9 (z21 [_,_] [(1000,_)] ⟨rfl,rfl,trivial⟩ (by simp [AL.look] <;> first | rfl | exact ⟨rfl,rfl⟩) ⟨⟨(p,1),hp.1,hp.2,.inr (.inl rfl)⟩,rfl,rfl⟩)
  ·have q0 : (s4 == 0) = false := z14 k0
   by_cases k1 : s4 = 12
   ·have q1 : (s4 == 12) = true := j14 k1
    (repeat (first | apply j0 | refine z7 rfl ?_ | refine x7 rfl ?_ | apply j6 | (refine x5 fun K hK => ?_) | ((first | apply j5 | apply x6 | (refine j4 (hK _ ?_);clear hK K));show AWP _ _ _ _ _) | (refine j7 [11] rfl ?_;simp (disch:=omega) only [go_sem,seval,pnP,pnM,pnP1,pnM1,q0,q1];(repeat refine ⟨by omega,?_⟩))))
    exact j9 (z21 [_,_] [(1000,_)] ⟨rfl,rfl,trivial⟩ (by simp [AL.look] <;> first | rfl | exact ⟨rfl,rfl⟩) ⟨⟨(p,2),hp.1,hp.2,.inr (.inr rfl)⟩,rfl,rfl⟩)
   ·have q1 : (s4 == 12) = false := z14 k1
    (repeat (first | apply j0 | refine z7 rfl ?_ | refine x7 rfl ?_ | apply j6 | (refine x5 fun K hK => ?_) | ((first | apply j5 | apply x6 | (refine j4 (hK _ ?_);clear hK K));show AWP _ _ _ _ _) | (refine j7 [11] rfl ?_;simp (disch:=omega) only [go_sem,seval,pnP,pnM,pnP1,pnM1,q0,q1];(repeat refine ⟨by omega,?_⟩))))
    exact j9 (z21 [_,_] [(1000,_)] ⟨rfl,rfl,trivial⟩ (by simp [AL.look] <;> first | rfl | exact ⟨rfl,rfl⟩) ⟨⟨(p,0),hp.1,hp.2,.inl rfl⟩,rfl,rfl⟩)
end Go.Proofs.YtemcdefpihkfpaaGreat
namespace Go.Proofs.YtemcdefpihkfpaaGreat
open Go.Shelf Go.Proofs Go.Proofs.YtemcdefpihkfpaaGreat.AL
def bitsL_ren : Go.Shelf.Ren := ⟨fun | 125 => 142 | 128 => 173 | 129 => 174 | n => n,fun | 3 => 3 | 4 => 4 | 5 => 5 | 9 => 9 | 46 => 149 | 51 => 212 | 53 => 23 | n => n,fun n => n⟩
theorem j168 : Lays.n125 Tryz.prog bitsL_ren where
 mixed := by kernel_rfl
 f125 := Tryz.func142.trans (congrArg some (by kernel_rfl))
 f128 := Tryz.func173.trans (congrArg some (by kernel_rfl))
 f129 := Tryz.func174.trans (congrArg some (by kernel_rfl))
 t3 := Tryz.underlying3
 a3 := Tryz.isAgg3
 z3 := Tryz.sizeOf3
 v3 := Tryz.zeroValue3
 t4 := Tryz.underlying4
 a4 := Tryz.isAgg4
 z4 := Tryz.sizeOf4
 v4 := Tryz.zeroValue4
 t5 := Tryz.underlying5
 a5 := Tryz.isAgg5
 z5 := Tryz.sizeOf5
 v5 := Tryz.zeroValue5
 t9 := Tryz.underlying9
 a9 := Tryz.isAgg9
 z9 := Tryz.sizeOf9
 v9 := Tryz.zeroValue9
 t46 := Tryz.underlying149
 a46 := Tryz.isAgg149
 z46 := Tryz.sizeOf149
 v46 := Tryz.zeroValue149
 t51 := Tryz.underlying212
 a51 := Tryz.isAgg212
 z51 := Tryz.sizeOf212
 v51 := Tryz.zeroValue212
 t53 := Tryz.underlying23
 a53 := Tryz.isAgg23
 z53 := Tryz.sizeOf23
 v53 := Tryz.zeroValue23
theorem q169 {P : Program} {f : FuncId} {xs : List Value} {v : Value} {rs : List PV} (hf : ∀ (args : Array Value) (w : World),(callFunc f args).run P w = .ok (.enter f args) w)
  (h : ∀ w,Calls P f xs.toArray w fun e w' => e = .returned v ∧ w' = w) (hv : ∀ w g,RelR w g v rs) : ACalls P f (xs.map fun x => .d (.v x)) (· = rs) := by
 rw [q26]
 intro w g vs hz hr
 have e := z73 xs vs hr
 subst e
 unfold CallRes
 rw [hf]
 refine (h w).mono fun e w' ⟨h1,h2⟩ => ?_
 subst h2
 exact ⟨v,h1,g,rs,Ext.refl hz,rfl,hv _ _⟩
theorem z106 (n : Nat) (hn : n ≤ 1099511627776) : ACalls Tryz.prog 142 [.d (.v (.int .u64 (n : Int)))] (· = [.d (.v (.int .i64 (Go.Lib.bitLen n : Nat)))]) := by
 refine q169 (xs := [.int .u64 (n : Int)]) (v := .int .i64 (Go.Lib.bitLen n : Nat)) (fun args w => x158 args w Tryz.func142 rfl (by kernel_rfl)) (fun w => ?_) (fun w g => .d _ _ (.v _ rfl))
 have h := Any.bits_Len (P := Tryz.prog) (ρ := bitsL_ren) j168 (n : Int) w (by omega) (by omega)
 rw [Int.toNat_natCast] at h
 exact h
theorem q76 {n : Nat} (h0 : n ≠ 0) (h : n < 2 ^ 64) : 2 ^ Go.Lib.bitLen n ≤ 2 * n ∧ 1 ≤ Go.Lib.bitLen n ∧ n < 2 ^ Go.Lib.bitLen n := by
 obtain ⟨h1,h2,h3⟩ := Go.Lib.bitLenAux_bounds 64 n h h0
 unfold Go.Lib.bitLen
 refine ⟨?_,h1,h3⟩
 obtain ⟨k,hk⟩ : ∃ k,Go.Lib.bitLenAux 64 n = k + 1 := ⟨Go.Lib.bitLenAux 64 n - 1,by omega⟩
 rw [hk] at h2 ⊢
 rw [Nat.add_sub_cancel] at h2
 rw [Nat.pow_succ];omega
end Go.Proofs.YtemcdefpihkfpaaGreat
namespace Go.Proofs.YtemcdefpihkfpaaGreat
open Go.Proofs.YtemcdefpihkfpaaGreat.AL
def rvI (x : Nat → Nat) (n gen a b : Nat) (s : {s : Nat × Nat × (Nat → Nat) // a ≤ s.1 ∧ a ≤ s.2.1 ∧ s.2.1 < b ∧ PE a b x s.2.2}) : ASt :=
 ⟨[(9,.p (.d (.v (.int .i64 (s.val.2.1 : Int))))),(8,.p (.d (.v (.int .i64 (s.val.1 : Int))))),(0,.ow 1000 gen 1 n)],
  [(1000,.own 3 1 n gen (rowN s.val.2.2))]⟩
set_option maxRecDepth 100000 in
theorem z169 (f : PV) (x : Nat → Nat) (n gen a b : Nat) (hab : a < b) (hb : b ≤ n) (hn : n ≤ 1099511627776) :
  MCalls Tryz.prog 169 [.ow 1000 gen 1 n,.p (.d (.v (.int .i64 (a : Int)))),.p (.d (.v (.int .i64 (b : Int)))),.p f] [(1000,.own 3 1 n gen (rowN x))]
   (fun rs M => ∃ y : {y : Nat → Nat // PE a b x y},rs = [] ∧ M = [(1000,.own 3 1 n gen (rowN y.val))]) := by
 refine q20 Tryz.func169 rfl (by decide +kernel) (by rw [Tryz.ntmps169];simp) (fun l X h => by simp only [AL.look] at h;(repeat' split at h);all_goals first | omega | cases h) ?_;rw [Tryz.ntmps169];simp only [frA]
 (repeat (first | apply j0 | refine z7 rfl ?_ | refine x7 rfl ?_ | apply j6 | (refine x5 fun K hK => ?_) | (refine x8 fun K hK => ?_) | ((first | apply j5 | apply x6 | ((first | refine j4 (hK _ ?_) | refine q9 (hK _ _ j8 ?_));clear hK K));(first | show AWP _ _ _ _ _ | ((try simp only [z8]);first | show loopQ _ _ _ _ _ _ | show cutQ _ _ _ _ | show AWP _ _ _ _ _))) | ((first | refine j7 [] rfl ?_ | refine q10 [] rfl ?_);simp (disch:=omega) only [go_sem,seval,pnP,pnM,pnP1,pnM1];(repeat (first | refine ⟨by omega,?_⟩ | refine ⟨True.intro,?_⟩)))))
 refine j13 (rvI x n gen a b) (fun s => s.val.2.1 + 1 - s.val.1) ⟨(a,b - 1,x),Nat.le_refl _,by simp only [];omega,by simp only [];omega,PE.refl _ _ _⟩ ?_ (fun s => ?_)
 ·unfold rvI
  refine Weak.list ?_ ?_;(all_goals simp (disch:=omega) only [AllF,AllL,q11,z11,j10,exists_eq_left',go_sem,seval,pnP,pnM,pnP1,pnM1]);(all_goals (repeat' (with_reducible apply And.intro)));(all_goals try (first | exact q8 rfl | (refine x11 ?_;omega) | (refine q8 ?_;simp;done)))
 obtain ⟨⟨i,j,y⟩,hi,hj,hj2,hpe⟩ := s
 unfold rvI
 simp only [] at hi hj hj2 hpe
 by_cases h : i < j
 ·obtain ⟨j,rfl⟩ : ∃ k,j = k + 1 := ⟨j - 1,by omega⟩
  have r1 := z16 y i
  have r2 := z16 y (j + 1)
  (repeat (first | apply j0 | refine z7 rfl ?_ | refine x7 rfl ?_ | apply j6 | (refine x5 fun K hK => ?_) | (refine x8 fun K hK => ?_) | ((first | apply j5 | apply x6 | ((first | refine j4 (hK _ ?_) | refine q9 (hK _ _ j8 ?_));clear hK K));(first | show AWP _ _ _ _ _ | ((try simp only [z8]);first | show loopQ _ _ _ _ _ _ | show cutQ _ _ _ _ | show AWP _ _ _ _ _))) | ((first | refine j7 [] rfl ?_ | refine q10 [] rfl ?_);simp (disch:=omega) only [go_sem,seval,pnP,pnM,pnP1,pnM1,r1,r2];(repeat (first | refine ⟨by omega,?_⟩ | refine ⟨True.intro,?_⟩)))))
  refine ⟨⟨(i + 1,j,swp y i (j + 1)),by simp only [];omega,by simp only [];omega,by simp only [];omega,hpe.trans (PE.swp (by omega) (by omega) (by omega) (by omega))⟩,by simp only [];omega,?_⟩
  refine Weak.list ?_ ?_;(all_goals simp (disch:=omega) only [AllF,AllL,q11,z11,j10,exists_eq_left',go_sem,seval,pnP,pnM,pnP1,pnM1,r1,r2]);(all_goals (repeat' (with_reducible apply And.intro)));(all_goals try (first | exact q8 rfl | (refine x11 ?_;omega) | (refine q8 ?_;simp;done)))
  exact z20 rfl rfl (fun k _ => q24 y i (j + 1) k)
 ·(repeat (first | apply j0 | refine z7 rfl ?_ | refine x7 rfl ?_ | apply j6 | (refine x5 fun K hK => ?_) | (refine x8 fun K hK => ?_) | ((first | apply j5 | apply x6 | ((first | refine j4 (hK _ ?_) | refine q9 (hK _ _ j8 ?_));clear hK K));(first | show AWP _ _ _ _ _ | ((try simp only [z8]);first | show loopQ _ _ _ _ _ _ | show cutQ _ _ _ _ | show AWP _ _ _ _ _))) | ((first | refine j7 [] rfl ?_ | refine q10 [] rfl ?_);simp (disch:=omega) only [go_sem,seval,pnP,pnM,pnP1,pnM1];(repeat (first | refine ⟨by omega,?_⟩ | refine ⟨True.intro,?_⟩)))))
  (first | (refine j4 (hK _ ?_);refine And.left (q16 (l := 1000) rfl rfl ?_)) | (refine x6 ?_;refine And.left (q16 (l := 1000) rfl rfl ?_)) | (refine j5 ?_;refine And.left (q16 (l := 1000) rfl rfl ?_)) | (refine j9 ?_;refine And.right (q16 (l := 1000) rfl rfl ?_)) | refine And.left (q16 (l := 1000) rfl rfl ?_))
  exact ⟨⟨y,hpe⟩,rfl,rfl⟩
theorem x169 (n : Int) : 0 ≤ IntKind.u64.wrap n ∧ IntKind.u64.wrap n < 18446744073709551616 := by
 simp only [IntKind.wrap,IntKind.bits,IntKind.signed]
 simp;omega
theorem j169 (op : BinOp) (a b : Int) : 0 ≤ bits op .u64 a b ∧ bits op .u64 a b < 18446744073709551616 := by
 unfold bits
 exact x169 _
theorem q170 (r : Int) (k : Nat) (hk : k < 18446744073709551616) : ∃ z : Nat,bits .and .u64 r (k : Int) = (z : Int) ∧ z ≤ k := by
 refine ⟨(BitVec.ofInt 64 r &&& BitVec.ofInt 64 (k : Int)).toNat,?_,?_⟩
 ·show IntKind.u64.wrap ((BitVec.ofInt 64 r &&& BitVec.ofInt 64 (k : Int)).toNat : Int) = _
  exact wu (by omega)
 ·rw [BitVec.toNat_and]
  refine Nat.le_trans Nat.and_le_right ?_
  rw [BitVec.toNat_ofInt]
  omega
theorem z170 (n : Nat) (h0 : n ≠ 0) (hn : n ≤ 1099511627776) : ACalls Tryz.prog 193 [.d (.v (.int .i64 (n : Int)))] (· = [.d (.v (.int .u64 ((2 ^ Go.Lib.bitLen n : Nat) : Int)))]) := by
 have b := z106 n hn
 obtain ⟨p1,p2,p3⟩ := q76 h0 (show n < 2 ^ 64 by omega)
 have h64 : Go.Lib.bitLen n ≤ 41 := by
  have h2 : 2 ^ Go.Lib.bitLen n ≤ 2 ^ 41 := by omega
  exact (Nat.pow_le_pow_iff_right (by omega)).1 h2
 generalize Go.Lib.bitLen n = L at *
 have e1 : IntKind.u64.wrap (n : Int) = (n : Int) := wu (by omega)
 have e2 : ((L : Int).toNat) = L := by omega
 have e3 : IntKind.u64.wrap (1 * 2 ^ min L 64) = ((2 ^ L : Nat) : Int) := by
  rw [Nat.min_eq_left (by omega),Int.one_mul]
  have : ((2 : Int) ^ L) = ((2 ^ L : Nat) : Int) := by simp
  rw [this]
  exact wu (by omega)
 refine q12 Tryz.func193 rfl (by decide +kernel) (by rw [Tryz.ntmps193];simp) ?_;rw [Tryz.ntmps193];simp only [frOf]
 (repeat (first | apply j0 | refine z7 rfl ?_ | refine x7 rfl ?_ | apply j6 | (refine x5 fun K hK => ?_) | ((first | apply j5 | apply x6 | (refine j4 (hK _ ?_);clear hK K));show AWP _ _ _ _ _) | (refine x10 rfl rfl rfl ?_;simp (disch:=omega) only [go_sem,seval,pnP,pnM,pnP1,pnM1,e1,e2,e3];(first | refine ⟨_,b,?_⟩)) | (refine j7 [] rfl ?_;simp (disch:=omega) only [go_sem,seval,pnP,pnM,pnP1,pnM1,e1,e2,e3];(repeat refine ⟨by omega,?_⟩))))
 refine j9 ⟨_,?_,rfl⟩;rw [Tryz.results193];simp (disch:=omega) only [ResVars,ResVar,ptrLoc,go_sem,seval,pnP,pnM,pnP1,pnM1,e1,e2,e3]
set_option maxRecDepth 100000 in
theorem next_c (v : Int) : MCalls Tryz.prog 194 [.loc 1000 0] [(1000,.cells 226 [.p (.d (.v (.int .u64 v)))])]
   (fun rs M => ∃ r : {r : Int // 0 ≤ r ∧ r < 18446744073709551616},rs = [.p (.d (.v (.int .u64 r.val)))] ∧ M = [(1000,.cells 226 [.p (.d (.v (.int .u64 r.val)))])]) := by
 refine q20 Tryz.func194 rfl (by decide +kernel) (by rw [Tryz.ntmps194];simp) (fun l X h => by simp only [AL.look] at h;(repeat' split at h);all_goals first | omega | cases h) ?_;rw [Tryz.ntmps194];simp only [frA]
 (repeat (first | apply j0 | refine z7 rfl ?_ | refine x7 rfl ?_ | apply j6 | (refine x5 fun K hK => ?_) | (refine x8 fun K hK => ?_) | ((first | apply j5 | apply x6 | ((first | refine j4 (hK _ ?_) | refine q9 (hK _ _ j8 ?_));clear hK K));show AWP _ _ _ _ _) | ((first | refine j7 [1000] rfl ?_ | refine q10 [1000] rfl ?_);simp (disch:=omega) only [go_sem,seval,pnP,pnM,pnP1,pnM1];(repeat (first | refine ⟨by omega,?_⟩ | refine ⟨True.intro,?_⟩)))))
 exact j9 (z21 [_] [(1000,_)] ⟨rfl,trivial⟩ (by simp [AL.look] <;> first | rfl | exact ⟨rfl,rfl⟩) ⟨⟨_,j169 _ _ _⟩,rfl,rfl⟩)
def bpI (x : Nat → Nat) (n gen a b p m : Nat) (s : {s : Nat × Int × (Nat → Nat) // p ≤ s.1 + 1 ∧ s.1 ≤ p + 2 ∧ PE a b x s.2.2}) : ASt :=
 ⟨[(11,.p (.d (.v (.int .i64 (s.val.1 : Int))))),(10,.p (.d (.v (.int .u64 (m : Int))))),(9,.loc 9 0),(8,.p (.d (.v (.int .i64 ((b : Int) - a))))),(1,.p (.d (.v (.int .i64 (a : Int))))),(0,.ow 1000 gen 1 n)],
  [(1000,.own 3 1 n gen (rowN s.val.2.2)),(9,.cells 226 [.p (.d (.v (.int .u64 s.val.2.1)))])]⟩
set_option maxRecDepth 100000 in
theorem break_c (f : PV) (x : Nat → Nat) (n gen a b : Nat) (hab : a + 12 < b) (hb : b ≤ n) (hn : n ≤ 1099511627776) :
  MCalls Tryz.prog 167 [.ow 1000 gen 1 n,.p (.d (.v (.int .i64 (a : Int)))),.p (.d (.v (.int .i64 (b : Int)))),.p f] [(1000,.own 3 1 n gen (rowN x))]
   (fun rs M => ∃ y : {y : Nat → Nat // PE a b x y},rs = [] ∧ M = [(1000,.own 3 1 n gen (rowN y.val))]) := by
 have np := z170 (b - a) (by omega) (by omega)
 obtain ⟨p1,p2,p3⟩ := q76 (n := b - a) (by omega) (by omega)
 generalize 2 ^ Go.Lib.bitLen (b - a) = m at np p1 p3
 rw [show ((b - a : Nat) : Int) = (b : Int) - a by omega] at np
 have q4 : ((b : Int) - a).tdiv 4 = (((b - a) / 4 : Nat) : Int) := by
  rw [show (b : Int) - a = ((b - a : Nat) : Int) by omega,Int.tdiv_eq_ediv_of_nonneg (by omega)];omega
 have qd : 4 * ((b - a) / 4) ≤ b - a ∧ b - a < 4 * ((b - a) / 4) + 4 := by omega
 generalize (b - a) / 4 = d at q4 qd
 have e1 : IntKind.u64.wrap ((b : Int) - a) = (b : Int) - a := wu (by omega)
 refine q20 Tryz.func167 rfl (by decide +kernel) (by rw [Tryz.ntmps167];simp) (fun l X h => by simp only [AL.look] at h;(repeat' split at h);all_goals first | omega | cases h) ?_;rw [Tryz.ntmps167];simp only [frA]
 (repeat (first | apply j0 | refine z7 rfl ?_ | refine x7 rfl ?_ | apply j6 | (refine x5 fun K hK => ?_) | (refine x8 fun K hK => ?_) | ((first | apply j5 | apply x6 | ((first | refine j4 (hK _ ?_) | refine q9 (hK _ _ j8 ?_));clear hK K));(first | show AWP _ _ _ _ _ | ((try simp only [z8]);first | show loopQ _ _ _ _ _ _ | show cutQ _ _ _ _ | show AWP _ _ _ _ _))) | ((first | refine x10 rfl rfl rfl ?_ | refine q13 rfl rfl rfl ?_);simp (disch:=omega) only [go_sem,seval,pnP,pnM,pnP1,pnM1,q4,e1];(first | refine ⟨_,np,?_⟩)) | ((first | refine j7 [9] rfl ?_ | refine q10 [9] rfl ?_);simp (disch:=omega) only [go_sem,seval,pnP,pnM,pnP1,pnM1,q4,e1];(repeat (first | refine ⟨by omega,?_⟩ | refine ⟨True.intro,?_⟩)))))
 refine j13 (bpI x n gen a b (a + 2 * d) m) (fun s => a + 2 * d + 2 - s.val.1) ⟨(a + 2 * d - 1,(b : Int) - a,x),by simp only [];omega,by simp only [];omega,PE.refl _ _ _⟩ ?_ (fun s => ?_)
 ·unfold bpI
  refine Weak.list ?_ ?_;(all_goals simp (disch:=omega) only [AllF,AllL,q11,z11,j10,exists_eq_left',go_sem,seval,pnP,pnM,pnP1,pnM1,q4,e1]);(all_goals (repeat' (with_reducible apply And.intro)));(all_goals try (first | exact q8 rfl | (refine x11 ?_;omega) | (refine q8 ?_;simp;done)))
 obtain ⟨⟨i,v,y⟩,hi,hi2,hpe⟩ := s
 unfold bpI
 simp only [] at hi hi2 hpe
 by_cases h : i ≤ a + 2 * d + 1
 ·(repeat (first | apply j0 | refine z7 rfl ?_ | refine x7 rfl ?_ | apply j6 | (refine x5 fun K hK => ?_) | (refine x8 fun K hK => ?_) | ((first | apply j5 | apply x6 | ((first | refine j4 (hK _ ?_) | refine q9 (hK _ _ j8 ?_));clear hK K));(first | show AWP _ _ _ _ _ | ((try simp only [z8]);first | show loopQ _ _ _ _ _ _ | show cutQ _ _ _ _ | show AWP _ _ _ _ _))) | ((first | refine j7 [9] rfl ?_ | refine q10 [9] rfl ?_);simp (disch:=omega) only [go_sem,seval,pnP,pnM,pnP1,pnM1,q4,e1];(repeat (first | refine ⟨by omega,?_⟩ | refine ⟨True.intro,?_⟩)))))
  (refine z18 (x17 [(1000,9)] rfl rfl rfl rfl rfl rfl (next_c v) (fun _ => rfl) (q15 (by repeat (first | exact trivial | refine ⟨rfl,?_⟩)) (by kernel_rfl)) (fun _ => (q15 (by repeat (first | exact trivial | refine ⟨rfl,?_⟩)) (by kernel_rfl)))) ?_);rintro ⟨r,hr,hr2⟩;simp (disch:=omega) only [go_sem,seval,pnP,pnM,pnP1,pnM1,q4,e1]
  obtain ⟨z,hz,hz2⟩ := q170 r (m - 1) (by omega)
  rw [show ((m - 1 : Nat) : Int) = (m : Int) - 1 by omega] at hz
  have e2 : IntKind.u64.wrap ((m : Int) - 1) = (m : Int) - 1 := wu (by omega)
  (repeat ((fail_if_success (show AWP _ _ (.region 8 _ _) _ _));first | apply j0 | refine z7 rfl ?_ | refine x7 rfl ?_ | apply j6 | (refine x5 fun K hK => ?_) | (refine x8 fun K hK => ?_) | ((first | apply j5 | apply x6 | ((first | refine j4 (hK _ ?_) | refine q9 (hK _ _ j8 ?_));clear hK K));(first | show AWP _ _ _ _ _ | ((try simp only [z8]);first | show loopQ _ _ _ _ _ _ | show cutQ _ _ _ _ | show AWP _ _ _ _ _))) | ((first | refine j7 [9] rfl ?_ | refine q10 [9] rfl ?_);simp (disch:=omega) only [go_sem,seval,pnP,pnM,pnP1,pnM1,q4,e2,hz];(repeat (first | refine ⟨by omega,?_⟩ | refine ⟨True.intro,?_⟩)))))
  refine j34 (fun k : {k : Nat // k < b - a} => ⟨[(12,.p (.d (.v (.int .i64 (k.val : Int))))),(11,.p (.d (.v (.int .i64 (i : Int))))),(10,.p (.d (.v (.int .u64 (m : Int))))),(9,.loc 9 0),(8,.p (.d (.v (.int .i64 ((b : Int) - a))))),(1,.p (.d (.v (.int .i64 (a : Int))))),(0,.ow 1000 gen 1 n)],
    [(1000,.own 3 1 n gen (rowN y)),(9,.cells 226 [.p (.d (.v (.int .u64 r)))])]⟩) ?_ ?_
  ·by_cases hk : z ≥ b - a
   ·(repeat (first | apply j0 | refine z7 rfl ?_ | refine x7 rfl ?_ | apply j6 | (refine x5 fun K hK => ?_) | (refine x8 fun K hK => ?_) | ((first | apply j5 | apply x6 | ((first | refine j4 (hK _ ?_) | refine q9 (hK _ _ j8 ?_));clear hK K));(first | show AWP _ _ _ _ _ | ((try simp only [z8]);first | show loopQ _ _ _ _ _ _ | show cutQ _ _ _ _ | show AWP _ _ _ _ _))) | ((first | refine j7 [9] rfl ?_ | refine q10 [9] rfl ?_);simp (disch:=omega) only [go_sem,seval,pnP,pnM,pnP1,pnM1,q4,e2,hz];(repeat (first | refine ⟨by omega,?_⟩ | refine ⟨True.intro,?_⟩)))))
    (show cutQ _ _ .normal _);refine j17 (⟨z - (b - a),by omega⟩) ?_
    refine Weak.list ?_ ?_;(all_goals simp (disch:=omega) only [AllF,AllL,q11,z11,j10,exists_eq_left',go_sem,seval,pnP,pnM,pnP1,pnM1,q4,e2,hz]);(all_goals (repeat' (with_reducible apply And.intro)));(all_goals try (first | exact q8 rfl | (refine x11 ?_;omega) | (refine q8 ?_;simp;done)))
   ·(repeat (first | apply j0 | refine z7 rfl ?_ | refine x7 rfl ?_ | apply j6 | (refine x5 fun K hK => ?_) | (refine x8 fun K hK => ?_) | ((first | apply j5 | apply x6 | ((first | refine j4 (hK _ ?_) | refine q9 (hK _ _ j8 ?_));clear hK K));(first | show AWP _ _ _ _ _ | ((try simp only [z8]);first | show loopQ _ _ _ _ _ _ | show cutQ _ _ _ _ | show AWP _ _ _ _ _))) | ((first | refine j7 [9] rfl ?_ | refine q10 [9] rfl ?_);simp (disch:=omega) only [go_sem,seval,pnP,pnM,pnP1,pnM1,q4,e2,hz];(repeat (first | refine ⟨by omega,?_⟩ | refine ⟨True.intro,?_⟩)))))
    (show cutQ _ _ .normal _);refine j17 (⟨z,by omega⟩) ?_
    refine Weak.list ?_ ?_;(all_goals simp (disch:=omega) only [AllF,AllL,q11,z11,j10,exists_eq_left',go_sem,seval,pnP,pnM,pnP1,pnM1,q4,e2,hz]);(all_goals (repeat' (with_reducible apply And.intro)));(all_goals try (first | exact q8 rfl | (refine x11 ?_;omega) | (refine q8 ?_;simp;done)))
  ·rintro ⟨k,hk⟩
   have r1 := z16 y i
   have r2 := z16 y (a + k)
   (repeat (first | apply j0 | refine z7 rfl ?_ | refine x7 rfl ?_ | apply j6 | (refine x5 fun K hK => ?_) | (refine x8 fun K hK => ?_) | ((first | apply j5 | apply x6 | ((first | refine j4 (hK _ ?_) | refine q9 (hK _ _ j8 ?_));clear hK K));(first | show AWP _ _ _ _ _ | ((try simp only [z8]);first | show loopQ _ _ _ _ _ _ | show cutQ _ _ _ _ | show AWP _ _ _ _ _))) | ((first | refine j7 [9] rfl ?_ | refine q10 [9] rfl ?_);simp (disch:=omega) only [go_sem,seval,pnP,pnM,pnP1,pnM1,r1,r2];(repeat (first | refine ⟨by omega,?_⟩ | refine ⟨True.intro,?_⟩)))))
   refine ⟨⟨(i + 1,r,swp y i (a + k)),by simp only [];omega,by simp only [];omega,hpe.trans (PE.swp (by omega) (by omega) (by omega) (by omega))⟩,by simp only [];omega,?_⟩
   refine Weak.list ?_ ?_;(all_goals simp (disch:=omega) only [AllF,AllL,q11,z11,j10,exists_eq_left',go_sem,seval,pnP,pnM,pnP1,pnM1,r1,r2]);(all_goals (repeat' (with_reducible apply And.intro)));(all_goals try (first | exact q8 rfl | (refine x11 ?_;omega) | (refine q8 ?_;simp;done)))
   exact z20 rfl rfl (fun k' _ => q24 y i (a + k) k')
 ·(repeat (first | apply j0 | refine z7 rfl ?_ | refine x7 rfl ?_ | apply j6 | (refine x5 fun K hK => ?_) | (refine x8 fun K hK => ?_) | ((first | apply j5 | apply x6 | ((first | refine j4 (hK _ ?_) | refine q9 (hK _ _ j8 ?_));clear hK K));(first | show AWP _ _ _ _ _ | ((try simp only [z8]);first | show loopQ _ _ _ _ _ _ | show cutQ _ _ _ _ | show AWP _ _ _ _ _))) | ((first | refine j7 [9] rfl ?_ | refine q10 [9] rfl ?_);simp (disch:=omega) only [go_sem,seval,pnP,pnM,pnP1,pnM1,q4];(repeat (first | refine ⟨by omega,?_⟩ | refine ⟨True.intro,?_⟩)))))
  (first | (refine j4 (hK _ ?_);refine And.left (q16 (l := 1000) rfl rfl ?_)) | (refine x6 ?_;refine And.left (q16 (l := 1000) rfl rfl ?_)) | (refine j5 ?_;refine And.left (q16 (l := 1000) rfl rfl ?_)) | (refine j9 ?_;refine And.right (q16 (l := 1000) rfl rfl ?_)) | refine And.left (q16 (l := 1000) rfl rfl ?_))
  exact ⟨⟨y,hpe⟩,rfl,rfl⟩
structure PI (key : Nat → Int) (a b : Nat) (x y : Nat → Nat) (i q : Nat) : Prop where
 h1 : a + 1 ≤ i
 h2 : i ≤ q
 h3 : q ≤ b
 pe : PE a b x y
 lo : ∀ k,a + 1 ≤ k → k < i → key (y k) < key (y a)
 hi : ∀ k,q ≤ k → k < b → key (y a) ≤ key (y k)
theorem PI.start {key : Nat → Int} {a b p : Nat} {x : Nat → Nat} (h : a < b) (h1 : a ≤ p) (h2 : p < b) : PI key a b x (swp x a p) (a + 1) b :=
 ⟨Nat.le_refl _,h,Nat.le_refl _,PE.swp (Nat.le_refl _) h h1 h2,fun k k1 k2 => by omega,fun k k1 k2 => by omega⟩
theorem PI.up {key : Nat → Int} {a b i q : Nat} {x y : Nat → Nat} (h : PI key a b x y i q) (hl : i < q) (hk : key (y i) < key (y a)) : PI key a b x y (i + 1) q :=
 ⟨by have := h.h1;omega,hl,h.h3,h.pe,fun k k1 k2 => by
  by_cases e : k = i
  ·subst e;exact hk
  ·exact h.lo k k1 (by omega),h.hi⟩
theorem PI.down {key : Nat → Int} {a b i q : Nat} {x y : Nat → Nat} (h : PI key a b x y i (q + 1)) (hl : i ≤ q) (hk : ¬ key (y q) < key (y a)) : PI key a b x y i q :=
 ⟨h.h1,hl,by have := h.h3;omega,h.pe,h.lo,fun k k1 k2 => by
  by_cases e : k = q
  ·subst e;omega
  ·exact h.hi k (by omega) k2⟩
theorem PI.swap {key : Nat → Int} {a b i q : Nat} {x y : Nat → Nat} (h : PI key a b x y i (q + 1)) (hl : i ≤ q) (hi : ¬ key (y i) < key (y a)) (hq : key (y q) < key (y a)) : i + 1 ≤ q ∧ PI key a b x (swp y i q) (i + 1) q := by
 have hne : i ≠ q := fun e => by subst e;exact hi hq
 have g1 := h.h1;have g3 := h.h3
 have ea : swp y i q a = y a := j22 _ (by omega) (by omega)
 refine ⟨by omega,by omega,by omega,by omega,h.pe.trans (PE.swp (by omega) (by omega) (by omega) (by omega)),fun k k1 k2 => ?_,fun k k1 k2 => ?_⟩
 ·rw [ea]
  by_cases e : k = i
  ·subst e;rw [z44];exact hq
  ·rw [j22 _ e (by omega)];exact h.lo k k1 (by omega)
 ·rw [ea]
  by_cases e : k = q
  ·subst e;rw [x44];omega
  ·rw [j22 _ (by omega) e];exact h.hi k (by omega) k2
theorem PI.done {key : Nat → Int} {a b q : Nat} {x y : Nat → Nat} (h : PI key a b x y (q + 1) (q + 1)) : a ≤ q ∧ q < b ∧ PE a b x (swp y q a) ∧ Prt key a q b (swp y q a) := by
 have g1 := h.h1;have g3 := h.h3
 have em : swp y q a q = y a := z44 _ _ _
 refine ⟨by omega,by omega,h.pe.trans (PE.swp (by omega) (by omega) (by omega) (by omega)),⟨fun k k1 k2 => ?_,fun k k1 k2 => ?_⟩⟩
 ·rw [em]
  by_cases e : k = a
  ·subst e;rw [x44];exact Int.le_of_lt (h.lo q (by omega) (by omega))
  ·rw [j22 _ (by omega) e];exact Int.le_of_lt (h.lo k (by omega) (by omega))
 ·rw [em,j22 _ (by omega) (by omega)]
  exact h.hi k (by omega) k2
def ptI (key : Nat → Int) (x y : Nat → Nat) (n gen a b q : Nat) (g : FuncId) (o : PV) (i : {i : Nat // PI key a b x y i q}) : ASt :=
 ⟨[(13,.p (.d (.v (.int .i64 ((q : Int) - 1))))),(12,.p (.d (.v (.int .i64 (i.val : Int))))),(4,.p (.fn (.func g) [o] [])),(1,.p (.d (.v (.int .i64 (a : Int))))),(0,.ow 1000 gen 1 n)],
  [(1000,.own 3 1 n gen (rowN y))]⟩
def ptJ (key : Nat → Int) (x y : Nat → Nat) (n gen a b i : Nat) (g : FuncId) (o : PV) (q : {q : Nat // PI key a b x y i q ∧ (i < q → ¬ key (y i) < key (y a))}) : ASt :=
 ⟨[(13,.p (.d (.v (.int .i64 ((q.val : Int) - 1))))),(12,.p (.d (.v (.int .i64 (i : Int))))),(4,.p (.fn (.func g) [o] [])),(1,.p (.d (.v (.int .i64 (a : Int))))),(0,.ow 1000 gen 1 n)],
  [(1000,.own 3 1 n gen (rowN y))]⟩
def ptK (key : Nat → Int) (x : Nat → Nat) (n gen a b : Nat) (g : FuncId) (o : PV) (s : {s : Nat × Nat × (Nat → Nat) // PI key a b x s.2.2 s.1 s.2.1}) : ASt :=
 ⟨[(13,.p (.d (.v (.int .i64 ((s.val.2.1 : Int) - 1))))),(12,.p (.d (.v (.int .i64 (s.val.1 : Int))))),(4,.p (.fn (.func g) [o] [])),(1,.p (.d (.v (.int .i64 (a : Int))))),(0,.ow 1000 gen 1 n)],
  [(1000,.own 3 1 n gen (rowN s.val.2.2))]⟩
set_option maxRecDepth 100000 in
theorem x170 {key : Nat → Int} {c : Nat → Nat → Int} {g : FuncId} {o : PV} {N : Nat} (hc : CmpN Tryz.prog g o N key c) (x : Nat → Nat) (n gen a b p : Nat) (hab : a + 12 < b) (h1 : a ≤ p) (h2 : p < b) (hb : b ≤ n) (hn : n ≤ 1099511627776) (hx : Dom n N x) :
  MCalls Tryz.prog 172 [.ow 1000 gen 1 n,.p (.d (.v (.int .i64 (a : Int)))),.p (.d (.v (.int .i64 (b : Int)))),.p (.d (.v (.int .i64 (p : Int)))),.p (.fn (.func g) [o] [])] [(1000,.own 3 1 n gen (rowN x))]
   (fun rs M => ∃ r : {r : Nat × Bool × (Nat → Nat) // a ≤ r.1 ∧ r.1 < b ∧ PE a b x r.2.2 ∧ Prt key a r.1 b r.2.2},rs = [.p (.d (.v (.int .i64 (r.val.1 : Int)))),.p (.d (.v (.bool r.val.2.1)))] ∧ M = [(1000,.own 3 1 n gen (rowN r.val.2.2))]) := by
 have r1 := z16 x a
 have r2 := z16 x p
 refine q20 Tryz.func172 rfl (by decide +kernel) (by rw [Tryz.ntmps172];simp) (fun l X h => by simp only [AL.look] at h;(repeat' split at h);all_goals first | omega | cases h) ?_;rw [Tryz.ntmps172];simp only [frA]
 (repeat ((fail_if_success (show AWP _ _ (.region 2 _ _) _ _));first | apply j0 | refine z7 rfl ?_ | refine x7 rfl ?_ | apply j6 | (refine x5 fun K hK => ?_) | (refine x8 fun K hK => ?_) | ((first | apply j5 | apply x6 | ((first | refine j4 (hK _ ?_) | refine q9 (hK _ _ j8 ?_));clear hK K));(first | show AWP _ _ _ _ _ | ((try simp only [z8]);first | show loopQ _ _ _ _ _ _ | show cutQ _ _ _ _ | show AWP _ _ _ _ _))) | ((first | refine j7 [] rfl ?_ | refine q10 [] rfl ?_);simp (disch:=omega) only [go_sem,seval,pnP,pnM,pnP1,pnM1,r1,r2];(repeat (first | refine ⟨by omega,?_⟩ | refine ⟨True.intro,?_⟩)))))
 refine q18 (A' := ⟨[(4,.p (.fn (.func g) [o] [])),(2,.p (.d (.v (.int .i64 (b : Int))))),(1,.p (.d (.v (.int .i64 (a : Int))))),(0,.ow 1000 gen 1 n)],[(1000,.own 3 1 n gen (rowN (swp x a p)))]⟩) ?_ ?_
 ·refine Weak.list ?_ ?_;(all_goals simp (disch:=omega) only [AllF,AllL,q11,z11,j10,exists_eq_left',go_sem,seval,pnP,pnM,pnP1,pnM1]);(all_goals (repeat' (with_reducible apply And.intro)));(all_goals try (first | exact q8 rfl | (refine x11 ?_;omega) | (refine q8 ?_;simp;done)))
  exact z20 rfl rfl (fun k _ => q24 x a p k)
 have hs0 := PI.start (key := key) (x := x) (show a < b by omega) h1 h2
 generalize hy : swp x a p = y at hs0
 clear hy r1 r2
 have dy := hx.pe hs0.pe (by omega) hb
 have ra := z16 y a
 (repeat (first | apply j0 | refine z7 rfl ?_ | refine x7 rfl ?_ | apply j6 | (refine x5 fun K hK => ?_) | (refine x8 fun K hK => ?_) | ((first | apply j5 | apply x6 | ((first | refine j4 (hK _ ?_) | refine q9 (hK _ _ j8 ?_));clear hK K));(first | show AWP _ _ _ _ _ | ((try simp only [z8]);first | show loopQ _ _ _ _ _ _ | show cutQ _ _ _ _ | show AWP _ _ _ _ _))) | ((first | refine j7 [] rfl ?_ | refine q10 [] rfl ?_);simp (disch:=omega) only [go_sem,seval,pnP,pnM,pnP1,pnM1];(repeat (first | refine ⟨by omega,?_⟩ | refine ⟨True.intro,?_⟩)))))
 refine x38 (fun i : {i : Nat // PI key a b x y i b ∧ (i < b → ¬ key (y i) < key (y a))} => ptI key x y n gen a b b g o ⟨i.val,i.property.1⟩) ?_ ?_
 ·refine j13 (ptI key x y n gen a b b g o) (fun s => b - s.val) ⟨a + 1,hs0⟩ ?_ (fun s => ?_)
  ·unfold ptI
   refine Weak.list ?_ ?_;(all_goals simp (disch:=omega) only [AllF,AllL,q11,z11,j10,exists_eq_left',go_sem,seval,pnP,pnM,pnP1,pnM1]);(all_goals (repeat' (with_reducible apply And.intro)));(all_goals try (first | exact q8 rfl | (refine x11 ?_;omega) | (refine q8 ?_;simp;done)))
  obtain ⟨i,hi⟩ := s
  unfold ptI
  have g1 := hi.h1;have g2 := hi.h2
  by_cases h : i < b
  ·have r1 := z16 y i
   have cc := hc.call (y i) (y a) (dy.lt _ (by omega)) (dy.lt _ (by omega))
   have cl := hc.lt (y i) (y a) (dy.lt _ (by omega)) (dy.lt _ (by omega))
   generalize c (y i) (y a) = c0 at cc cl
   by_cases hlt : c0 < 0
   ·(repeat (first | apply j0 | refine z7 rfl ?_ | refine x7 rfl ?_ | apply j6 | (refine x5 fun K hK => ?_) | (refine x8 fun K hK => ?_) | ((first | apply j5 | apply x6 | ((first | refine j4 (hK _ ?_) | refine q9 (hK _ _ j8 ?_));clear hK K));(first | show AWP _ _ _ _ _ | ((try simp only [z8]);first | show loopQ _ _ _ _ _ _ | show cutQ _ _ _ _ | show AWP _ _ _ _ _))) | ((first | refine x10 rfl rfl rfl ?_ | refine q13 rfl rfl rfl ?_);simp (disch:=omega) only [go_sem,seval,pnP,pnM,pnP1,pnM1,r1,ra];(first | refine ⟨_,cc,?_⟩)) | ((first | refine j7 [] rfl ?_ | refine q10 [] rfl ?_);simp (disch:=omega) only [go_sem,seval,pnP,pnM,pnP1,pnM1,r1,ra];(repeat (first | refine ⟨by omega,?_⟩ | refine ⟨True.intro,?_⟩)))))
    refine ⟨⟨i + 1,hi.up h (cl.1 hlt)⟩,by simp only [];omega,?_⟩
    refine Weak.list ?_ ?_;(all_goals simp (disch:=omega) only [AllF,AllL,q11,z11,j10,exists_eq_left',go_sem,seval,pnP,pnM,pnP1,pnM1,r1,ra]);(all_goals (repeat' (with_reducible apply And.intro)));(all_goals try (first | exact q8 rfl | (refine x11 ?_;omega) | (refine q8 ?_;simp;done)))
   ·(repeat (first | apply j0 | refine z7 rfl ?_ | refine x7 rfl ?_ | apply j6 | (refine x5 fun K hK => ?_) | (refine x8 fun K hK => ?_) | ((first | apply j5 | apply x6 | ((first | refine j4 (hK _ ?_) | refine q9 (hK _ _ j8 ?_));clear hK K));(first | show AWP _ _ _ _ _ | ((try simp only [z8]);first | show loopQ _ _ _ _ _ _ | show cutQ _ _ _ _ | show AWP _ _ _ _ _))) | ((first | refine x10 rfl rfl rfl ?_ | refine q13 rfl rfl rfl ?_);simp (disch:=omega) only [go_sem,seval,pnP,pnM,pnP1,pnM1,r1,ra];(first | refine ⟨_,cc,?_⟩)) | ((first | refine j7 [] rfl ?_ | refine q10 [] rfl ?_);simp (disch:=omega) only [go_sem,seval,pnP,pnM,pnP1,pnM1,r1,ra];(repeat (first | refine ⟨by omega,?_⟩ | refine ⟨True.intro,?_⟩)))))
    (show cutQ _ _ .normal _);refine j17 (⟨i,hi,fun _ h => hlt (cl.2 h)⟩) ?_
    refine Weak.list ?_ ?_;(all_goals simp (disch:=omega) only [AllF,AllL,q11,z11,j10,exists_eq_left',go_sem,seval,pnP,pnM,pnP1,pnM1,r1,ra]);(all_goals (repeat' (with_reducible apply And.intro)));(all_goals try (first | exact q8 rfl | (refine x11 ?_;omega) | (refine q8 ?_;simp;done)))
  ·(repeat (first | apply j0 | refine z7 rfl ?_ | refine x7 rfl ?_ | apply j6 | (refine x5 fun K hK => ?_) | (refine x8 fun K hK => ?_) | ((first | apply j5 | apply x6 | ((first | refine j4 (hK _ ?_) | refine q9 (hK _ _ j8 ?_));clear hK K));(first | show AWP _ _ _ _ _ | ((try simp only [z8]);first | show loopQ _ _ _ _ _ _ | show cutQ _ _ _ _ | show AWP _ _ _ _ _))) | ((first | refine j7 [] rfl ?_ | refine q10 [] rfl ?_);simp (disch:=omega) only [go_sem,seval,pnP,pnM,pnP1,pnM1];(repeat (first | refine ⟨by omega,?_⟩ | refine ⟨True.intro,?_⟩)))))
   (show cutQ _ _ .normal _);refine j17 (⟨i,hi,fun h' => absurd h' h⟩) ?_
   refine Weak.list ?_ ?_;(all_goals simp (disch:=omega) only [AllF,AllL,q11,z11,j10,exists_eq_left',go_sem,seval,pnP,pnM,pnP1,pnM1]);(all_goals (repeat' (with_reducible apply And.intro)));(all_goals try (first | exact q8 rfl | (refine x11 ?_;omega) | (refine q8 ?_;simp;done)))
 rintro ⟨i,hi,hiq⟩
 unfold ptI
 (repeat (first | apply j0 | refine z7 rfl ?_ | refine x7 rfl ?_ | apply j6 | (refine x5 fun K hK => ?_) | (refine x8 fun K hK => ?_) | ((first | apply j5 | apply x6 | ((first | refine j4 (hK _ ?_) | refine q9 (hK _ _ j8 ?_));clear hK K));(first | show AWP _ _ _ _ _ | ((try simp only [z8]);first | show loopQ _ _ _ _ _ _ | show cutQ _ _ _ _ | show AWP _ _ _ _ _))) | ((first | refine j7 [] rfl ?_ | refine q10 [] rfl ?_);simp (disch:=omega) only [go_sem,seval,pnP,pnM,pnP1,pnM1];(repeat (first | refine ⟨by omega,?_⟩ | refine ⟨True.intro,?_⟩)))))
 refine x38 (fun q : {q : Nat // PI key a b x y i q ∧ (i < q → ¬ key (y i) < key (y a)) ∧ (i < q → key (y (q - 1)) < key (y a))} => ptJ key x y n gen a b i g o ⟨q.val,q.property.1,q.property.2.1⟩) ?_ ?_
 ·refine j13 (ptJ key x y n gen a b i g o) (fun s => s.val) ⟨b,hi,hiq⟩ ?_ (fun s => ?_)
  ·unfold ptJ
   refine Weak.list ?_ ?_;(all_goals simp (disch:=omega) only [AllF,AllL,q11,z11,j10,exists_eq_left',go_sem,seval,pnP,pnM,pnP1,pnM1]);(all_goals (repeat' (with_reducible apply And.intro)));(all_goals try (first | exact q8 rfl | (refine x11 ?_;omega) | (refine q8 ?_;simp;done)))
  obtain ⟨q,hq,hq2⟩ := s
  unfold ptJ
  have g1 := hq.h1;have g2 := hq.h2;have g3 := hq.h3
  by_cases h : i < q
  ·obtain ⟨q,rfl⟩ : ∃ k,q = k + 1 := ⟨q - 1,by omega⟩
   have r1 := z16 y q
   have cc := hc.call (y q) (y a) (dy.lt _ (by omega)) (dy.lt _ (by omega))
   have cl := hc.lt (y q) (y a) (dy.lt _ (by omega)) (dy.lt _ (by omega))
   generalize c (y q) (y a) = c0 at cc cl
   by_cases hlt : c0 < 0
   ·(repeat (first | apply j0 | refine z7 rfl ?_ | refine x7 rfl ?_ | apply j6 | (refine x5 fun K hK => ?_) | (refine x8 fun K hK => ?_) | ((first | apply j5 | apply x6 | ((first | refine j4 (hK _ ?_) | refine q9 (hK _ _ j8 ?_));clear hK K));(first | show AWP _ _ _ _ _ | ((try simp only [z8]);first | show loopQ _ _ _ _ _ _ | show cutQ _ _ _ _ | show AWP _ _ _ _ _))) | ((first | refine x10 rfl rfl rfl ?_ | refine q13 rfl rfl rfl ?_);simp (disch:=omega) only [go_sem,seval,pnP,pnM,pnP1,pnM1,r1,ra];(first | refine ⟨_,cc,?_⟩)) | ((first | refine j7 [] rfl ?_ | refine q10 [] rfl ?_);simp (disch:=omega) only [go_sem,seval,pnP,pnM,pnP1,pnM1,r1,ra];(repeat (first | refine ⟨by omega,?_⟩ | refine ⟨True.intro,?_⟩)))))
    (show cutQ _ _ .normal _);refine j17 (⟨q + 1,hq,hq2,fun _ => cl.1 hlt⟩) ?_
    refine Weak.list ?_ ?_;(all_goals simp (disch:=omega) only [AllF,AllL,q11,z11,j10,exists_eq_left',go_sem,seval,pnP,pnM,pnP1,pnM1,r1,ra]);(all_goals (repeat' (with_reducible apply And.intro)));(all_goals try (first | exact q8 rfl | (refine x11 ?_;omega) | (refine q8 ?_;simp;done)))
   ·(repeat (first | apply j0 | refine z7 rfl ?_ | refine x7 rfl ?_ | apply j6 | (refine x5 fun K hK => ?_) | (refine x8 fun K hK => ?_) | ((first | apply j5 | apply x6 | ((first | refine j4 (hK _ ?_) | refine q9 (hK _ _ j8 ?_));clear hK K));(first | show AWP _ _ _ _ _ | ((try simp only [z8]);first | show loopQ _ _ _ _ _ _ | show cutQ _ _ _ _ | show AWP _ _ _ _ _))) | ((first | refine x10 rfl rfl rfl ?_ | refine q13 rfl rfl rfl ?_);simp (disch:=omega) only [go_sem,seval,pnP,pnM,pnP1,pnM1,r1,ra];(first | refine ⟨_,cc,?_⟩)) | ((first | refine j7 [] rfl ?_ | refine q10 [] rfl ?_);simp (disch:=omega) only [go_sem,seval,pnP,pnM,pnP1,pnM1,r1,ra];(repeat (first | refine ⟨by omega,?_⟩ | refine ⟨True.intro,?_⟩)))))
    refine ⟨⟨q,hq.down (by omega) (fun e => hlt (cl.2 e)),fun h' => hq2 h⟩,by simp only [];omega,?_⟩
    refine Weak.list ?_ ?_;(all_goals simp (disch:=omega) only [AllF,AllL,q11,z11,j10,exists_eq_left',go_sem,seval,pnP,pnM,pnP1,pnM1,r1,ra]);(all_goals (repeat' (with_reducible apply And.intro)));(all_goals try (first | exact q8 rfl | (refine x11 ?_;omega) | (refine q8 ?_;simp;done)))
  ·(repeat (first | apply j0 | refine z7 rfl ?_ | refine x7 rfl ?_ | apply j6 | (refine x5 fun K hK => ?_) | (refine x8 fun K hK => ?_) | ((first | apply j5 | apply x6 | ((first | refine j4 (hK _ ?_) | refine q9 (hK _ _ j8 ?_));clear hK K));(first | show AWP _ _ _ _ _ | ((try simp only [z8]);first | show loopQ _ _ _ _ _ _ | show cutQ _ _ _ _ | show AWP _ _ _ _ _))) | ((first | refine j7 [] rfl ?_ | refine q10 [] rfl ?_);simp (disch:=omega) only [go_sem,seval,pnP,pnM,pnP1,pnM1];(repeat (first | refine ⟨by omega,?_⟩ | refine ⟨True.intro,?_⟩)))))
   (show cutQ _ _ .normal _);refine j17 (⟨q,hq,hq2,fun h' => absurd h' h⟩) ?_
   refine Weak.list ?_ ?_;(all_goals simp (disch:=omega) only [AllF,AllL,q11,z11,j10,exists_eq_left',go_sem,seval,pnP,pnM,pnP1,pnM1]);(all_goals (repeat' (with_reducible apply And.intro)));(all_goals try (first | exact q8 rfl | (refine x11 ?_;omega) | (refine q8 ?_;simp;done)))
 rintro ⟨q,hq,hq2,hq3⟩
 unfold ptJ
 have g1 := hq.h1;have g2 := hq.h2;have g3 := hq.h3
 by_cases h : i = q
 ·subst h
  obtain ⟨i,rfl⟩ : ∃ k,i = k + 1 := ⟨i - 1,by omega⟩
  have r1 := z16 y i
  obtain ⟨d1,d2,d3,d4⟩ := hq.done
  (repeat ((fail_if_success (show AWP _ _ (.region 9 _ _) _ _));first | apply j0 | refine z7 rfl ?_ | refine x7 rfl ?_ | apply j6 | (refine x5 fun K hK => ?_) | (refine x8 fun K hK => ?_) | ((first | apply j5 | apply x6 | ((first | refine j4 (hK _ ?_) | refine q9 (hK _ _ j8 ?_));clear hK K));(first | show AWP _ _ _ _ _ | ((try simp only [z8]);first | show loopQ _ _ _ _ _ _ | show cutQ _ _ _ _ | show AWP _ _ _ _ _))) | ((first | refine j7 [] rfl ?_ | refine q10 [] rfl ?_);simp (disch:=omega) only [go_sem,seval,pnP,pnM,pnP1,pnM1,r1,ra];(repeat (first | refine ⟨by omega,?_⟩ | refine ⟨True.intro,?_⟩)))))
  refine q18 (A' := ⟨[(13,.p (.d (.v (.int .i64 (i : Int)))))],[(1000,.own 3 1 n gen (rowN (swp y i a)))]⟩) ?_ ?_
  ·refine Weak.list ?_ ?_;(all_goals simp (disch:=omega) only [AllF,AllL,q11,z11,j10,exists_eq_left',go_sem,seval,pnP,pnM,pnP1,pnM1,r1,ra]);(all_goals (repeat' (with_reducible apply And.intro)));(all_goals try (first | exact q8 rfl | (refine x11 ?_;omega) | (refine q8 ?_;simp;done)))
   exact z20 rfl rfl (fun k _ => q24 y i a k)
  (repeat (first | apply j0 | refine z7 rfl ?_ | refine x7 rfl ?_ | apply j6 | (refine x5 fun K hK => ?_) | (refine x8 fun K hK => ?_) | ((first | apply j5 | apply x6 | ((first | refine j4 (hK _ ?_) | refine q9 (hK _ _ j8 ?_));clear hK K));(first | show AWP _ _ _ _ _ | ((try simp only [z8]);first | show loopQ _ _ _ _ _ _ | show cutQ _ _ _ _ | show AWP _ _ _ _ _))) | ((first | refine j7 [] rfl ?_ | refine q10 [] rfl ?_);simp (disch:=omega) only [go_sem,seval,pnP,pnM,pnP1,pnM1];(repeat (first | refine ⟨by omega,?_⟩ | refine ⟨True.intro,?_⟩)))))
  exact j9 (z21 [_,_] [(1000,_)] ⟨rfl,rfl,trivial⟩ (by simp [AL.look] <;> first | rfl | exact ⟨rfl,rfl⟩) ⟨⟨(i,true,swp y i a),d1,d2,d3,d4⟩,rfl,rfl⟩)
 ·obtain ⟨q,rfl⟩ : ∃ k,q = k + 1 := ⟨q - 1,by omega⟩
  rw [Nat.add_sub_cancel] at hq3
  obtain ⟨s1,s2⟩ := hq.swap (by omega) (hq2 (by omega)) (hq3 (by omega))
  have r1 := z16 y i
  have r2 := z16 y q
  (repeat ((fail_if_success (show AWP _ _ (.region 11 _ _) _ _));first | apply j0 | refine z7 rfl ?_ | refine x7 rfl ?_ | apply j6 | (refine x5 fun K hK => ?_) | (refine x8 fun K hK => ?_) | ((first | apply j5 | apply x6 | ((first | refine j4 (hK _ ?_) | refine q9 (hK _ _ j8 ?_));clear hK K));(first | show AWP _ _ _ _ _ | ((try simp only [z8]);first | show loopQ _ _ _ _ _ _ | show cutQ _ _ _ _ | show AWP _ _ _ _ _))) | ((first | refine j7 [] rfl ?_ | refine q10 [] rfl ?_);simp (disch:=omega) only [go_sem,seval,pnP,pnM,pnP1,pnM1,r1,r2];(repeat (first | refine ⟨by omega,?_⟩ | refine ⟨True.intro,?_⟩)))))
  refine q18 (A' := ⟨[(13,.p (.d (.v (.int .i64 (q : Int))))),(12,.p (.d (.v (.int .i64 (i : Int))))),(4,.p (.fn (.func g) [o] [])),(1,.p (.d (.v (.int .i64 (a : Int))))),(0,.ow 1000 gen 1 n)],[(1000,.own 3 1 n gen (rowN (swp y i q)))]⟩) ?_ ?_
  ·refine Weak.list ?_ ?_;(all_goals simp (disch:=omega) only [AllF,AllL,q11,z11,j10,exists_eq_left',go_sem,seval,pnP,pnM,pnP1,pnM1,r1,r2]);(all_goals (repeat' (with_reducible apply And.intro)));(all_goals try (first | exact q8 rfl | (refine x11 ?_;omega) | (refine q8 ?_;simp;done)))
   exact z20 rfl rfl (fun k _ => q24 y i q k)
  (repeat (first | apply j0 | refine z7 rfl ?_ | refine x7 rfl ?_ | apply j6 | (refine x5 fun K hK => ?_) | (refine x8 fun K hK => ?_) | ((first | apply j5 | apply x6 | ((first | refine j4 (hK _ ?_) | refine q9 (hK _ _ j8 ?_));clear hK K));(first | show AWP _ _ _ _ _ | ((try simp only [z8]);first | show loopQ _ _ _ _ _ _ | show cutQ _ _ _ _ | show AWP _ _ _ _ _))) | ((first | refine j7 [] rfl ?_ | refine q10 [] rfl ?_);simp (disch:=omega) only [go_sem,seval,pnP,pnM,pnP1,pnM1];(repeat (first | refine ⟨by omega,?_⟩ | refine ⟨True.intro,?_⟩)))))
  refine x38 (fun s : {s : Nat × (Nat → Nat) // PI key a b x s.2 s.1 s.1} => ptK key x n gen a b g o ⟨(s.val.1,s.val.1,s.val.2),s.property⟩) ?_ ?_
  ·refine j13 (ptK key x n gen a b g o) (fun s => s.val.2.1 - s.val.1) ⟨(i + 1,q,swp y i q),s2⟩ ?_ (fun s => ?_)
   ·unfold ptK
    refine Weak.list ?_ ?_;(all_goals simp (disch:=omega) only [AllF,AllL,q11,z11,j10,exists_eq_left',go_sem,seval,pnP,pnM,pnP1,pnM1]);(all_goals (repeat' (with_reducible apply And.intro)));(all_goals try (first | exact q8 rfl | (refine x11 ?_;omega) | (refine q8 ?_;simp;done)))
   clear s2 s1 r1 r2 hq hq2 hq3 g1 g2 g3 h hi hiq dy ra hs0
   obtain ⟨⟨i0,q0,y⟩,hs⟩ := s
   unfold ptK
   simp only [] at hs
   have dy := hx.pe hs.pe (by omega) hb
   have ra := z16 y a
   have e1 := hs.h1;have e2 := hs.h2;have e3 := hs.h3
   (repeat (first | apply j0 | refine z7 rfl ?_ | refine x7 rfl ?_ | apply j6 | (refine x5 fun K hK => ?_) | (refine x8 fun K hK => ?_) | ((first | apply j5 | apply x6 | ((first | refine j4 (hK _ ?_) | refine q9 (hK _ _ j8 ?_));clear hK K));(first | show AWP _ _ _ _ _ | ((try simp only [z8]);first | show loopQ _ _ _ _ _ _ | show cutQ _ _ _ _ | show AWP _ _ _ _ _))) | ((first | refine j7 [] rfl ?_ | refine q10 [] rfl ?_);simp (disch:=omega) only [go_sem,seval,pnP,pnM,pnP1,pnM1];(repeat (first | refine ⟨by omega,?_⟩ | refine ⟨True.intro,?_⟩)))))
   refine x38 (fun i : {i : Nat // i0 ≤ i ∧ PI key a b x y i q0 ∧ (i < q0 → ¬ key (y i) < key (y a))} => ptI key x y n gen a b q0 g o ⟨i.val,i.property.2.1⟩) ?_ ?_
   ·refine j13 (fun i : {i : Nat // i0 ≤ i ∧ PI key a b x y i q0} => ptI key x y n gen a b q0 g o ⟨i.val,i.property.2⟩) (fun s => q0 - s.val) ⟨i0,Nat.le_refl _,hs⟩ ?_ (fun s => ?_)
    ·unfold ptI
     refine Weak.list ?_ ?_;(all_goals simp (disch:=omega) only [AllF,AllL,q11,z11,j10,exists_eq_left',go_sem,seval,pnP,pnM,pnP1,pnM1]);(all_goals (repeat' (with_reducible apply And.intro)));(all_goals try (first | exact q8 rfl | (refine x11 ?_;omega) | (refine q8 ?_;simp;done)))
    obtain ⟨i,hi0,hi⟩ := s
    unfold ptI
    have g1 := hi.h1;have g2 := hi.h2
    by_cases h : i < q0
    ·have r1 := z16 y i
     have cc := hc.call (y i) (y a) (dy.lt _ (by omega)) (dy.lt _ (by omega))
     have cl := hc.lt (y i) (y a) (dy.lt _ (by omega)) (dy.lt _ (by omega))
     generalize c (y i) (y a) = c0 at cc cl
     by_cases hlt : c0 < 0
     ·(repeat (first | apply j0 | refine z7 rfl ?_ | refine x7 rfl ?_ | apply j6 | (refine x5 fun K hK => ?_) | (refine x8 fun K hK => ?_) | ((first | apply j5 | apply x6 | ((first | refine j4 (hK _ ?_) | refine q9 (hK _ _ j8 ?_));clear hK K));(first | show AWP _ _ _ _ _ | ((try simp only [z8]);first | show loopQ _ _ _ _ _ _ | show cutQ _ _ _ _ | show AWP _ _ _ _ _))) | ((first | refine x10 rfl rfl rfl ?_ | refine q13 rfl rfl rfl ?_);simp (disch:=omega) only [go_sem,seval,pnP,pnM,pnP1,pnM1,r1,ra];(first | refine ⟨_,cc,?_⟩)) | ((first | refine j7 [] rfl ?_ | refine q10 [] rfl ?_);simp (disch:=omega) only [go_sem,seval,pnP,pnM,pnP1,pnM1,r1,ra];(repeat (first | refine ⟨by omega,?_⟩ | refine ⟨True.intro,?_⟩)))))
      refine ⟨⟨i + 1,by omega,hi.up h (cl.1 hlt)⟩,by simp only [];omega,?_⟩
      refine Weak.list ?_ ?_;(all_goals simp (disch:=omega) only [AllF,AllL,q11,z11,j10,exists_eq_left',go_sem,seval,pnP,pnM,pnP1,pnM1,r1,ra]);(all_goals (repeat' (with_reducible apply And.intro)));(all_goals try (first | exact q8 rfl | (refine x11 ?_;omega) | (refine q8 ?_;simp;done)))
     ·(repeat (first | apply j0 | refine z7 rfl ?_ | refine x7 rfl ?_ | apply j6 | (refine x5 fun K hK => ?_) | (refine x8 fun K hK => ?_) | ((first | apply j5 | apply x6 | ((first | refine j4 (hK _ ?_) | refine q9 (hK _ _ j8 ?_));clear hK K));(first | show AWP _ _ _ _ _ | ((try simp only [z8]);first | show loopQ _ _ _ _ _ _ | show cutQ _ _ _ _ | show AWP _ _ _ _ _))) | ((first | refine x10 rfl rfl rfl ?_ | refine q13 rfl rfl rfl ?_);simp (disch:=omega) only [go_sem,seval,pnP,pnM,pnP1,pnM1,r1,ra];(first | refine ⟨_,cc,?_⟩)) | ((first | refine j7 [] rfl ?_ | refine q10 [] rfl ?_);simp (disch:=omega) only [go_sem,seval,pnP,pnM,pnP1,pnM1,r1,ra];(repeat (first | refine ⟨by omega,?_⟩ | refine ⟨True.intro,?_⟩)))))
      (show cutQ _ _ .normal _);refine j17 (⟨i,hi0,hi,fun _ h => hlt (cl.2 h)⟩) ?_
      refine Weak.list ?_ ?_;(all_goals simp (disch:=omega) only [AllF,AllL,q11,z11,j10,exists_eq_left',go_sem,seval,pnP,pnM,pnP1,pnM1,r1,ra]);(all_goals (repeat' (with_reducible apply And.intro)));(all_goals try (first | exact q8 rfl | (refine x11 ?_;omega) | (refine q8 ?_;simp;done)))
    ·(repeat (first | apply j0 | refine z7 rfl ?_ | refine x7 rfl ?_ | apply j6 | (refine x5 fun K hK => ?_) | (refine x8 fun K hK => ?_) | ((first | apply j5 | apply x6 | ((first | refine j4 (hK _ ?_) | refine q9 (hK _ _ j8 ?_));clear hK K));(first | show AWP _ _ _ _ _ | ((try simp only [z8]);first | show loopQ _ _ _ _ _ _ | show cutQ _ _ _ _ | show AWP _ _ _ _ _))) | ((first | refine j7 [] rfl ?_ | refine q10 [] rfl ?_);simp (disch:=omega) only [go_sem,seval,pnP,pnM,pnP1,pnM1];(repeat (first | refine ⟨by omega,?_⟩ | refine ⟨True.intro,?_⟩)))))
     (show cutQ _ _ .normal _);refine j17 (⟨i,hi0,hi,fun h' => absurd h' h⟩) ?_
     refine Weak.list ?_ ?_;(all_goals simp (disch:=omega) only [AllF,AllL,q11,z11,j10,exists_eq_left',go_sem,seval,pnP,pnM,pnP1,pnM1]);(all_goals (repeat' (with_reducible apply And.intro)));(all_goals try (first | exact q8 rfl | (refine x11 ?_;omega) | (refine q8 ?_;simp;done)))
   rintro ⟨i,hi0,hi,hiq⟩
   unfold ptI
   have g2 := hi.h2
   (repeat (first | apply j0 | refine z7 rfl ?_ | refine x7 rfl ?_ | apply j6 | (refine x5 fun K hK => ?_) | (refine x8 fun K hK => ?_) | ((first | apply j5 | apply x6 | ((first | refine j4 (hK _ ?_) | refine q9 (hK _ _ j8 ?_));clear hK K));(first | show AWP _ _ _ _ _ | ((try simp only [z8]);first | show loopQ _ _ _ _ _ _ | show cutQ _ _ _ _ | show AWP _ _ _ _ _))) | ((first | refine j7 [] rfl ?_ | refine q10 [] rfl ?_);simp (disch:=omega) only [go_sem,seval,pnP,pnM,pnP1,pnM1];(repeat (first | refine ⟨by omega,?_⟩ | refine ⟨True.intro,?_⟩)))))
   refine x38 (fun q : {q : Nat // q ≤ q0 ∧ PI key a b x y i q ∧ (i < q → ¬ key (y i) < key (y a)) ∧ (i < q → key (y (q - 1)) < key (y a))} => ptJ key x y n gen a b i g o ⟨q.val,q.property.2.1,q.property.2.2.1⟩) ?_ ?_
   ·refine j13 (fun q : {q : Nat // q ≤ q0 ∧ PI key a b x y i q ∧ (i < q → ¬ key (y i) < key (y a))} => ptJ key x y n gen a b i g o ⟨q.val,q.property.2.1,q.property.2.2⟩) (fun s => s.val) ⟨q0,Nat.le_refl _,hi,hiq⟩ ?_ (fun s => ?_)
    ·unfold ptJ
     refine Weak.list ?_ ?_;(all_goals simp (disch:=omega) only [AllF,AllL,q11,z11,j10,exists_eq_left',go_sem,seval,pnP,pnM,pnP1,pnM1]);(all_goals (repeat' (with_reducible apply And.intro)));(all_goals try (first | exact q8 rfl | (refine x11 ?_;omega) | (refine q8 ?_;simp;done)))
    obtain ⟨q,hq0,hq,hq2⟩ := s
    unfold ptJ
    have g1 := hq.h1;have g2 := hq.h2;have g3 := hq.h3
    by_cases h : i < q
    ·obtain ⟨q,rfl⟩ : ∃ k,q = k + 1 := ⟨q - 1,by omega⟩
     have r1 := z16 y q
     have cc := hc.call (y q) (y a) (dy.lt _ (by omega)) (dy.lt _ (by omega))
     have cl := hc.lt (y q) (y a) (dy.lt _ (by omega)) (dy.lt _ (by omega))
     generalize c (y q) (y a) = c0 at cc cl
     by_cases hlt : c0 < 0
     ·(repeat (first | apply j0 | refine z7 rfl ?_ | refine x7 rfl ?_ | apply j6 | (refine x5 fun K hK => ?_) | (refine x8 fun K hK => ?_) | ((first | apply j5 | apply x6 | ((first | refine j4 (hK _ ?_) | refine q9 (hK _ _ j8 ?_));clear hK K));(first | show AWP _ _ _ _ _ | ((try simp only [z8]);first | show loopQ _ _ _ _ _ _ | show cutQ _ _ _ _ | show AWP _ _ _ _ _))) | ((first | refine x10 rfl rfl rfl ?_ | refine q13 rfl rfl rfl ?_);simp (disch:=omega) only [go_sem,seval,pnP,pnM,pnP1,pnM1,r1,ra];(first | refine ⟨_,cc,?_⟩)) | ((first | refine j7 [] rfl ?_ | refine q10 [] rfl ?_);simp (disch:=omega) only [go_sem,seval,pnP,pnM,pnP1,pnM1,r1,ra];(repeat (first | refine ⟨by omega,?_⟩ | refine ⟨True.intro,?_⟩)))))
      (show cutQ _ _ .normal _);refine j17 (⟨q + 1,hq0,hq,hq2,fun _ => cl.1 hlt⟩) ?_
      refine Weak.list ?_ ?_;(all_goals simp (disch:=omega) only [AllF,AllL,q11,z11,j10,exists_eq_left',go_sem,seval,pnP,pnM,pnP1,pnM1,r1,ra]);(all_goals (repeat' (with_reducible apply And.intro)));(all_goals try (first | exact q8 rfl | (refine x11 ?_;omega) | (refine q8 ?_;simp;done)))
     ·(repeat (first | apply j0 | refine z7 rfl ?_ | refine x7 rfl ?_ | apply j6 | (refine x5 fun K hK => ?_) | (refine x8 fun K hK => ?_) | ((first | apply j5 | apply x6 | ((first | refine j4 (hK _ ?_) | refine q9 (hK _ _ j8 ?_));clear hK K));(first | show AWP _ _ _ _ _ | ((try simp only [z8]);first | show loopQ _ _ _ _ _ _ | show cutQ _ _ _ _ | show AWP _ _ _ _ _))) | ((first | refine x10 rfl rfl rfl ?_ | refine q13 rfl rfl rfl ?_);simp (disch:=omega) only [go_sem,seval,pnP,pnM,pnP1,pnM1,r1,ra];(first | refine ⟨_,cc,?_⟩)) | ((first | refine j7 [] rfl ?_ | refine q10 [] rfl ?_);simp (disch:=omega) only [go_sem,seval,pnP,pnM,pnP1,pnM1,r1,ra];(repeat (first | refine ⟨by omega,?_⟩ | refine ⟨True.intro,?_⟩)))))
      refine ⟨⟨q,by omega,hq.down (by omega) (fun e => hlt (cl.2 e)),fun h' => hq2 h⟩,by simp only [];omega,?_⟩
      refine Weak.list ?_ ?_;(all_goals simp (disch:=omega) only [AllF,AllL,q11,z11,j10,exists_eq_left',go_sem,seval,pnP,pnM,pnP1,pnM1,r1,ra]);(all_goals (repeat' (with_reducible apply And.intro)));(all_goals try (first | exact q8 rfl | (refine x11 ?_;omega) | (refine q8 ?_;simp;done)))
    ·(repeat (first | apply j0 | refine z7 rfl ?_ | refine x7 rfl ?_ | apply j6 | (refine x5 fun K hK => ?_) | (refine x8 fun K hK => ?_) | ((first | apply j5 | apply x6 | ((first | refine j4 (hK _ ?_) | refine q9 (hK _ _ j8 ?_));clear hK K));(first | show AWP _ _ _ _ _ | ((try simp only [z8]);first | show loopQ _ _ _ _ _ _ | show cutQ _ _ _ _ | show AWP _ _ _ _ _))) | ((first | refine j7 [] rfl ?_ | refine q10 [] rfl ?_);simp (disch:=omega) only [go_sem,seval,pnP,pnM,pnP1,pnM1];(repeat (first | refine ⟨by omega,?_⟩ | refine ⟨True.intro,?_⟩)))))
     (show cutQ _ _ .normal _);refine j17 (⟨q,hq0,hq,hq2,fun h' => absurd h' h⟩) ?_
     refine Weak.list ?_ ?_;(all_goals simp (disch:=omega) only [AllF,AllL,q11,z11,j10,exists_eq_left',go_sem,seval,pnP,pnM,pnP1,pnM1]);(all_goals (repeat' (with_reducible apply And.intro)));(all_goals try (first | exact q8 rfl | (refine x11 ?_;omega) | (refine q8 ?_;simp;done)))
   rintro ⟨q,hq0,hq,hq2,hq3⟩
   unfold ptJ
   have g1 := hq.h1;have g2 := hq.h2;have g3 := hq.h3
   by_cases h : i = q
   ·subst h
    (repeat (first | apply j0 | refine z7 rfl ?_ | refine x7 rfl ?_ | apply j6 | (refine x5 fun K hK => ?_) | (refine x8 fun K hK => ?_) | ((first | apply j5 | apply x6 | ((first | refine j4 (hK _ ?_) | refine q9 (hK _ _ j8 ?_));clear hK K));(first | show AWP _ _ _ _ _ | ((try simp only [z8]);first | show loopQ _ _ _ _ _ _ | show cutQ _ _ _ _ | show AWP _ _ _ _ _))) | ((first | refine j7 [] rfl ?_ | refine q10 [] rfl ?_);simp (disch:=omega) only [go_sem,seval,pnP,pnM,pnP1,pnM1];(repeat (first | refine ⟨by omega,?_⟩ | refine ⟨True.intro,?_⟩)))))
    (show cutQ _ _ .normal _);refine j17 (⟨(i,y),hq⟩) ?_
    refine Weak.list ?_ ?_;(all_goals simp (disch:=omega) only [AllF,AllL,q11,z11,j10,exists_eq_left',go_sem,seval,pnP,pnM,pnP1,pnM1]);(all_goals (repeat' (with_reducible apply And.intro)));(all_goals try (first | exact q8 rfl | (refine x11 ?_;omega) | (refine q8 ?_;simp;done)))
   ·obtain ⟨q,rfl⟩ : ∃ k,q = k + 1 := ⟨q - 1,by omega⟩
    rw [Nat.add_sub_cancel] at hq3
    obtain ⟨s1,s2⟩ := hq.swap (by omega) (hq2 (by omega)) (hq3 (by omega))
    have r1 := z16 y i
    have r2 := z16 y q
    (repeat (first | apply j0 | refine z7 rfl ?_ | refine x7 rfl ?_ | apply j6 | (refine x5 fun K hK => ?_) | (refine x8 fun K hK => ?_) | ((first | apply j5 | apply x6 | ((first | refine j4 (hK _ ?_) | refine q9 (hK _ _ j8 ?_));clear hK K));(first | show AWP _ _ _ _ _ | ((try simp only [z8]);first | show loopQ _ _ _ _ _ _ | show cutQ _ _ _ _ | show AWP _ _ _ _ _))) | ((first | refine j7 [] rfl ?_ | refine q10 [] rfl ?_);simp (disch:=omega) only [go_sem,seval,pnP,pnM,pnP1,pnM1,r1,r2];(repeat (first | refine ⟨by omega,?_⟩ | refine ⟨True.intro,?_⟩)))))
    refine ⟨⟨(i + 1,q,swp y i q),s2⟩,by simp only [];omega,?_⟩
    refine Weak.list ?_ ?_;(all_goals simp (disch:=omega) only [AllF,AllL,q11,z11,j10,exists_eq_left',go_sem,seval,pnP,pnM,pnP1,pnM1,r1,r2]);(all_goals (repeat' (with_reducible apply And.intro)));(all_goals try (first | exact q8 rfl | (refine x11 ?_;omega) | (refine q8 ?_;simp;done)))
    exact z20 rfl rfl (fun k _ => q24 y i q k)
  rintro ⟨⟨q,z⟩,hz⟩
  unfold ptK
  simp only [] at hz
  have e1 := hz.h1;have e3 := hz.h3
  obtain ⟨q,rfl⟩ : ∃ k,q = k + 1 := ⟨q - 1,by omega⟩
  have r1 := z16 z q
  have r2 := z16 z a
  obtain ⟨d1,d2,d3,d4⟩ := hz.done
  (repeat ((fail_if_success (show AWP _ _ (.region 22 _ _) _ _));first | apply j0 | refine z7 rfl ?_ | refine x7 rfl ?_ | apply j6 | (refine x5 fun K hK => ?_) | (refine x8 fun K hK => ?_) | ((first | apply j5 | apply x6 | ((first | refine j4 (hK _ ?_) | refine q9 (hK _ _ j8 ?_));clear hK K));(first | show AWP _ _ _ _ _ | ((try simp only [z8]);first | show loopQ _ _ _ _ _ _ | show cutQ _ _ _ _ | show AWP _ _ _ _ _))) | ((first | refine j7 [] rfl ?_ | refine q10 [] rfl ?_);simp (disch:=omega) only [go_sem,seval,pnP,pnM,pnP1,pnM1,r1,r2];(repeat (first | refine ⟨by omega,?_⟩ | refine ⟨True.intro,?_⟩)))))
  refine q18 (A' := ⟨[(13,.p (.d (.v (.int .i64 (q : Int)))))],[(1000,.own 3 1 n gen (rowN (swp z q a)))]⟩) ?_ ?_
  ·refine Weak.list ?_ ?_;(all_goals simp (disch:=omega) only [AllF,AllL,q11,z11,j10,exists_eq_left',go_sem,seval,pnP,pnM,pnP1,pnM1,r1,r2]);(all_goals (repeat' (with_reducible apply And.intro)));(all_goals try (first | exact q8 rfl | (refine x11 ?_;omega) | (refine q8 ?_;simp;done)))
   exact z20 rfl rfl (fun k _ => q24 z q a k)
  (repeat (first | apply j0 | refine z7 rfl ?_ | refine x7 rfl ?_ | apply j6 | (refine x5 fun K hK => ?_) | (refine x8 fun K hK => ?_) | ((first | apply j5 | apply x6 | ((first | refine j4 (hK _ ?_) | refine q9 (hK _ _ j8 ?_));clear hK K));(first | show AWP _ _ _ _ _ | ((try simp only [z8]);first | show loopQ _ _ _ _ _ _ | show cutQ _ _ _ _ | show AWP _ _ _ _ _))) | ((first | refine j7 [] rfl ?_ | refine q10 [] rfl ?_);simp (disch:=omega) only [go_sem,seval,pnP,pnM,pnP1,pnM1];(repeat (first | refine ⟨by omega,?_⟩ | refine ⟨True.intro,?_⟩)))))
  exact j9 (z21 [_,_] [(1000,_)] ⟨rfl,rfl,trivial⟩ (by simp [AL.look] <;> first | rfl | exact ⟨rfl,rfl⟩) ⟨⟨(q,false,swp z q a),d1,d2,d3,d4⟩,rfl,rfl⟩)
def paS (n gen a b : Nat) (g : FuncId) (o : PV) (i j : Nat) (y : Nat → Nat) : ASt :=
 ⟨[(10,.p (.d (.v (.int .i64 (j : Int))))),(9,.p (.d (.v (.int .i64 (i : Int))))),(3,.p (.fn (.func g) [o] [])),(2,.p (.d (.v (.int .i64 (b : Int))))),(1,.p (.d (.v (.int .i64 (a : Int))))),(0,.ow 1000 gen 1 n)],
  [(1000,.own 3 1 n gen (rowN y))]⟩
def paL (n gen a b : Nat) (g : FuncId) (o : PV) (i j : Nat) (k : Nat) (y : Nat → Nat) : ASt :=
 ⟨[(11,.p (.d (.v (.int .i64 (k : Int))))),(10,.p (.d (.v (.int .i64 (j : Int))))),(9,.p (.d (.v (.int .i64 (i : Int))))),(3,.p (.fn (.func g) [o] [])),(2,.p (.d (.v (.int .i64 (b : Int))))),(1,.p (.d (.v (.int .i64 (a : Int))))),(0,.ow 1000 gen 1 n)],
  [(1000,.own 3 1 n gen (rowN y))]⟩
def paR (n gen a b : Nat) (g : FuncId) (o : PV) (i j : Nat) (k : Nat) (y : Nat → Nat) : ASt :=
 ⟨[(12,.p (.d (.v (.int .i64 (k : Int))))),(10,.p (.d (.v (.int .i64 (j : Int))))),(9,.p (.d (.v (.int .i64 (i : Int))))),(3,.p (.fn (.func g) [o] [])),(2,.p (.d (.v (.int .i64 (b : Int))))),(1,.p (.d (.v (.int .i64 (a : Int))))),(0,.ow 1000 gen 1 n)],
  [(1000,.own 3 1 n gen (rowN y))]⟩
structure PA (key : Nat → Int) (a b : Nat) (x : Nat → Nat) (i : Nat) (y : Nat → Nat) : Prop where
 h1 : a + 1 ≤ i
 h2 : i ≤ b
 pe : PE a b x y
 st : Srt key a i y
theorem PA.up {key : Nat → Int} {a b i : Nat} {x y : Nat → Nat} (h : PA key a b x i y) (hl : i < b) (hk : ¬ key (y i) < key (y (i - 1))) : PA key a b x (i + 1) y := by
 refine ⟨by have := h.h1;omega,hl,h.pe,fun p q h1 h2 h3 => ?_⟩
 have := h.h1
 by_cases e : q = i
 ·subst e
  by_cases e2 : p = q - 1
  ·subst e2;omega
  ·have := h.st p (q - 1) h1 (by omega) (by omega);omega
 ·exact h.st p q h1 h2 (by omega)
theorem PA.swap {key : Nat → Int} {a b i : Nat} {x y : Nat → Nat} (h : PA key a b x i y) (hl : i < b) : PE a b x (swp y i (i - 1)) ∧ Srt key a (i - 1) (swp y i (i - 1)) := by
 have := h.h1
 refine ⟨h.pe.trans (PE.swp (by omega) (by omega) (by omega) (by omega)),fun p q h1 h2 h3 => ?_⟩
 rw [j22 _ (by omega) (by omega),j22 _ (by omega) (by omega)]
 exact h.st p q h1 h2 (by omega)
set_option maxRecDepth 100000 in
theorem j170 {key : Nat → Int} {c : Nat → Nat → Int} {g : FuncId} {o : PV} {N : Nat} (hc : CmpN Tryz.prog g o N key c) (x : Nat → Nat) (n gen a b : Nat) (hab : a + 12 < b) (hb : b ≤ n) (hn : n ≤ 1099511627776) (hx : Dom n N x) (hbl : Blw key a b x) :
  MCalls Tryz.prog 170 [.ow 1000 gen 1 n,.p (.d (.v (.int .i64 (a : Int)))),.p (.d (.v (.int .i64 (b : Int)))),.p (.fn (.func g) [o] [])] [(1000,.own 3 1 n gen (rowN x))]
   (fun rs M => ∃ r : {r : Bool × (Nat → Nat) // PE a b x r.2 ∧ (r.1 = true → Srt key a b r.2)},rs = [.p (.d (.v (.bool r.val.1)))] ∧ M = [(1000,.own 3 1 n gen (rowN r.val.2))]) := by
 have lt1 : ∀ (y : Nat → Nat) (p q : Nat),PE a b x y → p < n → q < n → ACalls Tryz.prog g [o,.d (.v (.int .i64 (y p : Int))),.d (.v (.int .i64 (y q : Int)))] (· = [.d (.v (.int .i64 (c (y p) (y q))))]) ∧ (c (y p) (y q) < 0 ↔ key (y p) < key (y q)) := fun y p q hp h1 h2 =>
  have dy := hx.pe hp (by omega) hb
  ⟨hc.call _ _ (dy.lt _ h1) (dy.lt _ h2),hc.lt _ _ (dy.lt _ h1) (dy.lt _ h2)⟩
 refine q20 Tryz.func170 rfl (by decide +kernel) (by rw [Tryz.ntmps170];simp) (fun l X h => by simp only [AL.look] at h;(repeat' split at h);all_goals first | omega | cases h) ?_;rw [Tryz.ntmps170];simp only [frA]
 (repeat (first | apply j0 | refine z7 rfl ?_ | refine x7 rfl ?_ | apply j6 | (refine x5 fun K hK => ?_) | (refine x8 fun K hK => ?_) | ((first | apply j5 | apply x6 | ((first | refine j4 (hK _ ?_) | refine q9 (hK _ _ j8 ?_));clear hK K));(first | show AWP _ _ _ _ _ | ((try simp only [z8]);first | show loopQ _ _ _ _ _ _ | show cutQ _ _ _ _ | show AWP _ _ _ _ _))) | ((first | refine j7 [] rfl ?_ | refine q10 [] rfl ?_);simp (disch:=omega) only [go_sem,seval,pnP,pnM,pnP1,pnM1];(repeat (first | refine ⟨by omega,?_⟩ | refine ⟨True.intro,?_⟩)))))
 refine j13 (fun s : {s : Nat × Nat × (Nat → Nat) // s.2.1 ≤ 5 ∧ PA key a b x s.1 s.2.2} => paS n gen a b g o s.val.1 s.val.2.1 s.val.2.2) (fun s => 5 - s.val.2.1) ⟨(a + 1,0,x),by simp only [];omega,⟨Nat.le_refl _,by omega,PE.refl _ _ _,fun p q h1 h2 h3 => by omega⟩⟩ ?_ (fun s => ?_)
 ·unfold paS
  refine Weak.list ?_ ?_;(all_goals simp (disch:=omega) only [AllF,AllL,q11,z11,j10,exists_eq_left',go_sem,seval,pnP,pnM,pnP1,pnM1]);(all_goals (repeat' (with_reducible apply And.intro)));(all_goals try (first | exact q8 rfl | (refine x11 ?_;omega) | (refine q8 ?_;simp;done)))
 obtain ⟨⟨i0,j,y⟩,hj,hs⟩ := s
 unfold paS
 simp only [] at hj hs
 have e1 := hs.h1;have e2 := hs.h2
 by_cases hj5 : j < 5
 ·(repeat (first | apply j0 | refine z7 rfl ?_ | refine x7 rfl ?_ | apply j6 | (refine x5 fun K hK => ?_) | (refine x8 fun K hK => ?_) | ((first | apply j5 | apply x6 | ((first | refine j4 (hK _ ?_) | refine q9 (hK _ _ j8 ?_));clear hK K));(first | show AWP _ _ _ _ _ | ((try simp only [z8]);first | show loopQ _ _ _ _ _ _ | show cutQ _ _ _ _ | show AWP _ _ _ _ _))) | ((first | refine j7 [] rfl ?_ | refine q10 [] rfl ?_);simp (disch:=omega) only [go_sem,seval,pnP,pnM,pnP1,pnM1];(repeat (first | refine ⟨by omega,?_⟩ | refine ⟨True.intro,?_⟩)))))
  refine x38 (fun i : {i : Nat // PA key a b x i y ∧ (i < b → True)} => paS n gen a b g o i.val j y) ?_ ?_
  ·refine j13 (fun i : {i : Nat // PA key a b x i y} => paS n gen a b g o i.val j y) (fun s => b - s.val) ⟨i0,hs⟩ ?_ (fun s => ?_)
   ·unfold paS
    refine Weak.list ?_ ?_;(all_goals simp (disch:=omega) only [AllF,AllL,q11,z11,j10,exists_eq_left',go_sem,seval,pnP,pnM,pnP1,pnM1]);(all_goals (repeat' (with_reducible apply And.intro)));(all_goals try (first | exact q8 rfl | (refine x11 ?_;omega) | (refine q8 ?_;simp;done)))
   obtain ⟨i,hi⟩ := s
   unfold paS
   have g1 := hi.h1;have g2 := hi.h2
   by_cases h : i < b
   ·obtain ⟨i,rfl⟩ : ∃ k,i = k + 1 := ⟨i - 1,by omega⟩
    have r1 := z16 y (i + 1)
    have r2 := z16 y i
    obtain ⟨cc,cl⟩ := lt1 y (i + 1) i hi.pe (by omega) (by omega)
    generalize c (y (i + 1)) (y i) = c0 at cc cl
    by_cases hlt : c0 < 0
    ·(repeat (first | apply j0 | refine z7 rfl ?_ | refine x7 rfl ?_ | apply j6 | (refine x5 fun K hK => ?_) | (refine x8 fun K hK => ?_) | ((first | apply j5 | apply x6 | ((first | refine j4 (hK _ ?_) | refine q9 (hK _ _ j8 ?_));clear hK K));(first | show AWP _ _ _ _ _ | ((try simp only [z8]);first | show loopQ _ _ _ _ _ _ | show cutQ _ _ _ _ | show AWP _ _ _ _ _))) | ((first | refine x10 rfl rfl rfl ?_ | refine q13 rfl rfl rfl ?_);simp (disch:=omega) only [go_sem,seval,pnP,pnM,pnP1,pnM1,r1,r2];(first | refine ⟨_,cc,?_⟩)) | ((first | refine j7 [] rfl ?_ | refine q10 [] rfl ?_);simp (disch:=omega) only [go_sem,seval,pnP,pnM,pnP1,pnM1,r1,r2];(repeat (first | refine ⟨by omega,?_⟩ | refine ⟨True.intro,?_⟩)))))
     (show cutQ _ _ .normal _);refine j17 (⟨i + 1,hi,fun _ => trivial⟩) ?_
     refine Weak.list ?_ ?_;(all_goals simp (disch:=omega) only [AllF,AllL,q11,z11,j10,exists_eq_left',go_sem,seval,pnP,pnM,pnP1,pnM1,r1,r2]);(all_goals (repeat' (with_reducible apply And.intro)));(all_goals try (first | exact q8 rfl | (refine x11 ?_;omega) | (refine q8 ?_;simp;done)))
    ·(repeat (first | apply j0 | refine z7 rfl ?_ | refine x7 rfl ?_ | apply j6 | (refine x5 fun K hK => ?_) | (refine x8 fun K hK => ?_) | ((first | apply j5 | apply x6 | ((first | refine j4 (hK _ ?_) | refine q9 (hK _ _ j8 ?_));clear hK K));(first | show AWP _ _ _ _ _ | ((try simp only [z8]);first | show loopQ _ _ _ _ _ _ | show cutQ _ _ _ _ | show AWP _ _ _ _ _))) | ((first | refine x10 rfl rfl rfl ?_ | refine q13 rfl rfl rfl ?_);simp (disch:=omega) only [go_sem,seval,pnP,pnM,pnP1,pnM1,r1,r2];(first | refine ⟨_,cc,?_⟩)) | ((first | refine j7 [] rfl ?_ | refine q10 [] rfl ?_);simp (disch:=omega) only [go_sem,seval,pnP,pnM,pnP1,pnM1,r1,r2];(repeat (first | refine ⟨by omega,?_⟩ | refine ⟨True.intro,?_⟩)))))
     refine ⟨⟨i + 2,hi.up (by omega) (fun e => hlt (cl.2 e))⟩,by simp only [];omega,?_⟩
     refine Weak.list ?_ ?_;(all_goals simp (disch:=omega) only [AllF,AllL,q11,z11,j10,exists_eq_left',go_sem,seval,pnP,pnM,pnP1,pnM1,r1,r2]);(all_goals (repeat' (with_reducible apply And.intro)));(all_goals try (first | exact q8 rfl | (refine x11 ?_;omega) | (refine q8 ?_;simp;done)))
   ·(repeat (first | apply j0 | refine z7 rfl ?_ | refine x7 rfl ?_ | apply j6 | (refine x5 fun K hK => ?_) | (refine x8 fun K hK => ?_) | ((first | apply j5 | apply x6 | ((first | refine j4 (hK _ ?_) | refine q9 (hK _ _ j8 ?_));clear hK K));(first | show AWP _ _ _ _ _ | ((try simp only [z8]);first | show loopQ _ _ _ _ _ _ | show cutQ _ _ _ _ | show AWP _ _ _ _ _))) | ((first | refine j7 [] rfl ?_ | refine q10 [] rfl ?_);simp (disch:=omega) only [go_sem,seval,pnP,pnM,pnP1,pnM1];(repeat (first | refine ⟨by omega,?_⟩ | refine ⟨True.intro,?_⟩)))))
    (show cutQ _ _ .normal _);refine j17 (⟨i,hi,fun _ => trivial⟩) ?_
    refine Weak.list ?_ ?_;(all_goals simp (disch:=omega) only [AllF,AllL,q11,z11,j10,exists_eq_left',go_sem,seval,pnP,pnM,pnP1,pnM1]);(all_goals (repeat' (with_reducible apply And.intro)));(all_goals try (first | exact q8 rfl | (refine x11 ?_;omega) | (refine q8 ?_;simp;done)))
  rintro ⟨i,hi,-⟩
  unfold paS
  clear e1 e2
  simp only []
  have g1 := hi.h1;have g2 := hi.h2
  by_cases hib : i = b
  ·subst hib
   have q : ((i : Int) == (i : Int)) = true := j14 rfl
   (repeat (first | apply j0 | refine z7 rfl ?_ | refine x7 rfl ?_ | apply j6 | (refine x5 fun K hK => ?_) | (refine x8 fun K hK => ?_) | ((first | apply j5 | apply x6 | ((first | refine j4 (hK _ ?_) | refine q9 (hK _ _ j8 ?_));clear hK K));(first | show AWP _ _ _ _ _ | ((try simp only [z8]);first | show loopQ _ _ _ _ _ _ | show cutQ _ _ _ _ | show AWP _ _ _ _ _))) | ((first | refine j7 [] rfl ?_ | refine q10 [] rfl ?_);simp (disch:=omega) only [go_sem,seval,pnP,pnM,pnP1,pnM1,q];(repeat (first | refine ⟨by omega,?_⟩ | refine ⟨True.intro,?_⟩)))))
   exact j9 (z21 [_] [(1000,_)] ⟨rfl,trivial⟩ (by simp [AL.look] <;> first | rfl | exact ⟨rfl,rfl⟩) ⟨⟨(true,y),hi.pe,fun _ => hi.st⟩,rfl,rfl⟩)
  ·have q : ((i : Int) == (b : Int)) = false := z14 (by omega)
   by_cases h50 : b - a < 50
   ·(repeat (first | apply j0 | refine z7 rfl ?_ | refine x7 rfl ?_ | apply j6 | (refine x5 fun K hK => ?_) | (refine x8 fun K hK => ?_) | ((first | apply j5 | apply x6 | ((first | refine j4 (hK _ ?_) | refine q9 (hK _ _ j8 ?_));clear hK K));(first | show AWP _ _ _ _ _ | ((try simp only [z8]);first | show loopQ _ _ _ _ _ _ | show cutQ _ _ _ _ | show AWP _ _ _ _ _))) | ((first | refine j7 [] rfl ?_ | refine q10 [] rfl ?_);simp (disch:=omega) only [go_sem,seval,pnP,pnM,pnP1,pnM1,q];(repeat (first | refine ⟨by omega,?_⟩ | refine ⟨True.intro,?_⟩)))))
    exact j9 (z21 [_] [(1000,_)] ⟨rfl,trivial⟩ (by simp [AL.look] <;> first | rfl | exact ⟨rfl,rfl⟩) ⟨⟨(false,y),hi.pe,fun h => by cases h⟩,rfl,rfl⟩)
   ·obtain ⟨p1,p2⟩ := hi.swap (by omega)
    obtain ⟨i,rfl⟩ : ∃ k,i = k + 1 := ⟨i - 1,by omega⟩
    rw [Nat.add_sub_cancel] at p1 p2
    have r1 := z16 y (i + 1)
    have r2 := z16 y i
    (repeat ((fail_if_success (show AWP _ _ (.region 12 _ _) _ _));first | apply j0 | refine z7 rfl ?_ | refine x7 rfl ?_ | apply j6 | (refine x5 fun K hK => ?_) | (refine x8 fun K hK => ?_) | ((first | apply j5 | apply x6 | ((first | refine j4 (hK _ ?_) | refine q9 (hK _ _ j8 ?_));clear hK K));(first | show AWP _ _ _ _ _ | ((try simp only [z8]);first | show loopQ _ _ _ _ _ _ | show cutQ _ _ _ _ | show AWP _ _ _ _ _))) | ((first | refine j7 [] rfl ?_ | refine q10 [] rfl ?_);simp (disch:=omega) only [go_sem,seval,pnP,pnM,pnP1,pnM1,q,r1,r2];(repeat (first | refine ⟨by omega,?_⟩ | refine ⟨True.intro,?_⟩)))))
    refine q18 (A' := paS n gen a b g o (i + 1) j (swp y (i + 1) i)) ?_ ?_
    ·unfold paS
     refine Weak.list ?_ ?_;(all_goals simp (disch:=omega) only [AllF,AllL,q11,z11,j10,exists_eq_left',go_sem,seval,pnP,pnM,pnP1,pnM1]);(all_goals (repeat' (with_reducible apply And.intro)));(all_goals try (first | exact q8 rfl | (refine x11 ?_;omega) | (refine q8 ?_;simp;done)))
     exact z20 rfl rfl (fun k _ => q24 y (i + 1) i k)
    generalize swp y (i + 1) i = y1 at p1 p2
    unfold paS
    refine j34 (fun z : {z : Nat → Nat // PE a b x z ∧ Srt key a (i + 1) z} => paS n gen a b g o (i + 1) j z.val) ?_ ?_
    ·by_cases h2 : (i + 1) - a ≥ 2
     ·(repeat (first | apply j0 | refine z7 rfl ?_ | refine x7 rfl ?_ | apply j6 | (refine x5 fun K hK => ?_) | (refine x8 fun K hK => ?_) | ((first | apply j5 | apply x6 | ((first | refine j4 (hK _ ?_) | refine q9 (hK _ _ j8 ?_));clear hK K));(first | show AWP _ _ _ _ _ | ((try simp only [z8]);first | show loopQ _ _ _ _ _ _ | show cutQ _ _ _ _ | show AWP _ _ _ _ _))) | ((first | refine j7 [] rfl ?_ | refine q10 [] rfl ?_);simp (disch:=omega) only [go_sem,seval,pnP,pnM,pnP1,pnM1];(repeat (first | refine ⟨by omega,?_⟩ | refine ⟨True.intro,?_⟩)))))
      refine j13 (fun s : {s : Nat × (Nat → Nat) // a ≤ s.1 ∧ s.1 ≤ i ∧ PE a b x s.2 ∧ InsAt key a i s.1 s.2} => paL n gen a b g o (i + 1) j s.val.1 s.val.2) (fun s => s.val.1) ⟨(i,y1),by simp only [];omega,Nat.le_refl _,p1,InsAt.start p2⟩ ?_ (fun s => ?_)
      ·unfold paL
       refine Weak.list ?_ ?_;(all_goals simp (disch:=omega) only [AllF,AllL,q11,z11,j10,exists_eq_left',go_sem,seval,pnP,pnM,pnP1,pnM1]);(all_goals (repeat' (with_reducible apply And.intro)));(all_goals try (first | exact q8 rfl | (refine x11 ?_;omega) | (refine q8 ?_;simp;done)))
      obtain ⟨⟨k,z⟩,hk1,hk2,hpe,hin⟩ := s
      unfold paL
      simp only [] at hk1 hk2 hpe hin
      by_cases hk0 : k = 0
      ·subst hk0
       (repeat (first | apply j0 | refine z7 rfl ?_ | refine x7 rfl ?_ | apply j6 | (refine x5 fun K hK => ?_) | (refine x8 fun K hK => ?_) | ((first | apply j5 | apply x6 | ((first | refine j4 (hK _ ?_) | refine q9 (hK _ _ j8 ?_));clear hK K));(first | show AWP _ _ _ _ _ | ((try simp only [z8]);first | show loopQ _ _ _ _ _ _ | show cutQ _ _ _ _ | show AWP _ _ _ _ _))) | ((first | refine j7 [] rfl ?_ | refine q10 [] rfl ?_);simp (disch:=omega) only [go_sem,seval,pnP,pnM,pnP1,pnM1];(repeat (first | refine ⟨by omega,?_⟩ | refine ⟨True.intro,?_⟩)))))
       (show cutQ _ _ .normal _);refine j17 (⟨z,hpe,hin.done hk2 (.inl (by omega))⟩) ?_
       unfold paS
       refine Weak.list ?_ ?_;(all_goals simp (disch:=omega) only [AllF,AllL,q11,z11,j10,exists_eq_left',go_sem,seval,pnP,pnM,pnP1,pnM1]);(all_goals (repeat' (with_reducible apply And.intro)));(all_goals try (first | exact q8 rfl | (refine x11 ?_;omega) | (refine q8 ?_;simp;done)))
      ·obtain ⟨k,rfl⟩ : ∃ m,k = m + 1 := ⟨k - 1,by omega⟩
       have r1 := z16 z (k + 1)
       have r2 := z16 z k
       obtain ⟨cc,cl⟩ := lt1 z (k + 1) k hpe (by omega) (by omega)
       have hbz := hbl.pe hpe
       generalize c (z (k + 1)) (z k) = c0 at cc cl
       by_cases hlt : c0 < 0
       ·(repeat (first | apply j0 | refine z7 rfl ?_ | refine x7 rfl ?_ | apply j6 | (refine x5 fun K hK => ?_) | (refine x8 fun K hK => ?_) | ((first | apply j5 | apply x6 | ((first | refine j4 (hK _ ?_) | refine q9 (hK _ _ j8 ?_));clear hK K));(first | show AWP _ _ _ _ _ | ((try simp only [z8]);first | show loopQ _ _ _ _ _ _ | show cutQ _ _ _ _ | show AWP _ _ _ _ _))) | ((first | refine x10 rfl rfl rfl ?_ | refine q13 rfl rfl rfl ?_);simp (disch:=omega) only [go_sem,seval,pnP,pnM,pnP1,pnM1,r1,r2];(first | refine ⟨_,cc,?_⟩)) | ((first | refine j7 [] rfl ?_ | refine q10 [] rfl ?_);simp (disch:=omega) only [go_sem,seval,pnP,pnM,pnP1,pnM1,r1,r2];(repeat (first | refine ⟨by omega,?_⟩ | refine ⟨True.intro,?_⟩)))))
        have hak : a ≤ k := by
         refine Nat.le_of_not_lt fun hlt2 => ?_
         have ea : a = k + 1 := by omega
         have := hbz (k + 1) (by omega) (by omega) (by omega)
         rw [ea,Nat.add_sub_cancel] at this
         have := cl.1 hlt
         omega
        refine ⟨⟨(k,swap2 z k),by simp only [];omega,by simp only [];omega,hpe.trans (by rw [z61];exact PE.swp (by omega) (by omega) (by omega) (by omega)),hin.step (by omega) (by omega) (cl.1 hlt)⟩,by simp only [];omega,?_⟩
        refine Weak.list ?_ ?_;(all_goals simp (disch:=omega) only [AllF,AllL,q11,z11,j10,exists_eq_left',go_sem,seval,pnP,pnM,pnP1,pnM1,r1,r2]);(all_goals (repeat' (with_reducible apply And.intro)));(all_goals try (first | exact q8 rfl | (refine x11 ?_;omega) | (refine q8 ?_;simp;done)))
        exact z20 rfl rfl (fun m _ => (q24 z (k + 1) k m).trans (by rw [z61]))
       ·(repeat (first | apply j0 | refine z7 rfl ?_ | refine x7 rfl ?_ | apply j6 | (refine x5 fun K hK => ?_) | (refine x8 fun K hK => ?_) | ((first | apply j5 | apply x6 | ((first | refine j4 (hK _ ?_) | refine q9 (hK _ _ j8 ?_));clear hK K));(first | show AWP _ _ _ _ _ | ((try simp only [z8]);first | show loopQ _ _ _ _ _ _ | show cutQ _ _ _ _ | show AWP _ _ _ _ _))) | ((first | refine x10 rfl rfl rfl ?_ | refine q13 rfl rfl rfl ?_);simp (disch:=omega) only [go_sem,seval,pnP,pnM,pnP1,pnM1,r1,r2];(first | refine ⟨_,cc,?_⟩)) | ((first | refine j7 [] rfl ?_ | refine q10 [] rfl ?_);simp (disch:=omega) only [go_sem,seval,pnP,pnM,pnP1,pnM1,r1,r2];(repeat (first | refine ⟨by omega,?_⟩ | refine ⟨True.intro,?_⟩)))))
        (show cutQ _ _ .normal _);refine j17 (⟨z,hpe,hin.done hk2 (.inr (by have : ¬ key (z (k + 1)) < key (z k) := fun e => hlt (cl.2 e);rw [Nat.add_sub_cancel];omega))⟩) ?_
        unfold paS
        refine Weak.list ?_ ?_;(all_goals simp (disch:=omega) only [AllF,AllL,q11,z11,j10,exists_eq_left',go_sem,seval,pnP,pnM,pnP1,pnM1,r1,r2]);(all_goals (repeat' (with_reducible apply And.intro)));(all_goals try (first | exact q8 rfl | (refine x11 ?_;omega) | (refine q8 ?_;simp;done)))
     ·(repeat (first | apply j0 | refine z7 rfl ?_ | refine x7 rfl ?_ | apply j6 | (refine x5 fun K hK => ?_) | (refine x8 fun K hK => ?_) | ((first | apply j5 | apply x6 | ((first | refine j4 (hK _ ?_) | refine q9 (hK _ _ j8 ?_));clear hK K));(first | show AWP _ _ _ _ _ | ((try simp only [z8]);first | show loopQ _ _ _ _ _ _ | show cutQ _ _ _ _ | show AWP _ _ _ _ _))) | ((first | refine j7 [] rfl ?_ | refine q10 [] rfl ?_);simp (disch:=omega) only [go_sem,seval,pnP,pnM,pnP1,pnM1];(repeat (first | refine ⟨by omega,?_⟩ | refine ⟨True.intro,?_⟩)))))
      (show cutQ _ _ .normal _);refine j17 (⟨y1,p1,fun p q h1 h2 h3 => by omega⟩) ?_
      unfold paS
      refine Weak.list ?_ ?_;(all_goals simp (disch:=omega) only [AllF,AllL,q11,z11,j10,exists_eq_left',go_sem,seval,pnP,pnM,pnP1,pnM1]);(all_goals (repeat' (with_reducible apply And.intro)));(all_goals try (first | exact q8 rfl | (refine x11 ?_;omega) | (refine q8 ?_;simp;done)))
    rintro ⟨z,hz,hz2⟩
    unfold paS
    by_cases h2 : b - (i + 1) ≥ 2
    ·(repeat (first | apply j0 | refine z7 rfl ?_ | refine x7 rfl ?_ | apply j6 | (refine x5 fun K hK => ?_) | (refine x8 fun K hK => ?_) | ((first | apply j5 | apply x6 | ((first | refine j4 (hK _ ?_) | refine q9 (hK _ _ j8 ?_));clear hK K));(first | show AWP _ _ _ _ _ | ((try simp only [z8]);first | show loopQ _ _ _ _ _ _ | show cutQ _ _ _ _ | show AWP _ _ _ _ _))) | ((first | refine j7 [] rfl ?_ | refine q10 [] rfl ?_);simp (disch:=omega) only [go_sem,seval,pnP,pnM,pnP1,pnM1];(repeat (first | refine ⟨by omega,?_⟩ | refine ⟨True.intro,?_⟩)))))
     refine j13 (fun s : {s : Nat × (Nat → Nat) // i + 2 ≤ s.1 ∧ s.1 ≤ b ∧ PE a b x s.2 ∧ Srt key a (i + 1) s.2} => paR n gen a b g o (i + 1) j s.val.1 s.val.2) (fun s => b - s.val.1) ⟨(i + 2,z),Nat.le_refl _,by simp only [];omega,hz,hz2⟩ ?_ (fun s => ?_)
     ·unfold paR
      refine Weak.list ?_ ?_;(all_goals simp (disch:=omega) only [AllF,AllL,q11,z11,j10,exists_eq_left',go_sem,seval,pnP,pnM,pnP1,pnM1]);(all_goals (repeat' (with_reducible apply And.intro)));(all_goals try (first | exact q8 rfl | (refine x11 ?_;omega) | (refine q8 ?_;simp;done)))
     obtain ⟨⟨k,u⟩,hk1,hk2,hpe,hst⟩ := s
     unfold paR
     simp only [] at hk1 hk2 hpe hst
     by_cases hkb : k < b
     ·obtain ⟨k,rfl⟩ : ∃ m,k = m + 1 := ⟨k - 1,by omega⟩
      have r1 := z16 u (k + 1)
      have r2 := z16 u k
      obtain ⟨cc,cl⟩ := lt1 u (k + 1) k hpe (by omega) (by omega)
      generalize c (u (k + 1)) (u k) = c0 at cc cl
      by_cases hlt : c0 < 0
      ·(repeat (first | apply j0 | refine z7 rfl ?_ | refine x7 rfl ?_ | apply j6 | (refine x5 fun K hK => ?_) | (refine x8 fun K hK => ?_) | ((first | apply j5 | apply x6 | ((first | refine j4 (hK _ ?_) | refine q9 (hK _ _ j8 ?_));clear hK K));(first | show AWP _ _ _ _ _ | ((try simp only [z8]);first | show loopQ _ _ _ _ _ _ | show cutQ _ _ _ _ | show AWP _ _ _ _ _))) | ((first | refine x10 rfl rfl rfl ?_ | refine q13 rfl rfl rfl ?_);simp (disch:=omega) only [go_sem,seval,pnP,pnM,pnP1,pnM1,r1,r2];(first | refine ⟨_,cc,?_⟩)) | ((first | refine j7 [] rfl ?_ | refine q10 [] rfl ?_);simp (disch:=omega) only [go_sem,seval,pnP,pnM,pnP1,pnM1,r1,r2];(repeat (first | refine ⟨by omega,?_⟩ | refine ⟨True.intro,?_⟩)))))
       refine ⟨⟨(k + 2,swp u (k + 1) k),by simp only [];omega,by simp only [];omega,hpe.trans (PE.swp (by omega) (by omega) (by omega) (by omega)),fun p q h1 h2 h3 => by
        simp only []
        rw [j22 _ (by omega) (by omega),j22 _ (by omega) (by omega)];exact hst p q h1 h2 h3⟩,by simp only [];omega,?_⟩
       refine Weak.list ?_ ?_;(all_goals simp (disch:=omega) only [AllF,AllL,q11,z11,j10,exists_eq_left',go_sem,seval,pnP,pnM,pnP1,pnM1,r1,r2]);(all_goals (repeat' (with_reducible apply And.intro)));(all_goals try (first | exact q8 rfl | (refine x11 ?_;omega) | (refine q8 ?_;simp;done)))
       exact z20 rfl rfl (fun m _ => q24 u (k + 1) k m)
      ·(repeat (first | apply j0 | refine z7 rfl ?_ | refine x7 rfl ?_ | apply j6 | (refine x5 fun K hK => ?_) | (refine x8 fun K hK => ?_) | ((first | apply j5 | apply x6 | ((first | refine j4 (hK _ ?_) | refine q9 (hK _ _ j8 ?_));clear hK K));(first | show AWP _ _ _ _ _ | ((try simp only [z8]);first | show loopQ _ _ _ _ _ _ | show cutQ _ _ _ _ | show AWP _ _ _ _ _))) | ((first | refine x10 rfl rfl rfl ?_ | refine q13 rfl rfl rfl ?_);simp (disch:=omega) only [go_sem,seval,pnP,pnM,pnP1,pnM1,r1,r2];(first | refine ⟨_,cc,?_⟩)) | ((first | refine j7 [] rfl ?_ | refine q10 [] rfl ?_);simp (disch:=omega) only [go_sem,seval,pnP,pnM,pnP1,pnM1,r1,r2];(repeat (first | refine ⟨by omega,?_⟩ | refine ⟨True.intro,?_⟩)))))
       refine ⟨⟨(i + 1,j + 1,u),by simp only [];omega,⟨by omega,by omega,hpe,hst⟩⟩,by simp only [];omega,?_⟩
       refine Weak.list ?_ ?_;(all_goals simp (disch:=omega) only [AllF,AllL,q11,z11,j10,exists_eq_left',go_sem,seval,pnP,pnM,pnP1,pnM1,r1,r2]);(all_goals (repeat' (with_reducible apply And.intro)));(all_goals try (first | exact q8 rfl | (refine x11 ?_;omega) | (refine q8 ?_;simp;done)))
     ·(repeat (first | apply j0 | refine z7 rfl ?_ | refine x7 rfl ?_ | apply j6 | (refine x5 fun K hK => ?_) | (refine x8 fun K hK => ?_) | ((first | apply j5 | apply x6 | ((first | refine j4 (hK _ ?_) | refine q9 (hK _ _ j8 ?_));clear hK K));(first | show AWP _ _ _ _ _ | ((try simp only [z8]);first | show loopQ _ _ _ _ _ _ | show cutQ _ _ _ _ | show AWP _ _ _ _ _))) | ((first | refine j7 [] rfl ?_ | refine q10 [] rfl ?_);simp (disch:=omega) only [go_sem,seval,pnP,pnM,pnP1,pnM1];(repeat (first | refine ⟨by omega,?_⟩ | refine ⟨True.intro,?_⟩)))))
      refine ⟨⟨(i + 1,j + 1,u),by simp only [];omega,⟨by omega,by omega,hpe,hst⟩⟩,by simp only [];omega,?_⟩
      refine Weak.list ?_ ?_;(all_goals simp (disch:=omega) only [AllF,AllL,q11,z11,j10,exists_eq_left',go_sem,seval,pnP,pnM,pnP1,pnM1]);(all_goals (repeat' (with_reducible apply And.intro)));(all_goals try (first | exact q8 rfl | (refine x11 ?_;omega) | (refine q8 ?_;simp;done)))
    ·(repeat (first | apply j0 | refine z7 rfl ?_ | refine x7 rfl ?_ | apply j6 | (refine x5 fun K hK => ?_) | (refine x8 fun K hK => ?_) | ((first | apply j5 | apply x6 | ((first | refine j4 (hK _ ?_) | refine q9 (hK _ _ j8 ?_));clear hK K));(first | show AWP _ _ _ _ _ | ((try simp only [z8]);first | show loopQ _ _ _ _ _ _ | show cutQ _ _ _ _ | show AWP _ _ _ _ _))) | ((first | refine j7 [] rfl ?_ | refine q10 [] rfl ?_);simp (disch:=omega) only [go_sem,seval,pnP,pnM,pnP1,pnM1];(repeat (first | refine ⟨by omega,?_⟩ | refine ⟨True.intro,?_⟩)))))
     refine ⟨⟨(i + 1,j + 1,z),by simp only [];omega,⟨by omega,by omega,hz,hz2⟩⟩,by simp only [];omega,?_⟩
     refine Weak.list ?_ ?_;(all_goals simp (disch:=omega) only [AllF,AllL,q11,z11,j10,exists_eq_left',go_sem,seval,pnP,pnM,pnP1,pnM1]);(all_goals (repeat' (with_reducible apply And.intro)));(all_goals try (first | exact q8 rfl | (refine x11 ?_;omega) | (refine q8 ?_;simp;done)))
 ·(repeat (first | apply j0 | refine z7 rfl ?_ | refine x7 rfl ?_ | apply j6 | (refine x5 fun K hK => ?_) | (refine x8 fun K hK => ?_) | ((first | apply j5 | apply x6 | ((first | refine j4 (hK _ ?_) | refine q9 (hK _ _ j8 ?_));clear hK K));(first | show AWP _ _ _ _ _ | ((try simp only [z8]);first | show loopQ _ _ _ _ _ _ | show cutQ _ _ _ _ | show AWP _ _ _ _ _))) | ((first | refine j7 [] rfl ?_ | refine q10 [] rfl ?_);simp (disch:=omega) only [go_sem,seval,pnP,pnM,pnP1,pnM1];(repeat (first | refine ⟨by omega,?_⟩ | refine ⟨True.intro,?_⟩)))))
  exact j9 (z21 [_] [(1000,_)] ⟨rfl,trivial⟩ (by simp [AL.look] <;> first | rfl | exact ⟨rfl,rfl⟩) ⟨⟨(false,y),hs.pe,fun h => by cases h⟩,rfl,rfl⟩)
structure PD (key : Nat → Int) (n N a b : Nat) (x : Nat → Nat) (a' b' : Nat) (y : Nat → Nat) : Prop where
 h1 : a ≤ a'
 h2 : a' ≤ b'
 h3 : b' ≤ b
 pe : PE a b x y
 bl : Blw key a' b' y
 fin : ∀ z,PE a' b' y z → Srt key a' b' z → Srt key a b z
theorem PD.pe' {key : Nat → Int} {n N a b a' b' : Nat} {x y z : Nat → Nat} (h : PD key n N a b x a' b' y) (hp : PE a' b' y z) : PD key n N a b x a' b' z :=
 ⟨h.h1,h.h2,h.h3,h.pe.trans (hp.widen h.h1 h.h2 h.h3),h.bl.pe hp,fun u h1 h2 => h.fin u (hp.trans h1) h2⟩
theorem PD.left {key : Nat → Int} {n N a b a' b' m : Nat} {x y z : Nat → Nat} (h : PD key n N a b x a' b' y) (hm : a' ≤ m) (hm2 : m < b') (hp : Prt key a' m b' y) (h1 : PE a' m y z) (h2 : Srt key a' m z) : PD key n N a b x (m + 1) b' z := by
 have hpz := hp.pe h1 (.inl ⟨Nat.le_refl _,hm,Nat.le_refl _⟩)
 have g1 := h.h1;have g3 := h.h3
 refine ⟨by omega,by omega,g3,h.pe.trans (h1.widen g1 hm (by omega)),fun k k0 k1 k2 => by rw [Nat.add_sub_cancel];exact hpz.hi k (by omega) k2,fun u u1 u2 => ?_⟩
 refine h.fin u ((h1.widen (Nat.le_refl _) hm (by omega)).trans (u1.widen (by omega) (by omega) (Nat.le_refl _))) ?_
 refine (hpz.pe u1 (.inr ⟨by omega,by omega,Nat.le_refl _⟩)).srt (fun p q q1 q2 q3 => ?_) u2 hm
 rw [u1.out p (by omega),u1.out q (by omega)]
 exact h2 p q q1 q2 q3
theorem PD.right {key : Nat → Int} {n N a b a' b' m : Nat} {x y z : Nat → Nat} (h : PD key n N a b x a' b' y) (hm : a' ≤ m) (hm2 : m < b') (hp : Prt key a' m b' y) (h1 : PE (m + 1) b' y z) (h2 : Srt key (m + 1) b' z) : PD key n N a b x a' m z := by
 have hpz := hp.pe h1 (.inr ⟨by omega,by omega,Nat.le_refl _⟩)
 have g1 := h.h1;have g3 := h.h3
 refine ⟨g1,hm,by omega,h.pe.trans (h1.widen (by omega) (by omega) g3),fun k k0 k1 k2 => ?_,fun u u1 u2 => ?_⟩
 ·rw [h1.out (a' - 1) (by omega),h1.out k (by omega)]
  exact h.bl k k0 k1 (by omega)
 ·refine h.fin u ((h1.widen (by omega) (by omega) (Nat.le_refl _)).trans (u1.widen (Nat.le_refl _) hm (by omega))) ?_
  refine (hpz.pe u1 (.inl ⟨Nat.le_refl _,hm,Nat.le_refl _⟩)).srt u2 (fun p q q1 q2 q3 => ?_) hm
  rw [u1.out p (by omega),u1.out q (by omega)]
  exact h2 p q q1 q2 q3
def pdS (n gen : Nat) (g : FuncId) (o : PV) (a b : Nat) (lim : Int) (wb wp : Bool) (y : Nat → Nat) : ASt :=
 ⟨[(11,.p (.d (.v (.bool wp)))),(10,.p (.d (.v (.bool wb)))),(4,.p (.fn (.func g) [o] [])),(3,.p (.d (.v (.int .i64 lim)))),(2,.p (.d (.v (.int .i64 (b : Int))))),(1,.p (.d (.v (.int .i64 (a : Int))))),(0,.ow 1000 gen 1 n)],
  [(1000,.own 3 1 n gen (rowN y))]⟩
def pdT (n gen : Nat) (g : FuncId) (o : PV) (a b : Nat) (lim : Int) (wb wp : Bool) (p : Nat) (hint : Int) (y : Nat → Nat) : ASt :=
 ⟨[(14,.p (.d (.v (.int .i64 hint)))),(13,.p (.d (.v (.int .i64 (p : Int))))),(12,.p (.d (.v (.int .i64 ((b : Int) - a))))),(11,.p (.d (.v (.bool wp)))),(10,.p (.d (.v (.bool wb)))),(4,.p (.fn (.func g) [o] [])),(3,.p (.d (.v (.int .i64 lim)))),(2,.p (.d (.v (.int .i64 (b : Int))))),(1,.p (.d (.v (.int .i64 (a : Int))))),(0,.ow 1000 gen 1 n)],
  [(1000,.own 3 1 n gen (rowN y))]⟩
def pdM (n gen : Nat) (g : FuncId) (o : PV) (a b : Nat) (lim : Int) (wb wp : Bool) (y : Nat → Nat) : ASt :=
 ⟨[(12,.p (.d (.v (.int .i64 ((b : Int) - a))))),(11,.p (.d (.v (.bool wp)))),(10,.p (.d (.v (.bool wb)))),(4,.p (.fn (.func g) [o] [])),(3,.p (.d (.v (.int .i64 lim)))),(2,.p (.d (.v (.int .i64 (b : Int))))),(1,.p (.d (.v (.int .i64 (a : Int))))),(0,.ow 1000 gen 1 n)],
  [(1000,.own 3 1 n gen (rowN y))]⟩
set_option maxRecDepth 100000 in
theorem pdq_c {key : Nat → Int} {c : Nat → Nat → Int} {g : FuncId} {o : PV} {N : Nat} (hc : CmpN Tryz.prog g o N key c) (n gen : Nat) (hn : n ≤ 1099511627776) : ∀ (k : Nat) (x : Nat → Nat) (a b : Nat) (ai bi lim : Int),b - a ≤ k → ai = a → bi = b → a ≤ b → b ≤ n → Dom n N x → Blw key a b x → 0 ≤ lim → lim ≤ 1000 →
  MCalls Tryz.prog 141 [.ow 1000 gen 1 n,.p (.d (.v (.int .i64 ai))),.p (.d (.v (.int .i64 bi))),.p (.d (.v (.int .i64 lim))),.p (.fn (.func g) [o] [])] [(1000,.own 3 1 n gen (rowN x))]
   (fun rs M => ∃ y : {y : Nat → Nat // PE a b x y ∧ Srt key a b y},rs = [] ∧ M = [(1000,.own 3 1 n gen (rowN y.val))]) := by
 intro k
 induction k using Nat.strongRecOn with
 | _ k ih =>
 intro x a b ai bi lim0 hk ha' hb' hab hb hx hbl hl0 hl1
 subst ha' hb'
 refine q20 Tryz.func141 rfl (by decide +kernel) (by rw [Tryz.ntmps141];simp) (fun l X h => by simp only [AL.look] at h;(repeat' split at h);all_goals first | omega | cases h) ?_;rw [Tryz.ntmps141];simp only [frA]
 (repeat (first | apply j0 | refine z7 rfl ?_ | refine x7 rfl ?_ | apply j6 | (refine x5 fun K hK => ?_) | (refine x8 fun K hK => ?_) | ((first | apply j5 | apply x6 | ((first | refine j4 (hK _ ?_) | refine q9 (hK _ _ j8 ?_));clear hK K));(first | show AWP _ _ _ _ _ | ((try simp only [z8]);first | show loopQ _ _ _ _ _ _ | show cutQ _ _ _ _ | show AWP _ _ _ _ _))) | ((first | refine j7 [] rfl ?_ | refine q10 [] rfl ?_);simp (disch:=omega) only [go_sem,seval,pnP,pnM,pnP1,pnM1];(repeat (first | refine ⟨by omega,?_⟩ | refine ⟨True.intro,?_⟩)))))
 refine j13 (fun s : {s : Nat × Nat × Int × Bool × Bool × (Nat → Nat) // 0 ≤ s.2.2.1 ∧ s.2.2.1 ≤ 1000 ∧ PD key n N a b x s.1 s.2.1 s.2.2.2.2.2} => pdS n gen g o s.val.1 s.val.2.1 s.val.2.2.1 s.val.2.2.2.1 s.val.2.2.2.2.1 s.val.2.2.2.2.2) (fun s => s.val.2.1 - s.val.1) ⟨(a,b,lim0,true,true,x),hl0,hl1,⟨Nat.le_refl _,hab,Nat.le_refl _,PE.refl _ _ _,hbl,fun z _ h => h⟩⟩ ?_ (fun s => ?_)
 ·unfold pdS
  refine Weak.list ?_ ?_;(all_goals simp (disch:=omega) only [AllF,AllL,q11,z11,j10,exists_eq_left',go_sem,seval,pnP,pnM,pnP1,pnM1]);(all_goals (repeat' (with_reducible apply And.intro)));(all_goals try (first | exact q8 rfl | (refine x11 ?_;omega) | (refine q8 ?_;simp;done)))
 obtain ⟨⟨a1,b1,lim,wb,wp,y⟩,l0,l1,hs⟩ := s
 unfold pdS
 simp only [] at l0 l1 hs
 have g1 := hs.h1;have g2 := hs.h2;have g3 := hs.h3
 have dy := hx.pe hs.pe hab hb
 by_cases h12 : b1 - a1 ≤ 12
 ·(repeat (first | apply j0 | refine z7 rfl ?_ | refine x7 rfl ?_ | apply j6 | (refine x5 fun K hK => ?_) | (refine x8 fun K hK => ?_) | ((first | apply j5 | apply x6 | ((first | refine j4 (hK _ ?_) | refine q9 (hK _ _ j8 ?_));clear hK K));(first | show AWP _ _ _ _ _ | ((try simp only [z8]);first | show loopQ _ _ _ _ _ _ | show cutQ _ _ _ _ | show AWP _ _ _ _ _))) | ((first | refine j7 [] rfl ?_ | refine q10 [] rfl ?_);simp (disch:=omega) only [go_sem,seval,pnP,pnM,pnP1,pnM1];(repeat (first | refine ⟨by omega,?_⟩ | refine ⟨True.intro,?_⟩)))))
  (refine z18 (x17 [(1000,1000)] rfl rfl rfl rfl rfl rfl (insN_c hc y n gen a1 b1 a1 b1 rfl rfl g2 (by omega) hn dy) (fun _ => rfl) (q15 (by repeat (first | exact trivial | refine ⟨rfl,?_⟩)) (by kernel_rfl)) (fun _ => (q15 (by repeat (first | exact trivial | refine ⟨rfl,?_⟩)) (by kernel_rfl)))) ?_);rintro ⟨z,hz,hz2⟩;simp (disch:=omega) only [go_sem,seval,pnP,pnM,pnP1,pnM1]
  (repeat (first | apply j0 | refine z7 rfl ?_ | refine x7 rfl ?_ | apply j6 | (refine x5 fun K hK => ?_) | (refine x8 fun K hK => ?_) | ((first | apply j5 | apply x6 | ((first | refine j4 (hK _ ?_) | refine q9 (hK _ _ j8 ?_));clear hK K));(first | show AWP _ _ _ _ _ | ((try simp only [z8]);first | show loopQ _ _ _ _ _ _ | show cutQ _ _ _ _ | show AWP _ _ _ _ _))) | ((first | refine j7 [] rfl ?_ | refine q10 [] rfl ?_);simp (disch:=omega) only [go_sem,seval,pnP,pnM,pnP1,pnM1];(repeat (first | refine ⟨by omega,?_⟩ | refine ⟨True.intro,?_⟩)))))
  (first | (refine j4 (hK _ ?_);refine And.left (q16 (l := 1000) rfl rfl ?_)) | (refine x6 ?_;refine And.left (q16 (l := 1000) rfl rfl ?_)) | (refine j5 ?_;refine And.left (q16 (l := 1000) rfl rfl ?_)) | (refine j9 ?_;refine And.right (q16 (l := 1000) rfl rfl ?_)) | refine And.left (q16 (l := 1000) rfl rfl ?_))
  exact ⟨⟨z,hs.pe.trans (hz.widen g1 g2 g3),hs.fin z hz hz2⟩,rfl,rfl⟩
 by_cases hlim : lim = 0
 ·subst hlim
  (repeat (first | apply j0 | refine z7 rfl ?_ | refine x7 rfl ?_ | apply j6 | (refine x5 fun K hK => ?_) | (refine x8 fun K hK => ?_) | ((first | apply j5 | apply x6 | ((first | refine j4 (hK _ ?_) | refine q9 (hK _ _ j8 ?_));clear hK K));(first | show AWP _ _ _ _ _ | ((try simp only [z8]);first | show loopQ _ _ _ _ _ _ | show cutQ _ _ _ _ | show AWP _ _ _ _ _))) | ((first | refine j7 [] rfl ?_ | refine q10 [] rfl ?_);simp (disch:=omega) only [go_sem,seval,pnP,pnM,pnP1,pnM1];(repeat (first | refine ⟨by omega,?_⟩ | refine ⟨True.intro,?_⟩)))))
  (refine z18 (x17 [(1000,1000)] rfl rfl rfl rfl rfl rfl (heapN_c hc y n gen a1 b1 a1 b1 rfl rfl (by omega) (by omega) hn dy) (fun _ => rfl) (q15 (by repeat (first | exact trivial | refine ⟨rfl,?_⟩)) (by kernel_rfl)) (fun _ => (q15 (by repeat (first | exact trivial | refine ⟨rfl,?_⟩)) (by kernel_rfl)))) ?_);rintro ⟨z,hz,hz2⟩;simp (disch:=omega) only [go_sem,seval,pnP,pnM,pnP1,pnM1]
  (repeat (first | apply j0 | refine z7 rfl ?_ | refine x7 rfl ?_ | apply j6 | (refine x5 fun K hK => ?_) | (refine x8 fun K hK => ?_) | ((first | apply j5 | apply x6 | ((first | refine j4 (hK _ ?_) | refine q9 (hK _ _ j8 ?_));clear hK K));(first | show AWP _ _ _ _ _ | ((try simp only [z8]);first | show loopQ _ _ _ _ _ _ | show cutQ _ _ _ _ | show AWP _ _ _ _ _))) | ((first | refine j7 [] rfl ?_ | refine q10 [] rfl ?_);simp (disch:=omega) only [go_sem,seval,pnP,pnM,pnP1,pnM1];(repeat (first | refine ⟨by omega,?_⟩ | refine ⟨True.intro,?_⟩)))))
  (first | (refine j4 (hK _ ?_);refine And.left (q16 (l := 1000) rfl rfl ?_)) | (refine x6 ?_;refine And.left (q16 (l := 1000) rfl rfl ?_)) | (refine j5 ?_;refine And.left (q16 (l := 1000) rfl rfl ?_)) | (refine j9 ?_;refine And.right (q16 (l := 1000) rfl rfl ?_)) | refine And.left (q16 (l := 1000) rfl rfl ?_))
  exact ⟨⟨z,hs.pe.trans (hz.widen g1 g2 g3),hs.fin z hz hz2⟩,rfl,rfl⟩
 have qlim : (lim == 0) = false := z14 hlim
 (repeat ((fail_if_success (show AWP _ _ (.region 7 _ _) _ _));first | apply j0 | refine z7 rfl ?_ | refine x7 rfl ?_ | apply j6 | (refine x5 fun K hK => ?_) | (refine x8 fun K hK => ?_) | ((first | apply j5 | apply x6 | ((first | refine j4 (hK _ ?_) | refine q9 (hK _ _ j8 ?_));clear hK K));(first | show AWP _ _ _ _ _ | ((try simp only [z8]);first | show loopQ _ _ _ _ _ _ | show cutQ _ _ _ _ | show AWP _ _ _ _ _))) | ((first | refine j7 [] rfl ?_ | refine q10 [] rfl ?_);simp (disch:=omega) only [go_sem,seval,pnP,pnM,pnP1,pnM1,qlim];(repeat (first | refine ⟨by omega,?_⟩ | refine ⟨True.intro,?_⟩)))))
 refine q18 (A' := pdM n gen g o a1 b1 lim wb wp y) ?_ ?_
 ·unfold pdM
  refine Weak.list ?_ ?_;(all_goals simp (disch:=omega) only [AllF,AllL,q11,z11,j10,exists_eq_left',go_sem,seval,pnP,pnM,pnP1,pnM1,qlim]);(all_goals (repeat' (with_reducible apply And.intro)));(all_goals try (first | exact q8 rfl | (refine x11 ?_;omega) | (refine q8 ?_;simp;done)))
 unfold pdM
 refine j34 (fun s : {s : Int × (Nat → Nat) // 0 ≤ s.1 ∧ s.1 ≤ 1000 ∧ PD key n N a b x a1 b1 s.2} => pdM n gen g o a1 b1 s.val.1 wb wp s.val.2) ?_ ?_
 ·cases wb
  ·(repeat (first | apply j0 | refine z7 rfl ?_ | refine x7 rfl ?_ | apply j6 | (refine x5 fun K hK => ?_) | (refine x8 fun K hK => ?_) | ((first | apply j5 | apply x6 | ((first | refine j4 (hK _ ?_) | refine q9 (hK _ _ j8 ?_));clear hK K));(first | show AWP _ _ _ _ _ | ((try simp only [z8]);first | show loopQ _ _ _ _ _ _ | show cutQ _ _ _ _ | show AWP _ _ _ _ _))) | ((first | refine j7 [] rfl ?_ | refine q10 [] rfl ?_);simp (disch:=omega) only [go_sem,seval,pnP,pnM,pnP1,pnM1];(repeat (first | refine ⟨by omega,?_⟩ | refine ⟨True.intro,?_⟩)))))
   (refine z18 (x17 [(1000,1000)] rfl rfl rfl rfl rfl rfl (break_c (.fn (.func g) [o] []) y n gen a1 b1 (by omega) (by omega) hn) (fun _ => rfl) (q15 (by repeat (first | exact trivial | refine ⟨rfl,?_⟩)) (by kernel_rfl)) (fun _ => (q15 (by repeat (first | exact trivial | refine ⟨rfl,?_⟩)) (by kernel_rfl)))) ?_);rintro ⟨z,hz⟩;simp (disch:=omega) only [go_sem,seval,pnP,pnM,pnP1,pnM1]
   (repeat (first | apply j0 | refine z7 rfl ?_ | refine x7 rfl ?_ | apply j6 | (refine x5 fun K hK => ?_) | (refine x8 fun K hK => ?_) | ((first | apply j5 | apply x6 | ((first | refine j4 (hK _ ?_) | refine q9 (hK _ _ j8 ?_));clear hK K));(first | show AWP _ _ _ _ _ | ((try simp only [z8]);first | show loopQ _ _ _ _ _ _ | show cutQ _ _ _ _ | show AWP _ _ _ _ _))) | ((first | refine j7 [] rfl ?_ | refine q10 [] rfl ?_);simp (disch:=omega) only [go_sem,seval,pnP,pnM,pnP1,pnM1];(repeat (first | refine ⟨by omega,?_⟩ | refine ⟨True.intro,?_⟩)))))
   (show cutQ _ _ .normal _);refine j17 (⟨(lim - 1,z),by simp only [];omega,by simp only [];omega,hs.pe' hz⟩) ?_
   unfold pdM
   refine Weak.list ?_ ?_;(all_goals simp (disch:=omega) only [AllF,AllL,q11,z11,j10,exists_eq_left',go_sem,seval,pnP,pnM,pnP1,pnM1]);(all_goals (repeat' (with_reducible apply And.intro)));(all_goals try (first | exact q8 rfl | (refine x11 ?_;omega) | (refine q8 ?_;simp;done)))
  ·(repeat (first | apply j0 | refine z7 rfl ?_ | refine x7 rfl ?_ | apply j6 | (refine x5 fun K hK => ?_) | (refine x8 fun K hK => ?_) | ((first | apply j5 | apply x6 | ((first | refine j4 (hK _ ?_) | refine q9 (hK _ _ j8 ?_));clear hK K));(first | show AWP _ _ _ _ _ | ((try simp only [z8]);first | show loopQ _ _ _ _ _ _ | show cutQ _ _ _ _ | show AWP _ _ _ _ _))) | ((first | refine j7 [] rfl ?_ | refine q10 [] rfl ?_);simp (disch:=omega) only [go_sem,seval,pnP,pnM,pnP1,pnM1];(repeat (first | refine ⟨by omega,?_⟩ | refine ⟨True.intro,?_⟩)))))
   (show cutQ _ _ .normal _);refine j17 (⟨(lim,y),l0,l1,hs⟩) ?_
   unfold pdM
   refine Weak.list ?_ ?_;(all_goals simp (disch:=omega) only [AllF,AllL,q11,z11,j10,exists_eq_left',go_sem,seval,pnP,pnM,pnP1,pnM1]);(all_goals (repeat' (with_reducible apply And.intro)));(all_goals try (first | exact q8 rfl | (refine x11 ?_;omega) | (refine q8 ?_;simp;done)))
 rintro ⟨⟨lim,y⟩,l0,l1,hs⟩
 unfold pdM
 simp only [] at l0 l1 hs ⊢
 have dy := hx.pe hs.pe hab hb
 (repeat (first | apply j0 | refine z7 rfl ?_ | refine x7 rfl ?_ | apply j6 | (refine x5 fun K hK => ?_) | (refine x8 fun K hK => ?_) | ((first | apply j5 | apply x6 | ((first | refine j4 (hK _ ?_) | refine q9 (hK _ _ j8 ?_));clear hK K));(first | show AWP _ _ _ _ _ | ((try simp only [z8]);first | show loopQ _ _ _ _ _ _ | show cutQ _ _ _ _ | show AWP _ _ _ _ _))) | ((first | refine j7 [] rfl ?_ | refine q10 [] rfl ?_);simp (disch:=omega) only [go_sem,seval,pnP,pnM,pnP1,pnM1];(repeat (first | refine ⟨by omega,?_⟩ | refine ⟨True.intro,?_⟩)))))
 (refine z18 (x17 [(1000,1000)] rfl rfl rfl rfl rfl rfl (x168 hc y n gen a1 b1 (by omega) (by omega) hn dy) (fun _ => rfl) (q15 (by repeat (first | exact trivial | refine ⟨rfl,?_⟩)) (by kernel_rfl)) (fun _ => (q15 (by repeat (first | exact trivial | refine ⟨rfl,?_⟩)) (by kernel_rfl)))) ?_);rintro ⟨⟨p,hint⟩,hp1,hp2,hh⟩;simp (disch:=omega) only [go_sem,seval,pnP,pnM,pnP1,pnM1]
 simp only [] at hp1 hp2 hh
 (repeat ((fail_if_success (show AWP _ _ (.region 11 _ _) _ _));first | apply j0 | refine z7 rfl ?_ | refine x7 rfl ?_ | apply j6 | (refine x5 fun K hK => ?_) | (refine x8 fun K hK => ?_) | ((first | apply j5 | apply x6 | ((first | refine j4 (hK _ ?_) | refine q9 (hK _ _ j8 ?_));clear hK K));(first | show AWP _ _ _ _ _ | ((try simp only [z8]);first | show loopQ _ _ _ _ _ _ | show cutQ _ _ _ _ | show AWP _ _ _ _ _))) | ((first | refine j7 [] rfl ?_ | refine q10 [] rfl ?_);simp (disch:=omega) only [go_sem,seval,pnP,pnM,pnP1,pnM1];(repeat (first | refine ⟨by omega,?_⟩ | refine ⟨True.intro,?_⟩)))))
 refine q18 (A' := pdT n gen g o a1 b1 lim wb wp p hint y) ?_ ?_
 ·unfold pdT
  refine Weak.list ?_ ?_;(all_goals simp (disch:=omega) only [AllF,AllL,q11,z11,j10,exists_eq_left',go_sem,seval,pnP,pnM,pnP1,pnM1]);(all_goals (repeat' (with_reducible apply And.intro)));(all_goals try (first | exact q8 rfl | (refine x11 ?_;omega) | (refine q8 ?_;simp;done)))
 unfold pdT
 refine j34 (fun s : {s : Nat × Int × (Nat → Nat) // a1 ≤ s.1 ∧ s.1 < b1 ∧ (s.2.1 = 0 ∨ s.2.1 = 1) ∧ PD key n N a b x a1 b1 s.2.2} => pdT n gen g o a1 b1 lim wb wp s.val.1 s.val.2.1 s.val.2.2) ?_ ?_
 ·rcases hh with rfl | rfl | rfl
  ·(repeat (first | apply j0 | refine z7 rfl ?_ | refine x7 rfl ?_ | apply j6 | (refine x5 fun K hK => ?_) | (refine x8 fun K hK => ?_) | ((first | apply j5 | apply x6 | ((first | refine j4 (hK _ ?_) | refine q9 (hK _ _ j8 ?_));clear hK K));(first | show AWP _ _ _ _ _ | ((try simp only [z8]);first | show loopQ _ _ _ _ _ _ | show cutQ _ _ _ _ | show AWP _ _ _ _ _))) | ((first | refine j7 [] rfl ?_ | refine q10 [] rfl ?_);simp (disch:=omega) only [go_sem,seval,pnP,pnM,pnP1,pnM1];(repeat (first | refine ⟨by omega,?_⟩ | refine ⟨True.intro,?_⟩)))))
   (show cutQ _ _ .normal _);refine j17 (⟨(p,0,y),hp1,hp2,.inl rfl,hs⟩) ?_
   unfold pdT
   refine Weak.list ?_ ?_;(all_goals simp (disch:=omega) only [AllF,AllL,q11,z11,j10,exists_eq_left',go_sem,seval,pnP,pnM,pnP1,pnM1]);(all_goals (repeat' (with_reducible apply And.intro)));(all_goals try (first | exact q8 rfl | (refine x11 ?_;omega) | (refine q8 ?_;simp;done)))
  ·(repeat (first | apply j0 | refine z7 rfl ?_ | refine x7 rfl ?_ | apply j6 | (refine x5 fun K hK => ?_) | (refine x8 fun K hK => ?_) | ((first | apply j5 | apply x6 | ((first | refine j4 (hK _ ?_) | refine q9 (hK _ _ j8 ?_));clear hK K));(first | show AWP _ _ _ _ _ | ((try simp only [z8]);first | show loopQ _ _ _ _ _ _ | show cutQ _ _ _ _ | show AWP _ _ _ _ _))) | ((first | refine j7 [] rfl ?_ | refine q10 [] rfl ?_);simp (disch:=omega) only [go_sem,seval,pnP,pnM,pnP1,pnM1];(repeat (first | refine ⟨by omega,?_⟩ | refine ⟨True.intro,?_⟩)))))
   (show cutQ _ _ .normal _);refine j17 (⟨(p,1,y),hp1,hp2,.inr rfl,hs⟩) ?_
   unfold pdT
   refine Weak.list ?_ ?_;(all_goals simp (disch:=omega) only [AllF,AllL,q11,z11,j10,exists_eq_left',go_sem,seval,pnP,pnM,pnP1,pnM1]);(all_goals (repeat' (with_reducible apply And.intro)));(all_goals try (first | exact q8 rfl | (refine x11 ?_;omega) | (refine q8 ?_;simp;done)))
  ·(repeat (first | apply j0 | refine z7 rfl ?_ | refine x7 rfl ?_ | apply j6 | (refine x5 fun K hK => ?_) | (refine x8 fun K hK => ?_) | ((first | apply j5 | apply x6 | ((first | refine j4 (hK _ ?_) | refine q9 (hK _ _ j8 ?_));clear hK K));(first | show AWP _ _ _ _ _ | ((try simp only [z8]);first | show loopQ _ _ _ _ _ _ | show cutQ _ _ _ _ | show AWP _ _ _ _ _))) | ((first | refine j7 [] rfl ?_ | refine q10 [] rfl ?_);simp (disch:=omega) only [go_sem,seval,pnP,pnM,pnP1,pnM1];(repeat (first | refine ⟨by omega,?_⟩ | refine ⟨True.intro,?_⟩)))))
   (refine z18 (x17 [(1000,1000)] rfl rfl rfl rfl rfl rfl (z169 (.fn (.func g) [o] []) y n gen a1 b1 (by omega) (by omega) hn) (fun _ => rfl) (q15 (by repeat (first | exact trivial | refine ⟨rfl,?_⟩)) (by kernel_rfl)) (fun _ => (q15 (by repeat (first | exact trivial | refine ⟨rfl,?_⟩)) (by kernel_rfl)))) ?_);rintro ⟨z,hz⟩;simp (disch:=omega) only [go_sem,seval,pnP,pnM,pnP1,pnM1]
   (repeat (first | apply j0 | refine z7 rfl ?_ | refine x7 rfl ?_ | apply j6 | (refine x5 fun K hK => ?_) | (refine x8 fun K hK => ?_) | ((first | apply j5 | apply x6 | ((first | refine j4 (hK _ ?_) | refine q9 (hK _ _ j8 ?_));clear hK K));(first | show AWP _ _ _ _ _ | ((try simp only [z8]);first | show loopQ _ _ _ _ _ _ | show cutQ _ _ _ _ | show AWP _ _ _ _ _))) | ((first | refine j7 [] rfl ?_ | refine q10 [] rfl ?_);simp (disch:=omega) only [go_sem,seval,pnP,pnM,pnP1,pnM1];(repeat (first | refine ⟨by omega,?_⟩ | refine ⟨True.intro,?_⟩)))))
   (show cutQ _ _ .normal _);refine j17 (⟨(b1 - 1 - (p - a1),1,z),by simp only [];omega,by simp only [];omega,.inr rfl,hs.pe' hz⟩) ?_
   unfold pdT
   refine Weak.list ?_ ?_;(all_goals simp (disch:=omega) only [AllF,AllL,q11,z11,j10,exists_eq_left',go_sem,seval,pnP,pnM,pnP1,pnM1]);(all_goals (repeat' (with_reducible apply And.intro)));(all_goals try (first | exact q8 rfl | (refine x11 ?_;omega) | (refine q8 ?_;simp;done)))
 rintro ⟨⟨p,hint,y⟩,hp1,hp2,hh,hs⟩
 unfold pdT
 simp only [] at hp1 hp2 hh hs ⊢
 have dy := hx.pe hs.pe hab hb
 refine j0 ?_
 refine j0 ?_
 refine j34 (fun z : {z : Nat → Nat // PD key n N a b x a1 b1 z} => pdT n gen g o a1 b1 lim wb wp p hint z.val) ?_ ?_
 ·by_cases hw : wb = true ∧ wp = true ∧ hint = 1
  ·obtain ⟨rfl,rfl,rfl⟩ := hw
   (repeat (first | apply j0 | refine z7 rfl ?_ | refine x7 rfl ?_ | apply j6 | (refine x5 fun K hK => ?_) | (refine x8 fun K hK => ?_) | ((first | apply j5 | apply x6 | ((first | refine j4 (hK _ ?_) | refine q9 (hK _ _ j8 ?_));clear hK K));(first | show AWP _ _ _ _ _ | ((try simp only [z8]);first | show loopQ _ _ _ _ _ _ | show cutQ _ _ _ _ | show AWP _ _ _ _ _))) | ((first | refine j7 [] rfl ?_ | refine q10 [] rfl ?_);simp (disch:=omega) only [go_sem,seval,pnP,pnM,pnP1,pnM1];(repeat (first | refine ⟨by omega,?_⟩ | refine ⟨True.intro,?_⟩)))))
   (refine z18 (x17 [(1000,1000)] rfl rfl rfl rfl rfl rfl (j170 hc y n gen a1 b1 (by omega) (by omega) hn dy hs.bl) (fun _ => rfl) (q15 (by repeat (first | exact trivial | refine ⟨rfl,?_⟩)) (by kernel_rfl)) (fun _ => (q15 (by repeat (first | exact trivial | refine ⟨rfl,?_⟩)) (by kernel_rfl)))) ?_);rintro ⟨⟨r,z⟩,hz,hz2⟩;simp (disch:=omega) only [go_sem,seval,pnP,pnM,pnP1,pnM1]
   simp only [] at hz hz2
   cases r
   ·(repeat (first | apply j0 | refine z7 rfl ?_ | refine x7 rfl ?_ | apply j6 | (refine x5 fun K hK => ?_) | (refine x8 fun K hK => ?_) | ((first | apply j5 | apply x6 | ((first | refine j4 (hK _ ?_) | refine q9 (hK _ _ j8 ?_));clear hK K));(first | show AWP _ _ _ _ _ | ((try simp only [z8]);first | show loopQ _ _ _ _ _ _ | show cutQ _ _ _ _ | show AWP _ _ _ _ _))) | ((first | refine j7 [] rfl ?_ | refine q10 [] rfl ?_);simp (disch:=omega) only [go_sem,seval,pnP,pnM,pnP1,pnM1];(repeat (first | refine ⟨by omega,?_⟩ | refine ⟨True.intro,?_⟩)))))
    (show cutQ _ _ .normal _);refine j17 (⟨z,hs.pe' hz⟩) ?_
    unfold pdT
    refine Weak.list ?_ ?_;(all_goals simp (disch:=omega) only [AllF,AllL,q11,z11,j10,exists_eq_left',go_sem,seval,pnP,pnM,pnP1,pnM1]);(all_goals (repeat' (with_reducible apply And.intro)));(all_goals try (first | exact q8 rfl | (refine x11 ?_;omega) | (refine q8 ?_;simp;done)))
   ·(repeat (first | apply j0 | refine z7 rfl ?_ | refine x7 rfl ?_ | apply j6 | (refine x5 fun K hK => ?_) | (refine x8 fun K hK => ?_) | ((first | apply j5 | apply x6 | ((first | refine j4 (hK _ ?_) | refine q9 (hK _ _ j8 ?_));clear hK K));(first | show AWP _ _ _ _ _ | ((try simp only [z8]);first | show loopQ _ _ _ _ _ _ | show cutQ _ _ _ _ | show AWP _ _ _ _ _))) | ((first | refine j7 [] rfl ?_ | refine q10 [] rfl ?_);simp (disch:=omega) only [go_sem,seval,pnP,pnM,pnP1,pnM1];(repeat (first | refine ⟨by omega,?_⟩ | refine ⟨True.intro,?_⟩)))))
    refine j9 (x167 ?_)
    refine And.right (q16 (l := 1000) rfl rfl ?_)
    exact ⟨⟨z,hs.pe.trans (hz.widen g1 g2 g3),hs.fin z hz (hz2 rfl)⟩,rfl,rfl⟩
  ·have hq : wb = false ∨ (wb = true ∧ wp = false) ∨ (wb = true ∧ wp = true ∧ hint = 0) := by
    cases wb
    ·exact .inl rfl
    ·cases wp
     ·exact .inr (.inl ⟨rfl,rfl⟩)
     ·rcases hh with h | h
      ·exact .inr (.inr ⟨rfl,rfl,h⟩)
      ·exact absurd ⟨rfl,rfl,h⟩ hw
   rcases hq with rfl | ⟨rfl,rfl⟩ | ⟨rfl,rfl,rfl⟩
   all_goals
    (repeat (first | apply j0 | refine z7 rfl ?_ | refine x7 rfl ?_ | apply j6 | (refine x5 fun K hK => ?_) | (refine x8 fun K hK => ?_) | ((first | apply j5 | apply x6 | ((first | refine j4 (hK _ ?_) | refine q9 (hK _ _ j8 ?_));clear hK K));(first | show AWP _ _ _ _ _ | ((try simp only [z8]);first | show loopQ _ _ _ _ _ _ | show cutQ _ _ _ _ | show AWP _ _ _ _ _))) | ((first | refine j7 [] rfl ?_ | refine q10 [] rfl ?_);simp (disch:=omega) only [go_sem,seval,pnP,pnM,pnP1,pnM1];(repeat (first | refine ⟨by omega,?_⟩ | refine ⟨True.intro,?_⟩)))))
    (show cutQ _ _ .normal _);refine j17 (⟨y,hs⟩) ?_
    unfold pdT
    refine Weak.list ?_ ?_;(all_goals simp (disch:=omega) only [AllF,AllL,q11,z11,j10,exists_eq_left',go_sem,seval,pnP,pnM,pnP1,pnM1]);(all_goals (repeat' (with_reducible apply And.intro)));(all_goals try (first | exact q8 rfl | (refine x11 ?_;omega) | (refine q8 ?_;simp;done)))
 rintro ⟨y,hs⟩
 unfold pdT
 simp only [] at hs ⊢
 have dy := hx.pe hs.pe hab hb
 refine j0 ?_
 refine j0 ?_
 refine j34 (fun z : Unit => pdT n gen g o a1 b1 lim wb wp p hint y) ?_ ?_
 ·by_cases ha0 : a1 = 0
  ·subst ha0
   (repeat (first | apply j0 | refine z7 rfl ?_ | refine x7 rfl ?_ | apply j6 | (refine x5 fun K hK => ?_) | (refine x8 fun K hK => ?_) | ((first | apply j5 | apply x6 | ((first | refine j4 (hK _ ?_) | refine q9 (hK _ _ j8 ?_));clear hK K));(first | show AWP _ _ _ _ _ | ((try simp only [z8]);first | show loopQ _ _ _ _ _ _ | show cutQ _ _ _ _ | show AWP _ _ _ _ _))) | ((first | refine j7 [] rfl ?_ | refine q10 [] rfl ?_);simp (disch:=omega) only [go_sem,seval,pnP,pnM,pnP1,pnM1];(repeat (first | refine ⟨by omega,?_⟩ | refine ⟨True.intro,?_⟩)))))
   (show cutQ _ _ .normal _);refine j17 (()) ?_
   unfold pdT
   refine Weak.list ?_ ?_;(all_goals simp (disch:=omega) only [AllF,AllL,q11,z11,j10,exists_eq_left',go_sem,seval,pnP,pnM,pnP1,pnM1]);(all_goals (repeat' (with_reducible apply And.intro)));(all_goals try (first | exact q8 rfl | (refine x11 ?_;omega) | (refine q8 ?_;simp;done)))
  ·obtain ⟨a2,rfl⟩ : ∃ m,a1 = m + 1 := ⟨a1 - 1,by omega⟩
   have r1 := z16 y a2
   have r2 := z16 y p
   have cc := hc.call (y a2) (y p) (dy.lt _ (by omega)) (dy.lt _ (by omega))
   have cl := hc.lt (y a2) (y p) (dy.lt _ (by omega)) (dy.lt _ (by omega))
   have ci := hc.inj (y a2) (y p) (dy.lt _ (by omega)) (dy.lt _ (by omega))
   have hle := hs.bl p (by omega) (by omega) (by omega)
   rw [Nat.add_sub_cancel] at hle
   have hne : key (y a2) ≠ key (y p) := fun e => by
    have := dy.inj (by omega) (by omega) (ci e)
    omega
   generalize c (y a2) (y p) = c0 at cc cl
   have hlt : c0 < 0 := cl.2 (by omega)
   (repeat (first | apply j0 | refine z7 rfl ?_ | refine x7 rfl ?_ | apply j6 | (refine x5 fun K hK => ?_) | (refine x8 fun K hK => ?_) | ((first | apply j5 | apply x6 | ((first | refine j4 (hK _ ?_) | refine q9 (hK _ _ j8 ?_));clear hK K));(first | show AWP _ _ _ _ _ | ((try simp only [z8]);first | show loopQ _ _ _ _ _ _ | show cutQ _ _ _ _ | show AWP _ _ _ _ _))) | ((first | refine x10 rfl rfl rfl ?_ | refine q13 rfl rfl rfl ?_);simp (disch:=omega) only [go_sem,seval,pnP,pnM,pnP1,pnM1,r1,r2];(first | refine ⟨_,cc,?_⟩)) | ((first | refine j7 [] rfl ?_ | refine q10 [] rfl ?_);simp (disch:=omega) only [go_sem,seval,pnP,pnM,pnP1,pnM1,r1,r2];(repeat (first | refine ⟨by omega,?_⟩ | refine ⟨True.intro,?_⟩)))))
   (show cutQ _ _ .normal _);refine j17 (()) ?_
   unfold pdT
   refine Weak.list ?_ ?_;(all_goals simp (disch:=omega) only [AllF,AllL,q11,z11,j10,exists_eq_left',go_sem,seval,pnP,pnM,pnP1,pnM1,r1,r2]);(all_goals (repeat' (with_reducible apply And.intro)));(all_goals try (first | exact q8 rfl | (refine x11 ?_;omega) | (refine q8 ?_;simp;done)))
 rintro ⟨⟩
 unfold pdT
 generalize he8 : ((b1 : Int) - (a1 : Int)).tdiv 8 = t8
 (repeat (first | apply j0 | refine z7 rfl ?_ | refine x7 rfl ?_ | apply j6 | (refine x5 fun K hK => ?_) | (refine x8 fun K hK => ?_) | ((first | apply j5 | apply x6 | ((first | refine j4 (hK _ ?_) | refine q9 (hK _ _ j8 ?_));clear hK K));(first | show AWP _ _ _ _ _ | ((try simp only [z8]);first | show loopQ _ _ _ _ _ _ | show cutQ _ _ _ _ | show AWP _ _ _ _ _))) | ((first | refine j7 [] rfl ?_ | refine q10 [] rfl ?_);simp (disch:=omega) only [go_sem,seval,pnP,pnM,pnP1,pnM1,he8];(repeat (first | refine ⟨by omega,?_⟩ | refine ⟨True.intro,?_⟩)))))
 (refine z18 (x17 [(1000,1000)] rfl rfl rfl rfl rfl rfl (x170 hc y n gen a1 b1 p (by omega) hp1 hp2 (by omega) hn dy) (fun _ => rfl) (q15 (by repeat (first | exact trivial | refine ⟨rfl,?_⟩)) (by kernel_rfl)) (fun _ => (q15 (by repeat (first | exact trivial | refine ⟨rfl,?_⟩)) (by kernel_rfl)))) ?_);rintro ⟨⟨m,wp2,z⟩,hm1,hm2,hm3,hm4⟩;simp (disch:=omega) only [go_sem,seval,pnP,pnM,pnP1,pnM1,he8]
 simp only [] at hm1 hm2 hm3 hm4
 have hs' := hs.pe' hm3
 have dz := hx.pe hs'.pe hab hb
 by_cases hside : m - a1 < b1 - m
 ·(repeat (first | apply j0 | refine z7 rfl ?_ | refine x7 rfl ?_ | apply j6 | (refine x5 fun K hK => ?_) | (refine x8 fun K hK => ?_) | ((first | apply j5 | apply x6 | ((first | refine j4 (hK _ ?_) | refine q9 (hK _ _ j8 ?_));clear hK K));(first | show AWP _ _ _ _ _ | ((try simp only [z8]);first | show loopQ _ _ _ _ _ _ | show cutQ _ _ _ _ | show AWP _ _ _ _ _))) | ((first | refine j7 [] rfl ?_ | refine q10 [] rfl ?_);simp (disch:=omega) only [go_sem,seval,pnP,pnM,pnP1,pnM1,he8];(repeat (first | refine ⟨by omega,?_⟩ | refine ⟨True.intro,?_⟩)))))
  (refine z18 (x17 [(1000,1000)] rfl rfl rfl rfl rfl rfl (ih (m - a1) (by omega) z a1 m a1 m lim (Nat.le_refl _) rfl rfl hm1 (by omega) dz (fun k k0 k1 k2 => hs'.bl k k0 k1 (by omega)) l0 l1) (fun _ => rfl) (q15 (by repeat (first | exact trivial | refine ⟨rfl,?_⟩)) (by kernel_rfl)) (fun _ => (q15 (by repeat (first | exact trivial | refine ⟨rfl,?_⟩)) (by kernel_rfl)))) ?_);rintro ⟨u,hu,hu2⟩;simp (disch:=omega) only [go_sem,seval,pnP,pnM,pnP1,pnM1,he8]
  (repeat (first | apply j0 | refine z7 rfl ?_ | refine x7 rfl ?_ | apply j6 | (refine x5 fun K hK => ?_) | (refine x8 fun K hK => ?_) | ((first | apply j5 | apply x6 | ((first | refine j4 (hK _ ?_) | refine q9 (hK _ _ j8 ?_));clear hK K));(first | show AWP _ _ _ _ _ | ((try simp only [z8]);first | show loopQ _ _ _ _ _ _ | show cutQ _ _ _ _ | show AWP _ _ _ _ _))) | ((first | refine j7 [] rfl ?_ | refine q10 [] rfl ?_);simp (disch:=omega) only [go_sem,seval,pnP,pnM,pnP1,pnM1,he8];(repeat (first | refine ⟨by omega,?_⟩ | refine ⟨True.intro,?_⟩)))))
  refine ⟨⟨(m + 1,b1,lim,decide ((m : Int) - a1 ≥ IntKind.i64.wrap t8),wp2,u),l0,l1,hs'.left hm1 hm2 hm4 hu hu2⟩,by simp only [];omega,?_⟩
  refine Weak.list ?_ ?_;(all_goals simp (disch:=omega) only [AllF,AllL,q11,z11,j10,exists_eq_left',go_sem,seval,pnP,pnM,pnP1,pnM1,he8]);(all_goals (repeat' (with_reducible apply And.intro)));(all_goals try (first | exact q8 rfl | (refine x11 ?_;omega) | (refine q8 ?_;simp;done)))
 ·(repeat (first | apply j0 | refine z7 rfl ?_ | refine x7 rfl ?_ | apply j6 | (refine x5 fun K hK => ?_) | (refine x8 fun K hK => ?_) | ((first | apply j5 | apply x6 | ((first | refine j4 (hK _ ?_) | refine q9 (hK _ _ j8 ?_));clear hK K));(first | show AWP _ _ _ _ _ | ((try simp only [z8]);first | show loopQ _ _ _ _ _ _ | show cutQ _ _ _ _ | show AWP _ _ _ _ _))) | ((first | refine j7 [] rfl ?_ | refine q10 [] rfl ?_);simp (disch:=omega) only [go_sem,seval,pnP,pnM,pnP1,pnM1,he8];(repeat (first | refine ⟨by omega,?_⟩ | refine ⟨True.intro,?_⟩)))))
  (refine z18 (x17 [(1000,1000)] rfl rfl rfl rfl rfl rfl (ih (b1 - (m + 1)) (by omega) z (m + 1) b1 ((m : Int) + 1) b1 lim (Nat.le_refl _) (by omega) rfl (by omega) (by omega) dz (fun k k0 k1 k2 => by rw [Nat.add_sub_cancel];exact hm4.hi k (by omega) k2) l0 l1) (fun _ => rfl) (q15 (by repeat (first | exact trivial | refine ⟨rfl,?_⟩)) (by kernel_rfl)) (fun _ => (q15 (by repeat (first | exact trivial | refine ⟨rfl,?_⟩)) (by kernel_rfl)))) ?_);rintro ⟨u,hu,hu2⟩;simp (disch:=omega) only [go_sem,seval,pnP,pnM,pnP1,pnM1,he8]
  (repeat (first | apply j0 | refine z7 rfl ?_ | refine x7 rfl ?_ | apply j6 | (refine x5 fun K hK => ?_) | (refine x8 fun K hK => ?_) | ((first | apply j5 | apply x6 | ((first | refine j4 (hK _ ?_) | refine q9 (hK _ _ j8 ?_));clear hK K));(first | show AWP _ _ _ _ _ | ((try simp only [z8]);first | show loopQ _ _ _ _ _ _ | show cutQ _ _ _ _ | show AWP _ _ _ _ _))) | ((first | refine j7 [] rfl ?_ | refine q10 [] rfl ?_);simp (disch:=omega) only [go_sem,seval,pnP,pnM,pnP1,pnM1,he8];(repeat (first | refine ⟨by omega,?_⟩ | refine ⟨True.intro,?_⟩)))))
  refine ⟨⟨(a1,m,lim,decide ((b1 : Int) - m ≥ IntKind.i64.wrap t8),wp2,u),l0,l1,hs'.right hm1 hm2 hm4 hu hu2⟩,by simp only [];omega,?_⟩
  refine Weak.list ?_ ?_;(all_goals simp (disch:=omega) only [AllF,AllL,q11,z11,j10,exists_eq_left',go_sem,seval,pnP,pnM,pnP1,pnM1,he8]);(all_goals (repeat' (with_reducible apply And.intro)));(all_goals try (first | exact q8 rfl | (refine x11 ?_;omega) | (refine q8 ?_;simp;done)))
set_option maxRecDepth 100000 in
theorem x106 {key : Nat → Int} {c : Nat → Nat → Int} {g : FuncId} {o : PV} {N : Nat} (hc : CmpN Tryz.prog g o N key c) (x : Nat → Nat) (n gen : Nat) (hn : n ≤ 1099511627776) (hx : Dom n N x) :
  MCalls Tryz.prog 103 [.ow 1000 gen 1 n,.p (.fn (.func g) [o] [])] [(1000,.own 3 1 n gen (rowN x))]
   (fun rs M => ∃ y : {y : Nat → Nat // PE 0 n x y ∧ Srt key 0 n y},rs = [] ∧ M = [(1000,.own 3 1 n gen (rowN y.val))]) := by
 have bl := z106 n hn
 have hL : Go.Lib.bitLen n ≤ 41 := by
  by_cases h0 : n = 0
  ·subst h0;decide
  ·have h := q76 h0 (show n < 2 ^ 64 by omega)
   have h2 : 2 ^ Go.Lib.bitLen n ≤ 2 ^ 41 := by omega
   exact (Nat.pow_le_pow_iff_right (by omega)).1 h2
 generalize Go.Lib.bitLen n = L at bl hL
 have e1 : IntKind.u64.wrap (n : Int) = (n : Int) := wu (by omega)
 refine q20 Tryz.func103 rfl (by decide +kernel) (by rw [Tryz.ntmps103];simp) (fun l X h => by simp only [AL.look] at h;(repeat' split at h);all_goals first | omega | cases h) ?_;rw [Tryz.ntmps103];simp only [frA]
 (repeat (first | apply j0 | refine z7 rfl ?_ | refine x7 rfl ?_ | apply j6 | (refine x5 fun K hK => ?_) | ((first | apply j5 | apply x6 | (refine j4 (hK _ ?_);clear hK K));show AWP _ _ _ _ _) | (refine x10 rfl rfl rfl ?_;simp (disch:=omega) only [go_sem,seval,pnP,pnM,pnP1,pnM1,e1];(first | refine ⟨_,bl,?_⟩)) | (refine j7 [] rfl ?_;simp (disch:=omega) only [go_sem,seval,pnP,pnM,pnP1,pnM1,e1];(repeat refine ⟨by omega,?_⟩))))
 (refine z18 (x17 [(1000,1000)] rfl rfl rfl rfl rfl rfl (pdq_c hc n gen hn n x 0 n 0 n L (by omega) rfl rfl (by omega) (by omega) hx (fun k h0 h1 h2 => by omega) (by omega) (by omega)) (fun _ => rfl) (q15 (by repeat (first | exact trivial | refine ⟨rfl,?_⟩)) (by kernel_rfl)) (fun _ => (q15 (by repeat (first | exact trivial | refine ⟨rfl,?_⟩)) (by kernel_rfl)))) ?_);rintro ⟨y,hy,hy2⟩;simp (disch:=omega) only [go_sem,seval,pnP,pnM,pnP1,pnM1,e1]
 (repeat (first | apply j0 | refine z7 rfl ?_ | refine x7 rfl ?_ | apply j6 | (refine x5 fun K hK => ?_) | ((first | apply j5 | apply x6 | (refine j4 (hK _ ?_);clear hK K));show AWP _ _ _ _ _) | (refine j7 [] rfl ?_;simp (disch:=omega) only [go_sem,seval,pnP,pnM,pnP1,pnM1,e1];(repeat refine ⟨by omega,?_⟩))))
 (first | (refine j4 (hK _ ?_);refine And.left (q16 (l := 1000) rfl rfl ?_)) | (refine x6 ?_;refine And.left (q16 (l := 1000) rfl rfl ?_)) | (refine j5 ?_;refine And.left (q16 (l := 1000) rfl rfl ?_)) | (refine j9 ?_;refine And.right (q16 (l := 1000) rfl rfl ?_)) | refine And.left (q16 (l := 1000) rfl rfl ?_))
 exact ⟨⟨y,hy,hy2⟩,rfl,rfl⟩
end Go.Proofs.YtemcdefpihkfpaaGreat
namespace Go.Proofs.YtemcdefpihkfpaaGreat.AL
open Go
theorem Weak.ownCell (A : ASt) (l0 l j sz : Nat) (e e' : TypeId) (cs : List AV) (f : Nat → List Dat) (hl0 : look A.locs l0 = some (.cells e cs)) (hj : cs[j]? = some (.p (.d (.v (.slice none 0 0))))) (hne : l0 ≠ l)
  (hu : unusedB A l = true) (hn : look A.locs l = none) : Weak A ⟨A.fr,(l,.own e' sz 0 0 f) :: (l0,.cells e (cs.set j (.ow l 0 sz 0))) :: A.locs⟩ := by
 intro w0 g0 nt h a w r
 let h' : Gh := { h with κ := fun k => if k = l then .slice none 0 0 else h.κ k,μ := fun k => if k = l then 0 else h.μ k }
 have un := z36 hu
 have tr : Trans w0.O w h w h' (fun _ => False) (some l) true := by
  refine ⟨BelowS.refl _ _,fun b _ _ => ⟨rfl,rfl⟩,⟨fun b => Nat.le_refl _,fun b o _ => rfl⟩,r.gz,fun b _ => rfl,fun _ _ => rfl,fun k hk => ?_,fun k _ hf => by cases hf⟩
  have : k ≠ l := fun e => hk (by rw [e])
  simp [h',this]
 have nl : h'.κ l = .slice none 0 0 := by simp [h']
 have nm : h'.μ l = 0 := by simp [h']
 have old : ∀ k L,k ≠ l → look A.locs k = some L → LocOK w0.O w h' k L ∧ inB h' k L = inB h k L := fun k L hk hL =>
  LocOK.trans tr (fun e => hk (by cases e;rfl)) (fun _ l' hl' hm => by cases hl';exact un.2.1 k L hL hm) (fun b _ => by simp) (r.locs k L hL)
 have cell0 : LocOK w0.O w h' l0 (.cells e (cs.set j (.ow l 0 sz 0))) := by
  obtain ⟨arr,c1,c2,c3,c4,c5⟩ := (old l0 _ hne hl0).1
  refine ⟨arr,c1,c2,by simpa using c3,c4,fun i v x hv hx => ?_⟩
  by_cases hi : i = j
  ·subst hi
   have hlt := (List.getElem?_eq_some_iff.1 hj).1
   rw [List.getElem?_set_self hlt] at hx
   cases hx
   obtain ⟨k1,k2⟩ := c5 i v _ hv hj
   have hv0 := q71 k1
   refine ⟨?_,k2⟩
   rw [hv0]
   exact ⟨by omega,⟨_,_,rfl,fun hh => by omega⟩,fun _ => nl.symm⟩
  ·rw [List.getElem?_set_ne (fun e => hi e.symm)] at hx
   exact c5 i v x hv hx
 refine ⟨h',r.size,r.defers,fun u y hy => ?_,fun k L hL => ?_,fun k k' L L' b hne2 hL hL' hbk => ?_,r.ext,fun k hk => ?_⟩
 ·exact RelA.trans tr (fun _ l' hl' hm => by cases hl';exact un.1 u y hy hm) (r.fr u y hy)
 ·simp only [look] at hL
  split at hL
  ·rename_i e2;subst e2;cases hL
   exact ⟨nm,⟨[],by rw [nl];exact World.ownsRow_nil _ _ _ _,fun i hi => by omega,fun i j d hi => by omega⟩,fun b hb => by rw [nl] at hb;simp [Value.ownBlock] at hb⟩
  ·rename_i hk
   split at hL
   ·rename_i e2;subst e2;cases hL;exact cell0
   ·exact (old k L (fun e => hk e.symm) hL).1
 ·have two : ∀ {k : Nat} {L : LV},look ((l,LV.own e' sz 0 0 f) :: (l0,.cells e (cs.set j (.ow l 0 sz 0))) :: A.locs) k = some L → inB h' k L b → k ≠ l ∧ ∃ L0,look A.locs k = some L0 ∧ inB h k L0 b := by
   intro k L hL hb
   simp only [look] at hL
   split at hL
   ·rename_i e2;subst e2;cases hL
    simp [inB,nl,Value.ownBlock] at hb
   ·rename_i hk
    refine ⟨fun e => hk e.symm,?_⟩
    split at hL
    ·rename_i e2;subst e2;cases hL
     exact ⟨_,hl0,hb⟩
    ·exact ⟨L,hL,by rw [← (old k L (fun e => hk e.symm) hL).2];exact hb⟩
  intro hin
  obtain ⟨a1,L1,a2,a3⟩ := two hL hbk
  obtain ⟨b1,L2,b2,b3⟩ := two hL' hin
  exact r.sep k k' L1 L2 b hne2 a2 b2 a3 b3
 ·have : k ≠ l := by have := un.2.2;omega
  simp only [h',if_neg this]
  exact r.pin k hk
theorem q171 {P : Program} {nt : Nat} {c : Code} {Q : Exit → ASt → Prop} {A : ASt} (l0 l j sz : Nat) (e' : TypeId) (f : Nat → List Dat) {e : TypeId} {cs : List AV} (hl0 : look A.locs l0 = some (.cells e cs)) (hj : cs[j]? = some (.p (.d (.v (.slice none 0 0))))) (hne : l0 ≠ l)
  (hu : unusedB A l = true) (hn : look A.locs l = none) (h : AWP P nt c Q ⟨A.fr,(l,.own e' sz 0 0 f) :: (l0,.cells e (cs.set j (.ow l 0 sz 0))) :: A.locs⟩) : AWP P nt c Q A := q18 (Weak.ownCell A l0 l j sz e e' cs f hl0 hj hne hu hn) h
theorem Weak.frz (A : ASt) (u l : Nat) (f : Fn) (e : TypeId) (cs : List AV) (ds : List Dat) (hu : look A.fr u = some (.cl f [.loc l 0] [])) (hl : look A.locs l = some (.cells e cs))
  (hd : ∀ (j : Nat) (d : Dat),ds[j]? = some d → cs[j]? = some (AV.p (PV.d d))) :
  Weak A ⟨(u,.p (.fn f [.d (.bx ds)] [])) :: A.fr,(l,.fz e cs) :: A.locs⟩ := by
 intro w0 g0 nt h a w r
 obtain ⟨arr,c7,c2,c5,c6,c8⟩ := r.locs l _ hl
 have hv : RelA w h (a.tmps.getD u _root_.Go.undef) (.cl f [.loc l 0] []) := r.fr u _ hu
 have hbl : h.ρ l < w.heap.size := (Array.getElem?_eq_some_iff.1 c2).1
 have hlen : ds.length ≤ arr.size := by
  rw [c5]
  by_cases h0 : ds.length = 0
  ·omega
  ·have := (List.getElem?_eq_some_iff.1 (hd (ds.length - 1) (ds[ds.length - 1]'(by omega)) (List.getElem?_eq_getElem _))).1
   omega
 generalize hb : h.ρ l = b at *
 let h' : Gh := { h with g := setG h.g b arr.size }
 have hkeep : Keep w h.g w h'.g := by
  refine ⟨fun k => ?_,fun k q hq => rfl⟩
  simp only [h',setG];split
  ·rename_i e;rw [e,c6];exact Nat.zero_le _
  ·exact Nat.le_refl _
 have gz' : GZ w h'.g := fun k hk => by
  have : k ≠ b := by omega
  simp only [h',setG,if_neg this];exact r.gz k hk
 have tr : Trans w0.O w h w h' (fun k => b = k) none false := by
  refine ⟨BelowS.refl _ _,fun k _ hk => ⟨rfl,?_⟩,hkeep,gz',fun k hk => ?_,fun _ _ => rfl,fun k _ => ⟨rfl,rfl⟩,fun k hk => by cases hk⟩
  ·have : k ≠ b := fun e => hk e.symm
   simp [h',setG,this]
  ·have : k ≠ b := fun e => hk (e ▸ c7)
   simp [h',setG,this]
 have ho : ∀ k L,k ≠ l → look A.locs k = some L → LocOK w0.O w h' k L ∧ inB h' k L = inB h k L := by
  intro k L k1 k2
  refine LocOK.trans tr (by simp) (fun hf => by cases hf) (fun b' hb' e => ?_) (r.locs k L k2)
  cases e
  exact r.sep k l L _ b k1 k2 hl hb' (by simp [inB,hb])
 have hself : LocOK w0.O w h' l (.fz e cs) := by
  refine ⟨arr,by rw [show h'.ρ l = b from hb];exact c7,by rw [show h'.ρ l = b from hb];exact c2,c5,by rw [show h'.ρ l = b from hb];simp [h',setG],fun i v x hvi hx => ?_⟩
  exact ⟨RelA.trans tr (fun hf => by cases hf) (c8 i v x hvi hx).1,(c8 i v x hvi hx).2⟩
 refine ⟨h',r.size,r.defers,fun t y hy => ?_,fun k L hk => ?_,fun k k' L L' b' h1 h2 h3 h4 => ?_,⟨r.ext.below,fun k hk => (tr.gB k hk).trans (r.ext.gam k hk),gz',r.ext.keep.trans hkeep⟩,r.pin⟩
 ·simp only [look] at hy
  split at hy
  ·rename_i e';subst e';cases hy
   obtain ⟨vs,us,ev,⟨l1,k1⟩,⟨l2,k2⟩⟩ := hv
   rw [ev]
   refine .fn f vs us _ _ (by simpa using l1) (by simpa using l2) (fun j v x hvj hx => ?_) (fun j v x _ hx => by simp at hx)
   match j,hx with
   |0,hx =>
    cases hx
    have e2 : v = .pointer (some ⟨h.ρ l,0,none⟩) := k1 0 v (.loc l 0) hvj rfl
    rw [e2,hb]
    refine .d _ _ (.bx b 0 ds (fun j => (arr[j]?).getD _root_.Go.undef) (fun j hj => ?_) (by simp [h',setG];exact hlen) (fun j x hx => ?_))
    ·rw [Nat.zero_add,x19 c2]
     simp [show j < arr.size by omega]
    ·have hj := (List.getElem?_eq_some_iff.1 hx).1
     have hja : arr[j]? = some arr[j] := by simp [show j < arr.size by omega]
     have h3 := (c8 j _ _ hja (hd j x hx)).1
     rw [hja]
     show RelD w h'.g arr[j] x
     revert h3
     generalize arr[j] = v
     intro h3
     cases h3 with
     | d _ _ h3 => exact h3.keep hkeep
   | j + 1,hx => simp at hx
  ·exact RelA.trans tr (fun hf => by cases hf) (r.fr t y hy)
 ·simp only [look] at hk
  split at hk
  ·rename_i e';subst e';cases hk;exact hself
  ·rename_i e'
   exact (ho k L (fun x => e' x.symm) hk).1
 ·have two : ∀ {k : Nat} {L : LV},look ((l,LV.fz e cs) :: A.locs) k = some L → inB h' k L b' → ∃ L0,look A.locs k = some L0 ∧ inB h k L0 b' := by
   intro k L hk hi
   simp only [look] at hk
   split at hk
   ·rename_i e';subst e';cases hk
    exact ⟨_,hl,hi⟩
   ·rename_i e'
    exact ⟨L,hk,by rw [← (ho k L (fun x => e' x.symm) hk).2];exact hi⟩
  intro hin
  obtain ⟨L0,g1,g2⟩ := two h2 h4
  obtain ⟨L1,g3,g4⟩ := two h3 hin
  exact r.sep k k' L0 L1 b' h1 g1 g3 g2 g4
end Go.Proofs.YtemcdefpihkfpaaGreat.AL
namespace Go.Proofs.YtemcdefpihkfpaaGreat
open Go.Proofs.YtemcdefpihkfpaaGreat.AL
def orI (p q : Int) : Int := if p = 0 then q else p
theorem OrI_c (p q : Int) : ACalls Tryz.prog 139 [.d (.sl 1 2 fun i => [[Dat.v (.int .i64 p)],[Dat.v (.int .i64 q)]].getD i [])] (· = [.d (.v (.int .i64 (orI p q)))]) := by
 unfold orI
 refine q12 Tryz.func139 rfl (by decide +kernel) (by rw [Tryz.ntmps139];simp) ?_;rw [Tryz.ntmps139];simp only [frOf]
 (repeat (first | apply j0 | refine z7 rfl ?_ | refine x7 rfl ?_ | apply j6 | (refine x5 fun K hK => ?_) | (refine x8 fun K hK => ?_) | ((first | apply j5 | apply x6 | ((first | refine j4 (hK _ ?_) | refine q9 (hK _ _ j8 ?_));clear hK K));(first | show AWP _ _ _ _ _ | ((try simp only [z8]);first | show loopQ _ _ _ _ _ _ | show cutQ _ _ _ _ | show AWP _ _ _ _ _))) | ((first | refine j7 [] rfl ?_ | refine q10 [] rfl ?_);simp (disch:=omega) only [go_sem,seval,hd,cb,ruleD];(repeat (first | refine ⟨by omega,?_⟩ | refine ⟨True.intro,?_⟩)))))
 refine j13 (fun i : {i : Nat // i ≤ 2 ∧ (0 < i → p = 0) ∧ (1 < i → q = 0)} => ⟨[(8,.p (.d (.v (.int .i64 (i.val : Int))))),(7,.p (.d (.v (.int .i64 2)))),(6,.p (.d (.sl 1 2 fun i => [[Dat.v (.int .i64 p)],[Dat.v (.int .i64 q)]].getD i []))),(3,.p (.d (.v (.int .i64 0))))],[]⟩) (fun s => 2 - s.val) ⟨0,by omega,fun h => by omega,fun h => by omega⟩ ?_ (fun s => ?_)
 ·refine Weak.list ?_ ?_;(all_goals simp (disch:=omega) only [AllF,AllL,q11,z11,j10,exists_eq_left',go_sem,seval,hd,cb,ruleD]);(all_goals (repeat' (with_reducible apply And.intro)));(all_goals try (first | exact q8 rfl | (refine x11 ?_;omega) | (refine q8 ?_;simp;done)))
 obtain ⟨i,h1,h2,h3⟩ := s
 simp only []
 rcases (by omega : i = 0 ∨ i = 1 ∨ i = 2) with rfl | rfl | rfl
 ·by_cases hp : p = 0
  ·have q1 : (p != 0) = false := x14 hp
   (repeat (first | apply j0 | refine z7 rfl ?_ | refine x7 rfl ?_ | apply j6 | (refine x5 fun K hK => ?_) | (refine x8 fun K hK => ?_) | ((first | apply j5 | apply x6 | ((first | refine j4 (hK _ ?_) | refine q9 (hK _ _ j8 ?_));clear hK K));(first | show AWP _ _ _ _ _ | ((try simp only [z8]);first | show loopQ _ _ _ _ _ _ | show cutQ _ _ _ _ | show AWP _ _ _ _ _))) | ((first | refine j7 [] rfl ?_ | refine q10 [] rfl ?_);simp (disch:=omega) only [go_sem,seval,hd,cb,ruleD,q1];(repeat (first | refine ⟨by omega,?_⟩ | refine ⟨True.intro,?_⟩)))))
   refine ⟨⟨1,by omega,fun _ => hp,fun h => by omega⟩,by simp only [];omega,?_⟩
   refine Weak.list ?_ ?_;(all_goals simp (disch:=omega) only [AllF,AllL,q11,z11,j10,exists_eq_left',go_sem,seval,hd,cb,ruleD,q1]);(all_goals (repeat' (with_reducible apply And.intro)));(all_goals try (first | exact q8 rfl | (refine x11 ?_;omega) | (refine q8 ?_;simp;done)))
  ·have q1 : (p != 0) = true := q14 hp
   rw [if_neg hp]
   (repeat (first | apply j0 | refine z7 rfl ?_ | refine x7 rfl ?_ | apply j6 | (refine x5 fun K hK => ?_) | (refine x8 fun K hK => ?_) | ((first | apply j5 | apply x6 | ((first | refine j4 (hK _ ?_) | refine q9 (hK _ _ j8 ?_));clear hK K));(first | show AWP _ _ _ _ _ | ((try simp only [z8]);first | show loopQ _ _ _ _ _ _ | show cutQ _ _ _ _ | show AWP _ _ _ _ _))) | ((first | refine j7 [] rfl ?_ | refine q10 [] rfl ?_);simp (disch:=omega) only [go_sem,seval,hd,cb,ruleD,q1];(repeat (first | refine ⟨by omega,?_⟩ | refine ⟨True.intro,?_⟩)))))
   refine j9 ⟨_,?_,rfl⟩;rw [Tryz.results139];simp (disch:=omega) only [ResVars,ResVar,ptrLoc,go_sem,seval,hd,cb,ruleD,q1]
 ·rw [if_pos (h2 (by omega))]
  by_cases hp : q = 0
  ·have q1 : (q != 0) = false := x14 hp
   (repeat (first | apply j0 | refine z7 rfl ?_ | refine x7 rfl ?_ | apply j6 | (refine x5 fun K hK => ?_) | (refine x8 fun K hK => ?_) | ((first | apply j5 | apply x6 | ((first | refine j4 (hK _ ?_) | refine q9 (hK _ _ j8 ?_));clear hK K));(first | show AWP _ _ _ _ _ | ((try simp only [z8]);first | show loopQ _ _ _ _ _ _ | show cutQ _ _ _ _ | show AWP _ _ _ _ _))) | ((first | refine j7 [] rfl ?_ | refine q10 [] rfl ?_);simp (disch:=omega) only [go_sem,seval,hd,cb,ruleD,q1];(repeat (first | refine ⟨by omega,?_⟩ | refine ⟨True.intro,?_⟩)))))
   refine ⟨⟨2,by omega,fun _ => h2 (by omega),fun h => hp⟩,by simp only [];omega,?_⟩
   refine Weak.list ?_ ?_;(all_goals simp (disch:=omega) only [AllF,AllL,q11,z11,j10,exists_eq_left',go_sem,seval,hd,cb,ruleD,q1]);(all_goals (repeat' (with_reducible apply And.intro)));(all_goals try (first | exact q8 rfl | (refine x11 ?_;omega) | (refine q8 ?_;simp;done)))
  ·have q1 : (q != 0) = true := q14 hp
   (repeat (first | apply j0 | refine z7 rfl ?_ | refine x7 rfl ?_ | apply j6 | (refine x5 fun K hK => ?_) | (refine x8 fun K hK => ?_) | ((first | apply j5 | apply x6 | ((first | refine j4 (hK _ ?_) | refine q9 (hK _ _ j8 ?_));clear hK K));(first | show AWP _ _ _ _ _ | ((try simp only [z8]);first | show loopQ _ _ _ _ _ _ | show cutQ _ _ _ _ | show AWP _ _ _ _ _))) | ((first | refine j7 [] rfl ?_ | refine q10 [] rfl ?_);simp (disch:=omega) only [go_sem,seval,hd,cb,ruleD,q1];(repeat (first | refine ⟨by omega,?_⟩ | refine ⟨True.intro,?_⟩)))))
   refine j9 ⟨_,?_,rfl⟩;rw [Tryz.results139];simp (disch:=omega) only [ResVars,ResVar,ptrLoc,go_sem,seval,hd,cb,ruleD,q1]
 ·rw [if_pos (h2 (by omega))]
  have hq := h3 (by omega)
  subst hq
  (repeat (first | apply j0 | refine z7 rfl ?_ | refine x7 rfl ?_ | apply j6 | (refine x5 fun K hK => ?_) | (refine x8 fun K hK => ?_) | ((first | apply j5 | apply x6 | ((first | refine j4 (hK _ ?_) | refine q9 (hK _ _ j8 ?_));clear hK K));(first | show AWP _ _ _ _ _ | ((try simp only [z8]);first | show loopQ _ _ _ _ _ _ | show cutQ _ _ _ _ | show AWP _ _ _ _ _))) | ((first | refine j7 [] rfl ?_ | refine q10 [] rfl ?_);simp (disch:=omega) only [go_sem,seval,hd,cb,ruleD];(repeat (first | refine ⟨by omega,?_⟩ | refine ⟨True.intro,?_⟩)))))
  refine j9 ⟨_,?_,rfl⟩;rw [Tryz.results139];simp (disch:=omega) only [ResVars,ResVar,ptrLoc,go_sem,seval,hd,cb,ruleD]
def cmpO (l : List Rule) (a b : Nat) : Int := orI (cmpI (l.getD b r0).pr (l.getD a r0).pr) (cmpI (a : Int) (b : Int))
def ordO (l : List Rule) : PV := .d (.bx [.sl 12 l.length (rowR l)])
theorem z171 (l : List Rule) (a b : Nat) (ha : a < l.length) (hb : b < l.length) (hl : l.length ≤ 1099511627776) : ACalls Tryz.prog 137 [ordO l,.d (.v (.int .i64 (a : Int))),.d (.v (.int .i64 (b : Int)))] (· = [.d (.v (.int .i64 (cmpO l a b)))]) := by
 have r1 := x21 l a
 have r2 := x21 l b
 unfold cmpO ordO
 generalize l.getD a r0 = x at r1
 generalize l.getD b r0 = y at r2
 have k1 := j58 y.pr x.pr
 have k2 := j58 (a : Int) (b : Int)
 generalize cmpI y.pr x.pr = c1 at k1
 generalize cmpI (a : Int) (b : Int) = c2 at k2
 have k3 := OrI_c c1 c2
 refine q12 Tryz.func137 rfl (by decide +kernel) (by rw [Tryz.ntmps137];simp) ?_;rw [Tryz.ntmps137];simp only [frOf]
 (repeat (first | apply j0 | refine z7 rfl ?_ | refine x7 rfl ?_ | apply j6 | (refine x5 fun K hK => ?_) | (refine x8 fun K hK => ?_) | ((first | apply j5 | apply x6 | ((first | refine j4 (hK _ ?_) | refine q9 (hK _ _ j8 ?_));clear hK K));show AWP _ _ _ _ _) | ((first | refine x10 rfl rfl rfl ?_ | refine q13 rfl rfl rfl ?_);simp (disch:=omega) only [go_sem,seval,hd,cb,ruleD,r1,r2];(first | refine ⟨_,k1,?_⟩ | refine ⟨_,k2,?_⟩ | refine ⟨_,k3,?_⟩)) | ((first | refine j7 [] rfl ?_ | refine q10 [] rfl ?_);simp (disch:=omega) only [go_sem,seval,hd,cb,ruleD,r1,r2];(repeat (first | refine ⟨by omega,?_⟩ | refine ⟨True.intro,?_⟩)))))
 refine j9 ⟨_,?_,rfl⟩;rw [Tryz.results137];simp (disch:=omega) only [ResVars,ResVar,ptrLoc,go_sem,seval,hd,cb,ruleD,r1,r2]
theorem cmpO_lt {l : List Rule} {a b : Nat} : cmpO l a b < 0 ↔ ltR l a b := by
 unfold cmpO orI cmpI ltR
 generalize (l.getD b r0).pr = x
 generalize (l.getD a r0).pr = y
 by_cases h1 : x < y
 ·rw [if_pos h1,if_neg (by omega)];exact ⟨fun _ => .inl h1,fun _ => by omega⟩
 ·rw [if_neg h1]
  by_cases h2 : y < x
  ·rw [if_pos h2,if_neg (by omega)];omega
  ·rw [if_neg h2,if_pos rfl]
   by_cases h3 : a < b
   ·rw [if_pos (by omega)];omega
   ·rw [if_neg (by omega)]
    split <;> omega
theorem cmpN_O (l : List Rule) (hl : l.length ≤ 1099511627776) : CmpN Tryz.prog 137 (ordO l) l.length (keyO l) (cmpO l) where
 call p q hp hq := z171 l p q hp hq hl
 lt p q hp hq := cmpO_lt.trans (z45 hp hq).symm
 inj p q hp hq := q45 hp hq
def lookI (l : List Rule) (k : Fin (l.length + 1)) : ASt :=
 ⟨[(10,.p (.d (.v (.int .i64 (k.val : Int))))),(9,.p (.d (.v (.int .i64 (l.length : Int))))),(3,.loc 7 0),(0,.p (.d (.sl 12 l.length (rowR l))))],
  [(7,.cells 189 [.p (.d (.sl 12 l.length (rowR l))),.ow 5 k.val 1 k.val]),(5,.own 3 1 k.val k.val (rowN id))]⟩
theorem catN_id (k : Nat) (i : Nat) (hi : i < k + 1) : catF k (rowN id) (fun i => [[Dat.v (.int .i64 (k : Int))]].getD i []) i = rowN id i := by
 unfold catF
 split
 ·rfl
 ·have : i = k := by omega
  subst this
  rw [Nat.sub_self];rfl
set_option maxRecDepth 100000 in
theorem Look_c (l : List Rule) (hl : l.length ≤ 1099511627776) : ACalls Tryz.prog 99 [.d (.sl 12 l.length (rowR l))] (· = [.d (.sl 1 l.length (rowI (orderR l)))]) := by
 have hc := cmpN_O l hl
 unfold ordO at hc
 have d0 : Dom l.length l.length id := ⟨fun k hk => hk,by unfold seg;simp [List.nodup_range']⟩
 refine q12 Tryz.func99 rfl (by decide +kernel) (by rw [Tryz.ntmps99];simp) ?_;rw [Tryz.ntmps99];simp only [frOf]
 (repeat (first | apply j0 | refine z7 rfl ?_ | refine x7 rfl ?_ | apply j6 | (refine x5 fun K hK => ?_) | (refine x8 fun K hK => ?_) | ((first | apply j5 | apply x6 | ((first | refine j4 (hK _ ?_) | refine q9 (hK _ _ j8 ?_));clear hK K));(first | show AWP _ _ _ _ _ | ((try simp only [z8]);first | show loopQ _ _ _ _ _ _ | show cutQ _ _ _ _ | show AWP _ _ _ _ _))) | ((first | refine j7 [7] rfl ?_ | refine q10 [7] rfl ?_);simp (disch:=omega) only [go_sem,seval,hd,cb,ruleD];(repeat (first | refine ⟨by omega,?_⟩ | refine ⟨True.intro,?_⟩)))))
 refine q171 7 5 1 1 3 (rowN id) rfl rfl (by omega) (by kernel_rfl) rfl ?_
 refine j13 (lookI l) (fun s => l.length - s.val) ⟨0,by omega⟩ ?_ (fun s => ?_)
 ·unfold lookI
  refine Weak.list ?_ ?_;(all_goals simp (disch:=omega) only [AllF,AllL,q11,z11,j10,exists_eq_left',go_sem,seval,hd,cb,ruleD]);(all_goals (repeat' (with_reducible apply And.intro)));(all_goals try (first | exact q8 rfl | (refine x11 ?_;omega) | (refine q8 ?_;simp;done)))
  exact of_eq_true (j10 _)
 obtain ⟨k,hk⟩ := s
 unfold lookI
 by_cases h : k < l.length
 ·(repeat (first | apply j0 | refine z7 rfl ?_ | refine x7 rfl ?_ | apply j6 | (refine x5 fun K hK => ?_) | (refine x8 fun K hK => ?_) | ((first | apply j5 | apply x6 | ((first | refine j4 (hK _ ?_) | refine q9 (hK _ _ j8 ?_));clear hK K));(first | show AWP _ _ _ _ _ | ((try simp only [z8]);first | show loopQ _ _ _ _ _ _ | show cutQ _ _ _ _ | show AWP _ _ _ _ _))) | ((first | refine j7 [7] rfl ?_ | refine q10 [7] rfl ?_);simp (disch:=omega) only [go_sem,seval,hd,cb,ruleD];(repeat (first | refine ⟨by omega,?_⟩ | refine ⟨True.intro,?_⟩)))))
  refine ⟨⟨k + 1,by omega⟩,by simp only [];omega,?_⟩
  refine Weak.list ?_ ?_;(all_goals simp (disch:=omega) only [AllF,AllL,q11,z11,j10,exists_eq_left',go_sem,seval,hd,cb,ruleD]);(all_goals (repeat' (with_reducible apply And.intro)));(all_goals try (first | exact q8 rfl | (refine x11 ?_;omega) | (refine q8 ?_;simp;done)))
  exact z20 rfl rfl (fun i hi => catN_id k i hi)
 ·have : k = l.length := by omega
  subst this
  (repeat (first | apply j0 | refine z7 rfl ?_ | refine x7 rfl ?_ | apply j6 | (refine x5 fun K hK => ?_) | (refine x8 fun K hK => ?_) | ((first | apply j5 | apply x6 | ((first | refine j4 (hK _ ?_) | refine q9 (hK _ _ j8 ?_));clear hK K));(first | show AWP _ _ _ _ _ | ((try simp only [z8]);first | show loopQ _ _ _ _ _ _ | show cutQ _ _ _ _ | show AWP _ _ _ _ _))) | ((first | refine j7 [7] rfl ?_ | refine q10 [7] rfl ?_);simp (disch:=omega) only [go_sem,seval,hd,cb,ruleD];(repeat (first | refine ⟨by omega,?_⟩ | refine ⟨True.intro,?_⟩)))))
  refine q94 (Weak.frz _ 29 7 (.func 137) 189 _ [.sl 12 l.length (rowR l)] rfl rfl (fun j d hd => ?_)) ?_
  ·match j,hd with
   | 0,hd => cases hd;rfl
   | j + 1,hd => simp at hd
  (refine z18 (x17 [(1000,5)] rfl rfl rfl rfl rfl rfl (x106 hc id l.length l.length hl d0) (fun _ => rfl) (q15 (by repeat (first | exact trivial | refine ⟨rfl,?_⟩)) (by kernel_rfl)) (fun _ => (q15 (by repeat (first | exact trivial | refine ⟨rfl,?_⟩)) (by kernel_rfl)))) ?_);rintro ⟨y,hy,hy2⟩;simp (disch:=omega) only [go_sem,seval,hd,cb,ruleD]
  (repeat (first | apply j0 | refine z7 rfl ?_ | refine x7 rfl ?_ | apply j6 | (refine x5 fun K hK => ?_) | (refine x8 fun K hK => ?_) | ((first | apply j5 | apply x6 | ((first | refine j4 (hK _ ?_) | refine q9 (hK _ _ j8 ?_));clear hK K));(first | show AWP _ _ _ _ _ | ((try simp only [z8]);first | show loopQ _ _ _ _ _ _ | show cutQ _ _ _ _ | show AWP _ _ _ _ _))) | ((first | refine j7 [7] rfl ?_ | refine q10 [7] rfl ?_);simp (disch:=omega) only [go_sem,seval,hd,cb,ruleD];(repeat (first | refine ⟨by omega,?_⟩ | refine ⟨True.intro,?_⟩)))))
  refine q95 2 5 l.length 1 l.length 3 _ rfl rfl ?_
  refine q17 2 _ (.p (.d (.sl 1 l.length (rowI (orderR l))))) rfl (le_sl rfl fun i hi => ?_) ?_
  ·unfold rowN rowI
   rw [z167 hy hy2 i hi]
  refine j9 ⟨_,?_,rfl⟩;rw [Tryz.results99];simp (disch:=omega) only [ResVars,ResVar,ptrLoc,go_sem,seval,hd,cb,ruleD]
end Go.Proofs.YtemcdefpihkfpaaGreat
