/- Part 6 of a proof: lemmas beneath the theorem that the last text bears. Conditions: none. -/
import Derived.Test.YtemcdefpihkfpaaGreatKSlimRunse
set_option maxHeartbeats 64000000
set_option linter.unusedSimpArgs false
set_option linter.unusedVariables false
namespace Go.Proofs.YtemcdefpihkfpaaGreat
open Go.Proofs.YtemcdefpihkfpaaGreat.AL
def errF (f : Nat → Int) : Nat → Nat → Int
 | 0,_ => 0
 | m + 1,i => if f i = 0 then errF f m (i + 1) else f i
theorem x117 {f : Nat → Int} {n i : Nat} (h : i < n) : errF f (n - i) i = if f i = 0 then errF f (n - (i + 1)) (i + 1) else f i := by
 rw [show n - i = (n - (i + 1)) + 1 by omega];rfl
theorem j117 {f : Nat → Int} {n i : Nat} (h : n ≤ i) : errF f (n - i) i = 0 := by
 rw [show n - i = 0 by omega];rfl
def polE (c : Config) : Int := if sizesC c = false then 4 else if policyC c = false then 2 else 0
def tabE (c : Config) (i : Nat) : Int := soundTab (c.tb.getD i []) (c.tp.getD i [])
def soundC (c : Config) : Int := if soundT c.tp ≠ 0 then soundT c.tp else if polE c ≠ 0 then polE c else if c.tb.length ≠ c.tp.length then 4 else errF (tabE c) c.tb.length 0
def soundCI (c : Config) (R : Int) (s : {i : Nat // i ≤ c.tb.length ∧ errF (tabE c) (c.tb.length - i) i = R}) : ASt :=
 ⟨[(33,.p (.d (.v (.int .i64 (s.val : Int))))),(32,.p (.d (.v (.int .i64 (c.tb.length : Int))))),(31,.p (.d (.sl 1 c.tb.length (rowTT c.tb)))),(1,.p (.d (.bx (configD c))))],[]⟩
set_option maxRecDepth 100000 in
theorem q189 (c : Config) (hc : c.small) : ACalls Tryz.prog 77 [.agg (configD c)] (· = [.d (.v (.int .i64 (soundC c)))]) := by
 have s1 := x161 c.tp hc.tp
 have s2 := sizes_c c hc
 have s3 := q164 c hc
 have htp := hc.tp
 have hat := hc.at
 have hb := hc.tb
 have hb2 := hc.tp.1
 unfold soundC polE
 simp only [topoD] at s1
 simp only [configD] at s2 s3
 generalize soundT c.tp = e1 at s1
 generalize sizesC c = b2 at s2
 generalize policyC c = b3 at s3
 by_cases h1 : e1 = 0
 ·subst h1
  rw [if_neg (by decide)]
  cases b2
  ·simp only [if_true]
   rw [if_pos (by decide)]
   refine q12 Tryz.func77 rfl (by decide +kernel) (by rw [Tryz.ntmps77];simp) ?_;rw [Tryz.ntmps77];simp only [frOf]
   (repeat (first | apply j0 | refine z7 rfl ?_ | refine x7 rfl ?_ | apply j6 | (refine x5 fun K hK => ?_) | ((first | apply j5 | apply x6 | (refine j4 (hK _ ?_);clear hK K));(first | show AWP _ _ _ _ _ | ((try simp only [z8]);first | show loopQ _ _ _ _ _ _ | show AWP _ _ _ _ _))) | (refine x10 rfl rfl rfl ?_;simp (disch:=omega) only [go_sem,seval,policyD,wayD,pairD,spotD,topoD,configD,z12];(first | refine ⟨_,s1,?_⟩ | refine ⟨_,s2,?_⟩ | refine ⟨_,s3,?_⟩)) | (refine j7 [] rfl ?_;simp (disch:=omega) only [go_sem,seval,policyD,wayD,pairD,spotD,topoD,configD,z12];(repeat refine ⟨by omega,?_⟩))))
   refine j9 ⟨_,?_,rfl⟩;rw [Tryz.results77];simp (disch:=omega) only [ResVars,ResVar,ptrLoc,go_sem,seval,policyD,wayD,pairD,spotD,topoD,configD,z12]
  ·cases b3
   ·simp only [if_true,Bool.true_eq_false,if_false]
    rw [if_pos (by decide)]
    refine q12 Tryz.func77 rfl (by decide +kernel) (by rw [Tryz.ntmps77];simp) ?_;rw [Tryz.ntmps77];simp only [frOf]
    (repeat (first | apply j0 | refine z7 rfl ?_ | refine x7 rfl ?_ | apply j6 | (refine x5 fun K hK => ?_) | ((first | apply j5 | apply x6 | (refine j4 (hK _ ?_);clear hK K));(first | show AWP _ _ _ _ _ | ((try simp only [z8]);first | show loopQ _ _ _ _ _ _ | show AWP _ _ _ _ _))) | (refine x10 rfl rfl rfl ?_;simp (disch:=omega) only [go_sem,seval,policyD,wayD,pairD,spotD,topoD,configD,z12];(first | refine ⟨_,s1,?_⟩ | refine ⟨_,s2,?_⟩ | refine ⟨_,s3,?_⟩)) | (refine j7 [] rfl ?_;simp (disch:=omega) only [go_sem,seval,policyD,wayD,pairD,spotD,topoD,configD,z12];(repeat refine ⟨by omega,?_⟩))))
    refine j9 ⟨_,?_,rfl⟩;rw [Tryz.results77];simp (disch:=omega) only [ResVars,ResVar,ptrLoc,go_sem,seval,policyD,wayD,pairD,spotD,topoD,configD,z12]
   ·simp only [if_true,Bool.true_eq_false,if_false]
    rw [if_neg (by decide)]
    by_cases h4 : c.tb.length = c.tp.length
    ·rw [if_neg (by omega)]
     have q : ((c.tb.length : Int) != (c.tp.length : Int)) = false := x14 (by omega)
     generalize hR : errF (tabE c) c.tb.length 0 = R
     refine q12 Tryz.func77 rfl (by decide +kernel) (by rw [Tryz.ntmps77];simp) ?_;rw [Tryz.ntmps77];simp only [frOf]
     (repeat (first | apply j0 | refine z7 rfl ?_ | refine x7 rfl ?_ | apply j6 | (refine x5 fun K hK => ?_) | ((first | apply j5 | apply x6 | (refine j4 (hK _ ?_);clear hK K));(first | show AWP _ _ _ _ _ | ((try simp only [z8]);first | show loopQ _ _ _ _ _ _ | show AWP _ _ _ _ _))) | (refine x10 rfl rfl rfl ?_;simp (disch:=omega) only [go_sem,seval,policyD,wayD,pairD,spotD,topoD,configD,z12,q];(first | refine ⟨_,s1,?_⟩ | refine ⟨_,s2,?_⟩ | refine ⟨_,s3,?_⟩)) | (refine j7 [] rfl ?_;simp (disch:=omega) only [go_sem,seval,policyD,wayD,pairD,spotD,topoD,configD,z12,q];(repeat refine ⟨by omega,?_⟩))))
     refine j13 (soundCI c R) (fun s => c.tb.length - s.val) ⟨0,Nat.zero_le _,hR⟩ ?_ (fun s => ?_)
     ·unfold soundCI
      refine Weak.list ?_ ?_;(all_goals simp (disch:=omega) only [AllF,AllL,q11,z11,j10,exists_eq_left',go_sem,seval,policyD,wayD,pairD,spotD,topoD,configD,z12]);(all_goals (repeat' (with_reducible apply And.intro)));(all_goals try (first | exact q8 rfl | (refine x11 ?_;omega) | (refine q8 ?_;simp;done)))
     obtain ⟨i,hi,hr⟩ := s
     unfold soundCI
     simp only [] at hi hr ⊢
     by_cases h : i < c.tb.length
     ·rw [x117 h] at hr
      have r1 := q38 c.tb i
      have r2 := x20 c.tp i
      have ct := z163 (c.tb.getD i []) (c.tp.getD i []) (hat i) (q21 htp i)
      have hte : tabE c i = soundTab (c.tb.getD i []) (c.tp.getD i []) := rfl
      rw [hte] at hr
      have l1 := q21 htp i
      have l2 := (hat i).1
      generalize soundTab (c.tb.getD i []) (c.tp.getD i []) = e at hr ct
      generalize c.tb.getD i [] = ts at r1 ct l2
      generalize c.tp.getD i [] = ps at r2 ct l1
      by_cases he : e = 0
      ·subst he
       rw [if_pos rfl] at hr
       (repeat (first | apply j0 | refine z7 rfl ?_ | refine x7 rfl ?_ | apply j6 | (refine x5 fun K hK => ?_) | ((first | apply j5 | apply x6 | (refine j4 (hK _ ?_);clear hK K));(first | show AWP _ _ _ _ _ | ((try simp only [z8]);first | show loopQ _ _ _ _ _ _ | show AWP _ _ _ _ _))) | (refine x10 rfl rfl rfl ?_;simp (disch:=omega) only [go_sem,seval,policyD,wayD,pairD,spotD,topoD,configD,z12,r1,r2];(first | refine ⟨_,ct,?_⟩)) | (refine j7 [] rfl ?_;simp (disch:=omega) only [go_sem,seval,policyD,wayD,pairD,spotD,topoD,configD,z12,r1,r2];(repeat refine ⟨by omega,?_⟩))))
       refine ⟨⟨i + 1,by omega,hr⟩,by simp only [];omega,?_⟩
       refine Weak.list ?_ ?_;(all_goals simp (disch:=omega) only [AllF,AllL,q11,z11,j10,exists_eq_left',go_sem,seval,policyD,wayD,pairD,spotD,topoD,configD,z12,r1,r2]);(all_goals (repeat' (with_reducible apply And.intro)));(all_goals try (first | exact q8 rfl | (refine x11 ?_;omega) | (refine q8 ?_;simp;done)))
      ·rw [if_neg he] at hr
       have q2 : (e != 0) = true := q14 he
       subst hr
       (repeat (first | apply j0 | refine z7 rfl ?_ | refine x7 rfl ?_ | apply j6 | (refine x5 fun K hK => ?_) | ((first | apply j5 | apply x6 | (refine j4 (hK _ ?_);clear hK K));(first | show AWP _ _ _ _ _ | ((try simp only [z8]);first | show loopQ _ _ _ _ _ _ | show AWP _ _ _ _ _))) | (refine x10 rfl rfl rfl ?_;simp (disch:=omega) only [go_sem,seval,policyD,wayD,pairD,spotD,topoD,configD,z12,r1,r2,q2];(first | refine ⟨_,ct,?_⟩)) | (refine j7 [] rfl ?_;simp (disch:=omega) only [go_sem,seval,policyD,wayD,pairD,spotD,topoD,configD,z12,r1,r2,q2];(repeat refine ⟨by omega,?_⟩))))
       refine j9 ⟨_,?_,rfl⟩;rw [Tryz.results77];simp (disch:=omega) only [ResVars,ResVar,ptrLoc,go_sem,seval,policyD,wayD,pairD,spotD,topoD,configD,z12,r1,r2,q2]
     ·rw [j117 (show c.tb.length ≤ i by omega)] at hr
      subst hr
      (repeat (first | apply j0 | refine z7 rfl ?_ | refine x7 rfl ?_ | apply j6 | (refine x5 fun K hK => ?_) | ((first | apply j5 | apply x6 | (refine j4 (hK _ ?_);clear hK K));(first | show AWP _ _ _ _ _ | ((try simp only [z8]);first | show loopQ _ _ _ _ _ _ | show AWP _ _ _ _ _))) | (refine j7 [] rfl ?_;simp (disch:=omega) only [go_sem,seval,policyD,wayD,pairD,spotD,topoD,configD,z12];(repeat refine ⟨by omega,?_⟩))))
      refine j9 ⟨_,?_,rfl⟩;rw [Tryz.results77];simp (disch:=omega) only [ResVars,ResVar,ptrLoc,go_sem,seval,policyD,wayD,pairD,spotD,topoD,configD,z12]
    ·rw [if_pos h4]
     have q : ((c.tb.length : Int) != (c.tp.length : Int)) = true := q14 (by omega)
     refine q12 Tryz.func77 rfl (by decide +kernel) (by rw [Tryz.ntmps77];simp) ?_;rw [Tryz.ntmps77];simp only [frOf]
     (repeat (first | apply j0 | refine z7 rfl ?_ | refine x7 rfl ?_ | apply j6 | (refine x5 fun K hK => ?_) | ((first | apply j5 | apply x6 | (refine j4 (hK _ ?_);clear hK K));(first | show AWP _ _ _ _ _ | ((try simp only [z8]);first | show loopQ _ _ _ _ _ _ | show AWP _ _ _ _ _))) | (refine x10 rfl rfl rfl ?_;simp (disch:=omega) only [go_sem,seval,policyD,wayD,pairD,spotD,topoD,configD,z12,q];(first | refine ⟨_,s1,?_⟩ | refine ⟨_,s2,?_⟩ | refine ⟨_,s3,?_⟩)) | (refine j7 [] rfl ?_;simp (disch:=omega) only [go_sem,seval,policyD,wayD,pairD,spotD,topoD,configD,z12,q];(repeat refine ⟨by omega,?_⟩))))
     refine j9 ⟨_,?_,rfl⟩;rw [Tryz.results77];simp (disch:=omega) only [ResVars,ResVar,ptrLoc,go_sem,seval,policyD,wayD,pairD,spotD,topoD,configD,z12,q]
 ·rw [if_pos h1]
  have q : (e1 != 0) = true := q14 h1
  refine q12 Tryz.func77 rfl (by decide +kernel) (by rw [Tryz.ntmps77];simp) ?_;rw [Tryz.ntmps77];simp only [frOf]
  (repeat (first | apply j0 | refine z7 rfl ?_ | refine x7 rfl ?_ | apply j6 | (refine x5 fun K hK => ?_) | ((first | apply j5 | apply x6 | (refine j4 (hK _ ?_);clear hK K));(first | show AWP _ _ _ _ _ | ((try simp only [z8]);first | show loopQ _ _ _ _ _ _ | show AWP _ _ _ _ _))) | (refine x10 rfl rfl rfl ?_;simp (disch:=omega) only [go_sem,seval,policyD,wayD,pairD,spotD,topoD,configD,z12,q];(first | refine ⟨_,s1,?_⟩)) | (refine j7 [] rfl ?_;simp (disch:=omega) only [go_sem,seval,policyD,wayD,pairD,spotD,topoD,configD,z12,q];(repeat refine ⟨by omega,?_⟩))))
  refine j9 ⟨_,?_,rfl⟩;rw [Tryz.results77];simp (disch:=omega) only [ResVars,ResVar,ptrLoc,go_sem,seval,policyD,wayD,pairD,spotD,topoD,configD,z12,q]
def polRI (c : Config) (l : List Spot) (R : Int) (s : {i : Nat // i ≤ l.length ∧ (if allF (edgeOk c) l.length i = false then 4 else if policyC c = false then 2 else 0) = R}) : ASt :=
 ⟨[(6,.p (.d (.v (.int .i64 (s.val : Int))))),(5,.p (.d (.sl 2 l.length (rowS l)))),(3,.p (.d (.bx (policyD c.po)))),(2,.p (.d (.bx (topoD c.tp))))],[]⟩
def polRJ (c : Config) (R : Int) (s : {i : Nat // i ≤ c.po.peers.length ∧ (if (allF (pairOk c) c.po.peers.length i && allF (wayOk c) c.po.ways.length 0) = false then 2 else 0) = R}) : ASt :=
 ⟨[(7,.p (.d (.v (.int .i64 (s.val : Int))))),(3,.p (.d (.bx (policyD c.po)))),(2,.p (.d (.bx (topoD c.tp))))],[]⟩
def polRK (c : Config) (R : Int) (s : {i : Nat // i ≤ c.po.ways.length ∧ (if allF (wayOk c) c.po.ways.length i = false then 2 else 0) = R}) : ASt :=
 ⟨[(8,.p (.d (.v (.int .i64 (s.val : Int))))),(3,.p (.d (.bx (policyD c.po)))),(2,.p (.d (.bx (topoD c.tp))))],[]⟩
set_option maxRecDepth 100000 in
theorem z189 (c : Config) (hc : c.small) : ACalls Tryz.prog 80 [.agg (topoD c.tp),.agg (policyD c.po)] (· = [.d (.v (.int .i64 (polE c)))]) := by
 have hl1 := hc.po.1
 have hl2 := hc.po.2
 have ed := z162 c.tp hc.tp
 have eb := j33 hc.tp c.tp.length
 have et := hc.tp.1
 have htp := hc.tp
 rw [show edgesTo c.tp c.tp.length = edgesT c.tp from rfl] at eb
 unfold polE sizesC
 simp only [topoD] at ed
 rcases q103 c.po.tn c.po.peers.length c.po.ways.length with h1 | ⟨h1,h2⟩ | ⟨h1,h2,h3⟩ | ⟨h1,h2,h3,h4⟩ | ⟨h1,h2,h3,h4⟩
 case' inr.inr.inr.inr =>
  rw [show (if c.po.tn < 1 ∨ 4 < c.po.tn ∨ 16 < c.po.peers.length ∨ 4 < c.po.ways.length then false else sizesB c) = sizesB c from if_neg (by omega)]
  unfold sizesB
  have hok : ∀ i,edgeOk c i = tenantP c.po (edgeT c.tp ((edgesT c.tp).getD i s0)) := fun i => rfl
  generalize edgesT c.tp = l at ed eb hok
  generalize hR : (if allF (edgeOk c) l.length 0 = false then (4 : Int) else if policyC c = false then 2 else 0) = R
  refine q12 Tryz.func80 rfl (by decide +kernel) (by rw [Tryz.ntmps80];simp) ?_;rw [Tryz.ntmps80];simp only [frOf]
  (repeat (first | apply j0 | refine z7 rfl ?_ | refine x7 rfl ?_ | apply j6 | (refine x5 fun K hK => ?_) | (refine x8 fun K hK => ?_) | ((first | apply j5 | apply x6 | ((first | refine j4 (hK _ ?_) | refine q9 (hK _ _ j8 ?_));clear hK K));(first | show AWP _ _ _ _ _ | ((try simp only [z8]);first | show loopQ _ _ _ _ _ _ | show cutQ _ _ _ _ | show AWP _ _ _ _ _))) | ((first | refine x10 rfl rfl rfl ?_ | refine q13 rfl rfl rfl ?_);simp (disch:=omega) only [go_sem,seval,policyD,wayD,pairD,spotD,topoD,configD,z12];(first | refine ⟨_,ed,?_⟩)) | ((first | refine j7 [] rfl ?_ | refine q10 [] rfl ?_);simp (disch:=omega) only [go_sem,seval,policyD,wayD,pairD,spotD,topoD,configD,z12];(repeat (first | refine ⟨by omega,?_⟩ | refine ⟨True.intro,?_⟩)))))
  refine j13 (polRI c l R) (fun s => l.length - s.val) ⟨0,Nat.zero_le _,hR⟩ ?_ (fun s => ?_)
  ·unfold polRI
   refine Weak.list ?_ ?_;(all_goals simp (disch:=omega) only [AllF,AllL,q11,z11,j10,exists_eq_left',go_sem,seval,policyD,wayD,pairD,spotD,topoD,configD,z12]);(all_goals (repeat' (with_reducible apply And.intro)));(all_goals try (first | exact q8 rfl | (refine x11 ?_;omega) | (refine q8 ?_;simp;done)))
  clear hR
  obtain ⟨i,hi,hr⟩ := s
  unfold polRI
  simp only [] at hi hr ⊢
  by_cases h : i < l.length
  ·rw [x18 h,hok] at hr
   have r1 := z102 l i
   generalize l.getD i s0 = x at r1 hr
   have ce := j73 c.tp x htp
   generalize edgeT c.tp x = e at ce hr
   have ct := j43 c.po e
   obtain ⟨x1,x2⟩ := x
   simp only [spotD] at r1 ce
   simp only [topoD] at ce
   simp only [policyD] at ct
   generalize tenantP c.po e = b at hr ct
   cases b
   ·rw [Bool.false_and,if_pos rfl] at hr
    subst hr
    (repeat (first | apply j0 | refine z7 rfl ?_ | refine x7 rfl ?_ | apply j6 | (refine x5 fun K hK => ?_) | (refine x8 fun K hK => ?_) | ((first | apply j5 | apply x6 | ((first | refine j4 (hK _ ?_) | refine q9 (hK _ _ j8 ?_));clear hK K));(first | show AWP _ _ _ _ _ | ((try simp only [z8]);first | show loopQ _ _ _ _ _ _ | show cutQ _ _ _ _ | show AWP _ _ _ _ _))) | ((first | refine x10 rfl rfl rfl ?_ | refine q13 rfl rfl rfl ?_);simp (disch:=omega) only [go_sem,seval,policyD,wayD,pairD,spotD,topoD,configD,z12,r1];(first | refine ⟨_,ce,?_⟩ | refine ⟨_,ct,?_⟩)) | ((first | refine j7 [] rfl ?_ | refine q10 [] rfl ?_);simp (disch:=omega) only [go_sem,seval,policyD,wayD,pairD,spotD,topoD,configD,z12,r1];(repeat (first | refine ⟨by omega,?_⟩ | refine ⟨True.intro,?_⟩)))))
    refine j9 ⟨_,?_,rfl⟩;rw [Tryz.results80];simp (disch:=omega) only [ResVars,ResVar,ptrLoc,go_sem,seval,policyD,wayD,pairD,spotD,topoD,configD,z12,r1]
   ·rw [Bool.true_and] at hr
    (repeat (first | apply j0 | refine z7 rfl ?_ | refine x7 rfl ?_ | apply j6 | (refine x5 fun K hK => ?_) | (refine x8 fun K hK => ?_) | ((first | apply j5 | apply x6 | ((first | refine j4 (hK _ ?_) | refine q9 (hK _ _ j8 ?_));clear hK K));(first | show AWP _ _ _ _ _ | ((try simp only [z8]);first | show loopQ _ _ _ _ _ _ | show cutQ _ _ _ _ | show AWP _ _ _ _ _))) | ((first | refine x10 rfl rfl rfl ?_ | refine q13 rfl rfl rfl ?_);simp (disch:=omega) only [go_sem,seval,policyD,wayD,pairD,spotD,topoD,configD,z12,r1];(first | refine ⟨_,ce,?_⟩ | refine ⟨_,ct,?_⟩)) | ((first | refine j7 [] rfl ?_ | refine q10 [] rfl ?_);simp (disch:=omega) only [go_sem,seval,policyD,wayD,pairD,spotD,topoD,configD,z12,r1];(repeat (first | refine ⟨by omega,?_⟩ | refine ⟨True.intro,?_⟩)))))
    refine ⟨⟨i + 1,by omega,hr⟩,by simp only [];omega,?_⟩
    refine Weak.list ?_ ?_;(all_goals simp (disch:=omega) only [AllF,AllL,q11,z11,j10,exists_eq_left',go_sem,seval,policyD,wayD,pairD,spotD,topoD,configD,z12,r1]);(all_goals (repeat' (with_reducible apply And.intro)));(all_goals try (first | exact q8 rfl | (refine x11 ?_;omega) | (refine q8 ?_;simp;done)))
  ·rw [j18 (show l.length ≤ i by omega),if_neg (by decide)] at hr
   unfold policyC at hr
   (repeat (first | apply j0 | refine z7 rfl ?_ | refine x7 rfl ?_ | apply j6 | (refine x5 fun K hK => ?_) | (refine x8 fun K hK => ?_) | ((first | apply j5 | apply x6 | ((first | refine j4 (hK _ ?_) | refine q9 (hK _ _ j8 ?_));clear hK K));(first | show AWP _ _ _ _ _ | ((try simp only [z8]);first | show loopQ _ _ _ _ _ _ | show cutQ _ _ _ _ | show AWP _ _ _ _ _))) | ((first | refine j7 [] rfl ?_ | refine q10 [] rfl ?_);simp (disch:=omega) only [go_sem,seval,policyD,wayD,pairD,spotD,topoD,configD,z12];(repeat (first | refine ⟨by omega,?_⟩ | refine ⟨True.intro,?_⟩)))))
   refine j13 (polRJ c R) (fun s => c.po.peers.length - s.val) ⟨0,Nat.zero_le _,hr⟩ ?_ (fun s => ?_)
   ·unfold polRJ
    refine Weak.list ?_ ?_;(all_goals simp (disch:=omega) only [AllF,AllL,q11,z11,j10,exists_eq_left',go_sem,seval,policyD,wayD,pairD,spotD,topoD,configD,z12]);(all_goals (repeat' (with_reducible apply And.intro)));(all_goals try (first | exact q8 rfl | (refine x11 ?_;omega) | (refine q8 ?_;simp;done)))
   obtain ⟨i,hi,hr⟩ := s
   unfold polRJ
   simp only [] at hi hr ⊢
   by_cases h : i < c.po.peers.length
   ·have hok : pairOk c i = (tenantP c.po (c.po.peers.getD i (0,0)).1 && tenantP c.po (c.po.peers.getD i (0,0)).2) := rfl
    rw [x18 h,hok] at hr
    have r1 := j59 c.po.peers i
    generalize c.po.peers.getD i (0,0) = x at r1 hr
    obtain ⟨x1,x2⟩ := x
    simp only [pairD] at r1
    simp only [] at hr
    have c1 := j43 c.po x1
    have c2 := j43 c.po x2
    simp only [policyD] at c1 c2
    generalize tenantP c.po x1 = b1 at c1 hr
    generalize tenantP c.po x2 = b2 at c2 hr
    cases b1
    ·simp only [Bool.false_and,if_true] at hr
     subst hr
     (repeat (first | apply j0 | refine z7 rfl ?_ | refine x7 rfl ?_ | apply j6 | (refine x5 fun K hK => ?_) | (refine x8 fun K hK => ?_) | ((first | apply j5 | apply x6 | ((first | refine j4 (hK _ ?_) | refine q9 (hK _ _ j8 ?_));clear hK K));(first | show AWP _ _ _ _ _ | ((try simp only [z8]);first | show loopQ _ _ _ _ _ _ | show cutQ _ _ _ _ | show AWP _ _ _ _ _))) | ((first | refine x10 rfl rfl rfl ?_ | refine q13 rfl rfl rfl ?_);simp (disch:=omega) only [go_sem,seval,policyD,wayD,pairD,spotD,topoD,configD,z12,r1];(first | refine ⟨_,c1,?_⟩)) | ((first | refine j7 [] rfl ?_ | refine q10 [] rfl ?_);simp (disch:=omega) only [go_sem,seval,policyD,wayD,pairD,spotD,topoD,configD,z12,r1];(repeat (first | refine ⟨by omega,?_⟩ | refine ⟨True.intro,?_⟩)))))
     refine j9 ⟨_,?_,rfl⟩;rw [Tryz.results80];simp (disch:=omega) only [ResVars,ResVar,ptrLoc,go_sem,seval,policyD,wayD,pairD,spotD,topoD,configD,z12,r1]
    ·cases b2
     ·simp only [Bool.true_and,Bool.false_and,if_true] at hr
      subst hr
      (repeat (first | apply j0 | refine z7 rfl ?_ | refine x7 rfl ?_ | apply j6 | (refine x5 fun K hK => ?_) | (refine x8 fun K hK => ?_) | ((first | apply j5 | apply x6 | ((first | refine j4 (hK _ ?_) | refine q9 (hK _ _ j8 ?_));clear hK K));(first | show AWP _ _ _ _ _ | ((try simp only [z8]);first | show loopQ _ _ _ _ _ _ | show cutQ _ _ _ _ | show AWP _ _ _ _ _))) | ((first | refine x10 rfl rfl rfl ?_ | refine q13 rfl rfl rfl ?_);simp (disch:=omega) only [go_sem,seval,policyD,wayD,pairD,spotD,topoD,configD,z12,r1];(first | refine ⟨_,c1,?_⟩ | refine ⟨_,c2,?_⟩)) | ((first | refine j7 [] rfl ?_ | refine q10 [] rfl ?_);simp (disch:=omega) only [go_sem,seval,policyD,wayD,pairD,spotD,topoD,configD,z12,r1];(repeat (first | refine ⟨by omega,?_⟩ | refine ⟨True.intro,?_⟩)))))
      refine j9 ⟨_,?_,rfl⟩;rw [Tryz.results80];simp (disch:=omega) only [ResVars,ResVar,ptrLoc,go_sem,seval,policyD,wayD,pairD,spotD,topoD,configD,z12,r1]
     ·simp only [Bool.true_and] at hr
      (repeat (first | apply j0 | refine z7 rfl ?_ | refine x7 rfl ?_ | apply j6 | (refine x5 fun K hK => ?_) | (refine x8 fun K hK => ?_) | ((first | apply j5 | apply x6 | ((first | refine j4 (hK _ ?_) | refine q9 (hK _ _ j8 ?_));clear hK K));(first | show AWP _ _ _ _ _ | ((try simp only [z8]);first | show loopQ _ _ _ _ _ _ | show cutQ _ _ _ _ | show AWP _ _ _ _ _))) | ((first | refine x10 rfl rfl rfl ?_ | refine q13 rfl rfl rfl ?_);simp (disch:=omega) only [go_sem,seval,policyD,wayD,pairD,spotD,topoD,configD,z12,r1];(first | refine ⟨_,c1,?_⟩ | refine ⟨_,c2,?_⟩)) | ((first | refine j7 [] rfl ?_ | refine q10 [] rfl ?_);simp (disch:=omega) only [go_sem,seval,policyD,wayD,pairD,spotD,topoD,configD,z12,r1];(repeat (first | refine ⟨by omega,?_⟩ | refine ⟨True.intro,?_⟩)))))
      refine ⟨⟨i + 1,by omega,hr⟩,by simp only [];omega,?_⟩
      refine Weak.list ?_ ?_;(all_goals simp (disch:=omega) only [AllF,AllL,q11,z11,j10,exists_eq_left',go_sem,seval,policyD,wayD,pairD,spotD,topoD,configD,z12,r1]);(all_goals (repeat' (with_reducible apply And.intro)));(all_goals try (first | exact q8 rfl | (refine x11 ?_;omega) | (refine q8 ?_;simp;done)))
   ·rw [j18 (show c.po.peers.length ≤ i by omega),Bool.true_and] at hr
    (repeat (first | apply j0 | refine z7 rfl ?_ | refine x7 rfl ?_ | apply j6 | (refine x5 fun K hK => ?_) | (refine x8 fun K hK => ?_) | ((first | apply j5 | apply x6 | ((first | refine j4 (hK _ ?_) | refine q9 (hK _ _ j8 ?_));clear hK K));(first | show AWP _ _ _ _ _ | ((try simp only [z8]);first | show loopQ _ _ _ _ _ _ | show cutQ _ _ _ _ | show AWP _ _ _ _ _))) | ((first | refine j7 [] rfl ?_ | refine q10 [] rfl ?_);simp (disch:=omega) only [go_sem,seval,policyD,wayD,pairD,spotD,topoD,configD,z12];(repeat (first | refine ⟨by omega,?_⟩ | refine ⟨True.intro,?_⟩)))))
    refine j13 (polRK c R) (fun s => c.po.ways.length - s.val) ⟨0,Nat.zero_le _,hr⟩ ?_ (fun s => ?_)
    ·unfold polRK
     refine Weak.list ?_ ?_;(all_goals simp (disch:=omega) only [AllF,AllL,q11,z11,j10,exists_eq_left',go_sem,seval,policyD,wayD,pairD,spotD,topoD,configD,z12]);(all_goals (repeat' (with_reducible apply And.intro)));(all_goals try (first | exact q8 rfl | (refine x11 ?_;omega) | (refine q8 ?_;simp;done)))
    obtain ⟨i,hi,hr⟩ := s
    unfold polRK
    simp only [] at hi hr ⊢
    by_cases h : i < c.po.ways.length
    ·have hok : wayOk c i = (tenantP c.po (c.po.ways.getD i w0).fr && tenantP c.po (c.po.ways.getD i w0).to && decide (0 ≤ (c.po.ways.getD i w0).via) && decide ((c.po.ways.getD i w0).via < c.tp.length)) := rfl
     rw [x18 h,hok] at hr
     have r1 := x59 c.po.ways i
     generalize c.po.ways.getD i w0 = x at r1 hr
     obtain ⟨x1,x2,x3⟩ := x
     simp only [wayD] at r1
     simp only [] at hr
     have c1 := j43 c.po x1
     have c2 := j43 c.po x2
     simp only [policyD] at c1 c2
     generalize tenantP c.po x1 = b1 at c1 hr
     generalize tenantP c.po x2 = b2 at c2 hr
     cases b1
     ·simp only [Bool.false_and,if_true] at hr
      subst hr
      (repeat (first | apply j0 | refine z7 rfl ?_ | refine x7 rfl ?_ | apply j6 | (refine x5 fun K hK => ?_) | (refine x8 fun K hK => ?_) | ((first | apply j5 | apply x6 | ((first | refine j4 (hK _ ?_) | refine q9 (hK _ _ j8 ?_));clear hK K));(first | show AWP _ _ _ _ _ | ((try simp only [z8]);first | show loopQ _ _ _ _ _ _ | show cutQ _ _ _ _ | show AWP _ _ _ _ _))) | ((first | refine x10 rfl rfl rfl ?_ | refine q13 rfl rfl rfl ?_);simp (disch:=omega) only [go_sem,seval,policyD,wayD,pairD,spotD,topoD,configD,z12,r1];(first | refine ⟨_,c1,?_⟩)) | ((first | refine j7 [] rfl ?_ | refine q10 [] rfl ?_);simp (disch:=omega) only [go_sem,seval,policyD,wayD,pairD,spotD,topoD,configD,z12,r1];(repeat (first | refine ⟨by omega,?_⟩ | refine ⟨True.intro,?_⟩)))))
      refine j9 ⟨_,?_,rfl⟩;rw [Tryz.results80];simp (disch:=omega) only [ResVars,ResVar,ptrLoc,go_sem,seval,policyD,wayD,pairD,spotD,topoD,configD,z12,r1]
     ·cases b2
      ·simp only [Bool.true_and,Bool.false_and,if_true] at hr
       subst hr
       (repeat (first | apply j0 | refine z7 rfl ?_ | refine x7 rfl ?_ | apply j6 | (refine x5 fun K hK => ?_) | (refine x8 fun K hK => ?_) | ((first | apply j5 | apply x6 | ((first | refine j4 (hK _ ?_) | refine q9 (hK _ _ j8 ?_));clear hK K));(first | show AWP _ _ _ _ _ | ((try simp only [z8]);first | show loopQ _ _ _ _ _ _ | show cutQ _ _ _ _ | show AWP _ _ _ _ _))) | ((first | refine x10 rfl rfl rfl ?_ | refine q13 rfl rfl rfl ?_);simp (disch:=omega) only [go_sem,seval,policyD,wayD,pairD,spotD,topoD,configD,z12,r1];(first | refine ⟨_,c1,?_⟩ | refine ⟨_,c2,?_⟩)) | ((first | refine j7 [] rfl ?_ | refine q10 [] rfl ?_);simp (disch:=omega) only [go_sem,seval,policyD,wayD,pairD,spotD,topoD,configD,z12,r1];(repeat (first | refine ⟨by omega,?_⟩ | refine ⟨True.intro,?_⟩)))))
       refine j9 ⟨_,?_,rfl⟩;rw [Tryz.results80];simp (disch:=omega) only [ResVars,ResVar,ptrLoc,go_sem,seval,policyD,wayD,pairD,spotD,topoD,configD,z12,r1]
      ·by_cases h3 : 0 ≤ x3
       ·by_cases h4 : x3 < c.tp.length
        ·rw [decide_eq_true h3,decide_eq_true h4] at hr
         simp only [Bool.true_and] at hr
         (repeat (first | apply j0 | refine z7 rfl ?_ | refine x7 rfl ?_ | apply j6 | (refine x5 fun K hK => ?_) | (refine x8 fun K hK => ?_) | ((first | apply j5 | apply x6 | ((first | refine j4 (hK _ ?_) | refine q9 (hK _ _ j8 ?_));clear hK K));(first | show AWP _ _ _ _ _ | ((try simp only [z8]);first | show loopQ _ _ _ _ _ _ | show cutQ _ _ _ _ | show AWP _ _ _ _ _))) | ((first | refine x10 rfl rfl rfl ?_ | refine q13 rfl rfl rfl ?_);simp (disch:=omega) only [go_sem,seval,policyD,wayD,pairD,spotD,topoD,configD,z12,r1];(first | refine ⟨_,c1,?_⟩ | refine ⟨_,c2,?_⟩)) | ((first | refine j7 [] rfl ?_ | refine q10 [] rfl ?_);simp (disch:=omega) only [go_sem,seval,policyD,wayD,pairD,spotD,topoD,configD,z12,r1];(repeat (first | refine ⟨by omega,?_⟩ | refine ⟨True.intro,?_⟩)))))
         refine ⟨⟨i + 1,by omega,hr⟩,by simp only [];omega,?_⟩
         refine Weak.list ?_ ?_;(all_goals simp (disch:=omega) only [AllF,AllL,q11,z11,j10,exists_eq_left',go_sem,seval,policyD,wayD,pairD,spotD,topoD,configD,z12,r1]);(all_goals (repeat' (with_reducible apply And.intro)));(all_goals try (first | exact q8 rfl | (refine x11 ?_;omega) | (refine q8 ?_;simp;done)))
        ·rw [decide_eq_true h3,decide_eq_false h4] at hr
         simp only [Bool.true_and,Bool.false_and,if_true] at hr
         subst hr
         (repeat (first | apply j0 | refine z7 rfl ?_ | refine x7 rfl ?_ | apply j6 | (refine x5 fun K hK => ?_) | (refine x8 fun K hK => ?_) | ((first | apply j5 | apply x6 | ((first | refine j4 (hK _ ?_) | refine q9 (hK _ _ j8 ?_));clear hK K));(first | show AWP _ _ _ _ _ | ((try simp only [z8]);first | show loopQ _ _ _ _ _ _ | show cutQ _ _ _ _ | show AWP _ _ _ _ _))) | ((first | refine x10 rfl rfl rfl ?_ | refine q13 rfl rfl rfl ?_);simp (disch:=omega) only [go_sem,seval,policyD,wayD,pairD,spotD,topoD,configD,z12,r1];(first | refine ⟨_,c1,?_⟩ | refine ⟨_,c2,?_⟩)) | ((first | refine j7 [] rfl ?_ | refine q10 [] rfl ?_);simp (disch:=omega) only [go_sem,seval,policyD,wayD,pairD,spotD,topoD,configD,z12,r1];(repeat (first | refine ⟨by omega,?_⟩ | refine ⟨True.intro,?_⟩)))))
         refine j9 ⟨_,?_,rfl⟩;rw [Tryz.results80];simp (disch:=omega) only [ResVars,ResVar,ptrLoc,go_sem,seval,policyD,wayD,pairD,spotD,topoD,configD,z12,r1]
       ·rw [decide_eq_false h3] at hr
        simp only [Bool.true_and,Bool.false_and,if_true] at hr
        subst hr
        (repeat (first | apply j0 | refine z7 rfl ?_ | refine x7 rfl ?_ | apply j6 | (refine x5 fun K hK => ?_) | (refine x8 fun K hK => ?_) | ((first | apply j5 | apply x6 | ((first | refine j4 (hK _ ?_) | refine q9 (hK _ _ j8 ?_));clear hK K));(first | show AWP _ _ _ _ _ | ((try simp only [z8]);first | show loopQ _ _ _ _ _ _ | show cutQ _ _ _ _ | show AWP _ _ _ _ _))) | ((first | refine x10 rfl rfl rfl ?_ | refine q13 rfl rfl rfl ?_);simp (disch:=omega) only [go_sem,seval,policyD,wayD,pairD,spotD,topoD,configD,z12,r1];(first | refine ⟨_,c1,?_⟩ | refine ⟨_,c2,?_⟩)) | ((first | refine j7 [] rfl ?_ | refine q10 [] rfl ?_);simp (disch:=omega) only [go_sem,seval,policyD,wayD,pairD,spotD,topoD,configD,z12,r1];(repeat (first | refine ⟨by omega,?_⟩ | refine ⟨True.intro,?_⟩)))))
        refine j9 ⟨_,?_,rfl⟩;rw [Tryz.results80];simp (disch:=omega) only [ResVars,ResVar,ptrLoc,go_sem,seval,policyD,wayD,pairD,spotD,topoD,configD,z12,r1]
    ·rw [j18 (show c.po.ways.length ≤ i by omega),if_neg (by decide)] at hr
     subst hr
     (repeat (first | apply j0 | refine z7 rfl ?_ | refine x7 rfl ?_ | apply j6 | (refine x5 fun K hK => ?_) | (refine x8 fun K hK => ?_) | ((first | apply j5 | apply x6 | ((first | refine j4 (hK _ ?_) | refine q9 (hK _ _ j8 ?_));clear hK K));(first | show AWP _ _ _ _ _ | ((try simp only [z8]);first | show loopQ _ _ _ _ _ _ | show cutQ _ _ _ _ | show AWP _ _ _ _ _))) | ((first | refine j7 [] rfl ?_ | refine q10 [] rfl ?_);simp (disch:=omega) only [go_sem,seval,policyD,wayD,pairD,spotD,topoD,configD,z12];(repeat (first | refine ⟨by omega,?_⟩ | refine ⟨True.intro,?_⟩)))))
     refine j9 ⟨_,?_,rfl⟩;rw [Tryz.results80];simp (disch:=omega) only [ResVars,ResVar,ptrLoc,go_sem,seval,policyD,wayD,pairD,spotD,topoD,configD,z12]
 all_goals
  rw [show (if c.po.tn < 1 ∨ 4 < c.po.tn ∨ 16 < c.po.peers.length ∨ 4 < c.po.ways.length then false else sizesB c) = false from if_pos (by omega),if_pos rfl]
  refine q12 Tryz.func80 rfl (by decide +kernel) (by rw [Tryz.ntmps80];simp) ?_;rw [Tryz.ntmps80];simp only [frOf]
  (repeat (first | apply j0 | refine z7 rfl ?_ | refine x7 rfl ?_ | apply j6 | (refine x5 fun K hK => ?_) | (refine x8 fun K hK => ?_) | ((first | apply j5 | apply x6 | ((first | refine j4 (hK _ ?_) | refine q9 (hK _ _ j8 ?_));clear hK K));(first | show AWP _ _ _ _ _ | ((try simp only [z8]);first | show loopQ _ _ _ _ _ _ | show cutQ _ _ _ _ | show AWP _ _ _ _ _))) | ((first | refine j7 [] rfl ?_ | refine q10 [] rfl ?_);simp (disch:=omega) only [go_sem,seval,policyD,wayD,pairD,spotD,topoD,configD,z12];(repeat (first | refine ⟨by omega,?_⟩ | refine ⟨True.intro,?_⟩)))))
  refine j9 ⟨_,?_,rfl⟩;rw [Tryz.results80];simp (disch:=omega) only [ResVars,ResVar,ptrLoc,go_sem,seval,policyD,wayD,pairD,spotD,topoD,configD,z12]
def soundCRI (c : Config) (R : Int) (s : {i : Nat // i ≤ c.tb.length ∧ errF (tabE c) (c.tb.length - i) i = R}) : ASt :=
 ⟨[(4,.p (.d (.v (.int .i64 (s.val : Int))))),(1,.p (.d (.bx (configD c))))],[]⟩
set_option maxRecDepth 100000 in
theorem q118 (c : Config) (hc : c.small) : ACalls Tryz.prog 35 [.agg (configD c)] (· = [.d (.v (.int .i64 (soundC c)))]) := by
 have s1 := j161 c.tp hc.tp
 have s2 := z189 c hc
 have htp := hc.tp
 have hat := hc.at
 have hb := hc.tb
 have hb2 := hc.tp.1
 unfold soundC
 simp only [topoD] at s1
 simp only [topoD,policyD] at s2
 generalize soundT c.tp = e1 at s1
 generalize polE c = e2 at s2
 by_cases h1 : e1 = 0
 ·subst h1
  rw [if_neg (by decide)]
  by_cases h2 : e2 = 0
  ·subst h2
   rw [if_neg (by decide)]
   by_cases h4 : c.tb.length = c.tp.length
   ·rw [if_neg (by omega)]
    have q : ((c.tb.length : Int) != (c.tp.length : Int)) = false := x14 (by omega)
    generalize hR : errF (tabE c) c.tb.length 0 = R
    refine q12 Tryz.func35 rfl (by decide +kernel) (by rw [Tryz.ntmps35];simp) ?_;rw [Tryz.ntmps35];simp only [frOf]
    (repeat (first | apply j0 | refine z7 rfl ?_ | refine x7 rfl ?_ | apply j6 | (refine x5 fun K hK => ?_) | (refine x8 fun K hK => ?_) | ((first | apply j5 | apply x6 | ((first | refine j4 (hK _ ?_) | refine q9 (hK _ _ j8 ?_));clear hK K));(first | show AWP _ _ _ _ _ | ((try simp only [z8]);first | show loopQ _ _ _ _ _ _ | show cutQ _ _ _ _ | show AWP _ _ _ _ _))) | ((first | refine x10 rfl rfl rfl ?_ | refine q13 rfl rfl rfl ?_);simp (disch:=omega) only [go_sem,seval,policyD,wayD,pairD,spotD,topoD,configD,z12,q];(first | refine ⟨_,s1,?_⟩ | refine ⟨_,s2,?_⟩)) | ((first | refine j7 [] rfl ?_ | refine q10 [] rfl ?_);simp (disch:=omega) only [go_sem,seval,policyD,wayD,pairD,spotD,topoD,configD,z12,q];(repeat (first | refine ⟨by omega,?_⟩ | refine ⟨True.intro,?_⟩)))))
    refine j13 (soundCRI c R) (fun s => c.tb.length - s.val) ⟨0,Nat.zero_le _,hR⟩ ?_ (fun s => ?_)
    ·unfold soundCRI
     refine Weak.list ?_ ?_;(all_goals simp (disch:=omega) only [AllF,AllL,q11,z11,j10,exists_eq_left',go_sem,seval,policyD,wayD,pairD,spotD,topoD,configD,z12]);(all_goals (repeat' (with_reducible apply And.intro)));(all_goals try (first | exact q8 rfl | (refine x11 ?_;omega) | (refine q8 ?_;simp;done)))
    obtain ⟨i,hi,hr⟩ := s
    unfold soundCRI
    simp only [] at hi hr ⊢
    by_cases h : i < c.tb.length
    ·rw [x117 h] at hr
     have r1 := q38 c.tb i
     have r2 := x20 c.tp i
     have ct := x163 (c.tb.getD i []) (c.tp.getD i []) (hat i) (q21 htp i)
     have hte : tabE c i = soundTab (c.tb.getD i []) (c.tp.getD i []) := rfl
     rw [hte] at hr
     have l1 := q21 htp i
     have l2 := (hat i).1
     generalize soundTab (c.tb.getD i []) (c.tp.getD i []) = e at hr ct
     generalize c.tb.getD i [] = ts at r1 ct l2
     generalize c.tp.getD i [] = ps at r2 ct l1
     by_cases he : e = 0
     ·subst he
      rw [if_pos rfl] at hr
      (repeat (first | apply j0 | refine z7 rfl ?_ | refine x7 rfl ?_ | apply j6 | (refine x5 fun K hK => ?_) | (refine x8 fun K hK => ?_) | ((first | apply j5 | apply x6 | ((first | refine j4 (hK _ ?_) | refine q9 (hK _ _ j8 ?_));clear hK K));(first | show AWP _ _ _ _ _ | ((try simp only [z8]);first | show loopQ _ _ _ _ _ _ | show cutQ _ _ _ _ | show AWP _ _ _ _ _))) | ((first | refine x10 rfl rfl rfl ?_ | refine q13 rfl rfl rfl ?_);simp (disch:=omega) only [go_sem,seval,policyD,wayD,pairD,spotD,topoD,configD,z12,r1,r2];(first | refine ⟨_,ct,?_⟩)) | ((first | refine j7 [] rfl ?_ | refine q10 [] rfl ?_);simp (disch:=omega) only [go_sem,seval,policyD,wayD,pairD,spotD,topoD,configD,z12,r1,r2];(repeat (first | refine ⟨by omega,?_⟩ | refine ⟨True.intro,?_⟩)))))
      refine ⟨⟨i + 1,by omega,hr⟩,by simp only [];omega,?_⟩
      refine Weak.list ?_ ?_;(all_goals simp (disch:=omega) only [AllF,AllL,q11,z11,j10,exists_eq_left',go_sem,seval,policyD,wayD,pairD,spotD,topoD,configD,z12,r1,r2]);(all_goals (repeat' (with_reducible apply And.intro)));(all_goals try (first | exact q8 rfl | (refine x11 ?_;omega) | (refine q8 ?_;simp;done)))
     ·rw [if_neg he] at hr
      have q2 : (e != 0) = true := q14 he
      subst hr
      (repeat (first | apply j0 | refine z7 rfl ?_ | refine x7 rfl ?_ | apply j6 | (refine x5 fun K hK => ?_) | (refine x8 fun K hK => ?_) | ((first | apply j5 | apply x6 | ((first | refine j4 (hK _ ?_) | refine q9 (hK _ _ j8 ?_));clear hK K));(first | show AWP _ _ _ _ _ | ((try simp only [z8]);first | show loopQ _ _ _ _ _ _ | show cutQ _ _ _ _ | show AWP _ _ _ _ _))) | ((first | refine x10 rfl rfl rfl ?_ | refine q13 rfl rfl rfl ?_);simp (disch:=omega) only [go_sem,seval,policyD,wayD,pairD,spotD,topoD,configD,z12,r1,r2,q2];(first | refine ⟨_,ct,?_⟩)) | ((first | refine j7 [] rfl ?_ | refine q10 [] rfl ?_);simp (disch:=omega) only [go_sem,seval,policyD,wayD,pairD,spotD,topoD,configD,z12,r1,r2,q2];(repeat (first | refine ⟨by omega,?_⟩ | refine ⟨True.intro,?_⟩)))))
      refine j9 ⟨_,?_,rfl⟩;rw [Tryz.results35];simp (disch:=omega) only [ResVars,ResVar,ptrLoc,go_sem,seval,policyD,wayD,pairD,spotD,topoD,configD,z12,r1,r2,q2]
    ·rw [j117 (show c.tb.length ≤ i by omega)] at hr
     subst hr
     (repeat (first | apply j0 | refine z7 rfl ?_ | refine x7 rfl ?_ | apply j6 | (refine x5 fun K hK => ?_) | (refine x8 fun K hK => ?_) | ((first | apply j5 | apply x6 | ((first | refine j4 (hK _ ?_) | refine q9 (hK _ _ j8 ?_));clear hK K));(first | show AWP _ _ _ _ _ | ((try simp only [z8]);first | show loopQ _ _ _ _ _ _ | show cutQ _ _ _ _ | show AWP _ _ _ _ _))) | ((first | refine j7 [] rfl ?_ | refine q10 [] rfl ?_);simp (disch:=omega) only [go_sem,seval,policyD,wayD,pairD,spotD,topoD,configD,z12];(repeat (first | refine ⟨by omega,?_⟩ | refine ⟨True.intro,?_⟩)))))
     refine j9 ⟨_,?_,rfl⟩;rw [Tryz.results35];simp (disch:=omega) only [ResVars,ResVar,ptrLoc,go_sem,seval,policyD,wayD,pairD,spotD,topoD,configD,z12]
   ·rw [if_pos h4]
    have q : ((c.tb.length : Int) != (c.tp.length : Int)) = true := q14 (by omega)
    refine q12 Tryz.func35 rfl (by decide +kernel) (by rw [Tryz.ntmps35];simp) ?_;rw [Tryz.ntmps35];simp only [frOf]
    (repeat (first | apply j0 | refine z7 rfl ?_ | refine x7 rfl ?_ | apply j6 | (refine x5 fun K hK => ?_) | (refine x8 fun K hK => ?_) | ((first | apply j5 | apply x6 | ((first | refine j4 (hK _ ?_) | refine q9 (hK _ _ j8 ?_));clear hK K));(first | show AWP _ _ _ _ _ | ((try simp only [z8]);first | show loopQ _ _ _ _ _ _ | show cutQ _ _ _ _ | show AWP _ _ _ _ _))) | ((first | refine x10 rfl rfl rfl ?_ | refine q13 rfl rfl rfl ?_);simp (disch:=omega) only [go_sem,seval,policyD,wayD,pairD,spotD,topoD,configD,z12,q];(first | refine ⟨_,s1,?_⟩ | refine ⟨_,s2,?_⟩)) | ((first | refine j7 [] rfl ?_ | refine q10 [] rfl ?_);simp (disch:=omega) only [go_sem,seval,policyD,wayD,pairD,spotD,topoD,configD,z12,q];(repeat (first | refine ⟨by omega,?_⟩ | refine ⟨True.intro,?_⟩)))))
    refine j9 ⟨_,?_,rfl⟩;rw [Tryz.results35];simp (disch:=omega) only [ResVars,ResVar,ptrLoc,go_sem,seval,policyD,wayD,pairD,spotD,topoD,configD,z12,q]
  ·rw [if_pos h2]
   have q : (e2 != 0) = true := q14 h2
   refine q12 Tryz.func35 rfl (by decide +kernel) (by rw [Tryz.ntmps35];simp) ?_;rw [Tryz.ntmps35];simp only [frOf]
   (repeat (first | apply j0 | refine z7 rfl ?_ | refine x7 rfl ?_ | apply j6 | (refine x5 fun K hK => ?_) | (refine x8 fun K hK => ?_) | ((first | apply j5 | apply x6 | ((first | refine j4 (hK _ ?_) | refine q9 (hK _ _ j8 ?_));clear hK K));(first | show AWP _ _ _ _ _ | ((try simp only [z8]);first | show loopQ _ _ _ _ _ _ | show cutQ _ _ _ _ | show AWP _ _ _ _ _))) | ((first | refine x10 rfl rfl rfl ?_ | refine q13 rfl rfl rfl ?_);simp (disch:=omega) only [go_sem,seval,policyD,wayD,pairD,spotD,topoD,configD,z12,q];(first | refine ⟨_,s1,?_⟩ | refine ⟨_,s2,?_⟩)) | ((first | refine j7 [] rfl ?_ | refine q10 [] rfl ?_);simp (disch:=omega) only [go_sem,seval,policyD,wayD,pairD,spotD,topoD,configD,z12,q];(repeat (first | refine ⟨by omega,?_⟩ | refine ⟨True.intro,?_⟩)))))
   refine j9 ⟨_,?_,rfl⟩;rw [Tryz.results35];simp (disch:=omega) only [ResVars,ResVar,ptrLoc,go_sem,seval,policyD,wayD,pairD,spotD,topoD,configD,z12,q]
 ·rw [if_pos h1]
  have q : (e1 != 0) = true := q14 h1
  refine q12 Tryz.func35 rfl (by decide +kernel) (by rw [Tryz.ntmps35];simp) ?_;rw [Tryz.ntmps35];simp only [frOf]
  (repeat (first | apply j0 | refine z7 rfl ?_ | refine x7 rfl ?_ | apply j6 | (refine x5 fun K hK => ?_) | (refine x8 fun K hK => ?_) | ((first | apply j5 | apply x6 | ((first | refine j4 (hK _ ?_) | refine q9 (hK _ _ j8 ?_));clear hK K));(first | show AWP _ _ _ _ _ | ((try simp only [z8]);first | show loopQ _ _ _ _ _ _ | show cutQ _ _ _ _ | show AWP _ _ _ _ _))) | ((first | refine x10 rfl rfl rfl ?_ | refine q13 rfl rfl rfl ?_);simp (disch:=omega) only [go_sem,seval,policyD,wayD,pairD,spotD,topoD,configD,z12,q];(first | refine ⟨_,s1,?_⟩)) | ((first | refine j7 [] rfl ?_ | refine q10 [] rfl ?_);simp (disch:=omega) only [go_sem,seval,policyD,wayD,pairD,spotD,topoD,configD,z12,q];(repeat (first | refine ⟨by omega,?_⟩ | refine ⟨True.intro,?_⟩)))))
  refine j9 ⟨_,?_,rfl⟩;rw [Tryz.results35];simp (disch:=omega) only [ResVars,ResVar,ptrLoc,go_sem,seval,policyD,wayD,pairD,spotD,topoD,configD,z12,q]
def eqBy {α : Type} (e : α → α → Bool) (d : α) (a b : List α) : Bool := if a.length = b.length then allF (fun i => e (a.getD i d) (b.getD i d)) a.length 0 else false
theorem x189 (a b : Int × Int) : eqI [a.1,a.2] [b.1,b.2] = (a == b) := by
 obtain ⟨a1,a2⟩ := a;obtain ⟨b1,b2⟩ := b
 rw [Bool.eq_iff_iff];simp [eqI]
theorem eqI_way (a b : Way) : eqI [a.fr,a.to,a.via] [b.fr,b.to,b.via] = (a == b) := by
 obtain ⟨a1,a2,a3⟩ := a;obtain ⟨b1,b2,b3⟩ := b
 rw [Bool.eq_iff_iff];simp [eqI,and_assoc]
theorem j189 (a b : Port) : eqI [a.kd,a.tn,a.pe,a.at',a.co] [b.kd,b.tn,b.pe,b.at',b.co] = (a == b) := by
 obtain ⟨a1,a2,a3,a4,a5⟩ := a;obtain ⟨b1,b2,b3,b4,b5⟩ := b
 rw [Bool.eq_iff_iff];simp [eqI,and_assoc]
def eqPP : List Port → List Port → Bool := eqBy (· == ·) p0
def eqRR : List Rule → List Rule → Bool := eqBy (· == ·) r0
def eqTT : List (List Rule) → List (List Rule) → Bool := eqBy eqRR []
def sameC (a b : Config) : Bool := eqBy eqPP [] a.tp b.tp && a.po.tn == b.po.tn && eqBy (· == ·) (0,0) a.po.peers b.po.peers && eqBy (· == ·) w0 a.po.ways b.po.ways && eqBy eqTT [] a.tb b.tb
end Go.Proofs.YtemcdefpihkfpaaGreat
namespace Go.Proofs.YtemcdefpihkfpaaGreat
open Go Go.Proofs.YtemcdefpihkfpaaGreat.AL
theorem q190 (b n c : Nat) (hc : n ≤ c) (hn : n ≤ 1099511627776) : ACalls Tryz.prog 155 [.d (.v (.slice (some ⟨b,0,none⟩) n c))] (· = [.d (.v (.slice (some ⟨b,0,none⟩) n n))]) := by
 refine q12 Tryz.func155 rfl (by decide +kernel) (by rw [Tryz.ntmps155];simp) ?_;rw [Tryz.ntmps155];simp only [frOf]
 (repeat (first | apply j0 | refine z7 rfl ?_ | refine x7 rfl ?_ | apply j6 | (refine x5 fun K hK => ?_) | ((first | apply j5 | apply x6 | (refine j4 (hK _ ?_);clear hK K));show AWP _ _ _ _ _) | (refine j7 [] rfl ?_;simp (disch:=omega) only [go_sem,seval];(repeat refine ⟨by omega,?_⟩))))
 refine j9 ⟨_,?_,rfl⟩;rw [Tryz.results155];simp (disch:=omega) only [ResVars,ResVar,ptrLoc,go_sem,seval]
theorem z190 : ACalls Tryz.prog 155 [.d (.v (.slice none 0 0))] (· = [.d (.v (.slice none 0 0))]) := by
 refine q12 Tryz.func155 rfl (by decide +kernel) (by rw [Tryz.ntmps155];simp) ?_;rw [Tryz.ntmps155];simp only [frOf]
 (repeat (first | apply j0 | refine z7 rfl ?_ | refine x7 rfl ?_ | apply j6 | (refine x5 fun K hK => ?_) | ((first | apply j5 | apply x6 | (refine j4 (hK _ ?_);clear hK K));show AWP _ _ _ _ _) | (refine j7 [] rfl ?_;simp (disch:=omega) only [go_sem,seval];(repeat refine ⟨by omega,?_⟩))))
 refine j9 ⟨_,?_,rfl⟩;rw [Tryz.results155];simp (disch:=omega) only [ResVars,ResVar,ptrLoc,go_sem,seval]
def deepSI (l : List (List Rule)) (M0 : Nat → Option Ent) (i : Fin (l.length + 1)) : ASt :=
 ⟨[(8,.p (.d (.v (.int .i64 (i.val : Int))))),(7,.p (.d (.v (.int .i64 (l.length : Int))))),(6,.p (.d (.sl 1 l.length (rowRR l)))),(3,.ow 3 i.val 1 i.val)],[(3,.own 59 1 i.val i.val (rowRR l)),(1999,.raw M0)]⟩
abbrev HoldT (M : Nat → Option Ent) (l : List (List Rule)) (v : Value) : Prop := HoldR M 59 1 l.length (rowRR l) v
def NewV (M0 : Nat → Option Ent) (v : Value) : Prop := ∀ b n c,v = .slice (some ⟨b,0,none⟩) n c → M0 b = none
set_option maxRecDepth 100000 in
theorem deepS_c (l : List (List Rule)) (hs : smallR l) (M0 : Nat → Option Ent) : MCalls Tryz.prog 117 [.p (.d (.sl 1 l.length (rowRR l)))] [(1999,.raw M0)]
  (fun rs L => ∃ r : {r : Value × (Nat → Option Ent) // HoldT r.2 l r.1 ∧ GrowsM M0 r.2 ∧ NewV M0 r.1},rs = [.p (.d (.v r.val.1))] ∧ L = [(1999,.raw r.val.2)]) := by
 have hs1 := hs.1
 refine q20 Tryz.func117 rfl (by decide +kernel) (by rw [Tryz.ntmps117];simp) (fun l X h => by simp only [AL.look] at h;(repeat' split at h);all_goals first | omega | cases h) ?_;rw [Tryz.ntmps117];simp only [frA]
 (repeat ((fail_if_success (show AWP _ _ (.region 2 _ _) _ _));first | apply j0 | refine z7 rfl ?_ | refine x7 rfl ?_ | apply j6 | (refine x5 fun K hK => ?_) | ((first | apply j5 | apply x6 | (refine j4 (hK _ ?_);clear hK K));(first | show AWP _ _ _ _ _ | ((try simp only [z8]);first | show loopQ _ _ _ _ _ _ | show AWP _ _ _ _ _))) | (refine j7 [] rfl ?_;simp (disch:=omega) only [go_sem,seval];(repeat refine ⟨by omega,?_⟩))))
 refine j94 3 3 1 59 (rowRR l) rfl (by kernel_rfl) rfl ?_
 (repeat (first | apply j0 | refine z7 rfl ?_ | refine x7 rfl ?_ | apply j6 | (refine x5 fun K hK => ?_) | ((first | apply j5 | apply x6 | (refine j4 (hK _ ?_);clear hK K));(first | show AWP _ _ _ _ _ | ((try simp only [z8]);first | show loopQ _ _ _ _ _ _ | show AWP _ _ _ _ _))) | (refine j7 [] rfl ?_;simp (disch:=omega) only [go_sem,seval];(repeat refine ⟨by omega,?_⟩))))
 refine j13 (deepSI l M0) (fun s => l.length - s.val) ⟨0,by omega⟩ ?_ (fun s => ?_)
 ·unfold deepSI
  refine Weak.list ?_ ?_;(all_goals simp (disch:=omega) only [AllF,AllL,q11,z11,j10,exists_eq_left',go_sem,seval]);(all_goals (repeat' (with_reducible apply And.intro)));(all_goals try (first | exact q8 rfl | (refine x11 ?_;omega) | (refine q8 ?_;simp;done)))
 obtain ⟨i,hi⟩ := s
 unfold deepSI
 by_cases h : i < l.length
 ·have r1 := q30 l i
  have hb := z28 hs i
  have pt := j187 l i h
  generalize l.getD i [] = x at r1 hb pt
  have c1 := z80 x.length (rowR x) (by omega)
  have c2 := q80 x.length (rowR x) (by omega)
  (repeat (first | apply j0 | refine z7 rfl ?_ | refine x7 rfl ?_ | apply j6 | (refine x5 fun K hK => ?_) | ((first | apply j5 | apply x6 | (refine j4 (hK _ ?_);clear hK K));(first | show AWP _ _ _ _ _ | ((try simp only [z8]);first | show loopQ _ _ _ _ _ _ | show AWP _ _ _ _ _))) | (refine x10 rfl rfl rfl ?_;simp (disch:=omega) only [go_sem,seval,r1];(first | refine ⟨_,c1,?_⟩ | refine ⟨_,c2,?_⟩)) | (refine j7 [] rfl ?_;simp (disch:=omega) only [go_sem,seval,r1];(repeat refine ⟨by omega,?_⟩))))
  refine ⟨⟨i + 1,by omega⟩,by simp only [];omega,?_⟩
  refine Weak.list ?_ ?_;(all_goals simp (disch:=omega) only [AllF,AllL,q11,z11,j10,exists_eq_left',go_sem,seval,r1]);(all_goals (repeat' (with_reducible apply And.intro)));(all_goals try (first | exact q8 rfl | (refine x11 ?_;omega) | (refine q8 ?_;simp;done)))
  ·exact z20 rfl rfl (fun k hk => pt k hk)
 ·have : i = l.length := by omega
  subst this
  (repeat ((fail_if_success (show AWP _ _ (.region 7 _ _) _ _));first | apply j0 | refine z7 rfl ?_ | refine x7 rfl ?_ | apply j6 | (refine x5 fun K hK => ?_) | ((first | apply j5 | apply x6 | (refine j4 (hK _ ?_);clear hK K));(first | show AWP _ _ _ _ _ | ((try simp only [z8]);first | show loopQ _ _ _ _ _ _ | show AWP _ _ _ _ _))) | (refine j7 [] rfl ?_;simp (disch:=omega) only [go_sem,seval];(repeat refine ⟨by omega,?_⟩))))
  refine z115 (WeakX.packRow _ 3 3 l.length 1 l.length 59 (rowRR l) M0 rfl rfl rfl (by decide)) ?_
  rintro _ ⟨v,M2,hp,rfl⟩
  have hM2 := hp.grows
  rcases hp with ⟨hn,rfl,rfl⟩ | ⟨b,c,hc,hb,rfl,rfl⟩
  ·have cl := z190
   (repeat (first | apply j0 | refine z7 rfl ?_ | refine x7 rfl ?_ | apply j6 | (refine x5 fun K hK => ?_) | ((first | apply j5 | apply x6 | (refine j4 (hK _ ?_);clear hK K));(first | show AWP _ _ _ _ _ | ((try simp only [z8]);first | show loopQ _ _ _ _ _ _ | show AWP _ _ _ _ _))) | (refine x10 rfl rfl rfl ?_;simp (disch:=omega) only [go_sem,seval,z22];(first | refine ⟨_,cl,?_⟩)) | (refine j7 [] rfl ?_;simp (disch:=omega) only [go_sem,seval,z22];(repeat refine ⟨by omega,?_⟩))))
   refine j9 ?_
   refine (j47 ⟨⟨(.slice none 0 0,M2),.inl ⟨hn,_,_,rfl⟩,hM2,fun b n c e => by cases e⟩,rfl,rfl⟩ ?_ ?_).1
   ·exact ⟨rfl,trivial⟩
   ·simp [AL.look,z22]
  ·have cl := q190 b l.length c hc (by omega)
   (repeat (first | apply j0 | refine z7 rfl ?_ | refine x7 rfl ?_ | apply j6 | (refine x5 fun K hK => ?_) | ((first | apply j5 | apply x6 | (refine j4 (hK _ ?_);clear hK K));(first | show AWP _ _ _ _ _ | ((try simp only [z8]);first | show loopQ _ _ _ _ _ _ | show AWP _ _ _ _ _))) | (refine x10 rfl rfl rfl ?_;simp (disch:=omega) only [go_sem,seval,z22];(first | refine ⟨_,cl,?_⟩)) | (refine j7 [] rfl ?_;simp (disch:=omega) only [go_sem,seval,z22];(repeat refine ⟨by omega,?_⟩))))
   refine j9 ?_
   refine (j47 ⟨⟨(.slice (some ⟨b,0,none⟩) l.length l.length,setM M0 b (some ⟨59,1,c,l.length,rowRR l⟩)),.inr ⟨b,l.length,c,rowRR l,rfl,Nat.le_refl _,q27 _ _ _,fun _ _ => rfl⟩,hM2,fun b n c e => by cases e;exact hb⟩,rfl,rfl⟩ ?_ ?_).1
   ·exact ⟨rfl,trivial⟩
   ·simp [AL.look,z22]
def tabLen (t : List (List (List Rule))) (i : Nat) : Nat := (t.getD i []).length
def tabCell (t : List (List (List Rule))) (i : Nat) : Nat → List Dat := rowRR (t.getD i [])
def TabsM (M : Nat → Option Ent) (t : List (List (List Rule))) (s : Nat → Value) (n : Nat) : Prop := RowsM M 59 1 (tabLen t) (tabCell t) s n
def cfgS (c : Config) (s : Nat → Value) : List Dat := [.sl 1 c.tp.length (rowPP c.tp),.v (.int .i64 c.po.tn),.sl 2 c.po.peers.length (rowA c.po.peers),.sl 3 c.po.ways.length (rowW c.po.ways),.sl 1 c.tb.length (rowVal s)]
def SepT (t : List (List (List Rule))) (s : Nat → Value) (n : Nat) : Prop := ∀ i j,i < n → j < n → i ≠ j → 0 < tabLen t i → 0 < tabLen t j → ∀ b m c m' c',s i = .slice (some ⟨b,0,none⟩) m c → s j ≠ .slice (some ⟨b,0,none⟩) m' c'
structure CloS (c : Config) (M0 : Nat → Option Ent) where
 i : Nat
 s : Nat → Value
 M : Nat → Option Ent
 hi : i ≤ c.tb.length
 h : TabsM M c.tb s i
 g : GrowsM M0 M
 sep : SepT c.tb s i
def cloneSI (c : Config) (M0 : Nat → Option Ent) (x : CloS c M0) : ASt :=
 ⟨[(29,.p (.d (.v (.int .i64 (x.i : Int))))),(28,.p (.d (.v (.int .i64 (c.tb.length : Int))))),(27,.p (.d (.sl 1 c.tb.length (rowTT c.tb)))),(3,.gr 3 x.i 1 x.i (rowVal x.s)),(2,.loc 2 0),(1,.loc 1 0)],
  [(3,.grow 71 1 x.i x.i),(2,.cells 84 [.p (.d (.v (.slice none 0 0))),.p (.d (.v (.int .i64 0))),.p (.d (.v (.slice none 0 0))),.p (.d (.v (.slice none 0 0))),.p (.d (.v (.slice none 0 0)))]),(1,.cells 84 [.p (.d (.sl 1 c.tp.length (rowPP c.tp))),.p (.d (.v (.int .i64 c.po.tn))),.p (.d (.sl 2 c.po.peers.length (rowA c.po.peers))),.p (.d (.sl 3 c.po.ways.length (rowW c.po.ways))),.p (.d (.sl 1 c.tb.length (rowTT c.tb)))]),(1999,.raw x.M)]⟩
set_option maxRecDepth 100000 in
theorem x190 (c : Config) (hc : c.small) (M0 : Nat → Option Ent) : MCalls Tryz.prog 78 [.p (.agg (configD c))] [(1999,.raw M0)]
  (fun rs L => ∃ r : {r : (Nat → Value) × (Nat → Option Ent) // TabsM r.2 c.tb r.1 c.tb.length ∧ GrowsM M0 r.2 ∧ SepT c.tb r.1 c.tb.length},rs = [.p (.agg (cfgS c r.val.1))] ∧ L = [(1999,.raw r.val.2)]) := by
 have c1 := deepP_c c.tp hc.tp
 have c2 := z186 c.po.peers.length (rowA c.po.peers) hc.po.1
 have c3 := ClipA_c c.po.peers.length (rowA c.po.peers) hc.po.1
 have c4 := x186 c.po.ways.length (rowW c.po.ways) hc.po.2
 have c5 := ClipW_c c.po.ways.length (rowW c.po.ways) hc.po.2
 have t1 := hc.tb
 have hat := hc.at
 unfold configD
 refine q20 Tryz.func78 rfl (by decide +kernel) (by rw [Tryz.ntmps78];simp) (fun l X h => by simp only [AL.look] at h;(repeat' split at h);all_goals first | omega | cases h) ?_;rw [Tryz.ntmps78];simp only [frA]
 (repeat ((fail_if_success (show AWP _ _ (.region 4 _ _) _ _));first | apply j0 | refine z7 rfl ?_ | refine x7 rfl ?_ | apply j6 | (refine x5 fun K hK => ?_) | (refine x8 fun K hK => ?_) | ((first | apply j5 | apply x6 | ((first | refine j4 (hK _ ?_) | refine q9 (hK _ _ j8 ?_));clear hK K));(first | show AWP _ _ _ _ _ | ((try simp only [z8]);first | show loopQ _ _ _ _ _ _ | show cutQ _ _ _ _ | show AWP _ _ _ _ _))) | ((first | refine x10 rfl rfl rfl ?_ | refine q13 rfl rfl rfl ?_);simp (disch:=omega) only [go_sem,seval,policyD,topoD,configD];(first | refine ⟨_,c1,?_⟩ | refine ⟨_,c2,?_⟩ | refine ⟨_,c3,?_⟩ | refine ⟨_,c4,?_⟩ | refine ⟨_,c5,?_⟩)) | ((first | refine j7 [1] rfl ?_ | refine q10 [1] rfl ?_);simp (disch:=omega) only [go_sem,seval,policyD,topoD,configD];(repeat (first | refine ⟨by omega,?_⟩ | refine ⟨True.intro,?_⟩)))))
 refine j32 3 3 1 71 (rowVal fun _ => .slice none 0 0) rfl (by kernel_rfl) rfl ?_
 (repeat (first | apply j0 | refine z7 rfl ?_ | refine x7 rfl ?_ | apply j6 | (refine x5 fun K hK => ?_) | (refine x8 fun K hK => ?_) | ((first | apply j5 | apply x6 | ((first | refine j4 (hK _ ?_) | refine q9 (hK _ _ j8 ?_));clear hK K));(first | show AWP _ _ _ _ _ | ((try simp only [z8]);first | show loopQ _ _ _ _ _ _ | show cutQ _ _ _ _ | show AWP _ _ _ _ _))) | ((first | refine j7 [1] rfl ?_ | refine q10 [1] rfl ?_);simp (disch:=omega) only [go_sem,seval,policyD,topoD,configD];(repeat (first | refine ⟨by omega,?_⟩ | refine ⟨True.intro,?_⟩)))))
 refine j13 (cloneSI c M0) (fun x => c.tb.length - x.i) ⟨0,fun _ => .slice none 0 0,M0,by omega,fun i hi => by omega,.refl _,fun i j hi => by omega⟩ ?_ (fun x => ?_)
 ·unfold cloneSI
  refine Weak.list ?_ ?_;(all_goals simp (disch:=omega) only [AllF,AllL,q11,z11,j10,exists_eq_left',go_sem,seval,policyD,topoD,configD]);(all_goals (repeat' (with_reducible apply And.intro)));(all_goals try (first | exact q8 rfl | (refine x11 ?_;omega) | (refine q8 ?_;simp;done)))
 obtain ⟨i,s,M,hi,hM,hg,hsp⟩ := x
 unfold cloneSI
 by_cases h : i < c.tb.length
 ·have r1 := q38 c.tb i
  have hb := hat i
  have sn : ∀ {v M2},GrowsM M M2 → HoldR M2 59 1 (tabLen c.tb i) (tabCell c.tb i) v → TabsM M2 c.tb (updS s i v) (i + 1) := by
   intro v M2 hgr hv k hk
   by_cases hki : k = i
   ·subst hki;rw [j63];exact hv
   ·rw [x47 _ _ hki];exact (hM k (by omega)).mono hgr
  have sp : ∀ {v},NewV M v → SepT c.tb (updS s i v) (i + 1) := by
   intro v hnv p q hp hq hne h1 h2 b m c1 m' c1' e1 e2
   have held : ∀ k,k < i → 0 < tabLen c.tb k → ∀ b m c1,s k = .slice (some ⟨b,0,none⟩) m c1 → M b ≠ none := by
    intro k hk hl b m c1 e hno
    rcases hM k hk with ⟨h0,_⟩ | ⟨b',c',cap,f',e',_,hb',_⟩
    ·omega
    ·rw [e] at e';cases e';rw [hno] at hb';cases hb'
   by_cases hpi : p = i
   ·subst hpi
    rw [j63] at e1
    rw [x47 _ _ (Ne.symm hne)] at e2
    exact held q (by omega) h2 b m' c1' e2 (hnv b m c1 e1)
   ·rw [x47 _ _ hpi] at e1
    by_cases hqi : q = i
    ·subst hqi
     rw [j63] at e2
     exact held p (by omega) h1 b m c1 e1 (hnv b m' c1' e2)
    ·rw [x47 _ _ hqi] at e2
     exact hsp p q (by omega) (by omega) hne h1 h2 b m c1 m' c1' e1 e2
  unfold tabLen tabCell at sn
  generalize c.tb.getD i [] = x at r1 hb sn
  have hx := hb.1
  (repeat ((fail_if_success (show AWP _ _ (.region 7 _ _) _ _));first | apply j0 | refine z7 rfl ?_ | refine x7 rfl ?_ | apply j6 | (refine x5 fun K hK => ?_) | (refine x8 fun K hK => ?_) | ((first | apply j5 | apply x6 | ((first | refine j4 (hK _ ?_) | refine q9 (hK _ _ j8 ?_));clear hK K));(first | show AWP _ _ _ _ _ | ((try simp only [z8]);first | show loopQ _ _ _ _ _ _ | show cutQ _ _ _ _ | show AWP _ _ _ _ _))) | ((first | refine j7 [1] rfl ?_ | refine q10 [1] rfl ?_);simp (disch:=omega) only [go_sem,seval,policyD,topoD,configD,r1];(repeat (first | refine ⟨by omega,?_⟩ | refine ⟨True.intro,?_⟩)))))
  refine x5 fun K hK => ?_
  iterate 2 ((first | refine x29 [1] rfl rfl ?_ | refine q148 [1] rfl rfl ?_ | refine q28 rfl rfl ?_ | refine x93 rfl rfl ?_);simp (disch:=omega) only [go_sem,seval,policyD,topoD,configD,r1];(repeat (first | refine ⟨by omega,?_⟩ | refine ⟨True.intro,?_⟩)))
  (refine z18 (x17 [(1999,1999)] rfl rfl rfl rfl rfl rfl (deepS_c x hb M) (fun _ => rfl) (q15 (by repeat (first | exact trivial | refine ⟨rfl,?_⟩)) (by kernel_rfl)) (fun _ => (q15 (by repeat (first | exact trivial | refine ⟨rfl,?_⟩)) (by kernel_rfl)))) ?_);rintro ⟨⟨v,M2⟩,hv,hg2,hnv⟩;simp (disch:=omega) only [go_sem,seval,policyD,topoD,configD,r1]
  have hM2 := sn hg2 hv
  (repeat (first | apply j0 | refine z7 rfl ?_ | refine x7 rfl ?_ | apply j6 | (refine x5 fun K hK => ?_) | (refine x8 fun K hK => ?_) | ((first | apply j5 | apply x6 | ((first | refine j4 (hK _ ?_) | refine q9 (hK _ _ j8 ?_));clear hK K));(first | show AWP _ _ _ _ _ | ((try simp only [z8]);first | show loopQ _ _ _ _ _ _ | show cutQ _ _ _ _ | show AWP _ _ _ _ _))) | ((first | refine j7 [1] rfl ?_ | refine q10 [1] rfl ?_);simp (disch:=omega) only [go_sem,seval,policyD,topoD,configD,r1];(repeat (first | refine ⟨by omega,?_⟩ | refine ⟨True.intro,?_⟩)))))
  refine ⟨⟨i + 1,updS s i v,M2,by omega,hM2,hg.trans hg2,sp hnv⟩,by simp only [];omega,?_⟩
  refine Weak.list ?_ ?_;(all_goals simp (disch:=omega) only [AllF,AllL,q11,z11,j10,exists_eq_left',go_sem,seval,policyD,topoD,configD,r1]);(all_goals (repeat' (with_reducible apply And.intro)));(all_goals try (first | exact q8 rfl | (refine x11 ?_;omega) | (refine q8 ?_;simp;done)))
  ·exact z26 rfl rfl (fun k hk => q186 s v i k hk)
 ·have : i = c.tb.length := by omega
  subst this
  have c6 := z187 c.tb.length (rowVal s) (by omega)
  (repeat (first | apply j0 | refine z7 rfl ?_ | refine x7 rfl ?_ | apply j6 | (refine x5 fun K hK => ?_) | (refine x8 fun K hK => ?_) | ((first | apply j5 | apply x6 | ((first | refine j4 (hK _ ?_) | refine q9 (hK _ _ j8 ?_));clear hK K));(first | show AWP _ _ _ _ _ | ((try simp only [z8]);first | show loopQ _ _ _ _ _ _ | show cutQ _ _ _ _ | show AWP _ _ _ _ _))) | ((first | refine x10 rfl rfl rfl ?_ | refine q13 rfl rfl rfl ?_);simp (disch:=omega) only [go_sem,seval,policyD,topoD,configD];(first | refine ⟨_,c6,?_⟩)) | ((first | refine j7 [1] rfl ?_ | refine q10 [1] rfl ?_);simp (disch:=omega) only [go_sem,seval,policyD,topoD,configD];(repeat (first | refine ⟨by omega,?_⟩ | refine ⟨True.intro,?_⟩)))))
  refine j9 ?_
  refine (j47 ⟨⟨(s,M),hM,hg,hsp⟩,rfl,rfl⟩ ?_ ?_).1
  ·refine ⟨⟨.agg (cfgS c s),?_,rfl⟩,trivial⟩
   simp (disch:=omega) only [cfgS,ResVar,ptrLoc,go_sem,seval,policyD,topoD,configD]
  ·simp [AL.look]
def errL : List (List Rule) → Int
 | [] => 0
 | l :: r => if (tabR l).2 = 0 then errL r else (tabR l).2
def mapL (l : List (List Rule)) : List (List Rule) := l.map fun x => (tabR x).1
def errT : List (List (List Rule)) → Int
 | [] => 0
 | t :: r => if errL t = 0 then errT r else errL t
def cfg0 : Config := ⟨[],⟨0,[],[]⟩,[]⟩
def slimC (c : Config) : Config × Int := if soundC c = 0 then (if errT c.tb = 0 then (⟨c.tp,c.po,c.tb.map mapL⟩,0) else (cfg0,errT c.tb)) else (cfg0,soundC c)
theorem j190 {α : Type} (l : List α) (k : Nat) : (l.eraseIdx k).length ≤ l.length := by
 rw [List.length_eraseIdx];split <;> omega
theorem z118 : ∀ (k : Nat) (l : List Rule),(tabGo k l).1.length ≤ l.length
 | 0,l => Nat.le_refl _
 |k + 1,l => by
  unfold tabGo
  split
  ·refine Nat.le_trans (z118 k _) ?_
   split
   ·exact j190 _ _
   ·exact Nat.le_refl _
  ·simp
theorem x80 (l : List Rule) : (tabR l).1.length ≤ l.length := by
 unfold tabR
 split
 ·exact z118 _ _
 ·simp
theorem q191 : (tabR []).1 = [] := List.eq_nil_of_length_eq_zero (by have := x80 [];simpa using this)
theorem z191 : mapL [] = [] := rfl
theorem q48 (l : List (List Rule)) : (mapL l).length = l.length := by unfold mapL;simp
theorem z64 (l : List (List Rule)) (i : Nat) : (mapL l).getD i [] = (tabR (l.getD i [])).1 := by
 unfold mapL
 rw [List.getD_eq_getElem?_getD,List.getD_eq_getElem?_getD,List.getElem?_map]
 cases l[i]? <;> simp [q191]
theorem x64 (t : List (List (List Rule))) (i : Nat) : (t.map mapL).getD i [] = mapL (t.getD i []) := by
 rw [List.getD_eq_getElem?_getD,List.getD_eq_getElem?_getD,List.getElem?_map]
 cases t[i]? <;> simp [z191]
def mixF (x : List (List Rule)) (j i : Nat) : List Rule := if i < j then (tabR (x.getD i [])).1 else x.getD i []
def rowMix (x : List (List Rule)) (j : Nat) : Nat → List Dat := fun i => [.sl 12 (mixF x j i).length (rowR (mixF x j i))]
def tabSl (t : List (List (List Rule))) (k i : Nat) : Nat → List Dat := rowMix (t.getD i []) (if i < k then (t.getD i []).length else 0)
theorem x191 (x : List (List Rule)) (i : Nat) : rowMix x 0 i = rowRR x i := rfl
theorem j191 (x : List (List Rule)) (i : Nat) (hi : i < x.length) : rowMix x x.length i = rowRR (mapL x) i := by
 unfold rowMix mixF rowRR
 rw [if_pos hi,z64]
theorem q192 (x : List (List Rule)) (j i : Nat) (f : Nat → List Dat) (hf : f i = rowMix x j i) : putEl f j 0 [.sl 12 (tabR (x.getD j [])).1.length (rowR (tabR (x.getD j [])).1)] i = if i = j then [Dat.sl 12 (tabR (x.getD j [])).1.length (rowR (tabR (x.getD j [])).1)] ++ (f j).drop 1 else rowMix x j i := by
 unfold putEl
 split
 ·simp
 ·exact hf
structure SlcS (c : Config) (s : Nat → Value) (R : Int) where
 k : Nat
 M : Nat → Option Ent
 hk : k ≤ c.tb.length
 hR : errT (c.tb.drop k) = R
 h : ∀ i,i < c.tb.length → HoldR M 59 1 (tabLen c.tb i) (tabSl c.tb k i) (s i)
structure SljS (x : List (List Rule)) (M : Nat → Option Ent) (b cap : Nat) (Q : Int) where
 j : Nat
 M' : Nat → Option Ent
 f : Nat → List Dat
 hj : j ≤ x.length
 hM : M' b = some ⟨59,1,cap,x.length,f⟩
 hf : ∀ i,i < x.length → f i = rowMix x j i
 ho : ∀ b',b' ≠ b → M' b' = M b'
 hQ : errL (x.drop j) = Q
def zCells : List AV := [.p (.d (.v (.slice none 0 0))),.p (.d (.v (.int .i64 0))),.p (.d (.v (.slice none 0 0))),.p (.d (.v (.slice none 0 0))),.p (.d (.v (.slice none 0 0)))]
def cCells (c : Config) (s : Nat → Value) : List AV := [.p (.d (.sl 1 c.tp.length (rowPP c.tp))),.p (.d (.v (.int .i64 c.po.tn))),.p (.d (.sl 2 c.po.peers.length (rowA c.po.peers))),.p (.d (.sl 3 c.po.ways.length (rowW c.po.ways))),.p (.d (.sl 1 c.tb.length (rowVal s)))]
def slcI (c : Config) (s : Nat → Value) (R : Int) (x : SlcS c s R) : ASt :=
 ⟨[(22,.p (.d (.v (.int .i64 (x.k : Int))))),(21,.p (.d (.v (.int .i64 (c.tb.length : Int))))),(20,.p (.d (.sl 1 c.tb.length (rowVal s)))),(5,.loc 5 0),(2,.loc 2 0)],[(5,.cells 84 (cCells c s)),(2,.cells 84 zCells),(1999,.raw x.M)]⟩
def sljI (c : Config) (s : Nat → Value) (k : Nat) (x : List (List Rule)) (M : Nat → Option Ent) (b cap cc : Nat) (Q : Int) (z : SljS x M b cap Q) : ASt :=
 ⟨[(28,.p (.d (.v (.int .i64 (z.j : Int))))),(27,.p (.d (.v (.int .i64 (x.length : Int))))),(7,.p (.d (.v (.slice (some ⟨b,0,none⟩) x.length cc)))),(22,.p (.d (.v (.int .i64 (k : Int))))),(21,.p (.d (.v (.int .i64 (c.tb.length : Int))))),(20,.p (.d (.sl 1 c.tb.length (rowVal s)))),(5,.loc 5 0),(2,.loc 2 0)],
  [(5,.cells 84 (cCells c s)),(2,.cells 84 zCells),(1999,.raw z.M')]⟩
def zC : List AV := [.p (.d (.sl 1 0 (rowPP []))),.p (.d (.v (.int .i64 0))),.p (.d (.sl 2 0 (rowA []))),.p (.d (.sl 3 0 (rowW []))),.p (.d (.sl 1 0 (rowTT [])))]
theorem x118 : LesD zCells zC := .cons z23 (.cons (Le.refl _) (.cons z23 (.cons z23 (.cons z23 .nil))))
theorem errL_or (l : List (List Rule)) (j : Nat) (h : j < l.length) : errL (l.drop j) = if (tabR (l.getD j [])).2 = 0 then errL (l.drop (j + 1)) else (tabR (l.getD j [])).2 := by
 rw [x33 l j [] h];rfl
theorem errT_or (t : List (List (List Rule))) (j : Nat) (h : j < t.length) : errT (t.drop j) = if errL (t.getD j []) = 0 then errT (t.drop (j + 1)) else errL (t.getD j []) := by
 rw [x33 t j [] h];rfl
theorem z192 (t : List (List (List Rule))) (k i : Nat) (hne : i ≠ k) : tabSl t (k + 1) i = tabSl t k i := by
 unfold tabSl
 by_cases h : i < k
 ·rw [if_pos h,if_pos (by omega)]
 ·rw [if_neg h,if_neg (by omega)]
set_option maxRecDepth 100000 in
theorem j118 (c : Config) (hc : c.small) : ACalls Tryz.prog 34 [.agg (configD c)] (· = [.agg (configD (slimC c).1),.d (.v (.int .i64 (slimC c).2))]) := by
 have ks := q189 c hc
 have z5 := hc.tb
 have hat := hc.at
 unfold slimC
 by_cases hs : soundC c = 0
 ·rw [if_pos hs]
  rw [hs] at ks
  obtain ⟨R,hR⟩ : ∃ R,errT c.tb = R := ⟨_,rfl⟩
  rw [hR]
  refine q12 Tryz.func34 rfl (by decide +kernel) (by rw [Tryz.ntmps34];simp) ?_;rw [Tryz.ntmps34];simp only [frOf]
  refine x115 rfl ?_
  (repeat ((fail_if_success (show AWP _ _ (.region 4 _ _) _ _));first | apply j0 | refine z7 rfl ?_ | refine x7 rfl ?_ | apply j6 | (refine x5 fun K hK => ?_) | ((first | apply j5 | apply x6 | (refine j4 (hK _ ?_);clear hK K));(first | show AWP _ _ _ _ _ | ((try simp only [z8]);first | show loopQ _ _ _ _ _ _ | show AWP _ _ _ _ _))) | (refine x10 rfl rfl rfl ?_;simp (disch:=omega) only [go_sem,seval,cfgS,zCells,cCells,configD];(first | refine ⟨_,ks,?_⟩)) | (refine j7 [] rfl ?_;simp (disch:=omega) only [go_sem,seval,cfgS,zCells,cCells,configD];(repeat refine ⟨by omega,?_⟩))))
  refine x5 fun K hK => ?_
  iterate 1 ((first | refine x29 [] rfl rfl ?_ | refine q28 rfl rfl ?_);simp (disch:=omega) only [go_sem,seval,cfgS,zCells,cCells,configD];(repeat refine ⟨by omega,?_⟩))
  (refine z18 (x17 [(1999,1999)] rfl rfl rfl rfl rfl rfl (x190 c hc noM) (fun _ => rfl) (q15 (by repeat (first | exact trivial | refine ⟨rfl,?_⟩)) (by kernel_rfl)) (fun _ => (q15 (by repeat (first | exact trivial | refine ⟨rfl,?_⟩)) (by kernel_rfl)))) ?_);rintro ⟨⟨s,M⟩,hM,hg,hsp⟩;simp (disch:=omega) only [go_sem,seval,cfgS,zCells,cCells,configD]
  (repeat (first | apply j0 | refine z7 rfl ?_ | refine x7 rfl ?_ | apply j6 | (refine x5 fun K hK => ?_) | ((first | apply j5 | apply x6 | (refine j4 (hK _ ?_);clear hK K));(first | show AWP _ _ _ _ _ | ((try simp only [z8]);first | show loopQ _ _ _ _ _ _ | show AWP _ _ _ _ _))) | (refine j7 [] rfl ?_;simp (disch:=omega) only [go_sem,seval,cfgS,zCells,cCells,configD];(repeat refine ⟨by omega,?_⟩))))
  refine j13 (slcI c s R) (fun x => c.tb.length - x.k) ⟨0,M,by omega,hR,fun i hi => ?_⟩ ?_ (fun x => ?_)
  ·unfold tabSl;rw [if_neg (by omega)];exact hM i hi
  ·unfold slcI
   refine Weak.list ?_ ?_;(all_goals simp (disch:=omega) only [AllF,AllL,q11,z11,j10,exists_eq_left',go_sem,seval,cfgS,zCells,cCells,configD]);(all_goals (repeat' (with_reducible apply And.intro)));(all_goals try (first | exact q8 rfl | (refine x11 ?_;omega) | (refine q8 ?_;simp;done)))
  obtain ⟨k,M,hk,hR,hH⟩ := x
  unfold slcI
  simp only [] at hk hR hH ⊢
  by_cases hkl : k < c.tb.length
  ·rw [errT_or c.tb k hkl] at hR
   have hHk := hH k hkl
   have hb := hat k
   have eK : tabSl c.tb k k = rowRR (c.tb.getD k []) := by unfold tabSl;rw [if_neg (by omega)];rfl
   rw [eK] at hHk
   have r1 := j185 s k
   have nextH : ∀ M',HoldR M' 59 1 (tabLen c.tb k) (rowMix (c.tb.getD k []) (c.tb.getD k []).length) (s k) → (∀ i,i < c.tb.length → i ≠ k → HoldR M' 59 1 (tabLen c.tb i) (tabSl c.tb k i) (s i)) →
     ∀ i,i < c.tb.length → HoldR M' 59 1 (tabLen c.tb i) (tabSl c.tb (k + 1) i) (s i) := by
    intro M' h1 h2 i hi
    by_cases hik : i = k
    ·subst hik
     unfold tabSl
     rw [if_pos (Nat.lt_succ_self _)]
     exact h1
    ·rw [z192 _ _ _ hik];exact h2 i hi hik
   have hsepk : ∀ b m c1,s k = .slice (some ⟨b,0,none⟩) m c1 → 0 < tabLen c.tb k → ∀ i,i < c.tb.length → i ≠ k → ∀ m' c',s i = .slice (some ⟨b,0,none⟩) m' c' → tabLen c.tb i = 0 := by
    intro b m c1 e1 h0 i hi hik m' c' e2
    by_cases h : 0 < tabLen c.tb i
    ·exact absurd e2 (hsp k i hkl hi (fun e => hik e.symm) h0 h b m c1 m' c' e1)
    ·omega
   unfold tabLen at hHk hsepk nextH
   generalize c.tb.getD k [] = x at hHk hb nextH hR hsepk
   have hx := hb.1
   rcases hHk with ⟨h0,aa,cc,hv⟩ | ⟨b,cc,cap,f,hv,hcc,hMb,hf⟩
   ·have hx0 := List.eq_nil_of_length_eq_zero h0
    subst hx0
    rw [hv] at r1
    (repeat (first | apply j0 | refine z7 rfl ?_ | refine x7 rfl ?_ | apply j6 | (refine x5 fun K hK => ?_) | ((first | apply j5 | apply x6 | (refine j4 (hK _ ?_);clear hK K));(first | show AWP _ _ _ _ _ | ((try simp only [z8]);first | show loopQ _ _ _ _ _ _ | show AWP _ _ _ _ _))) | (refine j7 [] rfl ?_;simp (disch:=omega) only [go_sem,seval,cfgS,zCells,cCells,configD,r1];(repeat refine ⟨by omega,?_⟩))))
    refine j13 (fun _ : Unit => ⟨[(28,.p (.d (.v (.int .i64 0)))),(27,.p (.d (.v (.int .i64 0)))),(22,.p (.d (.v (.int .i64 (k : Int))))),(21,.p (.d (.v (.int .i64 (c.tb.length : Int))))),(20,.p (.d (.sl 1 c.tb.length (rowVal s)))),(5,.loc 5 0),(2,.loc 2 0)],[(5,.cells 84 (cCells c s)),(2,.cells 84 zCells),(1999,.raw M)]⟩) (fun _ => 0) () ?_ (fun _ => ?_)
    ·refine Weak.list ?_ ?_;(all_goals simp (disch:=omega) only [AllF,AllL,q11,z11,j10,exists_eq_left',go_sem,seval,cfgS,zCells,cCells,configD,r1]);(all_goals (repeat' (with_reducible apply And.intro)));(all_goals try (first | exact q8 rfl | (refine x11 ?_;omega) | (refine q8 ?_;simp;done)))
    (repeat (first | apply j0 | refine z7 rfl ?_ | refine x7 rfl ?_ | apply j6 | (refine x5 fun K hK => ?_) | ((first | apply j5 | apply x6 | (refine j4 (hK _ ?_);clear hK K));(first | show AWP _ _ _ _ _ | ((try simp only [z8]);first | show loopQ _ _ _ _ _ _ | show AWP _ _ _ _ _))) | (refine j7 [] rfl ?_;simp (disch:=omega) only [go_sem,seval,cfgS,zCells,cCells,configD,r1];(repeat refine ⟨by omega,?_⟩))))
    refine ⟨⟨k + 1,M,by omega,hR,nextH M ?_ ?_⟩,by simp only [];omega,?_⟩
    ·rw [hv];exact .inl ⟨rfl,_,_,rfl⟩
    ·intro i hi _;exact hH i hi
    ·refine Weak.list ?_ ?_;(all_goals simp (disch:=omega) only [AllF,AllL,q11,z11,j10,exists_eq_left',go_sem,seval,cfgS,zCells,cCells,configD,r1]);(all_goals (repeat' (with_reducible apply And.intro)));(all_goals try (first | exact q8 rfl | (refine x11 ?_;omega) | (refine q8 ?_;simp;done)))
   ·rw [hv] at r1
    (repeat (first | apply j0 | refine z7 rfl ?_ | refine x7 rfl ?_ | apply j6 | (refine x5 fun K hK => ?_) | ((first | apply j5 | apply x6 | (refine j4 (hK _ ?_);clear hK K));(first | show AWP _ _ _ _ _ | ((try simp only [z8]);first | show loopQ _ _ _ _ _ _ | show AWP _ _ _ _ _))) | (refine j7 [] rfl ?_;simp (disch:=omega) only [go_sem,seval,cfgS,zCells,cCells,configD,r1];(repeat refine ⟨by omega,?_⟩))))
    obtain ⟨Q,hQ⟩ : ∃ Q,errL x = Q := ⟨_,rfl⟩
    rw [hQ] at hR
    refine j13 (sljI c s k x M b cap cc Q) (fun z => x.length - z.j) ⟨0,M,f,Nat.zero_le _,hMb,fun i hi => by rw [x191];exact hf i hi,fun _ _ => rfl,hQ⟩ ?_ (fun z => ?_)
    ·unfold sljI
     refine Weak.list ?_ ?_;(all_goals simp (disch:=omega) only [AllF,AllL,q11,z11,j10,exists_eq_left',go_sem,seval,cfgS,zCells,cCells,configD,r1]);(all_goals (repeat' (with_reducible apply And.intro)));(all_goals try (first | exact q8 rfl | (refine x11 ?_;omega) | (refine q8 ?_;simp;done)))
    obtain ⟨j,M',f',hj,hM',hf',ho,hQ'⟩ := z
    unfold sljI
    simp only [] at hj hM' hf' ho hQ' ⊢
    by_cases hjl : j < x.length
    ·rw [errL_or x j hjl] at hQ'
     have hl1 := z28 hb j
     have r2 : f' j = [.sl 12 (x.getD j []).length (rowR (x.getD j []))] := by
      rw [hf' j hjl]
      unfold rowMix mixF
      rw [if_neg (by omega)]
     have hput : ∀ i,i < x.length → putEl f' j 0 [.sl 12 (tabR (x.getD j [])).1.length (rowR (tabR (x.getD j [])).1)] i = rowMix x (j + 1) i := by
      intro i hi
      rw [q192 x j i f' (hf' i hi)]
      split
      ·rename_i e;subst e
       rw [r2]
       unfold rowMix mixF
       rw [if_pos (by omega)];rfl
      ·rename_i hne
       unfold rowMix mixF
       by_cases h : i < j
       ·rw [if_pos h,if_pos (by omega)]
       ·rw [if_neg h,if_neg (by omega)]
     have kt := z117 (x.getD j []) (by omega)
     generalize tabR (x.getD j []) = u at kt hput hQ'
     generalize x.getD j [] = y at kt r2 hl1
     obtain ⟨u,e⟩ := u
     simp only [] at kt hput hQ'
     by_cases he : e = 0
     ·subst he
      rw [if_pos rfl] at hQ'
      (repeat (first | apply j0 | refine z7 rfl ?_ | refine x7 rfl ?_ | apply j6 | (refine x5 fun K hK => ?_) | ((first | apply j5 | apply x6 | (refine j4 (hK _ ?_);clear hK K));(first | show AWP _ _ _ _ _ | ((try simp only [z8]);first | show loopQ _ _ _ _ _ _ | show AWP _ _ _ _ _))) | (refine x10 rfl rfl rfl ?_;simp (disch:=omega) only [go_sem,seval,cfgS,zCells,cCells,configD,r2,hM'];(first | refine ⟨_,kt,?_⟩)) | (refine j7 [] rfl ?_;simp (disch:=omega) only [go_sem,seval,cfgS,zCells,cCells,configD,r2,hM'];(repeat refine ⟨by omega,?_⟩))))
      refine ⟨⟨j + 1,setM M' b (some ⟨59,1,cap,x.length,putEl f' j 0 [.sl 12 u.length (rowR u)]⟩),putEl f' j 0 [.sl 12 u.length (rowR u)],by omega,q27 _ _ _,hput,fun b' hb' => by rw [q41 _ _ hb'];exact ho b' hb',hQ'⟩,by simp only [];omega,?_⟩
      refine Weak.list ?_ ?_;(all_goals simp (disch:=omega) only [AllF,AllL,q11,z11,j10,exists_eq_left',go_sem,seval,cfgS,zCells,cCells,configD,r2,hM']);(all_goals (repeat' (with_reducible apply And.intro)));(all_goals try (first | exact q8 rfl | (refine x11 ?_;omega) | (refine q8 ?_;simp;done)))
     ·rw [if_neg he] at hQ'
      subst hQ'
      rw [if_neg he] at hR
      subst hR
      rw [if_neg he]
      have q := q14 he
      (repeat (first | apply j0 | refine z7 rfl ?_ | refine x7 rfl ?_ | apply j6 | (refine x5 fun K hK => ?_) | ((first | apply j5 | apply x6 | (refine j4 (hK _ ?_);clear hK K));(first | show AWP _ _ _ _ _ | ((try simp only [z8]);first | show loopQ _ _ _ _ _ _ | show AWP _ _ _ _ _))) | (refine x10 rfl rfl rfl ?_;simp (disch:=omega) only [go_sem,seval,cfgS,zCells,cCells,configD,r2,hM',q];(first | refine ⟨_,kt,?_⟩)) | (refine j7 [] rfl ?_;simp (disch:=omega) only [go_sem,seval,cfgS,zCells,cCells,configD,r2,hM',q];(repeat refine ⟨by omega,?_⟩))))
      refine q18 (A' := ⟨[(3,.p (.d (.v (.int .i64 e)))),(2,.loc 2 0)],[(2,.cells 84 zC)]⟩) ?_ ?_
      ·refine Weak.list ?_ ?_;(all_goals simp (disch:=omega) only [AllF,AllL,q11,z11,j10,exists_eq_left',go_sem,seval,cfgS,zCells,cCells,configD,r2,hM',q]);(all_goals (repeat' (with_reducible apply And.intro)));(all_goals try (first | exact q8 rfl | (refine x11 ?_;omega) | (refine q8 ?_;simp;done)))
       exact x45 x118
      unfold zC
      refine j9 ⟨_,?_,rfl⟩;rw [Tryz.results34];simp (disch:=omega) only [ResVars,ResVar,ptrLoc,go_sem,seval,cfgS,zCells,cCells,configD,r2,hM',q]
      rfl
    ·have : j = x.length := by omega
     subst this
     rw [List.drop_length] at hQ'
     have hQ' : (0 : Int) = Q := hQ'
     subst hQ'
     rw [if_pos rfl] at hR
     (repeat (first | apply j0 | refine z7 rfl ?_ | refine x7 rfl ?_ | apply j6 | (refine x5 fun K hK => ?_) | ((first | apply j5 | apply x6 | (refine j4 (hK _ ?_);clear hK K));(first | show AWP _ _ _ _ _ | ((try simp only [z8]);first | show loopQ _ _ _ _ _ _ | show AWP _ _ _ _ _))) | (refine j7 [] rfl ?_;simp (disch:=omega) only [go_sem,seval,cfgS,zCells,cCells,configD,hM'];(repeat refine ⟨by omega,?_⟩))))
     refine ⟨⟨k + 1,M',by omega,hR,nextH M' ?_ ?_⟩,by simp only [];omega,?_⟩
     ·rw [hv];exact .inr ⟨b,cc,cap,f',rfl,hcc,hM',hf'⟩
     ·intro i hi hik
      rcases hH i hi with h | ⟨b',c',cap',f'',e1,e2,e3,e4⟩
      ·exact .inl h
      ·by_cases hbb : b' = b
       ·subst hbb
        have h1 : tabLen c.tb i = 0 := by
         by_cases hx0 : 0 < x.length
         ·exact hsepk b' _ _ hv hx0 i hi hik _ _ e1
         ·rw [hMb] at e3
          injection e3 with e3
          injection e3 with _ _ _ e3 _
          omega
        exact .inl ⟨h1,_,_,by rw [e1,h1]⟩
       ·exact .inr ⟨b',c',cap',f'',e1,e2,by rw [ho b' hbb];exact e3,e4⟩
     ·refine Weak.list ?_ ?_;(all_goals simp (disch:=omega) only [AllF,AllL,q11,z11,j10,exists_eq_left',go_sem,seval,cfgS,zCells,cCells,configD,hM']);(all_goals (repeat' (with_reducible apply And.intro)));(all_goals try (first | exact q8 rfl | (refine x11 ?_;omega) | (refine q8 ?_;simp;done)))
  ·have : k = c.tb.length := by omega
   subst this
   rw [List.drop_length] at hR
   have hR : (0 : Int) = R := hR
   subst hR
   rw [if_pos rfl]
   (repeat ((fail_if_success (show AWP _ _ (.region 17 _ _) _ _));first | apply j0 | refine z7 rfl ?_ | refine x7 rfl ?_ | apply j6 | (refine x5 fun K hK => ?_) | ((first | apply j5 | apply x6 | (refine j4 (hK _ ?_);clear hK K));(first | show AWP _ _ _ _ _ | ((try simp only [z8]);first | show loopQ _ _ _ _ _ _ | show AWP _ _ _ _ _))) | (refine j7 [] rfl ?_;simp (disch:=omega) only [go_sem,seval,cfgS,zCells,cCells,configD];(repeat refine ⟨by omega,?_⟩))))
   refine x5 fun K hK => ?_
   iterate 1 ((first | refine x29 [] rfl rfl ?_ | refine q28 rfl rfl ?_);simp (disch:=omega) only [go_sem,seval,cfgS,zCells,cCells,configD];(repeat refine ⟨by omega,?_⟩))
   have hTs : RdD M (.sl 1 c.tb.length (rowVal s)) (.sl 1 c.tb.length (rowTT (c.tb.map mapL))) := by
    refine RowsM.rd (e := 59) (sz := 1) (len := tabLen c.tb) (f := fun i => rowRR (mapL (c.tb.getD i []))) (fun i hi => ?_) (fun i hi => ?_)
    ·have h := hH i hi
     unfold tabSl at h
     rw [if_pos hi] at h
     rcases h with h | ⟨b,cc,cap,f,e1,e2,e3,e4⟩
     ·exact .inl h
     ·exact .inr ⟨b,cc,cap,f,e1,e2,e3,fun j hj => by rw [e4 j hj];exact j191 _ j hj⟩
    ·unfold rowTT
     rw [x64,q48];rfl
   refine q94 (Weak.melt _ M 49 _ (.p (.agg [.sl 1 c.tp.length (rowPP c.tp),.v (.int .i64 c.po.tn),.sl 2 c.po.peers.length (rowA c.po.peers),.sl 3 c.po.ways.length (rowW c.po.ways),.sl 1 c.tb.length (rowTT (c.tb.map mapL))])) rfl rfl (.p (.agg _ _ rfl fun j x y hx hy => ?_))) ?_
   ·match j,hx,hy with
    | 0,hx,hy => cases hx;cases hy;exact .refl _
    | 1,hx,hy => cases hx;cases hy;exact .refl _
    | 2,hx,hy => cases hx;cases hy;exact .refl _
    | 3,hx,hy => cases hx;cases hy;exact .refl _
    | 4,hx,hy => cases hx;cases hy;exact hTs
    | j + 5,hx,hy => cases hx
   (repeat (first | apply j0 | refine z7 rfl ?_ | refine x7 rfl ?_ | apply j6 | (refine x5 fun K hK => ?_) | ((first | apply j5 | apply x6 | (refine j4 (hK _ ?_);clear hK K));(first | show AWP _ _ _ _ _ | ((try simp only [z8]);first | show loopQ _ _ _ _ _ _ | show AWP _ _ _ _ _))) | (refine j7 [] rfl ?_;simp (disch:=omega) only [go_sem,seval,cfgS,zCells,cCells,configD,z22];(repeat refine ⟨by omega,?_⟩))))
   refine j9 ⟨_,?_,rfl⟩;rw [Tryz.results34];simp (disch:=omega) only [ResVars,ResVar,ptrLoc,go_sem,seval,cfgS,zCells,cCells,configD,z22]
   rw [List.length_map]
 ·rw [if_neg hs]
  have q : (soundC c != 0) = true := q14 hs
  generalize soundC c = e at *
  refine q12 Tryz.func34 rfl (by decide +kernel) (by rw [Tryz.ntmps34];simp) ?_;rw [Tryz.ntmps34];simp only [frOf]
  (repeat (first | apply j0 | refine z7 rfl ?_ | refine x7 rfl ?_ | apply j6 | (refine x5 fun K hK => ?_) | ((first | apply j5 | apply x6 | (refine j4 (hK _ ?_);clear hK K));(first | show AWP _ _ _ _ _ | ((try simp only [z8]);first | show loopQ _ _ _ _ _ _ | show AWP _ _ _ _ _))) | (refine x10 rfl rfl rfl ?_;simp (disch:=omega) only [go_sem,seval,cfgS,zCells,cCells,configD,q];(first | refine ⟨_,ks,?_⟩)) | (refine j7 [] rfl ?_;simp (disch:=omega) only [go_sem,seval,cfgS,zCells,cCells,configD,q];(repeat refine ⟨by omega,?_⟩))))
  refine q18 (A' := ⟨[(3,.p (.d (.v (.int .i64 e)))),(2,.loc 2 0)],[(2,.cells 84 zC)]⟩) ?_ ?_
  ·refine Weak.list ?_ ?_;(all_goals simp (disch:=omega) only [AllF,AllL,q11,z11,j10,exists_eq_left',go_sem,seval,cfgS,zCells,cCells,configD,q]);(all_goals (repeat' (with_reducible apply And.intro)));(all_goals try (first | exact q8 rfl | (refine x11 ?_;omega) | (refine q8 ?_;simp;done)))
   exact x45 x118
  unfold zC
  refine j9 ⟨_,?_,rfl⟩;rw [Tryz.results34];simp (disch:=omega) only [ResVars,ResVar,ptrLoc,go_sem,seval,cfgS,zCells,cCells,configD,q]
  rfl
end Go.Proofs.YtemcdefpihkfpaaGreat
namespace Go.Proofs.YtemcdefpihkfpaaGreat
open Go.Proofs.YtemcdefpihkfpaaGreat.AL
theorem x192 {a b : List Cube} (h : BitVec 128) (e : meetPE a b = 0) : hasP (meetPV a b) h = (hasP a h && hasP b h) := by
 unfold meetPE at e
 unfold meetPV
 split at e
 ·rename_i s
  rw [if_pos s,x77 _ e,z111,x178]
 ·cases e
end Go.Proofs.YtemcdefpihkfpaaGreat
namespace Go.Proofs.YtemcdefpihkfpaaGreat
open Go Go.Proofs.YtemcdefpihkfpaaGreat.AL
theorem j64 {x y : Rule} : doEq x y = true ↔ x.kd = y.kd ∧ x.pt = y.pt ∧ x.tb = y.tb ∧ x.st = y.st := by
 unfold doEq
 simp only [Bool.and_eq_true,beq_iff_eq]
theorem j192 {x y z : Rule} (h : doEq x y = true) (k : doEq y z = true) : doEq x z = true := by
 rw [j64] at *
 obtain ⟨a,b,c,d⟩ := h
 obtain ⟨e,f,g,i⟩ := k
 exact ⟨a.trans e,b.trans f,c.trans g,d.trans i⟩
theorem q119 (x : Rule) : doEq x x = true := j64.2 ⟨rfl,rfl,rfl,rfl⟩
theorem q193 {x y : Rule} (h : doEq x y = true) : doEq y x = true := by
 rw [j64] at *
 obtain ⟨a,b,c,d⟩ := h
 exact ⟨a.symm,b.symm,c.symm,d.symm⟩
theorem z119 {l : List Rule} {n : Nat} {h : BitVec 128} (hs : soundL l = true) : ∀ (r : List Nat) (p : List Cube) (b : Bool),(∀ k ∈ r,k < l.length) → (∀ k ∈ p,k.sound = true) → p.length ≤ 200 → spGo l n r p b = (true,0) →
  b = true ∧ (hasP p h = true → ∃ r1 k r2,r = r1 ++ k :: r2 ∧ (∀ j ∈ r1,hasC (l.getD j r0).mt h = false) ∧ hasC (l.getD k r0).mt h = true ∧ doEq (l.getD k r0) (l.getD n r0) = true)
 | [],p,b,_,hp,_,hg => by
  unfold spGo at hg
  have h1 : (b && p.isEmpty) = true := congrArg Prod.fst hg
  rw [Bool.and_eq_true] at h1
  refine ⟨h1.1,fun hh => ?_⟩
  have : p = [] := List.isEmpty_iff.1 h1.2
  subst this
  exact absurd hh (by unfold hasP;simp)
 |k :: r,p,b,hr,hp,hl,hg => by
  unfold spGo at hg
  have hk := hr k (List.mem_cons_self ..)
  have hms := x28 hs hk
  split at hg
  ·rename_i he
   split at hg
   ·rename_i he2
    obtain ⟨h1,h2⟩ := z119 (h := h) hs r _ _ (fun j hj => hr j (List.mem_cons_of_mem _ hj)) (x46 hp hms he2) (z39 _ _ hl) hg
    rw [Bool.and_eq_true,Bool.or_eq_true] at h1
    refine ⟨h1.1,fun hh => ?_⟩
    cases hc : hasC (l.getD k r0).mt h with
    |true =>
     refine ⟨[],k,r,rfl,(fun j hj => by cases hj),hc,?_⟩
     rcases h1.2 with hem | hd
     ·have hm := x192 h he
      rw [hh,List.isEmpty_iff.1 hem] at hm
      unfold hasP at hm
      rw [List.any_cons,List.any_nil,hc] at hm
      cases hm
     ·exact hd
    |false =>
     have hx := (j62 h [(l.getD k r0).mt] p (fun x hx => by simp only [List.mem_singleton] at hx;subst hx;exact hms) hp he2).1
     rw [hh] at hx
     have : hasP [(l.getD k r0).mt] h = false := by unfold hasP;rw [List.any_cons,List.any_nil,hc];rfl
     rw [this] at hx
     obtain ⟨r1,k',r2,e,g1,g2,g3⟩ := h2 (by rw [hx];rfl)
     refine ⟨k :: r1,k',r2,by rw [e];rfl,fun j hj => ?_,g2,g3⟩
     rcases List.mem_cons.1 hj with rfl | hj
     ·exact hc
     ·exact g1 j hj
   ·rename_i he2;exact absurd (congrArg Prod.snd hg) he2
  ·rename_i he;exact absurd (congrArg Prod.snd hg) he
def AlikeF (l out : List Rule) (h : BitVec 128) : Prop := match findR l h,findR out h with
 | none,none => True
 | some p,some q => doEq (l.getD p r0) (out.getD q r0) = true
 | _,_ => False
theorem AlikeF.refl (l : List Rule) (h : BitVec 128) : AlikeF l l h := by
 unfold AlikeF
 cases findR l h with
 | none => trivial
 | some p => exact q119 _
theorem AlikeF.trans {a b c : List Rule} {h : BitVec 128} (x : AlikeF a b h) (y : AlikeF b c h) : AlikeF a c h := by
 unfold AlikeF at *
 cases ha : findR a h <;> cases hb : findR b h <;> cases hc : findR c h <;> rw [ha,hb] at x <;> rw [hb,hc] at y <;> first | trivial | exact x.elim | exact y.elim | exact j192 x y
theorem z193 {l : List Rule} {n : Nat} {h : BitVec 128} (hb : IsBest l h n) {q : Nat} (hq : q < l.length) (hne : q ≠ n) (hc : hasC (l.getD q r0).mt h = true) : q ∈ behR l n := by
 rw [q40 hb.lt]
 refine ⟨hq,?_⟩
 obtain ⟨h1,h2⟩ := hb.top q hq hc
 unfold ltR
 by_cases h3 : (l.getD q r0).pr < (l.getD n r0).pr
 ·exact .inl h3
 ·right
  refine ⟨by omega,?_⟩
  rcases Nat.lt_or_gt_of_ne hne with h4 | h4
  ·have := h2 h4;omega
  ·exact h4
theorem x193 {l : List Rule} {n : Nat} (hn : n < l.length) (hsp : spareR l n = (true,0)) (h : BitVec 128) : AlikeF l (outR l n) h := by
 unfold spareR at hsp
 split at hsp
 ·rename_i he
  obtain ⟨hs,hl,hp⟩ := q79 hn he
  by_cases hf : findR l h = some n
  ·have sp := j46 l h
   rw [hf] at sp
   have hh := z182 hn he h
   rw [hf,decide_eq_true rfl] at hh
   obtain ⟨_,h2⟩ := z119 (h := h) hs (behR l n) _ _ (fun k hk => ((q40 hn).1 hk).1) hp hl hsp
   obtain ⟨r1,k,r2,e,g1,g2,g3⟩ := h2 hh
   have hkm : k ∈ behR l n := by rw [e];simp
   obtain ⟨hkl,hkn⟩ := (q40 hn).1 hkm
   have hne : k ≠ n := fun e => by subst e;exact x75 hkn
   have srt := j78 l n
   rw [e] at srt
   have ol := j112 hn
   have sa : (if shiftN n k < n then shiftN n k else shiftN n k + 1) = k := by
    unfold shiftN
    by_cases h1 : k < n
    ·rw [if_pos h1,if_pos h1]
    ·rw [if_neg h1,if_neg (by omega)];omega
   have best : IsBest (outR l n) h (shiftN n k) := by
    refine ⟨by unfold shiftN;split <;> omega,by rw [j28 hn,sa];exact g2,fun q hq hq2 => ?_⟩
    rw [j28 hn] at hq2 ⊢
    rw [j28 hn,sa]
    have hql : (if q < n then q else q + 1) < l.length := by split <;> omega
    have hqn : (if q < n then q else q + 1) ≠ n := by split <;> omega
    have hm := z193 sp hql hqn hq2
    have back : ∀ q',shiftN n (if q' < n then q' else q' + 1) = q' := fun q' => by
     unfold shiftN
     by_cases h1 : q' < n
     ·rw [if_pos h1,if_pos h1]
     ·rw [if_neg h1,if_neg (by omega)];omega
    have hb := back q
    generalize hQ : (if q < n then q else q + 1) = Q at *
    rw [e] at hm
    have lt : Q = k ∨ ltR l k Q := by
     rcases List.mem_append.1 hm with hm | hm
     ·rw [g1 Q hm] at hq2;cases hq2
     ·rcases List.mem_cons.1 hm with rfl | hm
      ·exact .inl rfl
      ·exact .inr ((List.pairwise_cons.1 (List.pairwise_append.1 srt).2.1).1 Q hm)
    rcases lt with rfl | lt
    ·refine ⟨Int.le_refl _,fun hlt => ?_⟩
     omega
    ·unfold ltR at lt
     refine ⟨by omega,fun hlt => ?_⟩
     unfold shiftN at hlt hb
     split at hlt <;> split at hb <;> omega
   unfold AlikeF
   rw [hf,x78 best]
   show doEq (l.getD n r0) ((outR l n).getD (shiftN n k) r0) = true
   rw [j28 hn,sa]
   exact q193 g3
  ·have fo := x182 hn hf
   unfold AlikeF
   rw [fo]
   cases hc : findR l h with
   | none => trivial
   |some a =>
    show doEq (l.getD a r0) ((outR l n).getD (shiftN n a) r0) = true
    have han : a ≠ n := fun e => hf (by rw [hc,e])
    have sa : (if shiftN n a < n then shiftN n a else shiftN n a + 1) = a := by
     unfold shiftN
     by_cases h1 : a < n
     ·rw [if_pos h1,if_pos h1]
     ·rw [if_neg h1,if_neg (by omega)];omega
    rw [j28 hn,sa]
    exact q119 _
 ·exact absurd (congrArg Prod.snd hsp) (by assumption)
theorem j193 (l : List Rule) (n : Nat) : l.eraseIdx n = outR l n := by
 unfold outR;exact List.eraseIdx_eq_take_drop_succ _ _
theorem j80 (h : BitVec 128) : ∀ (k : Nat) (l : List Rule),k ≤ l.length → (tabGo k l).2 = 0 → AlikeF l (tabGo k l).1 h
 | 0,l,_,_ => .refl l h
 |k + 1,l,hk,he => by
  unfold tabGo at he ⊢
  split at he
  ·rename_i h0
   rw [if_pos h0]
   cases hb : (spareR l k).1 with
   |false =>
    rw [hb] at he
    simp only [Bool.false_eq_true,if_false] at he ⊢
    exact j80 h k l (by omega) he
   |true =>
    rw [hb] at he
    simp only [if_true] at he ⊢
    have e9 : (l.eraseIdx k).length = l.length - 1 := List.length_eraseIdx_of_lt (by omega)
    refine AlikeF.trans ?_ (j80 h k _ (by omega) he)
    rw [j193]
    exact x193 (by omega) (Prod.ext hb h0) h
  ·rename_i h0;exact absurd he h0
theorem q194 {l : List Rule} (h : BitVec 128) (he : (tabR l).2 = 0) : AlikeF l (tabR l).1 h := by
 unfold tabR at he ⊢
 split at he
 ·rename_i hs
  rw [if_pos hs]
  exact j80 h _ l (Nat.le_refl _) he
 ·exact absurd he (by decide)
end Go.Proofs.YtemcdefpihkfpaaGreat
namespace Go.Proofs.YtemcdefpihkfpaaGreat
open Go.Proofs.YtemcdefpihkfpaaGreat.AL
theorem x119 {l : List Rule} {h : BitVec 128} {a : Nat} (e : findR l h = some a) : a < l.length := by
 rw [j77] at e
 exact q112 e
theorem j119 {t : List (List Port)} (h : soundT t = 0) {i j : Nat} (hi : i < t.length) (hj : j < (t.getD i []).length) : portT t i j = true := by
 unfold soundT at h
 split at h
 ·cases h
 ·split at h
  ·cases h
  ·split at h
   ·rename_i h3
    have h4 := z43.1 h3 i (Nat.zero_le _) hi
    exact z43.1 h4 j (Nat.zero_le _) hj
   ·cases h
theorem q120 {t : List (List Port)} (h : soundT t = 0) {s : Spot} (hs : s ∈ edgesT t) : 0 ≤ edgeT t s ∧ edgeT t s < 4 := by
 obtain ⟨i,j,e1,h1,h2,h3⟩ := j74 hs
 obtain ⟨i',j',g1,g2,g3,g4⟩ := z59.1 hs
 have e2 : i' = i ∧ j' = j := by
  rw [e1] at g4
  have a1 := congrArg Spot.sw g4
  have a2 := congrArg Spot.po g4
  simp only [] at a1 a2
  omega
 obtain ⟨rfl,rfl⟩ := e2
 have hp := j119 h h1 h2
 rw [h3]
 unfold portT at hp
 simp only [] at hp
 rw [if_neg (by omega),if_pos g3] at hp
 simp only [Bool.and_eq_true,decide_eq_true_eq] at hp
 exact ⟨hp.1.1.1.1,hp.1.1.1.2⟩
def portAt (t : List (List Port)) (n k : Nat) : Port := (t.getD n []).getD k p0
structure Hop where
 sw : Int
 tb : Int
 ru : Int
 h : BitVec 128
def hopD (x : Hop) : List Dat := [.v (.int .i64 x.sw),.v (.int .i64 x.tb),.v (.int .i64 x.ru),.v (.int .u64 (hi x.h)),.v (.int .u64 (lo x.h))]
def hop0 : Hop := ⟨0,0,0,0⟩
def rowH (l : List Hop) : Nat → List Dat := fun i => hopD (l.getD i hop0)
theorem z120 (l : List Hop) (i : Nat) : rowH l i = hopD (l.getD i hop0) := rfl
theorem x120 (l : List Hop) (x : Hop) (i : Nat) (hlt : i < l.length + 1) : catF l.length (rowH l) (fun i => [hopD x].getD i []) i = rowH (l ++ [x]) i :=
 x73 hopD hop0 l x _ rfl i hlt
def stepN (c : Config) (n : Nat) (x : Rule) : Int := if x.kd = 3 then (portAt c.tp n x.pt.toNat).pe else n
def stepT (t : Nat) (x : Rule) : Int := if x.kd = 3 then 0 else if x.kd = 4 then x.tb else t
def stepE (x : Rule) : Int := if x.kd = 4 then 0 else if x.kd = 3 then 0 else if x.kd = 2 then 2 else 1
def stepA (n : Nat) (x : Rule) : Int × Int := if x.kd = 2 then ((n : Int),x.pt) else (0,0)
structure RunR where
 en : Int
 an : Int
 ap : Int
 hops : List Hop
def tabW (c : Config) (n t : Nat) : List Rule := (c.tb.getD n []).getD t []
def goW (c : Config) : Nat → Nat → Nat → BitVec 128 → List Hop → RunR
 | 0,_,_,_,hops => ⟨4,0,0,hops⟩
 |f + 1,n,t,h,hops => match findR (tabW c n t) h with
  | none => ⟨3,0,0,hops ++ [⟨n,t,-1,h⟩]⟩
  |some a => if stepE ((tabW c n t).getD a r0) = 0
   then goW c f (stepN c n ((tabW c n t).getD a r0)).toNat (stepT t ((tabW c n t).getD a r0)).toNat (setH h ((tabW c n t).getD a r0).st) (hops ++ [⟨n,t,a,h⟩])
   else ⟨stepE ((tabW c n t).getD a r0),(stepA n ((tabW c n t).getD a r0)).1,(stepA n ((tabW c n t).getD a r0)).2,hops ++ [⟨n,t,a,h⟩]⟩
structure InW (c : Config) (n t : Nat) : Prop where
 n1 : n < c.tb.length
 n2 : n < c.tp.length
 t1 : t < (c.tb.getD n []).length
theorem j120 {f : Nat → Bool} {n i : Nat} (h : allF f n 0 = true) (hi : i < n) : f i = true := (z43.1 h) i (Nat.zero_le _) hi
theorem q35 {c : Config} (h : soundC c = 0) : soundT c.tp = 0 ∧ c.tb.length = c.tp.length ∧ ∀ n,n < c.tb.length → soundTab (c.tb.getD n []) (c.tp.getD n []) = 0 := by
 unfold soundC at h
 split at h
 ·rename_i h1;exact absurd h h1
 ·rename_i h1
  split at h
  ·rename_i h2;exact absurd h h2
  ·split at h
   ·cases h
   ·rename_i h3
    refine ⟨by omega,by omega,fun n hn => ?_⟩
    have go : ∀ (f : Nat → Int) (m i : Nat),errF f m i = 0 → ∀ n,i ≤ n → n < i + m → f n = 0 := by
     intro f m
     induction m with
     | zero => intro i _ n h1 h2;omega
     |succ m ih =>
      intro i he n h1 h2
      unfold errF at he
      split at he
      ·rename_i h0
       by_cases e : n = i
       ·subst e;first | exact h0 | omega
       ·exact ih (i + 1) he n (by omega) (by omega)
      ·rename_i h0
       first | exact absurd he h0 | omega
    exact go (tabE c) c.tb.length 0 h n (Nat.zero_le _) (by omega)
theorem z48 {ts : List (List Rule)} {ps : List Port} (h : soundTab ts ps = 0) : 0 < ts.length ∧ ts.length ≤ 3 ∧ ∀ i k,i < ts.length → k < (ts.getD i []).length → soundR ((ts.getD i []).getD k r0) i ps = true ∧ ((ts.getD i []).getD k r0).tb < ts.length := by
 unfold soundTab at h
 split at h
 ·cases h
 ·rename_i h1
  split at h
  ·cases h
  ·split at h
   ·rename_i h2
    refine ⟨by omega,by omega,fun i k hi hk => ?_⟩
    have := j120 h2 hi
    unfold tabOk at this
    have := j120 this hk
    unfold ruleOk at this
    rw [Bool.and_eq_true,decide_eq_true_iff] at this
    exact this
   ·cases h
theorem z194 {t : List (List Port)} {n k : Nat} (h : portT t n k = true) (hk : (portAt t n k).kd = 2) : 0 ≤ (portAt t n k).pe ∧ (portAt t n k).pe < t.length := by
 unfold portT at h
 unfold portAt at *
 generalize (t.getD n []).getD k p0 = p at *
 simp only [hk] at h
 simp at h
 omega
theorem q81 {x : Rule} {t : Nat} {ps : List Port} (h : soundR x t ps = true) : (x.kd = 1 ∨ x.kd = 2 ∨ x.kd = 3 ∨ x.kd = 4) ∧ (x.kd = 3 → 0 ≤ x.pt ∧ x.pt.toNat < ps.length ∧ (ps.getD x.pt.toNat p0).kd = 2) ∧ (x.kd = 4 → (t : Int) < x.tb) := by
 unfold soundR at h
 rw [Bool.and_eq_true] at h
 have h := h.2
 unfold doesR portR at h
 split at h
 ·exact ⟨by omega,by omega,by omega⟩
 ·split at h
  ·exact ⟨by omega,by omega,by omega⟩
  ·split at h
   ·rename_i h3
    simp only [Bool.and_eq_true,decide_eq_true_iff] at h
    refine ⟨by omega,fun _ => ⟨by omega,by omega,eq_of_beq h.2⟩,by omega⟩
   ·split at h
    ·rename_i h4
     simp only [Bool.and_eq_true,decide_eq_true_iff] at h
     exact ⟨by omega,by omega,fun _ => h.1.2⟩
    ·cases h
theorem x194 {x : Rule} (h : stepE x = 0) : x.kd = 3 ∨ x.kd = 4 := by
 unfold stepE at h
 repeat (split at h)
 all_goals first | omega | exact absurd h (by decide)
theorem z81 {c : Config} (hs : soundC c = 0) {n t a : Nat} {h : BitVec 128} (hw : InW c n t) (hf : findR (tabW c n t) h = some a) : soundR ((tabW c n t).getD a r0) t (c.tp.getD n []) = true ∧ ((tabW c n t).getD a r0).tb < (c.tb.getD n []).length := by
 have hal := x119 hf
 exact (z48 ((q35 hs).2.2 n hw.n1)).2.2 t a hw.t1 hal
theorem q121 {c : Config} (hs : soundC c = 0) {n t a : Nat} {h : BitVec 128} (hw : InW c n t) (hf : findR (tabW c n t) h = some a) (h3 : ((tabW c n t).getD a r0).kd = 3) :
  0 ≤ ((tabW c n t).getD a r0).pt ∧ ((tabW c n t).getD a r0).pt.toNat < (c.tp.getD n []).length ∧ (portAt c.tp n ((tabW c n t).getD a r0).pt.toNat).kd = 2 :=
 (q81 (z81 hs hw hf).1).2.1 h3
theorem z121 {c : Config} (hs : soundC c = 0) {n t a : Nat} {h : BitVec 128} (hw : InW c n t) (hf : findR (tabW c n t) h = some a) (he : stepE ((tabW c n t).getD a r0) = 0) :
  0 ≤ stepN c n ((tabW c n t).getD a r0) ∧ 0 ≤ stepT t ((tabW c n t).getD a r0) ∧ InW c (stepN c n ((tabW c n t).getD a r0)).toNat (stepT t ((tabW c n t).getD a r0)).toNat := by
 obtain ⟨r1,r2⟩ := z81 hs hw hf
 have r3 := q121 hs hw hf
 obtain ⟨p1,p2,p3⟩ := q35 hs
 obtain ⟨d1,d2,d3⟩ := q81 r1
 generalize (tabW c n t).getD a r0 = x at *
 have hn1 := hw.n1
 have hn2 := hw.n2
 have ht1 := hw.t1
 rcases x194 he with h3 | h4
 ·have s1 : stepN c n x = (portAt c.tp n x.pt.toNat).pe := if_pos h3
  have s2 : stepT t x = 0 := if_pos h3
  obtain ⟨q1,q2,q3⟩ := r3 h3
  obtain ⟨q4,q5⟩ := z194 (j119 p1 hn2 q2) q3
  rw [s1,s2]
  generalize (portAt c.tp n x.pt.toNat).pe = m at *
  refine ⟨q4,Int.le_refl _,by omega,by omega,?_⟩
  exact (z48 (p3 m.toNat (by omega))).1
 ·have n3 : x.kd ≠ 3 := by omega
  have s1 : stepN c n x = n := if_neg n3
  have s2 : stepT t x = x.tb := by unfold stepT;rw [if_neg n3,if_pos h4]
  have := d3 h4
  rw [s1,s2]
  refine ⟨by omega,by omega,by omega,by omega,?_⟩
  simp only [Int.toNat_natCast]
  omega
end Go.Proofs.YtemcdefpihkfpaaGreat
namespace Go.Proofs.YtemcdefpihkfpaaGreat.AL
open Go
theorem Weak.growCell (A : ASt) (l0 l j sz : Nat) (e e' : TypeId) (cs : List AV) (f : Nat → List Dat) (hl0 : look A.locs l0 = some (.cells e cs)) (hj : cs[j]? = some (.p (.d (.v (.slice none 0 0))))) (hne : l0 ≠ l)
  (hu : unusedB A l = true) (hn : look A.locs l = none) : Weak A ⟨A.fr,(l,.grow e' sz 0 0) :: (l0,.cells e (cs.set j (.gr l 0 sz 0 f))) :: A.locs⟩ := by
 intro w0 g0 nt h a w r
 let h' : Gh := { h with κ := fun k => if k = l then .slice none 0 0 else h.κ k,μ := fun k => if k = l then 0 else h.μ k }
 have un := z36 hu
 have tr : Trans w0.O w h w h' (fun _ => False) (some l) true := by
  refine ⟨BelowS.refl _ _,fun b _ _ => ⟨rfl,rfl⟩,⟨fun b => Nat.le_refl _,fun b o _ => rfl⟩,r.gz,fun b _ => rfl,fun _ _ => rfl,fun k hk => ?_,fun k _ hf => by cases hf⟩
  have : k ≠ l := fun e => hk (by rw [e])
  simp [h',this]
 have nl : h'.κ l = .slice none 0 0 := by simp [h']
 have nm : h'.μ l = 0 := by simp [h']
 have old : ∀ k L,k ≠ l → look A.locs k = some L → LocOK w0.O w h' k L ∧ inB h' k L = inB h k L := fun k L hk hL =>
  LocOK.trans tr (fun e => hk (by cases e;rfl)) (fun _ l' hl' hm => by cases hl';exact un.2.1 k L hL hm) (fun b _ => by simp) (r.locs k L hL)
 have cell0 : LocOK w0.O w h' l0 (.cells e (cs.set j (.gr l 0 sz 0 f))) := by
  obtain ⟨arr,c1,c2,c3,c4,c5⟩ := (old l0 _ hne hl0).1
  refine ⟨arr,c1,c2,by simpa using c3,c4,fun i v x hv hx => ?_⟩
  by_cases hi : i = j
  ·subst hi
   have hlt := (List.getElem?_eq_some_iff.1 hj).1
   rw [List.getElem?_set_self hlt] at hx
   cases hx
   obtain ⟨k1,k2⟩ := c5 i v _ hv hj
   have hv0 := q71 k1
   refine ⟨?_,k2⟩
   rw [hv0]
   exact ⟨.sl0 _ _ _ _,by omega,fun _ => nl.symm⟩
  ·rw [List.getElem?_set_ne (fun e => hi e.symm)] at hx
   exact c5 i v x hv hx
 refine ⟨h',r.size,r.defers,fun u y hy => ?_,fun k L hL => ?_,fun k k' L L' b hne2 hL hL' hbk => ?_,r.ext,fun k hk => ?_⟩
 ·exact RelA.trans tr (fun _ l' hl' hm => by cases hl';exact un.1 u y hy hm) (r.fr u y hy)
 ·simp only [look] at hL
  split at hL
  ·rename_i e2;subst e2;cases hL
   exact ⟨nm,⟨[],by rw [nl];exact World.ownsRow_nil _ _ _ _⟩,fun b c hb => by rw [nl] at hb;simp at hb,fun b hb => by rw [nl] at hb;simp [Value.ownBlock] at hb⟩
  ·rename_i hk
   split at hL
   ·rename_i e2;subst e2;cases hL;exact cell0
   ·exact (old k L (fun e => hk e.symm) hL).1
 ·have two : ∀ {k : Nat} {L : LV},look ((l,LV.grow e' sz 0 0) :: (l0,.cells e (cs.set j (.gr l 0 sz 0 f))) :: A.locs) k = some L → inB h' k L b → k ≠ l ∧ ∃ L0,look A.locs k = some L0 ∧ inB h k L0 b := by
   intro k L hL hb
   simp only [look] at hL
   split at hL
   ·rename_i e2;subst e2;cases hL
    simp [inB,nl,Value.ownBlock] at hb
   ·rename_i hk
    refine ⟨fun e => hk e.symm,?_⟩
    split at hL
    ·rename_i e2;subst e2;cases hL
     exact ⟨_,hl0,hb⟩
    ·exact ⟨L,hL,by rw [← (old k L (fun e => hk e.symm) hL).2];exact hb⟩
  intro hin
  obtain ⟨a1,L1,a2,a3⟩ := two hL hbk
  obtain ⟨b1,L2,b2,b3⟩ := two hL' hin
  exact r.sep k k' L1 L2 b hne2 a2 b2 a3 b3
 ·have : k ≠ l := by have := un.2.2;omega
  simp only [h',if_neg this]
  exact r.pin k hk
theorem j194 {P : Program} {nt : Nat} {c : Code} {Q : Exit → ASt → Prop} {A : ASt} (l0 l j sz : Nat) (e' : TypeId) (f : Nat → List Dat) {e : TypeId} {cs : List AV} (hl0 : look A.locs l0 = some (.cells e cs)) (hj : cs[j]? = some (.p (.d (.v (.slice none 0 0))))) (hne : l0 ≠ l)
  (hu : unusedB A l = true) (hn : look A.locs l = none) (h : AWP P nt c Q ⟨A.fr,(l,.grow e' sz 0 0) :: (l0,.cells e (cs.set j (.gr l 0 sz 0 f))) :: A.locs⟩) : AWP P nt c Q A := q18 (Weak.growCell A l0 l j sz e e' cs f hl0 hj hne hu hn) h
end Go.Proofs.YtemcdefpihkfpaaGreat.AL
namespace Go.Proofs.YtemcdefpihkfpaaGreat
open Go.Proofs.YtemcdefpihkfpaaGreat.AL
def runD (r : RunR) : List Dat := [.v (.int .i64 r.en),.v (.int .i64 r.an),.v (.int .i64 r.ap),.sl 5 r.hops.length (rowH r.hops)]
def runZ : LV := .cells 95 [.p (.d (.v (.int .i64 0))),.p (.d (.v (.int .i64 0))),.p (.d (.v (.int .i64 0))),.p (.d (.v (.slice none 0 0)))]
def stB1 (x : BitVec 128) (i j : Nat) : Bool := if 88 ≤ j ∧ j < i then false else x.getLsbD j
def stB2 (x : BitVec 128) (T i j : Nat) : Bool := if 88 ≤ j then decide (j < i) && T.testBit (j - 88) else x.getLsbD j
def stB3 (x : BitVec 128) (T V i j : Nat) : Bool := if j < 88 then x.getLsbD j else if j < 112 then T.testBit (j - 88) else decide (j < i) && V.testBit (j - 112)
def stampR (x : BitVec 128) (T V : Nat) : BitVec 128 := ofBits (stB3 x T V 120)
theorem x121 (m : Nat) : (((m : Nat) : Int).tmod 2 == 1) = m.testBit 0 := by
 rw [Nat.testBit_zero,Int.tmod_eq_emod_of_nonneg (by omega),Bool.eq_iff_iff,beq_iff_eq,decide_eq_true_eq]
 omega
theorem j121 (m : Nat) : ((m : Nat) : Int).tdiv 2 = ((m / 2 : Nat) : Int) := by
 rw [Int.tdiv_eq_ediv_of_nonneg (by omega)];omega
theorem q122 (N k : Nat) : (N / 2 ^ k).testBit 0 = N.testBit k := by
 rw [← Nat.shiftRight_eq_div_pow,Nat.testBit_shiftRight,Nat.add_zero]
theorem z122 (N k : Nat) : N / 2 ^ k / 2 = N / 2 ^ (k + 1) := by
 rw [Nat.div_div_eq_div_mul,Nat.pow_succ]
def stI1 (x : BitVec 128) (T V : Nat) (s : {i : Nat // 88 ≤ i ∧ i ≤ 128}) : ASt :=
 ⟨[(10,.p (.d (.v (.int .i64 (s.val : Int))))),(9,.p (.d (.v (.int .i64 (V : Int))))),(8,.p (.d (.v (.int .i64 (T : Int))))),(7,.loc 7 0),(6,.loc 6 0)],
  [(7,.arr 112 128 fun j => .v (.bool (stB1 x s.val j))),(6,.cells 25 [.p (.d (.v (.int .u64 0))),.p (.d (.v (.int .u64 0)))])]⟩
def stI2 (x : BitVec 128) (T V : Nat) (s : {s : Nat × Nat // 88 ≤ s.1 ∧ s.1 ≤ 112 ∧ s.2 = T / 2 ^ (s.1 - 88)}) : ASt :=
 ⟨[(11,.p (.d (.v (.int .i64 (s.val.1 : Int))))),(9,.p (.d (.v (.int .i64 (V : Int))))),(8,.p (.d (.v (.int .i64 (s.val.2 : Int))))),(7,.loc 7 0),(6,.loc 6 0)],
  [(7,.arr 112 128 fun j => .v (.bool (stB2 x T s.val.1 j))),(6,.cells 25 [.p (.d (.v (.int .u64 0))),.p (.d (.v (.int .u64 0)))])]⟩
def stI3 (x : BitVec 128) (T V : Nat) (s : {s : Nat × Nat // 112 ≤ s.1 ∧ s.1 ≤ 120 ∧ s.2 = V / 2 ^ (s.1 - 112)}) : ASt :=
 ⟨[(12,.p (.d (.v (.int .i64 (s.val.1 : Int))))),(9,.p (.d (.v (.int .i64 (s.val.2 : Int))))),(7,.loc 7 0),(6,.loc 6 0)],
  [(7,.arr 112 128 fun j => .v (.bool (stB3 x T V s.val.1 j))),(6,.cells 25 [.p (.d (.v (.int .u64 0))),.p (.d (.v (.int .u64 0)))])]⟩
set_option maxRecDepth 100000 in
theorem q195 (x : BitVec 128) (T V : Nat) (ht : T < 1000000) (hv : V < 1000000) : ACalls Tryz.prog 82 [.agg (hd x),.d (.v (.int .i64 (T : Int))),.d (.v (.int .i64 (V : Int)))] (· = [.agg (hd (stampR x (T + 1) V))]) := by
 have c1 := q34 x
 have c2 := x102 (stB3 x (T + 1) V 120)
 rw [show ofBits (stB3 x (T + 1) V 120) = stampR x (T + 1) V from rfl] at c2
 simp only [hd] at c1 c2
 have e1 : ((T : Int) + 1) = ((T + 1 : Nat) : Int) := by omega
 refine q12 Tryz.func82 rfl (by decide +kernel) (by rw [Tryz.ntmps82];simp) ?_;rw [Tryz.ntmps82];simp only [frOf]
 (repeat (first | apply j0 | refine z7 rfl ?_ | refine x7 rfl ?_ | apply j6 | (refine x5 fun K hK => ?_) | ((first | apply j5 | apply x6 | (refine j4 (hK _ ?_);clear hK K));(first | show AWP _ _ _ _ _ | ((try simp only [z8]);first | show loopQ _ _ _ _ _ _ | show AWP _ _ _ _ _))) | (refine x10 rfl rfl rfl ?_;simp (disch:=omega) only [go_sem,seval,hd,e1];(first | refine ⟨_,c1,?_⟩)) | (refine j7 [6,7] rfl ?_;simp (disch:=omega) only [go_sem,seval,hd,e1];(repeat refine ⟨by omega,?_⟩))))
 generalize hN : T + 1 = N at c2
 have hNb : N ≤ 1000000 := by omega
 refine j13 (stI1 x N V) (fun s => 128 - s.val) ⟨88,by omega,by omega⟩ ?_ (fun s => ?_)
 ·unfold stI1
  refine Weak.list ?_ ?_;(all_goals simp (disch:=omega) only [AllF,AllL,q11,z11,j10,exists_eq_left',go_sem,seval,hd]);(all_goals (repeat' (with_reducible apply And.intro)));(all_goals try (first | exact q8 rfl | (refine x11 ?_;omega) | (refine q8 ?_;simp;done)))
  refine x36 (fun j hj => ?_)
  unfold stB1
  rw [if_neg (by omega)]
 obtain ⟨i,h1,h2⟩ := s
 unfold stI1
 simp only [] at h1 h2 ⊢
 by_cases h : i < 128
 ·(repeat (first | apply j0 | refine z7 rfl ?_ | refine x7 rfl ?_ | apply j6 | (refine x5 fun K hK => ?_) | ((first | apply j5 | apply x6 | (refine j4 (hK _ ?_);clear hK K));(first | show AWP _ _ _ _ _ | ((try simp only [z8]);first | show loopQ _ _ _ _ _ _ | show AWP _ _ _ _ _))) | (refine j7 [6,7] rfl ?_;simp (disch:=omega) only [go_sem,seval,hd];(repeat refine ⟨by omega,?_⟩))))
  refine ⟨⟨i + 1,by omega,by omega⟩,by simp only [];omega,?_⟩
  refine Weak.list ?_ ?_;(all_goals simp (disch:=omega) only [AllF,AllL,q11,z11,j10,exists_eq_left',go_sem,seval,hd]);(all_goals (repeat' (with_reducible apply And.intro)));(all_goals try (first | exact q8 rfl | (refine x11 ?_;omega) | (refine q8 ?_;simp;done)))
  refine x36 (fun j hj => ?_)
  unfold stB1
  by_cases hj : j = i
  ·subst hj;rw [if_pos rfl,if_pos (by omega)]
  ·rw [if_neg hj]
   by_cases hk : 88 ≤ j ∧ j < i
   ·rw [if_pos hk,if_pos (by omega)]
   ·rw [if_neg hk,if_neg (by omega)]
 have : i = 128 := by omega
 subst this
 (repeat (first | apply j0 | refine z7 rfl ?_ | refine x7 rfl ?_ | apply j6 | (refine x5 fun K hK => ?_) | ((first | apply j5 | apply x6 | (refine j4 (hK _ ?_);clear hK K));(first | show AWP _ _ _ _ _ | ((try simp only [z8]);first | show loopQ _ _ _ _ _ _ | show AWP _ _ _ _ _))) | (refine j7 [6,7] rfl ?_;simp (disch:=omega) only [go_sem,seval,hd];(repeat refine ⟨by omega,?_⟩))))
 refine j13 (stI2 x N V) (fun s => 112 - s.val.1) ⟨(88,N),by simp⟩ ?_ (fun s => ?_)
 ·unfold stI2
  refine Weak.list ?_ ?_;(all_goals simp (disch:=omega) only [AllF,AllL,q11,z11,j10,exists_eq_left',go_sem,seval,hd]);(all_goals (repeat' (with_reducible apply And.intro)));(all_goals try (first | exact q8 rfl | (refine x11 ?_;omega) | (refine q8 ?_;simp;done)))
  refine x36 (fun j hj => ?_)
  unfold stB1 stB2
  by_cases hk : 88 ≤ j
  ·rw [if_pos (by omega),if_pos hk,decide_eq_false (by omega)];rfl
  ·rw [if_neg (by omega),if_neg hk]
 obtain ⟨⟨i,m⟩,h1,h2,h3⟩ := s
 unfold stI2
 simp only [] at h1 h2 h3 ⊢
 have hm : m ≤ N := by rw [h3];exact Nat.div_le_self _ _
 by_cases h : i < 112
 ·have r1 := x121 m
  have r2 := j121 m
  have r3 : m / 2 = N / 2 ^ (i + 1 - 88) := by rw [h3,z122];congr 2;omega
  rw [h3,q122,← h3] at r1
  (repeat (first | apply j0 | refine z7 rfl ?_ | refine x7 rfl ?_ | apply j6 | (refine x5 fun K hK => ?_) | ((first | apply j5 | apply x6 | (refine j4 (hK _ ?_);clear hK K));(first | show AWP _ _ _ _ _ | ((try simp only [z8]);first | show loopQ _ _ _ _ _ _ | show AWP _ _ _ _ _))) | (refine j7 [6,7] rfl ?_;simp (disch:=omega) only [go_sem,seval,hd,r1,r2];(repeat refine ⟨by omega,?_⟩))))
  refine ⟨⟨(i + 1,m / 2),by omega,by simp only [];omega,r3⟩,by simp only [];omega,?_⟩
  refine Weak.list ?_ ?_;(all_goals simp (disch:=omega) only [AllF,AllL,q11,z11,j10,exists_eq_left',go_sem,seval,hd]);(all_goals (repeat' (with_reducible apply And.intro)));(all_goals try (first | exact q8 rfl | (refine x11 ?_;omega) | (refine q8 ?_;simp;done)))
  refine x36 (fun j hj => ?_)
  unfold stB2
  by_cases hj : j = i
  ·subst hj;rw [if_pos rfl,if_pos (by omega),decide_eq_true (by omega)];simp
  ·rw [if_neg hj]
   by_cases hk : 88 ≤ j
   ·rw [if_pos hk,if_pos hk]
    by_cases hl : j < i
    ·rw [decide_eq_true hl,decide_eq_true (by omega)]
    ·rw [decide_eq_false hl,decide_eq_false (by omega)]
   ·rw [if_neg hk,if_neg hk]
 have : i = 112 := by omega
 subst this
 (repeat (first | apply j0 | refine z7 rfl ?_ | refine x7 rfl ?_ | apply j6 | (refine x5 fun K hK => ?_) | ((first | apply j5 | apply x6 | (refine j4 (hK _ ?_);clear hK K));(first | show AWP _ _ _ _ _ | ((try simp only [z8]);first | show loopQ _ _ _ _ _ _ | show AWP _ _ _ _ _))) | (refine j7 [6,7] rfl ?_;simp (disch:=omega) only [go_sem,seval,hd];(repeat refine ⟨by omega,?_⟩))))
 refine j13 (stI3 x N V) (fun s => 120 - s.val.1) ⟨(112,V),by simp⟩ ?_ (fun s => ?_)
 ·unfold stI3
  refine Weak.list ?_ ?_;(all_goals simp (disch:=omega) only [AllF,AllL,q11,z11,j10,exists_eq_left',go_sem,seval,hd]);(all_goals (repeat' (with_reducible apply And.intro)));(all_goals try (first | exact q8 rfl | (refine x11 ?_;omega) | (refine q8 ?_;simp;done)))
  refine x36 (fun j hj => ?_)
  unfold stB2 stB3
  by_cases hk : j < 88
  ·rw [if_neg (by omega),if_pos hk]
  ·rw [if_pos (by omega),if_neg hk]
   by_cases hl : j < 112
   ·rw [if_pos hl,decide_eq_true hl];simp
   ·rw [if_neg hl,decide_eq_false hl];simp
 obtain ⟨⟨i,m⟩,h1,h2,h3⟩ := s
 unfold stI3
 simp only [] at h1 h2 h3 ⊢
 have hm : m ≤ V := by rw [h3];exact Nat.div_le_self _ _
 by_cases h : i < 120
 ·have r1 := x121 m
  have r2 := j121 m
  have r3 : m / 2 = V / 2 ^ (i + 1 - 112) := by rw [h3,z122];congr 2;omega
  rw [h3,q122,← h3] at r1
  (repeat (first | apply j0 | refine z7 rfl ?_ | refine x7 rfl ?_ | apply j6 | (refine x5 fun K hK => ?_) | ((first | apply j5 | apply x6 | (refine j4 (hK _ ?_);clear hK K));(first | show AWP _ _ _ _ _ | ((try simp only [z8]);first | show loopQ _ _ _ _ _ _ | show AWP _ _ _ _ _))) | (refine j7 [6,7] rfl ?_;simp (disch:=omega) only [go_sem,seval,hd,r1,r2];(repeat refine ⟨by omega,?_⟩))))
  refine ⟨⟨(i + 1,m / 2),by omega,by simp only [];omega,r3⟩,by simp only [];omega,?_⟩
  refine Weak.list ?_ ?_;(all_goals simp (disch:=omega) only [AllF,AllL,q11,z11,j10,exists_eq_left',go_sem,seval,hd]);(all_goals (repeat' (with_reducible apply And.intro)));(all_goals try (first | exact q8 rfl | (refine x11 ?_;omega) | (refine q8 ?_;simp;done)))
  refine x36 (fun j hj => ?_)
  unfold stB3
  by_cases hj : j = i
  ·subst hj;rw [if_pos rfl,if_neg (by omega),if_neg (by omega),decide_eq_true (by omega)];simp
  ·rw [if_neg hj]
   by_cases hk : j < 88
   ·rw [if_pos hk,if_pos hk]
   ·rw [if_neg hk,if_neg hk]
    by_cases hl : j < 112
    ·rw [if_pos hl,if_pos hl]
    ·rw [if_neg hl,if_neg hl]
     by_cases hl : j < i
     ·rw [decide_eq_true hl,decide_eq_true (by omega)]
     ·rw [decide_eq_false hl,decide_eq_false (by omega)]
 have : i = 120 := by omega
 subst this
 (repeat (first | apply j0 | refine z7 rfl ?_ | refine x7 rfl ?_ | apply j6 | (refine x5 fun K hK => ?_) | ((first | apply j5 | apply x6 | (refine j4 (hK _ ?_);clear hK K));(first | show AWP _ _ _ _ _ | ((try simp only [z8]);first | show loopQ _ _ _ _ _ _ | show AWP _ _ _ _ _))) | (refine x10 rfl rfl rfl ?_;simp (disch:=omega) only [go_sem,seval,hd];(first | refine ⟨_,c2,?_⟩)) | (refine j7 [6,7] rfl ?_;simp (disch:=omega) only [go_sem,seval,hd];(repeat refine ⟨by omega,?_⟩))))
 refine j9 ⟨_,?_,rfl⟩;rw [Tryz.results82];simp (disch:=omega) only [ResVars,ResVar,ptrLoc,go_sem,seval,hd]
theorem q65 {en an ap : Int} {l : List Hop} {k : Code} {Q : Exit → ASt → Prop} {A : ASt} {g n : Nat} {f : Nat → List Dat} (h1 : AL.look A.fr 11 = some (.loc 11 0)) (h2 : AL.look A.fr 10 = some (.loc 10 0))
  (h3 : AL.look A.locs 11 = some (.cells 95 [.p (.d (.v (.int .i64 en))),.p (.d (.v (.int .i64 an))),.p (.d (.v (.int .i64 ap))),.gr 99 g 5 n f])) (h4 : AL.look A.locs 10 = some runZ) (hn : n = l.length) (hf : ∀ i,i < n → f i = rowH l i)
  (hk : AWP Tryz.prog 116 k Q ⟨[(11,.loc 11 0),(10,.loc 10 0)],[(11,.cells 95 [.p (.d (.v (.int .i64 en))),.p (.d (.v (.int .i64 an))),.p (.d (.v (.int .i64 ap))),.p (.d (.sl 5 l.length (rowH l)))]),(10,runZ)]⟩) : AWP Tryz.prog 116 k Q A := by
 refine q18 (A' := ⟨[(11,.loc 11 0),(10,.loc 10 0)],[(11,.cells 95 [.p (.d (.v (.int .i64 en))),.p (.d (.v (.int .i64 an))),.p (.d (.v (.int .i64 ap))),.p (.d (.sl 5 l.length (rowH l)))]),(10,runZ)]⟩) (Weak.list ⟨⟨_,h1,Le.refl _⟩,⟨_,h2,Le.refl _⟩,trivial⟩ ⟨⟨_,h3,?_⟩,⟨_,h4,of_eq_true (j10 _)⟩,trivial⟩) hk
 subst hn
 refine x45 ?_
 iterate 3 (refine LesD.cons (Le.refl _) ?_)
 exact .cons (q22 rfl hf) .nil
structure WSr (c : Config) (R : RunR) (most : Nat) where
 i : Nat
 n : Nat
 t : Nat
 h : BitVec 128
 hops : List Hop
 hi : i ≤ most
 hl : hops.length = i
 hw : InW c n t
 hg : goW c (most - i) n t h hops = R
def rruI (c : Config) (R : RunR) (most : Nat) (s : WSr c R most) : ASt :=
 ⟨[(12,.p (.d (.v (.int .i64 (s.n : Int))))),(13,.p (.d (.v (.int .i64 (s.t : Int))))),(7,.loc 7 0),(11,.loc 11 0),(10,.loc 10 0),(5,.p (.d (.bx (configD c)))),(4,.p (.d (.v (.int .i64 (most : Int)))))],
  [(7,.cells 25 [.p (.d (.v (.int .u64 (hi s.h)))),.p (.d (.v (.int .u64 (lo s.h))))]),(11,.cells 95 [.p (.d (.v (.int .i64 0))),.p (.d (.v (.int .i64 0))),.p (.d (.v (.int .i64 0))),.gr 99 s.hops.length 5 s.hops.length (rowH s.hops)]),(99,.grow 98 5 s.hops.length s.hops.length),(10,runZ)]⟩
set_option maxRecDepth 100000 in
theorem x122 (c : Config) (s : Spot) (h : BitVec 128) (v most : Nat) (R : RunR) (hc : c.small) (hv : v ≤ 255) (hm : most ≤ 100000) (hs : soundC c = 0) (he : s ∈ edgesT c.tp) (n : Nat) (hn : s.sw = n) (hw : InW c n 0)
  (hR : goW c most n 0 (stampR h ((edgeT c.tp s).toNat + 1) v) [] = R) :
  ACalls Tryz.prog 39 [.agg (configD c),.agg (spotD s),.agg (hd h),.d (.v (.int .i64 (v : Int))),.d (.v (.int .i64 (most : Int)))] (· = [.agg (runD R)]) := by
 obtain ⟨p1,p2,p3⟩ := q35 hs
 obtain ⟨t1,t2⟩ := q120 p1 he
 have s1 := j73 c.tp s hc.tp
 rw [show edgeT c.tp s = ((edgeT c.tp s).toNat : Int) by omega] at s1
 have tT : (edgeT c.tp s).toNat < 4 := by omega
 generalize (edgeT c.tp s).toNat = T at *
 have s2 := q195 h T v (by omega) (by omega)
 generalize stampR h (T + 1) v = h' at *
 obtain ⟨sw,po⟩ := s
 cases hn
 unfold configD spotD topoD at *
 have sb := hc.tb
 refine q12 Tryz.func39 rfl (by decide +kernel) (by rw [Tryz.ntmps39];simp) ?_;rw [Tryz.ntmps39];simp only [frOf]
 (repeat (first | apply j0 | refine z7 rfl ?_ | refine x7 rfl ?_ | apply j6 | (refine x5 fun K hK => ?_) | (refine x8 fun K hK => ?_) | ((first | apply j5 | apply x6 | ((first | refine j4 (hK _ ?_) | refine q9 (hK _ _ j8 ?_));clear hK K));(first | show AWP _ _ _ _ _ | ((try simp only [z8]);first | show loopQ _ _ _ _ _ _ | show cutQ _ _ _ _ | show AWP _ _ _ _ _))) | ((first | refine x10 rfl rfl rfl ?_ | refine q13 rfl rfl rfl ?_);simp (disch:=omega) only [go_sem,seval,hd,cb,ruleD,portD];(first | refine ⟨_,s1,?_⟩ | refine ⟨_,s2,?_⟩)) | ((first | refine j7 [7,10,11,16] rfl ?_ | refine q10 [7,10,11,16] rfl ?_);simp (disch:=omega) only [go_sem,seval,hd,cb,ruleD,portD];(repeat (first | refine ⟨by omega,?_⟩ | refine ⟨True.intro,?_⟩)))))
 refine j194 11 99 3 5 98 (rowH []) rfl rfl (by omega) (by kernel_rfl) rfl ?_
 refine j13 (rruI c R most) (fun s => most - s.i) ⟨0,n,0,h',[],by omega,rfl,hw,by rw [Nat.sub_zero];exact hR⟩ ?_ (fun s => ?_)
 ·unfold rruI runZ configD
  refine Weak.list ?_ ?_;(all_goals simp (disch:=omega) only [AllF,AllL,q11,z11,j10,exists_eq_left',go_sem,seval,hd,cb,ruleD,portD]);(all_goals (repeat' (with_reducible apply And.intro)));(all_goals try (first | exact q8 rfl | (refine x11 ?_;omega) | (refine q8 ?_;simp;done)))
  exact of_eq_true (j10 _)
 obtain ⟨i,n,t,h,hops,hi,hl,hw,hg⟩ := s
 have hkk : hops.length ≤ 100000 := by omega
 have lc : ∀ (x : Hop),hops.length + 1 = (hops ++ [x]).length := fun x => by simp
 have hn1 := hw.n1
 have hn2 := hw.n2
 have ht1 := hw.t1
 have u1 := q38 c.tb n
 have hfi := j77 (tabW c n t) h
 have k1 := z181 (tabW c n t) h (by have := z28 (hc.at n) t;unfold tabW;omega)
 have ipo := @q121 c hs n t
 have irl := @z81 c hs n t
 have inx := @z121 c hs n t
 have hsm := hc.at n
 rw [← hfi] at k1
 unfold rruI runZ configD
 by_cases hi2 : i < most
 ·obtain ⟨f,hf⟩ : ∃ f,most - i = f + 1 := ⟨most - i - 1,by omega⟩
  rw [hf] at hg
  have hgo : goW c (f + 1) n t h hops = match findR (tabW c n t) h with
   | none => ⟨3,0,0,hops ++ [⟨n,t,-1,h⟩]⟩
   |some a => if stepE ((tabW c n t).getD a r0) = 0
    then goW c f (stepN c n ((tabW c n t).getD a r0)).toNat (stepT t ((tabW c n t).getD a r0)).toNat (setH h ((tabW c n t).getD a r0).st) (hops ++ [⟨n,t,a,h⟩])
    else ⟨stepE ((tabW c n t).getD a r0),(stepA n ((tabW c n t).getD a r0)).1,(stepA n ((tabW c n t).getD a r0)).2,hops ++ [⟨n,t,a,h⟩]⟩ := rfl
  rw [hg] at hgo
  unfold tabW at *
  generalize c.tb.getD n [] = ts at *
  have u2 := q30 ts t
  have hb := z28 hsm t
  generalize ts.getD t [] = l at *
  cases hfi : findR l h with
  |none =>
   rw [hfi] at k1 hgo
   simp only [Option.getD_none,Option.isSome_none] at k1 hgo
   clear hg hR
   subst hgo
   unfold runD
   (repeat ((fail_if_success (show AWP _ _ (.region 9 _ _) _ _));first | apply j0 | refine z7 rfl ?_ | refine x7 rfl ?_ | apply j6 | (refine x5 fun K hK => ?_) | (refine x8 fun K hK => ?_) | ((first | apply j5 | apply x6 | ((first | refine j4 (hK _ ?_) | refine q9 (hK _ _ j8 ?_));clear hK K));(first | show AWP _ _ _ _ _ | ((try simp only [z8]);first | show loopQ _ _ _ _ _ _ | show cutQ _ _ _ _ | show AWP _ _ _ _ _))) | ((first | refine x10 rfl rfl rfl ?_ | refine q13 rfl rfl rfl ?_);simp (disch:=omega) only [go_sem,seval,hd,cb,ruleD,portD,u1,u2];(first | refine ⟨_,k1,?_⟩)) | ((first | refine j7 [7,10,11,16] rfl ?_ | refine q10 [7,10,11,16] rfl ?_);simp (disch:=omega) only [go_sem,seval,hd,cb,ruleD,portD,u1,u2];(repeat (first | refine ⟨by omega,?_⟩ | refine ⟨True.intro,?_⟩)))))
   refine q65 (l := hops ++ [⟨n,t,-1,h⟩]) rfl rfl rfl rfl (lc _) (fun j hj => x120 hops ⟨n,t,-1,h⟩ j hj) ?_
   unfold runZ
   (repeat (first | apply j0 | refine z7 rfl ?_ | refine x7 rfl ?_ | apply j6 | (refine x5 fun K hK => ?_) | (refine x8 fun K hK => ?_) | ((first | apply j5 | apply x6 | ((first | refine j4 (hK _ ?_) | refine q9 (hK _ _ j8 ?_));clear hK K));(first | show AWP _ _ _ _ _ | ((try simp only [z8]);first | show loopQ _ _ _ _ _ _ | show cutQ _ _ _ _ | show AWP _ _ _ _ _))) | ((first | refine j7 [7,10,11,16] rfl ?_ | refine q10 [7,10,11,16] rfl ?_);simp (disch:=omega) only [go_sem,seval,hd,cb,ruleD,portD,u1,u2];(repeat (first | refine ⟨by omega,?_⟩ | refine ⟨True.intro,?_⟩)))))
   refine j9 ⟨_,?_,rfl⟩;rw [Tryz.results39];simp (disch:=omega) only [ResVars,ResVar,ptrLoc,go_sem,seval,hd,cb,ruleD,portD,u1,u2]
  |some a =>
   rw [hfi] at k1 hgo
   simp only [Option.getD_some,Option.isSome_some] at k1 hgo
   have u3 := x21 l a
   have hal := x119 hfi
   have irl := irl hw hfi
   have ipo := ipo hw hfi
   have inx := inx hw hfi
   clear hg hR
   have q4 := x120 hops ⟨n,t,a,h⟩
   have q5 := lc ⟨n,t,a,h⟩
   generalize l.getD a r0 = x at *
   have k2 := SetT_c h x.st
   generalize setH h x.st = h2 at *
   obtain ⟨y,hy⟩ : ∃ y,y = hops ++ [⟨n,t,a,h⟩] := ⟨_,rfl⟩
   rw [← hy] at hgo q4 q5
   obtain ⟨kd4,-,-⟩ := q81 irl.1
   rcases kd4 with h1 | h1 | h1 | h1
   ·have q1 : (x.kd == 1) = true := j14 h1
    rw [show stepE x = 1 by unfold stepE;simp [h1],show stepA n x = (0,0) by unfold stepA;simp [h1],if_neg (by decide)] at hgo
    subst hgo
    unfold runD
    (repeat ((fail_if_success (show AWP _ _ (.region 17 _ _) _ _));first | apply j0 | refine z7 rfl ?_ | refine x7 rfl ?_ | apply j6 | (refine x5 fun K hK => ?_) | (refine x8 fun K hK => ?_) | ((first | apply j5 | apply x6 | ((first | refine j4 (hK _ ?_) | refine q9 (hK _ _ j8 ?_));clear hK K));(first | show AWP _ _ _ _ _ | ((try simp only [z8]);first | show loopQ _ _ _ _ _ _ | show cutQ _ _ _ _ | show AWP _ _ _ _ _))) | ((first | refine x10 rfl rfl rfl ?_ | refine q13 rfl rfl rfl ?_);simp (disch:=omega) only [go_sem,seval,hd,cb,ruleD,portD,u1,u2,u3,q1];(first | refine ⟨_,k1,?_⟩ | refine ⟨_,k2,?_⟩)) | ((first | refine j7 [7,10,11,16] rfl ?_ | refine q10 [7,10,11,16] rfl ?_);simp (disch:=omega) only [go_sem,seval,hd,cb,ruleD,portD,u1,u2,u3,q1];(repeat (first | refine ⟨by omega,?_⟩ | refine ⟨True.intro,?_⟩)))))
    refine q65 (l := y) rfl rfl rfl rfl q5 (fun j hj => q4 j hj) ?_
    unfold runZ
    (repeat (first | apply j0 | refine z7 rfl ?_ | refine x7 rfl ?_ | apply j6 | (refine x5 fun K hK => ?_) | (refine x8 fun K hK => ?_) | ((first | apply j5 | apply x6 | ((first | refine j4 (hK _ ?_) | refine q9 (hK _ _ j8 ?_));clear hK K));(first | show AWP _ _ _ _ _ | ((try simp only [z8]);first | show loopQ _ _ _ _ _ _ | show cutQ _ _ _ _ | show AWP _ _ _ _ _))) | ((first | refine j7 [7,10,11,16] rfl ?_ | refine q10 [7,10,11,16] rfl ?_);simp (disch:=omega) only [go_sem,seval,hd,cb,ruleD,portD,u1,u2,u3,q1];(repeat (first | refine ⟨by omega,?_⟩ | refine ⟨True.intro,?_⟩)))))
    refine j9 ⟨_,?_,rfl⟩;rw [Tryz.results39];simp (disch:=omega) only [ResVars,ResVar,ptrLoc,go_sem,seval,hd,cb,ruleD,portD,u1,u2,u3,q1]
   ·have q1 : (x.kd == 1) = false := z14 (by omega)
    have q2 : (x.kd == 2) = true := j14 h1
    rw [show stepE x = 2 by unfold stepE;simp [h1],show stepA n x = ((n : Int),x.pt) by unfold stepA;simp [h1],if_neg (by decide)] at hgo
    subst hgo
    unfold runD
    (repeat ((fail_if_success (show AWP _ _ (.region 21 _ _) _ _));first | apply j0 | refine z7 rfl ?_ | refine x7 rfl ?_ | apply j6 | (refine x5 fun K hK => ?_) | (refine x8 fun K hK => ?_) | ((first | apply j5 | apply x6 | ((first | refine j4 (hK _ ?_) | refine q9 (hK _ _ j8 ?_));clear hK K));(first | show AWP _ _ _ _ _ | ((try simp only [z8]);first | show loopQ _ _ _ _ _ _ | show cutQ _ _ _ _ | show AWP _ _ _ _ _))) | ((first | refine x10 rfl rfl rfl ?_ | refine q13 rfl rfl rfl ?_);simp (disch:=omega) only [go_sem,seval,hd,cb,ruleD,portD,u1,u2,u3,q1,q2];(first | refine ⟨_,k1,?_⟩ | refine ⟨_,k2,?_⟩)) | ((first | refine j7 [7,10,11,16] rfl ?_ | refine q10 [7,10,11,16] rfl ?_);simp (disch:=omega) only [go_sem,seval,hd,cb,ruleD,portD,u1,u2,u3,q1,q2];(repeat (first | refine ⟨by omega,?_⟩ | refine ⟨True.intro,?_⟩)))))
    refine q65 (l := y) rfl rfl rfl rfl q5 (fun j hj => q4 j hj) ?_
    unfold runZ
    (repeat (first | apply j0 | refine z7 rfl ?_ | refine x7 rfl ?_ | apply j6 | (refine x5 fun K hK => ?_) | (refine x8 fun K hK => ?_) | ((first | apply j5 | apply x6 | ((first | refine j4 (hK _ ?_) | refine q9 (hK _ _ j8 ?_));clear hK K));(first | show AWP _ _ _ _ _ | ((try simp only [z8]);first | show loopQ _ _ _ _ _ _ | show cutQ _ _ _ _ | show AWP _ _ _ _ _))) | ((first | refine j7 [7,10,11,16] rfl ?_ | refine q10 [7,10,11,16] rfl ?_);simp (disch:=omega) only [go_sem,seval,hd,cb,ruleD,portD,u1,u2,u3,q1,q2];(repeat (first | refine ⟨by omega,?_⟩ | refine ⟨True.intro,?_⟩)))))
    refine j9 ⟨_,?_,rfl⟩;rw [Tryz.results39];simp (disch:=omega) only [ResVars,ResVar,ptrLoc,go_sem,seval,hd,cb,ruleD,portD,u1,u2,u3,q1,q2]
   ·have q1 : (x.kd == 1) = false := z14 (by omega)
    have q2 : (x.kd == 2) = false := z14 (by omega)
    have q3 : (x.kd == 4) = false := z14 (by omega)
    have e0 : stepE x = 0 := by unfold stepE;simp [h1]
    rw [e0,if_pos rfl] at hgo
    obtain ⟨i1,i2,i3⟩ := ipo h1
    obtain ⟨j1,j2,j3⟩ := inx e0
    have e1 : stepN c n x = (portAt c.tp n x.pt.toNat).pe := if_pos h1
    have e2 : stepT t x = 0 := if_pos h1
    obtain ⟨m,hpt⟩ := Int.eq_ofNat_of_zero_le i1
    rw [hpt,Int.toNat_natCast] at i2
    rw [e1,hpt,Int.toNat_natCast] at j1
    rw [e1,e2,hpt,Int.toNat_natCast] at j3 hgo
    have w1 := x20 c.tp n
    unfold portAt at j1 j3 hgo
    have hbp := q21 hc.tp n
    generalize c.tp.getD n [] = ps at *
    have w2 : rowP ps m = portD (ps.getD m p0) := rfl
    generalize ps.getD m p0 = p at *
    (repeat (first | apply j0 | refine z7 rfl ?_ | refine x7 rfl ?_ | apply j6 | (refine x5 fun K hK => ?_) | (refine x8 fun K hK => ?_) | ((first | apply j5 | apply x6 | ((first | refine j4 (hK _ ?_) | refine q9 (hK _ _ j8 ?_));clear hK K));(first | show AWP _ _ _ _ _ | ((try simp only [z8]);first | show loopQ _ _ _ _ _ _ | show cutQ _ _ _ _ | show AWP _ _ _ _ _))) | ((first | refine x10 rfl rfl rfl ?_ | refine q13 rfl rfl rfl ?_);simp (disch:=omega) only [go_sem,seval,hd,cb,ruleD,portD,u1,u2,u3,q1,q2,q3,w1,w2,hpt];(first | refine ⟨_,k1,?_⟩ | refine ⟨_,k2,?_⟩)) | ((first | refine j7 [7,10,11,16] rfl ?_ | refine q10 [7,10,11,16] rfl ?_);simp (disch:=omega) only [go_sem,seval,hd,cb,ruleD,portD,u1,u2,u3,q1,q2,q3,w1,w2,hpt];(repeat (first | refine ⟨by omega,?_⟩ | refine ⟨True.intro,?_⟩)))))
    refine ⟨⟨i + 1,p.pe.toNat,0,h2,y,by omega,by omega,j3,by rw [show most - (i + 1) = f by omega];exact hgo.symm⟩,by simp only [];omega,?_⟩
    refine Weak.list ?_ ?_;(all_goals simp (disch:=omega) only [AllF,AllL,q11,z11,j10,exists_eq_left',go_sem,seval,hd,cb,ruleD,portD,u1,u2,u3,q1,q2,q3,w1,w2,hpt]);(all_goals (repeat' (with_reducible apply And.intro)));(all_goals try (first | exact q8 rfl | (refine x11 ?_;omega) | (refine q8 ?_;simp;done)))
    ·refine x45 ?_
     iterate 3 (refine LesD.cons (Le.refl _) ?_)
     exact .cons (z26 q5 q5 q4) .nil
    ·exact q33 q5 q5
   ·have q1 : (x.kd == 1) = false := z14 (by omega)
    have q2 : (x.kd == 2) = false := z14 (by omega)
    have q3 : (x.kd == 4) = true := j14 h1
    have e0 : stepE x = 0 := by unfold stepE;simp [h1]
    rw [e0,if_pos rfl] at hgo
    obtain ⟨j1,j2,j3⟩ := inx e0
    have e1 : stepN c n x = n := if_neg (by omega)
    have e2 : stepT t x = x.tb := by unfold stepT;rw [if_neg (by omega),if_pos h1]
    rw [e1,e2,Int.toNat_natCast] at j3 hgo
    rw [e2] at j2
    (repeat (first | apply j0 | refine z7 rfl ?_ | refine x7 rfl ?_ | apply j6 | (refine x5 fun K hK => ?_) | (refine x8 fun K hK => ?_) | ((first | apply j5 | apply x6 | ((first | refine j4 (hK _ ?_) | refine q9 (hK _ _ j8 ?_));clear hK K));(first | show AWP _ _ _ _ _ | ((try simp only [z8]);first | show loopQ _ _ _ _ _ _ | show cutQ _ _ _ _ | show AWP _ _ _ _ _))) | ((first | refine x10 rfl rfl rfl ?_ | refine q13 rfl rfl rfl ?_);simp (disch:=omega) only [go_sem,seval,hd,cb,ruleD,portD,u1,u2,u3,q1,q2,q3];(first | refine ⟨_,k1,?_⟩ | refine ⟨_,k2,?_⟩)) | ((first | refine j7 [7,10,11,16] rfl ?_ | refine q10 [7,10,11,16] rfl ?_);simp (disch:=omega) only [go_sem,seval,hd,cb,ruleD,portD,u1,u2,u3,q1,q2,q3];(repeat (first | refine ⟨by omega,?_⟩ | refine ⟨True.intro,?_⟩)))))
    refine ⟨⟨i + 1,n,x.tb.toNat,h2,y,by omega,by omega,j3,by rw [show most - (i + 1) = f by omega];exact hgo.symm⟩,by simp only [];omega,?_⟩
    refine Weak.list ?_ ?_;(all_goals simp (disch:=omega) only [AllF,AllL,q11,z11,j10,exists_eq_left',go_sem,seval,hd,cb,ruleD,portD,u1,u2,u3,q1,q2,q3]);(all_goals (repeat' (with_reducible apply And.intro)));(all_goals try (first | exact q8 rfl | (refine x11 ?_;omega) | (refine q8 ?_;simp;done)))
    ·refine x45 ?_
     iterate 3 (refine LesD.cons (Le.refl _) ?_)
     exact .cons (z26 q5 q5 q4) .nil
    ·exact q33 q5 q5
 ·have : i = most := by omega
  have hR2 : R = ⟨4,0,0,hops⟩ := by rw [← hg,this,Nat.sub_self];rfl
  subst hR2
  unfold runD
  subst this
  (repeat ((fail_if_success (show AWP _ _ (.region 25 _ _) _ _));first | apply j0 | refine z7 rfl ?_ | refine x7 rfl ?_ | apply j6 | (refine x5 fun K hK => ?_) | (refine x8 fun K hK => ?_) | ((first | apply j5 | apply x6 | ((first | refine j4 (hK _ ?_) | refine q9 (hK _ _ j8 ?_));clear hK K));(first | show AWP _ _ _ _ _ | ((try simp only [z8]);first | show loopQ _ _ _ _ _ _ | show cutQ _ _ _ _ | show AWP _ _ _ _ _))) | ((first | refine j7 [7,10,11,16] rfl ?_ | refine q10 [7,10,11,16] rfl ?_);simp (disch:=omega) only [go_sem,seval,hd,cb,ruleD,portD];(repeat (first | refine ⟨by omega,?_⟩ | refine ⟨True.intro,?_⟩)))))
  refine q65 (l := hops) rfl rfl rfl rfl rfl (fun j hj => rfl) ?_
  unfold runZ
  (repeat (first | apply j0 | refine z7 rfl ?_ | refine x7 rfl ?_ | apply j6 | (refine x5 fun K hK => ?_) | (refine x8 fun K hK => ?_) | ((first | apply j5 | apply x6 | ((first | refine j4 (hK _ ?_) | refine q9 (hK _ _ j8 ?_));clear hK K));(first | show AWP _ _ _ _ _ | ((try simp only [z8]);first | show loopQ _ _ _ _ _ _ | show cutQ _ _ _ _ | show AWP _ _ _ _ _))) | ((first | refine j7 [7,10,11,16] rfl ?_ | refine q10 [7,10,11,16] rfl ?_);simp (disch:=omega) only [go_sem,seval,hd,cb,ruleD,portD];(repeat (first | refine ⟨by omega,?_⟩ | refine ⟨True.intro,?_⟩)))))
  refine j9 ⟨_,?_,rfl⟩;rw [Tryz.results39];simp (disch:=omega) only [ResVars,ResVar,ptrLoc,go_sem,seval,hd,cb,ruleD,portD]
theorem edge_in {c : Config} {s : Spot} (hs : soundC c = 0) (hm : s ∈ edgesT c.tp) : ∃ n : Nat,s.sw = n ∧ InW c n 0 := by
 obtain ⟨i,j,rfl,g1,-,-⟩ := j74 hm
 obtain ⟨p1,p2,p3⟩ := q35 hs
 exact ⟨i,rfl,by omega,g1,(z48 (p3 i (by omega))).1⟩
theorem j122 (c : Config) : ∀ (f n t : Nat) (h : BitVec 128) (hops : List Hop),(goW c f n t h hops).hops.length ≤ hops.length + f
 | 0,_,_,_,hops => Nat.le_refl _
 |f + 1,n,t,h,hops => by
  unfold goW
  split
  ·simp
  ·split
   ·refine Nat.le_trans (j122 c f _ _ _ _) ?_
    simp;omega
   ·simp
end Go.Proofs.YtemcdefpihkfpaaGreat
namespace Go.Proofs.YtemcdefpihkfpaaGreat
open Go Go.Proofs.YtemcdefpihkfpaaGreat.AL
theorem z35 {α : Type} {e : α → α → Bool} {d : α} {a b : List α} (h : a.length ≠ b.length) : eqBy e d a b = false := by unfold eqBy;rw [if_neg h]
theorem q29 {α : Type} {e : α → α → Bool} {d : α} {a b : List α} (h : a.length = b.length) : eqBy e d a b = allF (fun i => e (a.getD i d) (b.getD i d)) a.length 0 := by unfold eqBy;rw [if_pos h]
def rul8A (a b : List (List Rule)) (R : Bool) (s : {i : Nat // i ≤ a.length ∧ allF (fun i => eqRR (a.getD i []) (b.getD i [])) a.length i = R}) : ASt :=
 ⟨[(5,.p (.d (.v (.int .i64 (s.val : Int))))),(1,.p (.d (.sl 1 b.length (rowRR b)))),(0,.p (.d (.sl 1 a.length (rowRR a))))],[]⟩
def rul8B (a b : List (List Rule)) (x y : List Rule) (i : Nat) (Q : Bool) (s : {k : Nat // k ≤ x.length ∧ allF (fun k => x.getD k r0 == y.getD k r0) x.length k = Q}) : ASt :=
 ⟨[(6,.p (.d (.v (.int .i64 (s.val : Int))))),(5,.p (.d (.v (.int .i64 (i : Int))))),(1,.p (.d (.sl 1 b.length (rowRR b)))),(0,.p (.d (.sl 1 a.length (rowRR a))))],[]⟩
set_option maxRecDepth 100000 in
theorem z195 (a b : List (List Rule)) (ha : smallR a) (hb : smallR b) : ACalls Tryz.prog 32 [.d (.sl 1 a.length (rowRR a)),.d (.sl 1 b.length (rowRR b))] (· = [.d (.v (.bool (eqBy eqRR [] a b)))]) := by
 have hs := ha.1
 have hs' := hb.1
 by_cases hn : a.length = b.length
 ·rw [q29 hn]
  have q0 : ((a.length : Int) != (b.length : Int)) = false := x14 (by omega)
  generalize hR : allF (fun i => eqRR (a.getD i []) (b.getD i [])) a.length 0 = R
  refine q12 Tryz.func32 rfl (by decide +kernel) (by rw [Tryz.ntmps32];simp) ?_;rw [Tryz.ntmps32];simp only [frOf]
  (repeat (first | apply j0 | refine z7 rfl ?_ | refine x7 rfl ?_ | apply j6 | (refine x5 fun K hK => ?_) | (refine x8 fun K hK => ?_) | ((first | apply j5 | apply x6 | ((first | refine j4 (hK _ ?_) | refine q9 (hK _ _ j8 ?_));clear hK K));(first | show AWP _ _ _ _ _ | ((try simp only [z8]);first | show loopQ _ _ _ _ _ _ | show cutQ _ _ _ _ | show AWP _ _ _ _ _))) | ((first | refine j7 [] rfl ?_ | refine q10 [] rfl ?_);simp (disch:=omega) only [go_sem,seval,ruleD,z13,q0];(repeat (first | refine ⟨by omega,?_⟩ | refine ⟨True.intro,?_⟩)))))
  refine j13 (rul8A a b R) (fun s => a.length - s.val) ⟨0,Nat.zero_le _,hR⟩ ?_ (fun s => ?_)
  ·unfold rul8A
   refine Weak.list ?_ ?_;(all_goals simp (disch:=omega) only [AllF,AllL,q11,z11,j10,exists_eq_left',go_sem,seval,ruleD,z13]);(all_goals (repeat' (with_reducible apply And.intro)));(all_goals try (first | exact q8 rfl | (refine x11 ?_;omega) | (refine q8 ?_;simp;done)))
  obtain ⟨i,hi,h2⟩ := s
  unfold rul8A
  simp only [] at hi h2 ⊢
  by_cases h : i < a.length
  ·rw [x18 h] at h2
   have r1 := q30 a i
   have r2 := q30 b i
   have l1 := z28 ha i
   have l2 := z28 hb i
   try simp only [] at h2
   generalize a.getD i [] = x at h2 r1 l1
   generalize b.getD i [] = y at h2 r2 l2
   by_cases hxy : x.length = y.length
   ·have q1 : ((x.length : Int) != (y.length : Int)) = false := x14 (by omega)
    have eQ : eqRR x y = allF (fun k => x.getD k r0 == y.getD k r0) x.length 0 := q29 hxy
    generalize eqRR x y = Q at h2 eQ
    (repeat (first | apply j0 | refine z7 rfl ?_ | refine x7 rfl ?_ | apply j6 | (refine x5 fun K hK => ?_) | (refine x8 fun K hK => ?_) | ((first | apply j5 | apply x6 | ((first | refine j4 (hK _ ?_) | refine q9 (hK _ _ j8 ?_));clear hK K));(first | show AWP _ _ _ _ _ | ((try simp only [z8]);first | show loopQ _ _ _ _ _ _ | show cutQ _ _ _ _ | show AWP _ _ _ _ _))) | ((first | refine j7 [] rfl ?_ | refine q10 [] rfl ?_);simp (disch:=omega) only [go_sem,seval,ruleD,z13,r1,r2,q1];(repeat (first | refine ⟨by omega,?_⟩ | refine ⟨True.intro,?_⟩)))))
    refine j13 (rul8B a b x y i Q) (fun s => x.length - s.val) ⟨0,Nat.zero_le _,eQ.symm⟩ ?_ (fun s => ?_)
    ·unfold rul8B
     refine Weak.list ?_ ?_;(all_goals simp (disch:=omega) only [AllF,AllL,q11,z11,j10,exists_eq_left',go_sem,seval,ruleD,z13,r1,r2,q1]);(all_goals (repeat' (with_reducible apply And.intro)));(all_goals try (first | exact q8 rfl | (refine x11 ?_;omega) | (refine q8 ?_;simp;done)))
    obtain ⟨k,hk,h3⟩ := s
    unfold rul8B
    simp only [] at hk h3 ⊢
    by_cases hkl : k < x.length
    ·rw [x18 hkl] at h3
     have r3 := x21 x k
     have r4 := x21 y k
     try simp only [] at h3
     generalize x.getD k r0 = u at h3 r3
     generalize y.getD k r0 = v at h3 r4
     have e := j159 u v
     generalize (u == v) = c at h3 e
     cases c
     ·rw [Bool.false_and] at h3
      subst h3
      rw [Bool.false_and] at h2
      subst h2
      (repeat (first | apply j0 | refine z7 rfl ?_ | refine x7 rfl ?_ | apply j6 | (refine x5 fun K hK => ?_) | (refine x8 fun K hK => ?_) | ((first | apply j5 | apply x6 | ((first | refine j4 (hK _ ?_) | refine q9 (hK _ _ j8 ?_));clear hK K));(first | show AWP _ _ _ _ _ | ((try simp only [z8]);first | show loopQ _ _ _ _ _ _ | show cutQ _ _ _ _ | show AWP _ _ _ _ _))) | ((first | refine j7 [] rfl ?_ | refine q10 [] rfl ?_);simp (disch:=omega) only [go_sem,seval,ruleD,z13,r1,r2,r3,r4,e];(repeat (first | refine ⟨by omega,?_⟩ | refine ⟨True.intro,?_⟩)))))
      refine j9 ⟨_,?_,rfl⟩;rw [Tryz.results32];simp (disch:=omega) only [ResVars,ResVar,ptrLoc,go_sem,seval,ruleD,z13,r1,r2,r3,r4,e]
     ·rw [Bool.true_and] at h3
      (repeat (first | apply j0 | refine z7 rfl ?_ | refine x7 rfl ?_ | apply j6 | (refine x5 fun K hK => ?_) | (refine x8 fun K hK => ?_) | ((first | apply j5 | apply x6 | ((first | refine j4 (hK _ ?_) | refine q9 (hK _ _ j8 ?_));clear hK K));(first | show AWP _ _ _ _ _ | ((try simp only [z8]);first | show loopQ _ _ _ _ _ _ | show cutQ _ _ _ _ | show AWP _ _ _ _ _))) | ((first | refine j7 [] rfl ?_ | refine q10 [] rfl ?_);simp (disch:=omega) only [go_sem,seval,ruleD,z13,r1,r2,r3,r4,e];(repeat (first | refine ⟨by omega,?_⟩ | refine ⟨True.intro,?_⟩)))))
      refine ⟨⟨k + 1,by omega,h3⟩,by simp only [];omega,?_⟩
      refine Weak.list ?_ ?_;(all_goals simp (disch:=omega) only [AllF,AllL,q11,z11,j10,exists_eq_left',go_sem,seval,ruleD,z13,r1,r2,r3,r4,e]);(all_goals (repeat' (with_reducible apply And.intro)));(all_goals try (first | exact q8 rfl | (refine x11 ?_;omega) | (refine q8 ?_;simp;done)))
    ·rw [j18 (by omega)] at h3
     subst h3
     rw [Bool.true_and] at h2
     (repeat (first | apply j0 | refine z7 rfl ?_ | refine x7 rfl ?_ | apply j6 | (refine x5 fun K hK => ?_) | (refine x8 fun K hK => ?_) | ((first | apply j5 | apply x6 | ((first | refine j4 (hK _ ?_) | refine q9 (hK _ _ j8 ?_));clear hK K));(first | show AWP _ _ _ _ _ | ((try simp only [z8]);first | show loopQ _ _ _ _ _ _ | show cutQ _ _ _ _ | show AWP _ _ _ _ _))) | ((first | refine j7 [] rfl ?_ | refine q10 [] rfl ?_);simp (disch:=omega) only [go_sem,seval,ruleD,z13,r1,r2];(repeat (first | refine ⟨by omega,?_⟩ | refine ⟨True.intro,?_⟩)))))
     refine ⟨⟨i + 1,by omega,h2⟩,by simp only [];omega,?_⟩
     refine Weak.list ?_ ?_;(all_goals simp (disch:=omega) only [AllF,AllL,q11,z11,j10,exists_eq_left',go_sem,seval,ruleD,z13,r1,r2]);(all_goals (repeat' (with_reducible apply And.intro)));(all_goals try (first | exact q8 rfl | (refine x11 ?_;omega) | (refine q8 ?_;simp;done)))
   ·have q1 : ((x.length : Int) != (y.length : Int)) = true := q14 (by omega)
    rw [show eqRR x y = false from z35 hxy,Bool.false_and] at h2
    subst h2
    (repeat (first | apply j0 | refine z7 rfl ?_ | refine x7 rfl ?_ | apply j6 | (refine x5 fun K hK => ?_) | (refine x8 fun K hK => ?_) | ((first | apply j5 | apply x6 | ((first | refine j4 (hK _ ?_) | refine q9 (hK _ _ j8 ?_));clear hK K));(first | show AWP _ _ _ _ _ | ((try simp only [z8]);first | show loopQ _ _ _ _ _ _ | show cutQ _ _ _ _ | show AWP _ _ _ _ _))) | ((first | refine j7 [] rfl ?_ | refine q10 [] rfl ?_);simp (disch:=omega) only [go_sem,seval,ruleD,z13,r1,r2,q1];(repeat (first | refine ⟨by omega,?_⟩ | refine ⟨True.intro,?_⟩)))))
    refine j9 ⟨_,?_,rfl⟩;rw [Tryz.results32];simp (disch:=omega) only [ResVars,ResVar,ptrLoc,go_sem,seval,ruleD,z13,r1,r2,q1]
  ·rw [j18 (by omega)] at h2
   subst h2
   (repeat (first | apply j0 | refine z7 rfl ?_ | refine x7 rfl ?_ | apply j6 | (refine x5 fun K hK => ?_) | (refine x8 fun K hK => ?_) | ((first | apply j5 | apply x6 | ((first | refine j4 (hK _ ?_) | refine q9 (hK _ _ j8 ?_));clear hK K));(first | show AWP _ _ _ _ _ | ((try simp only [z8]);first | show loopQ _ _ _ _ _ _ | show cutQ _ _ _ _ | show AWP _ _ _ _ _))) | ((first | refine j7 [] rfl ?_ | refine q10 [] rfl ?_);simp (disch:=omega) only [go_sem,seval,ruleD,z13];(repeat (first | refine ⟨by omega,?_⟩ | refine ⟨True.intro,?_⟩)))))
   refine j9 ⟨_,?_,rfl⟩;rw [Tryz.results32];simp (disch:=omega) only [ResVars,ResVar,ptrLoc,go_sem,seval,ruleD,z13]
 ·rw [z35 hn]
  have q : ((a.length : Int) != (b.length : Int)) = true := q14 (by omega)
  refine q12 Tryz.func32 rfl (by decide +kernel) (by rw [Tryz.ntmps32];simp) ?_;rw [Tryz.ntmps32];simp only [frOf]
  (repeat (first | apply j0 | refine z7 rfl ?_ | refine x7 rfl ?_ | apply j6 | (refine x5 fun K hK => ?_) | (refine x8 fun K hK => ?_) | ((first | apply j5 | apply x6 | ((first | refine j4 (hK _ ?_) | refine q9 (hK _ _ j8 ?_));clear hK K));(first | show AWP _ _ _ _ _ | ((try simp only [z8]);first | show loopQ _ _ _ _ _ _ | show cutQ _ _ _ _ | show AWP _ _ _ _ _))) | ((first | refine j7 [] rfl ?_ | refine q10 [] rfl ?_);simp (disch:=omega) only [go_sem,seval,ruleD,z13,q];(repeat (first | refine ⟨by omega,?_⟩ | refine ⟨True.intro,?_⟩)))))
  refine j9 ⟨_,?_,rfl⟩;rw [Tryz.results32];simp (disch:=omega) only [ResVars,ResVar,ptrLoc,go_sem,seval,ruleD,z13,q]
def por8A (a b : List (List Port)) (R : Bool) (s : {i : Nat // i ≤ a.length ∧ allF (fun i => eqPP (a.getD i []) (b.getD i [])) a.length i = R}) : ASt :=
 ⟨[(5,.p (.d (.v (.int .i64 (s.val : Int))))),(3,.p (.d (.bx [.sl 1 b.length (rowPP b)]))),(2,.p (.d (.bx [.sl 1 a.length (rowPP a)])))],[]⟩
def por8B (a b : List (List Port)) (x y : List Port) (i : Nat) (Q : Bool) (s : {k : Nat // k ≤ x.length ∧ allF (fun k => x.getD k p0 == y.getD k p0) x.length k = Q}) : ASt :=
 ⟨[(6,.p (.d (.v (.int .i64 (s.val : Int))))),(5,.p (.d (.v (.int .i64 (i : Int))))),(3,.p (.d (.bx [.sl 1 b.length (rowPP b)]))),(2,.p (.d (.bx [.sl 1 a.length (rowPP a)])))],[]⟩
set_option maxRecDepth 100000 in
theorem q123 (a b : List (List Port)) (ha : small a) (hb : small b) : ACalls Tryz.prog 37 [.agg [.sl 1 a.length (rowPP a)],.agg [.sl 1 b.length (rowPP b)]] (· = [.d (.v (.bool (eqBy eqPP [] a b)))]) := by
 have hs := ha.1
 have hs' := hb.1
 by_cases hn : a.length = b.length
 ·rw [q29 hn]
  have q0 : ((a.length : Int) != (b.length : Int)) = false := x14 (by omega)
  generalize hR : allF (fun i => eqPP (a.getD i []) (b.getD i [])) a.length 0 = R
  refine q12 Tryz.func37 rfl (by decide +kernel) (by rw [Tryz.ntmps37];simp) ?_;rw [Tryz.ntmps37];simp only [frOf]
  (repeat (first | apply j0 | refine z7 rfl ?_ | refine x7 rfl ?_ | apply j6 | (refine x5 fun K hK => ?_) | (refine x8 fun K hK => ?_) | ((first | apply j5 | apply x6 | ((first | refine j4 (hK _ ?_) | refine q9 (hK _ _ j8 ?_));clear hK K));(first | show AWP _ _ _ _ _ | ((try simp only [z8]);first | show loopQ _ _ _ _ _ _ | show cutQ _ _ _ _ | show AWP _ _ _ _ _))) | ((first | refine j7 [] rfl ?_ | refine q10 [] rfl ?_);simp (disch:=omega) only [go_sem,seval,portD,x15,q0];(repeat (first | refine ⟨by omega,?_⟩ | refine ⟨True.intro,?_⟩)))))
  refine j13 (por8A a b R) (fun s => a.length - s.val) ⟨0,Nat.zero_le _,hR⟩ ?_ (fun s => ?_)
  ·unfold por8A
   refine Weak.list ?_ ?_;(all_goals simp (disch:=omega) only [AllF,AllL,q11,z11,j10,exists_eq_left',go_sem,seval,portD,x15]);(all_goals (repeat' (with_reducible apply And.intro)));(all_goals try (first | exact q8 rfl | (refine x11 ?_;omega) | (refine q8 ?_;simp;done)))
  obtain ⟨i,hi,h2⟩ := s
  unfold por8A
  simp only [] at hi h2 ⊢
  by_cases h : i < a.length
  ·rw [x18 h] at h2
   have r1 := x20 a i
   have r2 := x20 b i
   have l1 := q21 ha i
   have l2 := q21 hb i
   try simp only [] at h2
   generalize a.getD i [] = x at h2 r1 l1
   generalize b.getD i [] = y at h2 r2 l2
   by_cases hxy : x.length = y.length
   ·have q1 : ((x.length : Int) != (y.length : Int)) = false := x14 (by omega)
    have eQ : eqPP x y = allF (fun k => x.getD k p0 == y.getD k p0) x.length 0 := q29 hxy
    generalize eqPP x y = Q at h2 eQ
    (repeat (first | apply j0 | refine z7 rfl ?_ | refine x7 rfl ?_ | apply j6 | (refine x5 fun K hK => ?_) | (refine x8 fun K hK => ?_) | ((first | apply j5 | apply x6 | ((first | refine j4 (hK _ ?_) | refine q9 (hK _ _ j8 ?_));clear hK K));(first | show AWP _ _ _ _ _ | ((try simp only [z8]);first | show loopQ _ _ _ _ _ _ | show cutQ _ _ _ _ | show AWP _ _ _ _ _))) | ((first | refine j7 [] rfl ?_ | refine q10 [] rfl ?_);simp (disch:=omega) only [go_sem,seval,portD,x15,r1,r2,q1];(repeat (first | refine ⟨by omega,?_⟩ | refine ⟨True.intro,?_⟩)))))
    refine j13 (por8B a b x y i Q) (fun s => x.length - s.val) ⟨0,Nat.zero_le _,eQ.symm⟩ ?_ (fun s => ?_)
    ·unfold por8B
     refine Weak.list ?_ ?_;(all_goals simp (disch:=omega) only [AllF,AllL,q11,z11,j10,exists_eq_left',go_sem,seval,portD,x15,r1,r2,q1]);(all_goals (repeat' (with_reducible apply And.intro)));(all_goals try (first | exact q8 rfl | (refine x11 ?_;omega) | (refine q8 ?_;simp;done)))
    obtain ⟨k,hk,h3⟩ := s
    unfold por8B
    simp only [] at hk h3 ⊢
    by_cases hkl : k < x.length
    ·rw [x18 hkl] at h3
     have r3 := j24 x k
     have r4 := j24 y k
     try simp only [] at h3
     generalize x.getD k p0 = u at h3 r3
     generalize y.getD k p0 = v at h3 r4
     have e := j189 u v
     generalize (u == v) = c at h3 e
     cases c
     ·rw [Bool.false_and] at h3
      subst h3
      rw [Bool.false_and] at h2
      subst h2
      (repeat (first | apply j0 | refine z7 rfl ?_ | refine x7 rfl ?_ | apply j6 | (refine x5 fun K hK => ?_) | (refine x8 fun K hK => ?_) | ((first | apply j5 | apply x6 | ((first | refine j4 (hK _ ?_) | refine q9 (hK _ _ j8 ?_));clear hK K));(first | show AWP _ _ _ _ _ | ((try simp only [z8]);first | show loopQ _ _ _ _ _ _ | show cutQ _ _ _ _ | show AWP _ _ _ _ _))) | ((first | refine j7 [] rfl ?_ | refine q10 [] rfl ?_);simp (disch:=omega) only [go_sem,seval,portD,x15,r1,r2,r3,r4,e];(repeat (first | refine ⟨by omega,?_⟩ | refine ⟨True.intro,?_⟩)))))
      refine j9 ⟨_,?_,rfl⟩;rw [Tryz.results37];simp (disch:=omega) only [ResVars,ResVar,ptrLoc,go_sem,seval,portD,x15,r1,r2,r3,r4,e]
     ·rw [Bool.true_and] at h3
      (repeat (first | apply j0 | refine z7 rfl ?_ | refine x7 rfl ?_ | apply j6 | (refine x5 fun K hK => ?_) | (refine x8 fun K hK => ?_) | ((first | apply j5 | apply x6 | ((first | refine j4 (hK _ ?_) | refine q9 (hK _ _ j8 ?_));clear hK K));(first | show AWP _ _ _ _ _ | ((try simp only [z8]);first | show loopQ _ _ _ _ _ _ | show cutQ _ _ _ _ | show AWP _ _ _ _ _))) | ((first | refine j7 [] rfl ?_ | refine q10 [] rfl ?_);simp (disch:=omega) only [go_sem,seval,portD,x15,r1,r2,r3,r4,e];(repeat (first | refine ⟨by omega,?_⟩ | refine ⟨True.intro,?_⟩)))))
      refine ⟨⟨k + 1,by omega,h3⟩,by simp only [];omega,?_⟩
      refine Weak.list ?_ ?_;(all_goals simp (disch:=omega) only [AllF,AllL,q11,z11,j10,exists_eq_left',go_sem,seval,portD,x15,r1,r2,r3,r4,e]);(all_goals (repeat' (with_reducible apply And.intro)));(all_goals try (first | exact q8 rfl | (refine x11 ?_;omega) | (refine q8 ?_;simp;done)))
    ·rw [j18 (by omega)] at h3
     subst h3
     rw [Bool.true_and] at h2
     (repeat (first | apply j0 | refine z7 rfl ?_ | refine x7 rfl ?_ | apply j6 | (refine x5 fun K hK => ?_) | (refine x8 fun K hK => ?_) | ((first | apply j5 | apply x6 | ((first | refine j4 (hK _ ?_) | refine q9 (hK _ _ j8 ?_));clear hK K));(first | show AWP _ _ _ _ _ | ((try simp only [z8]);first | show loopQ _ _ _ _ _ _ | show cutQ _ _ _ _ | show AWP _ _ _ _ _))) | ((first | refine j7 [] rfl ?_ | refine q10 [] rfl ?_);simp (disch:=omega) only [go_sem,seval,portD,x15,r1,r2];(repeat (first | refine ⟨by omega,?_⟩ | refine ⟨True.intro,?_⟩)))))
     refine ⟨⟨i + 1,by omega,h2⟩,by simp only [];omega,?_⟩
     refine Weak.list ?_ ?_;(all_goals simp (disch:=omega) only [AllF,AllL,q11,z11,j10,exists_eq_left',go_sem,seval,portD,x15,r1,r2]);(all_goals (repeat' (with_reducible apply And.intro)));(all_goals try (first | exact q8 rfl | (refine x11 ?_;omega) | (refine q8 ?_;simp;done)))
   ·have q1 : ((x.length : Int) != (y.length : Int)) = true := q14 (by omega)
    rw [show eqPP x y = false from z35 hxy,Bool.false_and] at h2
    subst h2
    (repeat (first | apply j0 | refine z7 rfl ?_ | refine x7 rfl ?_ | apply j6 | (refine x5 fun K hK => ?_) | (refine x8 fun K hK => ?_) | ((first | apply j5 | apply x6 | ((first | refine j4 (hK _ ?_) | refine q9 (hK _ _ j8 ?_));clear hK K));(first | show AWP _ _ _ _ _ | ((try simp only [z8]);first | show loopQ _ _ _ _ _ _ | show cutQ _ _ _ _ | show AWP _ _ _ _ _))) | ((first | refine j7 [] rfl ?_ | refine q10 [] rfl ?_);simp (disch:=omega) only [go_sem,seval,portD,x15,r1,r2,q1];(repeat (first | refine ⟨by omega,?_⟩ | refine ⟨True.intro,?_⟩)))))
    refine j9 ⟨_,?_,rfl⟩;rw [Tryz.results37];simp (disch:=omega) only [ResVars,ResVar,ptrLoc,go_sem,seval,portD,x15,r1,r2,q1]
  ·rw [j18 (by omega)] at h2
   subst h2
   (repeat (first | apply j0 | refine z7 rfl ?_ | refine x7 rfl ?_ | apply j6 | (refine x5 fun K hK => ?_) | (refine x8 fun K hK => ?_) | ((first | apply j5 | apply x6 | ((first | refine j4 (hK _ ?_) | refine q9 (hK _ _ j8 ?_));clear hK K));(first | show AWP _ _ _ _ _ | ((try simp only [z8]);first | show loopQ _ _ _ _ _ _ | show cutQ _ _ _ _ | show AWP _ _ _ _ _))) | ((first | refine j7 [] rfl ?_ | refine q10 [] rfl ?_);simp (disch:=omega) only [go_sem,seval,portD,x15];(repeat (first | refine ⟨by omega,?_⟩ | refine ⟨True.intro,?_⟩)))))
   refine j9 ⟨_,?_,rfl⟩;rw [Tryz.results37];simp (disch:=omega) only [ResVars,ResVar,ptrLoc,go_sem,seval,portD,x15]
 ·rw [z35 hn]
  have q : ((a.length : Int) != (b.length : Int)) = true := q14 (by omega)
  refine q12 Tryz.func37 rfl (by decide +kernel) (by rw [Tryz.ntmps37];simp) ?_;rw [Tryz.ntmps37];simp only [frOf]
  (repeat (first | apply j0 | refine z7 rfl ?_ | refine x7 rfl ?_ | apply j6 | (refine x5 fun K hK => ?_) | (refine x8 fun K hK => ?_) | ((first | apply j5 | apply x6 | ((first | refine j4 (hK _ ?_) | refine q9 (hK _ _ j8 ?_));clear hK K));(first | show AWP _ _ _ _ _ | ((try simp only [z8]);first | show loopQ _ _ _ _ _ _ | show cutQ _ _ _ _ | show AWP _ _ _ _ _))) | ((first | refine j7 [] rfl ?_ | refine q10 [] rfl ?_);simp (disch:=omega) only [go_sem,seval,portD,x15,q];(repeat (first | refine ⟨by omega,?_⟩ | refine ⟨True.intro,?_⟩)))))
  refine j9 ⟨_,?_,rfl⟩;rw [Tryz.results37];simp (disch:=omega) only [ResVars,ResVar,ptrLoc,go_sem,seval,portD,x15,q]
def sam8L (a b : Config) (t : Nat) (i : Nat) : ASt :=
 ⟨[(t,.p (.d (.v (.int .i64 (i : Int))))),(6,.loc 6 0),(5,.loc 5 0),(3,.p (.d (.bx (configD b)))),(2,.p (.d (.bx (configD a))))],
  [(6,.cells 81 [.p (.d (.v (.int .i64 b.po.tn))),.p (.d (.sl 2 b.po.peers.length (rowA b.po.peers))),.p (.d (.sl 3 b.po.ways.length (rowW b.po.ways)))]),(5,.cells 81 [.p (.d (.v (.int .i64 a.po.tn))),.p (.d (.sl 2 a.po.peers.length (rowA a.po.peers))),.p (.d (.sl 3 a.po.ways.length (rowW a.po.ways)))])]⟩
set_option maxRecDepth 100000 in
theorem z123 (a b : Config) (ha : a.small) (hb : b.small) : ACalls Tryz.prog 36 [.agg (configD a),.agg (configD b)] (· = [.d (.v (.bool (sameC a b)))]) := by
 have c1 := q123 a.tp b.tp ha.tp hb.tp
 have z1 := ha.po.1
 have z2 := ha.po.2
 have z3 := hb.po.1
 have z4 := hb.po.2
 have z5 := ha.tb
 have z6 := hb.tb
 have atA := ha.at
 have atB := hb.at
 have s0 : eqBy eqPP [] a.tp b.tp = false → sameC a b = false := fun h => by unfold sameC;rw [h];rfl
 have s1 : a.po.tn ≠ b.po.tn → sameC a b = false := fun h => by unfold sameC;rw [show (a.po.tn == b.po.tn) = false from z14 h];simp
 have s2 : eqBy (· == ·) (0,0) a.po.peers b.po.peers = false → sameC a b = false := fun h => by unfold sameC;rw [h];simp
 have s3 : eqBy (· == ·) w0 a.po.ways b.po.ways = false → sameC a b = false := fun h => by unfold sameC;rw [h];simp
 have s4 : eqBy eqTT [] a.tb b.tb = false → sameC a b = false := fun h => by unfold sameC;rw [h];simp
 have s5 : eqBy eqPP [] a.tp b.tp = true → a.po.tn = b.po.tn → eqBy (· == ·) (0,0) a.po.peers b.po.peers = true → eqBy (· == ·) w0 a.po.ways b.po.ways = true → eqBy eqTT [] a.tb b.tb = true → sameC a b = true := fun h1 h2 h3 h4 h5 => by
  unfold sameC;rw [h1,h3,h4,h5,show (a.po.tn == b.po.tn) = true from j14 h2];rfl
 cases hP : eqBy eqPP [] a.tp b.tp
 ·rw [s0 hP]
  rw [hP] at c1
  refine q12 Tryz.func36 rfl (by decide +kernel) (by rw [Tryz.ntmps36];simp) ?_;rw [Tryz.ntmps36];simp only [frOf]
  (repeat (first | apply j0 | refine z7 rfl ?_ | refine x7 rfl ?_ | apply j6 | (refine x5 fun K hK => ?_) | (refine x8 fun K hK => ?_) | ((first | apply j5 | apply x6 | ((first | refine j4 (hK _ ?_) | refine q9 (hK _ _ j8 ?_));clear hK K));(first | show AWP _ _ _ _ _ | ((try simp only [z8]);first | show loopQ _ _ _ _ _ _ | show cutQ _ _ _ _ | show AWP _ _ _ _ _))) | ((first | refine x10 rfl rfl rfl ?_ | refine q13 rfl rfl rfl ?_);simp (disch:=omega) only [go_sem,seval,configD,topoD,policyD];(first | refine ⟨_,c1,?_⟩)) | ((first | refine j7 [] rfl ?_ | refine q10 [] rfl ?_);simp (disch:=omega) only [go_sem,seval,configD,topoD,policyD];(repeat (first | refine ⟨by omega,?_⟩ | refine ⟨True.intro,?_⟩)))))
  refine j9 ⟨_,?_,rfl⟩;rw [Tryz.results36];simp (disch:=omega) only [ResVars,ResVar,ptrLoc,go_sem,seval,configD,topoD,policyD]
 rw [hP] at c1
 by_cases hT : a.po.tn = b.po.tn
 rotate_left
 ·rw [s1 hT]
  have q1 : (a.po.tn != b.po.tn) = true := q14 hT
  refine q12 Tryz.func36 rfl (by decide +kernel) (by rw [Tryz.ntmps36];simp) ?_;rw [Tryz.ntmps36];simp only [frOf]
  (repeat (first | apply j0 | refine z7 rfl ?_ | refine x7 rfl ?_ | apply j6 | (refine x5 fun K hK => ?_) | (refine x8 fun K hK => ?_) | ((first | apply j5 | apply x6 | ((first | refine j4 (hK _ ?_) | refine q9 (hK _ _ j8 ?_));clear hK K));(first | show AWP _ _ _ _ _ | ((try simp only [z8]);first | show loopQ _ _ _ _ _ _ | show cutQ _ _ _ _ | show AWP _ _ _ _ _))) | ((first | refine x10 rfl rfl rfl ?_ | refine q13 rfl rfl rfl ?_);simp (disch:=omega) only [go_sem,seval,configD,topoD,policyD,q1];(first | refine ⟨_,c1,?_⟩)) | ((first | refine j7 [] rfl ?_ | refine q10 [] rfl ?_);simp (disch:=omega) only [go_sem,seval,configD,topoD,policyD,q1];(repeat (first | refine ⟨by omega,?_⟩ | refine ⟨True.intro,?_⟩)))))
  refine j9 ⟨_,?_,rfl⟩;rw [Tryz.results36];simp (disch:=omega) only [ResVars,ResVar,ptrLoc,go_sem,seval,configD,topoD,policyD,q1]
 have q1 : (a.po.tn != b.po.tn) = false := x14 hT
 by_cases hA : a.po.peers.length = b.po.peers.length
 rotate_left
 ·rw [s2 (z35 hA)]
  have q2 : ((a.po.peers.length : Int) != (b.po.peers.length : Int)) = true := q14 (by omega)
  refine q12 Tryz.func36 rfl (by decide +kernel) (by rw [Tryz.ntmps36];simp) ?_;rw [Tryz.ntmps36];simp only [frOf]
  (repeat (first | apply j0 | refine z7 rfl ?_ | refine x7 rfl ?_ | apply j6 | (refine x5 fun K hK => ?_) | (refine x8 fun K hK => ?_) | ((first | apply j5 | apply x6 | ((first | refine j4 (hK _ ?_) | refine q9 (hK _ _ j8 ?_));clear hK K));(first | show AWP _ _ _ _ _ | ((try simp only [z8]);first | show loopQ _ _ _ _ _ _ | show cutQ _ _ _ _ | show AWP _ _ _ _ _))) | ((first | refine x10 rfl rfl rfl ?_ | refine q13 rfl rfl rfl ?_);simp (disch:=omega) only [go_sem,seval,configD,topoD,policyD,q1,q2];(first | refine ⟨_,c1,?_⟩)) | ((first | refine j7 [] rfl ?_ | refine q10 [] rfl ?_);simp (disch:=omega) only [go_sem,seval,configD,topoD,policyD,q1,q2];(repeat (first | refine ⟨by omega,?_⟩ | refine ⟨True.intro,?_⟩)))))
  refine j9 ⟨_,?_,rfl⟩;rw [Tryz.results36];simp (disch:=omega) only [ResVars,ResVar,ptrLoc,go_sem,seval,configD,topoD,policyD,q1,q2]
 have q2 : ((a.po.peers.length : Int) != (b.po.peers.length : Int)) = false := x14 (by omega)
 by_cases hW : a.po.ways.length = b.po.ways.length
 rotate_left
 ·rw [s3 (z35 hW)]
  have q3 : ((a.po.ways.length : Int) != (b.po.ways.length : Int)) = true := q14 (by omega)
  refine q12 Tryz.func36 rfl (by decide +kernel) (by rw [Tryz.ntmps36];simp) ?_;rw [Tryz.ntmps36];simp only [frOf]
  (repeat (first | apply j0 | refine z7 rfl ?_ | refine x7 rfl ?_ | apply j6 | (refine x5 fun K hK => ?_) | (refine x8 fun K hK => ?_) | ((first | apply j5 | apply x6 | ((first | refine j4 (hK _ ?_) | refine q9 (hK _ _ j8 ?_));clear hK K));(first | show AWP _ _ _ _ _ | ((try simp only [z8]);first | show loopQ _ _ _ _ _ _ | show cutQ _ _ _ _ | show AWP _ _ _ _ _))) | ((first | refine x10 rfl rfl rfl ?_ | refine q13 rfl rfl rfl ?_);simp (disch:=omega) only [go_sem,seval,configD,topoD,policyD,q1,q2,q3];(first | refine ⟨_,c1,?_⟩)) | ((first | refine j7 [] rfl ?_ | refine q10 [] rfl ?_);simp (disch:=omega) only [go_sem,seval,configD,topoD,policyD,q1,q2,q3];(repeat (first | refine ⟨by omega,?_⟩ | refine ⟨True.intro,?_⟩)))))
  refine j9 ⟨_,?_,rfl⟩;rw [Tryz.results36];simp (disch:=omega) only [ResVars,ResVar,ptrLoc,go_sem,seval,configD,topoD,policyD,q1,q2,q3]
 have q3 : ((a.po.ways.length : Int) != (b.po.ways.length : Int)) = false := x14 (by omega)
 by_cases hB : a.tb.length = b.tb.length
 rotate_left
 ·rw [s4 (z35 hB)]
  have q4 : ((a.tb.length : Int) != (b.tb.length : Int)) = true := q14 (by omega)
  refine q12 Tryz.func36 rfl (by decide +kernel) (by rw [Tryz.ntmps36];simp) ?_;rw [Tryz.ntmps36];simp only [frOf]
  (repeat (first | apply j0 | refine z7 rfl ?_ | refine x7 rfl ?_ | apply j6 | (refine x5 fun K hK => ?_) | (refine x8 fun K hK => ?_) | ((first | apply j5 | apply x6 | ((first | refine j4 (hK _ ?_) | refine q9 (hK _ _ j8 ?_));clear hK K));(first | show AWP _ _ _ _ _ | ((try simp only [z8]);first | show loopQ _ _ _ _ _ _ | show cutQ _ _ _ _ | show AWP _ _ _ _ _))) | ((first | refine x10 rfl rfl rfl ?_ | refine q13 rfl rfl rfl ?_);simp (disch:=omega) only [go_sem,seval,configD,topoD,policyD,q1,q2,q3,q4];(first | refine ⟨_,c1,?_⟩)) | ((first | refine j7 [] rfl ?_ | refine q10 [] rfl ?_);simp (disch:=omega) only [go_sem,seval,configD,topoD,policyD,q1,q2,q3,q4];(repeat (first | refine ⟨by omega,?_⟩ | refine ⟨True.intro,?_⟩)))))
  refine j9 ⟨_,?_,rfl⟩;rw [Tryz.results36];simp (disch:=omega) only [ResVars,ResVar,ptrLoc,go_sem,seval,configD,topoD,policyD,q1,q2,q3,q4]
 have q4 : ((a.tb.length : Int) != (b.tb.length : Int)) = false := x14 (by omega)
 rw [q29 hA] at s2 s5
 rw [q29 hW] at s3 s5
 rw [q29 hB] at s4 s5
 generalize hQ1 : allF (fun i => a.po.peers.getD i (0,0) == b.po.peers.getD i (0,0)) a.po.peers.length 0 = Q1 at s2 s5
 generalize hQ2 : allF (fun i => a.po.ways.getD i w0 == b.po.ways.getD i w0) a.po.ways.length 0 = Q2 at s3 s5
 generalize hQ3 : allF (fun i => eqTT (a.tb.getD i []) (b.tb.getD i [])) a.tb.length 0 = Q3 at s4 s5
 generalize sameC a b = R at s2 s3 s4 s5
 refine q12 Tryz.func36 rfl (by decide +kernel) (by rw [Tryz.ntmps36];simp) ?_;rw [Tryz.ntmps36];simp only [frOf]
 (repeat (first | apply j0 | refine z7 rfl ?_ | refine x7 rfl ?_ | apply j6 | (refine x5 fun K hK => ?_) | (refine x8 fun K hK => ?_) | ((first | apply j5 | apply x6 | ((first | refine j4 (hK _ ?_) | refine q9 (hK _ _ j8 ?_));clear hK K));(first | show AWP _ _ _ _ _ | ((try simp only [z8]);first | show loopQ _ _ _ _ _ _ | show cutQ _ _ _ _ | show AWP _ _ _ _ _))) | ((first | refine x10 rfl rfl rfl ?_ | refine q13 rfl rfl rfl ?_);simp (disch:=omega) only [go_sem,seval,configD,topoD,policyD,q1,q2,q3,q4];(first | refine ⟨_,c1,?_⟩)) | ((first | refine j7 [] rfl ?_ | refine q10 [] rfl ?_);simp (disch:=omega) only [go_sem,seval,configD,topoD,policyD,q1,q2,q3,q4];(repeat (first | refine ⟨by omega,?_⟩ | refine ⟨True.intro,?_⟩)))))
 refine j13 (fun s : {i : Nat // i ≤ a.po.peers.length ∧ allF (fun i => a.po.peers.getD i (0,0) == b.po.peers.getD i (0,0)) a.po.peers.length i = Q1} => sam8L a b 7 s.val) (fun s => a.po.peers.length - s.val) ⟨0,Nat.zero_le _,hQ1⟩ ?_ (fun s => ?_)
 ·unfold sam8L
  refine Weak.list ?_ ?_;(all_goals simp (disch:=omega) only [AllF,AllL,q11,z11,j10,exists_eq_left',go_sem,seval,configD,topoD,policyD]);(all_goals (repeat' (with_reducible apply And.intro)));(all_goals try (first | exact q8 rfl | (refine x11 ?_;omega) | (refine q8 ?_;simp;done)))
 obtain ⟨i,hi,h2⟩ := s
 unfold sam8L
 simp only [] at hi h2 ⊢
 by_cases h : i < a.po.peers.length
 ·rw [x18 h] at h2
  have r1 := j59 a.po.peers i
  have r2 := j59 b.po.peers i
  try simp only [] at h2
  generalize a.po.peers.getD i (0,0) = x at h2 r1
  generalize b.po.peers.getD i (0,0) = y at h2 r2
  have e := x189 x y
  generalize (x == y) = c at h2 e
  cases c
  ·rw [Bool.false_and] at h2
   rw [s2 h2.symm]
   (repeat (first | apply j0 | refine z7 rfl ?_ | refine x7 rfl ?_ | apply j6 | (refine x5 fun K hK => ?_) | (refine x8 fun K hK => ?_) | ((first | apply j5 | apply x6 | ((first | refine j4 (hK _ ?_) | refine q9 (hK _ _ j8 ?_));clear hK K));(first | show AWP _ _ _ _ _ | ((try simp only [z8]);first | show loopQ _ _ _ _ _ _ | show cutQ _ _ _ _ | show AWP _ _ _ _ _))) | ((first | refine j7 [] rfl ?_ | refine q10 [] rfl ?_);simp (disch:=omega) only [go_sem,seval,configD,topoD,policyD,r1,r2,e,pairD,eqA2];(repeat (first | refine ⟨by omega,?_⟩ | refine ⟨True.intro,?_⟩)))))
   refine j9 ⟨_,?_,rfl⟩;rw [Tryz.results36];simp (disch:=omega) only [ResVars,ResVar,ptrLoc,go_sem,seval,configD,topoD,policyD,r1,r2,e,pairD,eqA2]
  ·rw [Bool.true_and] at h2
   (repeat (first | apply j0 | refine z7 rfl ?_ | refine x7 rfl ?_ | apply j6 | (refine x5 fun K hK => ?_) | (refine x8 fun K hK => ?_) | ((first | apply j5 | apply x6 | ((first | refine j4 (hK _ ?_) | refine q9 (hK _ _ j8 ?_));clear hK K));(first | show AWP _ _ _ _ _ | ((try simp only [z8]);first | show loopQ _ _ _ _ _ _ | show cutQ _ _ _ _ | show AWP _ _ _ _ _))) | ((first | refine j7 [] rfl ?_ | refine q10 [] rfl ?_);simp (disch:=omega) only [go_sem,seval,configD,topoD,policyD,r1,r2,e,pairD,eqA2];(repeat (first | refine ⟨by omega,?_⟩ | refine ⟨True.intro,?_⟩)))))
   refine ⟨⟨i + 1,by omega,h2⟩,by simp only [];omega,?_⟩
   refine Weak.list ?_ ?_;(all_goals simp (disch:=omega) only [AllF,AllL,q11,z11,j10,exists_eq_left',go_sem,seval,configD,topoD,policyD,r1,r2,e,pairD,eqA2]);(all_goals (repeat' (with_reducible apply And.intro)));(all_goals try (first | exact q8 rfl | (refine x11 ?_;omega) | (refine q8 ?_;simp;done)))
 rw [j18 (by omega)] at h2
 subst h2
 (repeat (first | apply j0 | refine z7 rfl ?_ | refine x7 rfl ?_ | apply j6 | (refine x5 fun K hK => ?_) | (refine x8 fun K hK => ?_) | ((first | apply j5 | apply x6 | ((first | refine j4 (hK _ ?_) | refine q9 (hK _ _ j8 ?_));clear hK K));(first | show AWP _ _ _ _ _ | ((try simp only [z8]);first | show loopQ _ _ _ _ _ _ | show cutQ _ _ _ _ | show AWP _ _ _ _ _))) | ((first | refine j7 [] rfl ?_ | refine q10 [] rfl ?_);simp (disch:=omega) only [go_sem,seval,configD,topoD,policyD];(repeat (first | refine ⟨by omega,?_⟩ | refine ⟨True.intro,?_⟩)))))
 refine j13 (fun s : {i : Nat // i ≤ a.po.ways.length ∧ allF (fun i => a.po.ways.getD i w0 == b.po.ways.getD i w0) a.po.ways.length i = Q2} => sam8L a b 8 s.val) (fun s => a.po.ways.length - s.val) ⟨0,Nat.zero_le _,hQ2⟩ ?_ (fun s => ?_)
 ·unfold sam8L
  refine Weak.list ?_ ?_;(all_goals simp (disch:=omega) only [AllF,AllL,q11,z11,j10,exists_eq_left',go_sem,seval,configD,topoD,policyD]);(all_goals (repeat' (with_reducible apply And.intro)));(all_goals try (first | exact q8 rfl | (refine x11 ?_;omega) | (refine q8 ?_;simp;done)))
 obtain ⟨j,hj,h3⟩ := s
 unfold sam8L
 simp only [] at hj h3 ⊢
 by_cases h' : j < a.po.ways.length
 ·rw [x18 h'] at h3
  have r1 := x59 a.po.ways j
  have r2 := x59 b.po.ways j
  try simp only [] at h3
  generalize a.po.ways.getD j w0 = x at h3 r1
  generalize b.po.ways.getD j w0 = y at h3 r2
  have e := eqI_way x y
  generalize (x == y) = c at h3 e
  cases c
  ·rw [Bool.false_and] at h3
   rw [s3 h3.symm]
   (repeat (first | apply j0 | refine z7 rfl ?_ | refine x7 rfl ?_ | apply j6 | (refine x5 fun K hK => ?_) | (refine x8 fun K hK => ?_) | ((first | apply j5 | apply x6 | ((first | refine j4 (hK _ ?_) | refine q9 (hK _ _ j8 ?_));clear hK K));(first | show AWP _ _ _ _ _ | ((try simp only [z8]);first | show loopQ _ _ _ _ _ _ | show cutQ _ _ _ _ | show AWP _ _ _ _ _))) | ((first | refine j7 [] rfl ?_ | refine q10 [] rfl ?_);simp (disch:=omega) only [go_sem,seval,configD,topoD,policyD,r1,r2,e,wayD,j56];(repeat (first | refine ⟨by omega,?_⟩ | refine ⟨True.intro,?_⟩)))))
   refine j9 ⟨_,?_,rfl⟩;rw [Tryz.results36];simp (disch:=omega) only [ResVars,ResVar,ptrLoc,go_sem,seval,configD,topoD,policyD,r1,r2,e,wayD,j56]
  ·rw [Bool.true_and] at h3
   (repeat (first | apply j0 | refine z7 rfl ?_ | refine x7 rfl ?_ | apply j6 | (refine x5 fun K hK => ?_) | (refine x8 fun K hK => ?_) | ((first | apply j5 | apply x6 | ((first | refine j4 (hK _ ?_) | refine q9 (hK _ _ j8 ?_));clear hK K));(first | show AWP _ _ _ _ _ | ((try simp only [z8]);first | show loopQ _ _ _ _ _ _ | show cutQ _ _ _ _ | show AWP _ _ _ _ _))) | ((first | refine j7 [] rfl ?_ | refine q10 [] rfl ?_);simp (disch:=omega) only [go_sem,seval,configD,topoD,policyD,r1,r2,e,wayD,j56];(repeat (first | refine ⟨by omega,?_⟩ | refine ⟨True.intro,?_⟩)))))
   refine ⟨⟨j + 1,by omega,h3⟩,by simp only [];omega,?_⟩
   refine Weak.list ?_ ?_;(all_goals simp (disch:=omega) only [AllF,AllL,q11,z11,j10,exists_eq_left',go_sem,seval,configD,topoD,policyD,r1,r2,e,wayD,j56]);(all_goals (repeat' (with_reducible apply And.intro)));(all_goals try (first | exact q8 rfl | (refine x11 ?_;omega) | (refine q8 ?_;simp;done)))
 rw [j18 (by omega)] at h3
 subst h3
 (repeat (first | apply j0 | refine z7 rfl ?_ | refine x7 rfl ?_ | apply j6 | (refine x5 fun K hK => ?_) | (refine x8 fun K hK => ?_) | ((first | apply j5 | apply x6 | ((first | refine j4 (hK _ ?_) | refine q9 (hK _ _ j8 ?_));clear hK K));(first | show AWP _ _ _ _ _ | ((try simp only [z8]);first | show loopQ _ _ _ _ _ _ | show cutQ _ _ _ _ | show AWP _ _ _ _ _))) | ((first | refine j7 [] rfl ?_ | refine q10 [] rfl ?_);simp (disch:=omega) only [go_sem,seval,configD,topoD,policyD];(repeat (first | refine ⟨by omega,?_⟩ | refine ⟨True.intro,?_⟩)))))
 refine j13 (fun s : {i : Nat // i ≤ a.tb.length ∧ allF (fun i => eqTT (a.tb.getD i []) (b.tb.getD i [])) a.tb.length i = Q3} => sam8L a b 9 s.val) (fun s => a.tb.length - s.val) ⟨0,Nat.zero_le _,hQ3⟩ ?_ (fun s => ?_)
 ·unfold sam8L
  refine Weak.list ?_ ?_;(all_goals simp (disch:=omega) only [AllF,AllL,q11,z11,j10,exists_eq_left',go_sem,seval,configD,topoD,policyD]);(all_goals (repeat' (with_reducible apply And.intro)));(all_goals try (first | exact q8 rfl | (refine x11 ?_;omega) | (refine q8 ?_;simp;done)))
 obtain ⟨k,hk,h4⟩ := s
 unfold sam8L
 simp only [] at hk h4 ⊢
 by_cases h'' : k < a.tb.length
 ·rw [x18 h''] at h4
  have r1 := q38 a.tb k
  have r2 := q38 b.tb k
  have g1 := atA k
  have g2 := atB k
  try simp only [] at h4
  generalize a.tb.getD k [] = x at h4 r1 g1
  generalize b.tb.getD k [] = y at h4 r2 g2
  have cR := z195 x y g1 g2
  have gx := g1.1
  have gy := g2.1
  rw [show eqBy eqRR [] x y = eqTT x y from rfl] at cR
  generalize eqTT x y = c at h4 cR
  cases c
  ·rw [Bool.false_and] at h4
   rw [s4 h4.symm]
   (repeat (first | apply j0 | refine z7 rfl ?_ | refine x7 rfl ?_ | apply j6 | (refine x5 fun K hK => ?_) | (refine x8 fun K hK => ?_) | ((first | apply j5 | apply x6 | ((first | refine j4 (hK _ ?_) | refine q9 (hK _ _ j8 ?_));clear hK K));(first | show AWP _ _ _ _ _ | ((try simp only [z8]);first | show loopQ _ _ _ _ _ _ | show cutQ _ _ _ _ | show AWP _ _ _ _ _))) | ((first | refine x10 rfl rfl rfl ?_ | refine q13 rfl rfl rfl ?_);simp (disch:=omega) only [go_sem,seval,configD,topoD,policyD,r1,r2];(first | refine ⟨_,cR,?_⟩)) | ((first | refine j7 [] rfl ?_ | refine q10 [] rfl ?_);simp (disch:=omega) only [go_sem,seval,configD,topoD,policyD,r1,r2];(repeat (first | refine ⟨by omega,?_⟩ | refine ⟨True.intro,?_⟩)))))
   refine j9 ⟨_,?_,rfl⟩;rw [Tryz.results36];simp (disch:=omega) only [ResVars,ResVar,ptrLoc,go_sem,seval,configD,topoD,policyD,r1,r2]
  ·rw [Bool.true_and] at h4
   (repeat (first | apply j0 | refine z7 rfl ?_ | refine x7 rfl ?_ | apply j6 | (refine x5 fun K hK => ?_) | (refine x8 fun K hK => ?_) | ((first | apply j5 | apply x6 | ((first | refine j4 (hK _ ?_) | refine q9 (hK _ _ j8 ?_));clear hK K));(first | show AWP _ _ _ _ _ | ((try simp only [z8]);first | show loopQ _ _ _ _ _ _ | show cutQ _ _ _ _ | show AWP _ _ _ _ _))) | ((first | refine x10 rfl rfl rfl ?_ | refine q13 rfl rfl rfl ?_);simp (disch:=omega) only [go_sem,seval,configD,topoD,policyD,r1,r2];(first | refine ⟨_,cR,?_⟩)) | ((first | refine j7 [] rfl ?_ | refine q10 [] rfl ?_);simp (disch:=omega) only [go_sem,seval,configD,topoD,policyD,r1,r2];(repeat (first | refine ⟨by omega,?_⟩ | refine ⟨True.intro,?_⟩)))))
   refine ⟨⟨k + 1,by omega,h4⟩,by simp only [];omega,?_⟩
   refine Weak.list ?_ ?_;(all_goals simp (disch:=omega) only [AllF,AllL,q11,z11,j10,exists_eq_left',go_sem,seval,configD,topoD,policyD,r1,r2]);(all_goals (repeat' (with_reducible apply And.intro)));(all_goals try (first | exact q8 rfl | (refine x11 ?_;omega) | (refine q8 ?_;simp;done)))
 rw [j18 (by omega)] at h4
 subst h4
 rw [s5 hP hT rfl rfl rfl]
 (repeat (first | apply j0 | refine z7 rfl ?_ | refine x7 rfl ?_ | apply j6 | (refine x5 fun K hK => ?_) | (refine x8 fun K hK => ?_) | ((first | apply j5 | apply x6 | ((first | refine j4 (hK _ ?_) | refine q9 (hK _ _ j8 ?_));clear hK K));(first | show AWP _ _ _ _ _ | ((try simp only [z8]);first | show loopQ _ _ _ _ _ _ | show cutQ _ _ _ _ | show AWP _ _ _ _ _))) | ((first | refine j7 [] rfl ?_ | refine q10 [] rfl ?_);simp (disch:=omega) only [go_sem,seval,configD,topoD,policyD];(repeat (first | refine ⟨by omega,?_⟩ | refine ⟨True.intro,?_⟩)))))
 refine j9 ⟨_,?_,rfl⟩;rw [Tryz.results36];simp (disch:=omega) only [ResVars,ResVar,ptrLoc,go_sem,seval,configD,topoD,policyD]
theorem x123 : ∀ (k : Nat) (l : List Rule),∀ x ∈ (tabGo k l).1,x ∈ l
 | 0,l,x,hx => hx
 |k + 1,l,x,hx => by
  unfold tabGo at hx
  split at hx
  ·have := x123 k _ x hx
   split at this
   ·exact List.mem_of_mem_eraseIdx this
   ·exact this
  ·cases hx
theorem x195 (l : List Rule) : ∀ x ∈ (tabR l).1,x ∈ l := by
 intro x hx
 unfold tabR at hx
 split at hx
 ·exact x123 _ l x hx
 ·cases hx
theorem j123 (ts : List (List Rule)) : ∀ n,sumR (mapL ts) n ≤ sumR ts n
 | 0 => Nat.le_refl _
 |n + 1 => by
  have ih := j123 ts n
  unfold sumR
  rw [z64]
  have := x80 (ts.getD n [])
  omega
theorem j195 {ts : List (List Rule)} {ps : List Port} (h : soundTab ts ps = 0) : soundTab (mapL ts) ps = 0 := by
 obtain ⟨h1,h2,h3⟩ := z48 h
 have hs : sumR ts ts.length ≤ 96 := by
  unfold soundTab at h
  split at h
  ·cases h
  ·split at h
   ·cases h
   ·omega
 have hs2 := j123 ts ts.length
 unfold soundTab
 rw [q48,if_neg (by omega),if_neg (by omega)]
 have : allF (tabOk (mapL ts) ps) ts.length 0 = true := by
  refine z43.2 fun i _ hi => ?_
  unfold tabOk
  refine z43.2 fun k _ hk => ?_
  unfold ruleOk
  rw [q48]
  rw [z64] at hk ⊢
  have hm := x195 _ _ (q23 hk r0)
  obtain ⟨k',hk',e⟩ := List.mem_iff_getElem.1 hm
  obtain ⟨g1,g2⟩ := h3 i k' hi hk'
  rw [List.getD_eq_getElem?_getD (l := ts.getD i []),List.getElem?_eq_getElem hk',Option.getD_some,e] at g1 g2
  rw [g1,Bool.true_and,decide_eq_true g2]
 rw [if_pos this]
def slimK (c : Config) : Config := ⟨c.tp,c.po,c.tb.map mapL⟩
theorem q124 {f : Nat → Int} : ∀ (m i : Nat),(∀ n,i ≤ n → n < i + m → f n = 0) → errF f m i = 0
 | 0,i,_ => rfl
 |m + 1,i,h => by
  unfold errF
  rw [if_pos (h i (Nat.le_refl _) (by omega))]
  exact q124 m (i + 1) fun n h1 h2 => h n (by omega) (by omega)
theorem z124 {c : Config} (h : soundC c = 0) : soundC (slimK c) = 0 := by
 obtain ⟨h1,h2,h3⟩ := q35 h
 have hp : polE c = 0 := by
  unfold soundC at h
  split at h
  ·rename_i h0;exact absurd h h0
  ·split at h
   ·rename_i h0;exact absurd h h0
   ·omega
 unfold soundC
 have e1 : (slimK c).tp = c.tp := rfl
 have e2 : polE (slimK c) = polE c := rfl
 have e3 : (slimK c).tb.length = c.tb.length := by unfold slimK;simp
 rw [e1,e2,e3,if_neg (by omega),if_neg (by omega),if_neg (by omega)]
 refine q124 _ _ fun n _ hn => ?_
 unfold tabE
 show soundTab ((c.tb.map mapL).getD n []) (c.tp.getD n []) = 0
 rw [x64]
 exact j195 (h3 n (by omega))
theorem q196 {t : List (List Rule)} (h : smallR t) : smallR (mapL t) := by
 refine ⟨by rw [q48];exact h.1,fun l hl => ?_⟩
 unfold mapL at hl
 obtain ⟨l0,h0,rfl⟩ := List.mem_map.1 hl
 have := h.2 l0 h0
 have := x80 l0
 omega
theorem x124 {c : Config} (h : c.small) : (slimK c).small := by
 refine ⟨h.tp,h.po,?_,fun t ht => ?_⟩
 ·have := h.tb;unfold slimK;simpa using this
 ·unfold slimK at ht
  obtain ⟨t0,h0,rfl⟩ := List.mem_map.1 ht
  exact q196 (h.tabs t0 h0)
theorem j124 : ∀ {l : List (List Rule)},errL l = 0 → ∀ x ∈ l,(tabR x).2 = 0
 | [],_,x,hx => by cases hx
 |y :: r,h,x,hx => by
  unfold errL at h
  split at h
  ·rename_i h0
   rcases List.mem_cons.1 hx with rfl | hx
   ·exact h0
   ·exact j124 h x hx
  ·rename_i h0;exact absurd h h0
theorem q125 : ∀ {t : List (List (List Rule))},errT t = 0 → ∀ x ∈ t,errL x = 0
 | [],_,x,hx => by cases hx
 |y :: r,h,x,hx => by
  unfold errT at h
  split at h
  ·rename_i h0
   rcases List.mem_cons.1 hx with rfl | hx
   ·exact h0
   ·exact q125 h x hx
  ·rename_i h0;exact absurd h h0
theorem z125 (l : List Rule) : ∀ (ids : List Nat) (p : List Cube),(woGo l ids p).2 = 0 ∨ (woGo l ids p).2 = 10
 | [],p => .inl rfl
 |n :: r,p => by
  unfold woGo
  split
  ·exact z125 l r _
  ·rename_i h
   rcases q63 [(l.getD n r0).mt] p with h0 | ⟨h0,_⟩
   ·exact absurd h0 h
   ·exact .inr h0
theorem x125 {l : List Rule} {n : Nat} (hs : soundL l = true) : ∀ (r : List Nat) (p : List Cube) (b : Bool),(∀ k ∈ r,k < l.length) → (∀ k ∈ p,k.sound = true) → p.length ≤ 200 → (spGo l n r p b).2 = 0 ∨ (spGo l n r p b).2 = 10
 | [],p,b,_,_,_ => .inl rfl
 |k :: r,p,b,hr,hp,hl => by
  have hms := x28 hs (hr k (List.mem_cons_self ..))
  unfold spGo
  split
  ·split
   ·rename_i he2
    exact x125 hs r _ _ (fun j hj => hr j (List.mem_cons_of_mem _ hj)) (x46 hp hms he2) (z39 _ _ hl)
   ·rename_i h
    rcases q63 [(l.getD k r0).mt] p with h0 | ⟨h0,_⟩
    ·exact absurd h0 h
    ·exact .inr h0
  ·rename_i h
   rcases j114 hp hl hms with h0 | h0
   ·exact absurd h0 h
   ·exact .inr h0
theorem z196 {l : List Rule} {n : Nat} (hs : soundL l = true) (hn : n < l.length) : (spareR l n).2 = 0 ∨ (spareR l n).2 = 10 := by
 unfold spareR
 split
 ·rename_i he
  obtain ⟨_,hl,hp⟩ := q79 hn he
  exact x125 hs _ _ _ (fun k hk => ((q40 hn).1 hk).1) hp hl
 ·rename_i he
  have : (seenR l n).2 = 0 ∨ (seenR l n).2 = 10 := by
   unfold seenR withoutR
   rw [if_pos hs]
   exact z125 _ _ _
  rcases this with h | h
  ·exact absurd h he
  ·exact .inr h
theorem x196 {l : List Rule} (hs : soundL l = true) (k : Nat) : soundL (l.eraseIdx k) = true := by
 unfold soundL at *
 rw [List.all_eq_true] at *
 exact fun x hx => hs x (List.mem_of_mem_eraseIdx hx)
theorem x81 : ∀ (k : Nat) (l : List Rule),k ≤ l.length → soundL l = true → (tabGo k l).2 = 0 ∨ (tabGo k l).2 = 10
 | 0,l,_,_ => .inl rfl
 |k + 1,l,hk,hs => by
  unfold tabGo
  split
  ·split
   ·have e9 : (l.eraseIdx k).length = l.length - 1 := List.length_eraseIdx_of_lt (by omega)
    exact x81 k _ (by omega) (x196 hs k)
   ·exact x81 k l (by omega) hs
  ·rename_i h
   rcases z196 hs (show k < l.length by omega) with h0 | h0
   ·exact absurd h0 h
   ·exact .inr h0
theorem j196 {l : List Rule} (hs : soundL l = true) : (tabR l).2 = 0 ∨ (tabR l).2 = 10 := by
 unfold tabR
 rw [if_pos hs]
 exact x81 _ l (Nat.le_refl _) hs
theorem j125 : ∀ (l : List (List Rule)),(∀ x ∈ l,soundL x = true) → errL l = 0 ∨ errL l = 10
 | [],_ => .inl rfl
 |y :: r,h => by
  unfold errL
  split
  ·exact j125 r fun x hx => h x (List.mem_cons_of_mem _ hx)
  ·rename_i h0
   rcases j196 (h y (List.mem_cons_self ..)) with e | e
   ·exact absurd e h0
   ·exact .inr e
theorem q126 : ∀ (t : List (List (List Rule))),(∀ y ∈ t,∀ x ∈ y,soundL x = true) → errT t = 0 ∨ errT t = 10
 | [],_ => .inl rfl
 |y :: r,h => by
  unfold errT
  split
  ·exact q126 r fun x hx => h x (List.mem_cons_of_mem _ hx)
  ·rename_i h0
   rcases j125 y (h y (List.mem_cons_self ..)) with e | e
   ·exact absurd e h0
   ·exact .inr e
theorem q197 {c : Config} (h : soundC c = 0) : ∀ y ∈ c.tb,∀ x ∈ y,soundL x = true := by
 obtain ⟨_,_,h3⟩ := q35 h
 intro y hy x hx
 obtain ⟨n,hn,rfl⟩ := List.mem_iff_getElem.1 hy
 obtain ⟨t,ht,rfl⟩ := List.mem_iff_getElem.1 hx
 have e1 : c.tb.getD n [] = c.tb[n] := by rw [List.getD_eq_getElem?_getD,List.getElem?_eq_getElem hn];rfl
 obtain ⟨_,_,g⟩ := z48 (h3 n hn)
 rw [e1] at g
 have e2 : (c.tb[n]).getD t [] = (c.tb[n])[t] := by rw [List.getD_eq_getElem?_getD,List.getElem?_eq_getElem ht];rfl
 unfold soundL
 rw [List.all_eq_true]
 intro r hr
 obtain ⟨k,hk,rfl⟩ := List.mem_iff_getElem.1 hr
 have := (g t k ht (by rw [e2];exact hk)).1
 rw [e2,List.getD_eq_getElem?_getD,List.getElem?_eq_getElem hk,Option.getD_some] at this
 unfold soundR at this
 simp only [Bool.and_eq_true] at this
 exact this.1.1.2
theorem z197 (c : Config) (n t : Nat) : tabW (slimK c) n t = (tabR (tabW c n t)).1 := by
 unfold tabW
 show ((c.tb.map mapL).getD n []).getD t [] = _
 rw [x64,z64]
def hopS (l : List Hop) : List (Int × Int × BitVec 128) := l.map fun x => (x.sw,x.tb,x.h)
theorem j81 {a b : List Hop} {x y : Hop} (h : hopS a = hopS b) (h1 : x.sw = y.sw) (h2 : x.tb = y.tb) (h3 : x.h = y.h) : hopS (a ++ [x]) = hopS (b ++ [y]) := by
 unfold hopS at *
 rw [List.map_append,List.map_append,h]
 simp [h1,h2,h3]
theorem z126 {c : Config} (hs : soundC c = 0) (he : errT c.tb = 0) : ∀ (f n t : Nat) (h : BitVec 128) (a b : List Hop),InW c n t → hopS a = hopS b →
  (goW c f n t h a).en = (goW (slimK c) f n t h b).en ∧ (goW c f n t h a).an = (goW (slimK c) f n t h b).an ∧ (goW c f n t h a).ap = (goW (slimK c) f n t h b).ap ∧ hopS (goW c f n t h a).hops = hopS (goW (slimK c) f n t h b).hops
 | 0,n,t,h,a,b,hw,hab => ⟨rfl,rfl,rfl,hab⟩
 |f + 1,n,t,h,a,b,hw,hab => by
  have e0 : (tabR (tabW c n t)).2 = 0 := by
   unfold tabW
   exact j124 (q125 he _ (q23 hw.n1 [])) _ (q23 hw.t1 [])
  have al := q194 h e0
  rw [← z197] at al
  unfold AlikeF at al
  unfold goW
  cases h1 : findR (tabW c n t) h with
  |none =>
   cases h2 : findR (tabW (slimK c) n t) h with
   | none => exact ⟨rfl,rfl,rfl,j81 hab rfl rfl rfl⟩
   | some q => rw [h1,h2] at al;exact al.elim
  |some p =>
   cases h2 : findR (tabW (slimK c) n t) h with
   | none => rw [h1,h2] at al;exact al.elim
   |some q =>
    rw [h1,h2] at al
    have nx := fun hst => z121 hs hw h1 hst
    simp only [] at al nx ⊢
    generalize (tabW c n t).getD p r0 = x at al nx
    generalize (tabW (slimK c) n t).getD q r0 = y at al
    obtain ⟨d1,d2,d3,d4⟩ := j64.1 al
    have eE : stepE y = stepE x := by unfold stepE;rw [d1]
    have eN : stepN (slimK c) n y = stepN c n x := by unfold stepN;rw [d1,d2];rfl
    have eT : stepT t y = stepT t x := by unfold stepT;rw [d1,d3]
    have eA : stepA n y = stepA n x := by unfold stepA;rw [d1,d2]
    rw [eE,eN,eT,eA,← d4]
    by_cases hst : stepE x = 0
    ·rw [if_pos hst,if_pos hst]
     obtain ⟨-,-,w2⟩ := nx hst
     exact z126 hs he f _ _ _ _ _ w2 (j81 hab rfl rfl rfl)
    ·rw [if_neg hst,if_neg hst]
     exact ⟨rfl,rfl,rfl,j81 hab rfl rfl rfl⟩
theorem hopS_at {l m : List Hop} (h : hopS l = hopS m) : l.length = m.length ∧ ∀ i,i < l.length → (l.getD i hop0).sw = (m.getD i hop0).sw ∧ (l.getD i hop0).tb = (m.getD i hop0).tb ∧ (l.getD i hop0).h = (m.getD i hop0).h := by
 have hl : l.length = m.length := by have := congrArg List.length h;simpa [hopS] using this
 refine ⟨hl,fun i hi => ?_⟩
 have e : (hopS l)[i]? = (hopS m)[i]? := by rw [h]
 unfold hopS at e
 rw [List.getElem?_map,List.getElem?_map,List.getElem?_eq_getElem hi,List.getElem?_eq_getElem (by omega)] at e
 rw [List.getD_eq_getElem?_getD,List.getD_eq_getElem?_getD,List.getElem?_eq_getElem hi,List.getElem?_eq_getElem (by omega)]
 simpa using e
def lineK : Config := ⟨[[⟨1,0,0,0,0⟩,⟨2,0,1,0,1⟩],[⟨2,0,0,1,1⟩,⟨1,0,0,0,0⟩]],⟨1,[],[]⟩,
 [[[⟨1,⟨1,1⟩,3,1,0,⟨0,0⟩⟩,⟨0,⟨0,0⟩,1,0,0,⟨0,0⟩⟩]],[[⟨1,⟨1,1⟩,2,1,0,⟨0,0⟩⟩,⟨0,⟨0,0⟩,1,0,0,⟨0,0⟩⟩]]]⟩
def lI (n : Int) : Dat := .v (.int .i64 n)
def lU (n : Int) : Dat := .v (.int .u64 n)
def lpRaw (a b c d e : Int) : List Dat := [lI a,lI b,lI c,lI d,lI e]
def lrRaw (k : Int) : List Dat := [lI 1,lU 0,lU 1,lU 0,lU 1,lI k,lI 1,lI 0,lU 0,lU 0,lU 0,lU 0]
def ldRaw : List Dat := [lI 0,lU 0,lU 0,lU 0,lU 0,lI 1,lI 0,lI 0,lU 0,lU 0,lU 0,lU 0]
def ltRaw (k : Int) : List Dat := [.sl 1 1 fun i => [[.sl 12 2 fun i => [lrRaw k,ldRaw].getD i []]].getD i []]
def lineRaw : List Dat := [.sl 1 2 fun i => [[.sl 5 2 fun i => [lpRaw 1 0 0 0 0,lpRaw 2 0 1 0 1].getD i []],[.sl 5 2 fun i => [lpRaw 2 0 0 1 1,lpRaw 1 0 0 0 0].getD i []]].getD i [],lI 1,.v (.slice none 0 0),.v (.slice none 0 0),
 .sl 1 2 fun i => [ltRaw 3,ltRaw 2].getD i []]
theorem x48 {i : Nat} (h : i < 2) : i = 0 ∨ i = 1 := by omega
theorem lt_one {i : Nat} (h : i < 1) : i = 0 := by omega
theorem x197 (k : Int) (i : Nat) (h : i < 2) : [lrRaw k,ldRaw].getD i [] = rowR [⟨1,⟨1,1⟩,k,1,0,⟨0,0⟩⟩,⟨0,⟨0,0⟩,1,0,0,⟨0,0⟩⟩] i := by
 rcases x48 h with rfl | rfl
 ·show lrRaw k = ruleD ⟨1,⟨1,1⟩,k,1,0,⟨0,0⟩⟩
  unfold ruleD lrRaw lI lU
  simp only [z24,x24,show hi 1 = 0 by decide,show lo 1 = 1 by decide]
 ·show ldRaw = ruleD ⟨0,⟨0,0⟩,1,0,0,⟨0,0⟩⟩
  unfold ruleD ldRaw lI lU
  simp only [z24,x24]
theorem x126 (k : Int) : DLes (ltRaw k) [.sl 1 1 (rowRR [[⟨1,⟨1,1⟩,k,1,0,⟨0,0⟩⟩,⟨0,⟨0,0⟩,1,0,0,⟨0,0⟩⟩]])] := by
 refine .cons (x39 rfl fun i h => ?_) .nil
 obtain rfl := lt_one h
 exact .cons (x39 rfl fun i h => .of_eq (x197 k i h)) .nil
theorem j197 : DLes lineRaw (configD lineK) := by
 refine .cons (x39 rfl fun i h => ?_) (.cons (q78 _) (.cons j39 (.cons j39 (.cons (x39 rfl fun i h => ?_) .nil))))
 ·rcases x48 h with rfl | rfl
  ·refine .cons (x39 rfl fun i h => ?_) .nil
   rcases x48 h with rfl | rfl <;> exact .of_eq rfl
  ·refine .cons (x39 rfl fun i h => ?_) .nil
   rcases x48 h with rfl | rfl <;> exact .of_eq rfl
 ·rcases x48 h with rfl | rfl
  ·exact x126 3
  ·exact x126 2
theorem q82 : lineK.small := by
 refine ⟨⟨by decide,?_⟩,⟨by decide,by decide⟩,by decide,?_⟩
 ·intro l h
  simp only [lineK,List.mem_cons,List.not_mem_nil,or_false] at h
  rcases h with rfl | rfl <;> decide
 ·intro t h
  simp only [lineK,List.mem_cons,List.not_mem_nil,or_false] at h
  rcases h with rfl | rfl <;> refine ⟨by decide,fun l h => ?_⟩ <;> (simp only [List.mem_singleton] at h;subst h;decide)
set_option maxRecDepth 100000 in
theorem q198 : ACalls Tryz.prog 69 [] (· = [.agg (configD lineK)]) := by
 refine x181 j197 ?_
 unfold lineRaw ltRaw lrRaw ldRaw lpRaw lI lU
 refine q12 Tryz.func69 rfl (by decide +kernel) (by rw [Tryz.ntmps69];simp) ?_;rw [Tryz.ntmps69];simp only [frOf]
 (repeat (first | apply j0 | refine z7 rfl ?_ | refine x7 rfl ?_ | apply j6 | (refine x5 fun K hK => ?_) | ((first | apply j5 | apply x6 | (refine j4 (hK _ ?_);clear hK K));show AWP _ _ _ _ _) | (refine j7 [1,2,3] rfl ?_;simp (disch:=omega) only [go_sem,seval,hd,cb];(repeat refine ⟨by omega,?_⟩))))
 refine j9 ⟨_,?_,rfl⟩;rw [Tryz.results69];simp (disch:=omega) only [ResVars,ResVar,ptrLoc,go_sem,seval,hd,cb]
def dropS : Rule := ⟨0,⟨0,0⟩,1,0,0,⟨0,0⟩⟩
def aw3 : List Rule := [⟨2,⟨1,1⟩,1,0,0,⟨0,0⟩⟩,dropS,⟨0,⟨0,0⟩,4,0,1,⟨0,0⟩⟩]
theorem aw3_tab : tabR aw3 = ([dropS],0) := by decide +kernel
theorem aw3_sp : spareR aw3 1 = (false,0) := by decide +kernel
theorem z198 : slimC lineK = (lineK,0) := by
 have h1 : soundC lineK = 0 := by decide +kernel
 have h2 : errT lineK.tb = 0 := by decide +kernel
 have h3 : lineK.tb.map mapL = lineK.tb := by decide +kernel
 unfold slimC
 rw [if_pos h1,if_pos h2,h3]
theorem x198 : sameC lineK lineK = true := by decide +kernel
def awR0 : List Dat := [lI 2,lU 0,lU 1,lU 0,lU 1,lI 1,lI 0,lI 0,lU 0,lU 0,lU 0,lU 0]
def awR2 : List Dat := [lI 0,lU 0,lU 0,lU 0,lU 0,lI 4,lI 0,lI 1,lU 0,lU 0,lU 0,lU 0]
theorem j126 (i : Nat) (h : i < 3) : [awR0,ldRaw,awR2].getD i [] = rowR aw3 i := by
 rcases (by omega : i = 0 ∨ i = 1 ∨ i = 2) with rfl | rfl | rfl
 ·show awR0 = ruleD ⟨2,⟨1,1⟩,1,0,0,⟨0,0⟩⟩
  unfold ruleD awR0 lI lU
  simp only [z24,x24,show hi 1 = 0 by decide,show lo 1 = 1 by decide]
 ·show ldRaw = ruleD dropS
  unfold ruleD ldRaw lI lU dropS
  simp only [z24,x24]
 ·show awR2 = ruleD ⟨0,⟨0,0⟩,4,0,1,⟨0,0⟩⟩
  unfold ruleD awR2 lI lU
  simp only [z24,x24]
theorem j198 : rowR [dropS] 0 = ldRaw := by
 show ruleD dropS = ldRaw
 unfold ruleD ldRaw lI lU dropS
 simp only [z24,x24]
set_option maxRecDepth 100000 in
theorem q199 : ACalls Tryz.prog 29 [] (· = [.d (.v (.bool true))]) := by
 have k1 := x37 (xs := [.d (.sl 12 3 fun i => [awR0,ldRaw,awR2].getD i [])]) (.cons (z37 rfl j126) .nil) (z117 aw3 (by decide))
 have k2 := x37 (xs := [.d (.sl 12 3 fun i => [awR0,ldRaw,awR2].getD i []),.d (.v (.int .i64 1))]) (.cons (z37 rfl j126) (.cons (j42 _) .nil)) (q115 aw3 1 (by decide) (by decide))
 have k3 := q198
 have k4 := j118 lineK q82
 have k5 := z123 lineK lineK q82 q82
 rw [aw3_tab] at k1
 rw [aw3_sp] at k2
 rw [z198] at k4
 rw [x198] at k5
 have dr := j198
 have q : eqI [0,0,0,0,0,1,0,0,0,0,0,0] [0,0,0,0,0,1,0,0,0,0,0,0] = true := rfl
 obtain ⟨d1,d2,d3,d4,d5,hd⟩ : ∃ d1 d2 d3 d4 d5,configD lineK = [d1,d2,d3,d4,d5] := ⟨_,_,_,_,_,rfl⟩
 simp only [hd] at k3 k4 k5
 clear hd
 unfold awR0 awR2 ldRaw lI lU at k1 k2
 unfold ldRaw lI lU at dr
 refine q12 Tryz.func29 rfl (by decide +kernel) (by rw [Tryz.ntmps29];simp) ?_;rw [Tryz.ntmps29];simp only [frOf]
 (repeat (first | apply j0 | refine z7 rfl ?_ | refine x7 rfl ?_ | apply j6 | (refine x5 fun K hK => ?_) | (refine x8 fun K hK => ?_) | ((first | apply j5 | apply x6 | ((first | refine j4 (hK _ ?_) | refine q9 (hK _ _ j8 ?_));clear hK K));show AWP _ _ _ _ _) | ((first | refine x10 rfl rfl rfl ?_ | refine q13 rfl rfl rfl ?_);simp (disch:=omega) only [go_sem,seval,lI,lU,dr,q,List.getD_cons_zero,List.getD_cons_succ,z13];(first | refine ⟨_,k1,?_⟩ | refine ⟨_,k2,?_⟩ | refine ⟨_,k3,?_⟩ | refine ⟨_,k4,?_⟩ | refine ⟨_,k5,?_⟩)) | ((first | refine j7 [] rfl ?_ | refine q10 [] rfl ?_);simp (disch:=omega) only [go_sem,seval,lI,lU,dr,q,List.getD_cons_zero,List.getD_cons_succ,z13];(repeat (first | refine ⟨by omega,?_⟩ | refine ⟨True.intro,?_⟩)))))
 refine j9 ⟨_,?_,rfl⟩;rw [Tryz.results29];simp (disch:=omega) only [ResVars,ResVar,ptrLoc,go_sem,seval,lI,lU,dr,q,List.getD_cons_zero,List.getD_cons_succ,z13]
theorem z82 {f : Nat → Bool} (hf : ∀ i,f i = true) (n : Nat) : ∀ d i,n - i = d → allF f n i = true
 | 0,i,h => j18 (by omega)
 | d + 1,i,h => by rw [x18 (by omega),hf i,Bool.true_and];exact z82 hf n d (i + 1) (by omega)
end Go.Proofs.YtemcdefpihkfpaaGreat
namespace Go.Proofs.YtemcdefpihkfpaaGreat
open Go.Proofs.YtemcdefpihkfpaaGreat.AL
end Go.Proofs.YtemcdefpihkfpaaGreat
namespace Go.Proofs.YtemcdefpihkfpaaGreat
open Go Go.RowKit Go.Proofs.YtemcdefpihkfpaaGreat.AL
end Go.Proofs.YtemcdefpihkfpaaGreat
namespace Go.Proofs.YtemcdefpihkfpaaGreat.AL
variable {P : Program} {nt : Nat} {Q : Exit → ASt → Prop} {A : ASt}
end Go.Proofs.YtemcdefpihkfpaaGreat.AL
namespace Go.Proofs.YtemcdefpihkfpaaGreat
open Go Go.Proofs.YtemcdefpihkfpaaGreat.AL
theorem x82 : ∀ l : List Int,eqI l l = true
 | [] => rfl
 | x :: l => by simp [eqI,x82 l]
end Go.Proofs.YtemcdefpihkfpaaGreat
namespace Go.Proofs.YtemcdefpihkfpaaGreat.AL
open Go
end Go.Proofs.YtemcdefpihkfpaaGreat.AL
namespace Go.Proofs.YtemcdefpihkfpaaGreat
open Go Go.Proofs.YtemcdefpihkfpaaGreat.AL
end Go.Proofs.YtemcdefpihkfpaaGreat
namespace Go.Proofs.YtemcdefpihkfpaaGreat
open Go.Proofs.YtemcdefpihkfpaaGreat.AL
end Go.Proofs.YtemcdefpihkfpaaGreat
namespace Go.Proofs.YtemcdefpihkfpaaGreat
open Go Go.Proofs.YtemcdefpihkfpaaGreat.AL
theorem z199 {t : List (List Port)} {s : Spot} (h : s ∉ edgesT t) : edgeT t s < 0 := by
 unfold edgeT
 split
 ·decide
 ·rename_i h1
  split
  ·decide
  ·rename_i h2
   split
   ·rename_i h3
    exfalso
    exact h (z59.2 ⟨s.sw.toNat,s.po.toNat,by omega,by omega,h3,by
     obtain ⟨a,b⟩ := s
     simp only [] at h1 h2 ⊢
     rw [Int.toNat_of_nonneg (by omega),Int.toNat_of_nonneg (by omega)]⟩)
   ·decide
def alkR (en an ap : Int) (l : List Hop) : LV := .cells 95 [.p (.d (.v (.int .i64 en))),.p (.d (.v (.int .i64 an))),.p (.d (.v (.int .i64 ap))),.p (.d (.sl 5 l.length (rowH l)))]
theorem x199 (t : List (List Port)) : eqBy eqPP [] t t = true := by
 rw [q29 rfl]
 refine z82 (fun i => ?_) _ _ _ rfl
 show eqPP _ _ = true
 unfold eqPP
 rw [q29 rfl]
 exact z82 (fun i => by simp) _ _ _ rfl
theorem q127 : cfg0.small := ⟨⟨by simp [cfg0],fun l h => by simp [cfg0] at h⟩,⟨by simp [cfg0],by simp [cfg0]⟩,by simp [cfg0],fun t h => by simp [cfg0] at h⟩
theorem j199 : sameC cfg0 cfg0 = true := by decide +kernel
theorem z_ple : PLe (.agg [.v (.slice none 0 0),.v (.int .i64 0),.v (.slice none 0 0),.v (.slice none 0 0),.v (.slice none 0 0)]) (.agg (configD cfg0)) :=
 z78 (.cons j39 (.cons (q78 _) (.cons j39 (.cons j39 (.cons j39 .nil)))))
def slkJ (en an ap : Int) (l m : List Hop) (i : Fin (l.length + 1)) : ASt :=
 ⟨[(14,.p (.d (.v (.int .i64 (i.val : Int))))),(12,.loc 12 0),(13,.loc 13 0)],[(12,alkR en an ap l),(13,alkR en an ap m)]⟩
set_option maxRecDepth 100000 in
theorem q200 (c : Config) (s : Spot) (h : BitVec 128) (v : Nat) (hc : c.small) (hv : v ≤ 255) : ACalls Tryz.prog 9 [.agg (configD c),.agg (spotD s),.agg (hd h),.d (.v (.int .u8 (v : Int)))] (· = [.d (.v (.bool true))]) := by
 have kc := j118 c hc
 have ks := q118 c hc
 have aw := q199
 have eg := j73 c.tp s hc.tp
 have sm := x37 (xs := [.agg (configD cfg0),.agg [.v (.slice none 0 0),.v (.int .i64 0),.v (.slice none 0 0),.v (.slice none 0 0),.v (.slice none 0 0)]]) (.cons (j42 _) (.cons z_ple .nil)) (z123 cfg0 cfg0 q127 q127)
 rw [j199] at sm
 by_cases hs : soundC c = 0
 ·rw [hs] at ks
  by_cases he : errT c.tb = 0
  ·have e1 : slimC c = (slimK c,0) := by unfold slimC;rw [if_pos hs,if_pos he];rfl
   rw [e1] at kc
   have kd := q118 (slimK c) (x124 hc)
   rw [z124 hs] at kd
   have kp := q123 c.tp c.tp hc.tp hc.tp
   rw [x199] at kp
   by_cases hm : s ∈ edgesT c.tp
   ·obtain ⟨n,hn,hw⟩ := edge_in hs hm
    obtain ⟨t1,t2⟩ := q120 (q35 hs).1 hm
    have q0 : decide (edgeT c.tp s < 0) = false := decide_eq_false (by omega)
    have hw2 : InW (slimK c) n 0 := ⟨by have := hw.n1;unfold slimK;simpa using this,hw.n2,by
     show 0 < ((c.tb.map mapL).getD n []).length
     rw [x64,q48];exact hw.t1⟩
    have r1 := x122 c s h v 300 _ hc hv (by decide) hs hm n hn hw rfl
    have r2 := x122 (slimK c) s h v 300 _ (x124 hc) hv (by decide) (z124 hs) hm n hn hw2 rfl
    have e5 : edgeT (slimK c).tp s = edgeT c.tp s := rfl
    rw [e5] at r2
    have gs := z126 hs he 300 n 0 (stampR h ((edgeT c.tp s).toNat + 1) v) [] [] hw rfl
    have gl := j122 c 300 n 0 (stampR h ((edgeT c.tp s).toNat + 1) v) []
    generalize goW c 300 n 0 (stampR h ((edgeT c.tp s).toNat + 1) v) [] = A at r1 gs gl
    generalize goW (slimK c) 300 n 0 (stampR h ((edgeT c.tp s).toNat + 1) v) [] = B at r2 gs
    obtain ⟨en,an,ap,l⟩ := A
    obtain ⟨en2,an2,ap2,m⟩ := B
    obtain ⟨g1,g2,g3,g4⟩ := gs
    simp only [] at g1 g2 g3 g4 gl
    subst g1 g2 g3
    obtain ⟨hlm,hat⟩ := hopS_at g4
    have hl : l.length ≤ 300 := by simpa using gl
    unfold runD at r1 r2
    simp only [] at r1 r2
    have q1 : (en != en) = false := x14 rfl
    have q2 : eqI [an,ap] [an,ap] = true := x82 _
    have q3 : ((l.length : Int) != (m.length : Int)) = false := x14 (by rw [hlm])
    have w8 : IntKind.i64.wrap (v : Int) = (v : Int) := wi (by omega)
    generalize edgeT c.tp s = eT at eg q0
    refine q12 Tryz.func9 rfl (by decide +kernel) (by rw [Tryz.ntmps9];simp) ?_;rw [Tryz.ntmps9];simp only [frOf]
    (repeat (first | apply j0 | refine z7 rfl ?_ | refine x7 rfl ?_ | apply j6 | (refine x5 fun K hK => ?_) | (refine x8 fun K hK => ?_) | ((first | apply j5 | apply x6 | ((first | refine j4 (hK _ ?_) | refine q9 (hK _ _ j8 ?_));clear hK K));(first | show AWP _ _ _ _ _ | ((try simp only [z8]);first | show loopQ _ _ _ _ _ _ | show cutQ _ _ _ _ | show AWP _ _ _ _ _))) | ((first | refine x10 rfl rfl rfl ?_ | refine q13 rfl rfl rfl ?_);simp (disch:=omega) only [go_sem,seval,hd,cb,configD,spotD,topoD,z12,x9,q0,q1,q2,q3,w8];(first | refine ⟨_,kc,?_⟩ | refine ⟨_,ks,?_⟩ | refine ⟨_,kd,?_⟩ | refine ⟨_,kp,?_⟩ | refine ⟨_,eg,?_⟩ | refine ⟨_,r1,?_⟩ | refine ⟨_,r2,?_⟩)) | ((first | refine j7 [] rfl ?_ | refine q10 [] rfl ?_);simp (disch:=omega) only [go_sem,seval,hd,cb,configD,spotD,topoD,z12,x9,q0,q1,q2,q3,w8];(repeat (first | refine ⟨by omega,?_⟩ | refine ⟨True.intro,?_⟩)))))
    refine j13 (slkJ en an ap l m) (fun s => l.length - s.val) ⟨0,by omega⟩ ?_ (fun st => ?_)
    ·unfold slkJ alkR
     refine Weak.list ?_ ?_;(all_goals simp (disch:=omega) only [AllF,AllL,q11,z11,j10,exists_eq_left',go_sem,seval,hd,cb,configD,spotD,topoD,z12,x9,q0,q1,q2,q3,w8]);(all_goals (repeat' (with_reducible apply And.intro)));(all_goals try (first | exact q8 rfl | (refine x11 ?_;omega) | (refine q8 ?_;simp;done)))
    obtain ⟨k,hk9⟩ := st
    unfold slkJ alkR
    simp only []
    by_cases hk : k < l.length
    ·have r1 := z120 l k
     have r2 := z120 m k
     obtain ⟨x1,x2,x3⟩ := hat k hk
     generalize l.getD k hop0 = x at r1 x1 x2 x3
     generalize m.getD k hop0 = y at r2 x1 x2 x3
     obtain ⟨a1,a2,a3,a4⟩ := x
     obtain ⟨b1,b2,b3,b4⟩ := y
     simp only [] at x1 x2 x3
     subst x1 x2 x3
     unfold hopD at r1 r2
     have p1 : (a1 != a1) = false := x14 rfl
     have p2 : (a2 != a2) = false := x14 rfl
     have p3 : eqI [hi a4,lo a4] [hi a4,lo a4] = true := x82 _
     (repeat (first | apply j0 | refine z7 rfl ?_ | refine x7 rfl ?_ | apply j6 | (refine x5 fun K hK => ?_) | (refine x8 fun K hK => ?_) | ((first | apply j5 | apply x6 | ((first | refine j4 (hK _ ?_) | refine q9 (hK _ _ j8 ?_));clear hK K));(first | show AWP _ _ _ _ _ | ((try simp only [z8]);first | show loopQ _ _ _ _ _ _ | show cutQ _ _ _ _ | show AWP _ _ _ _ _))) | ((first | refine j7 [] rfl ?_ | refine q10 [] rfl ?_);simp (disch:=omega) only [go_sem,seval,hd,cb,configD,spotD,topoD,z12,x9,r1,r2,p1,p2,p3];(repeat (first | refine ⟨by omega,?_⟩ | refine ⟨True.intro,?_⟩)))))
     refine ⟨⟨k + 1,by omega⟩,by simp only [];omega,?_⟩
     refine Weak.list ?_ ?_;(all_goals simp (disch:=omega) only [AllF,AllL,q11,z11,j10,exists_eq_left',go_sem,seval,hd,cb,configD,spotD,topoD,z12,x9,r1,r2,p1,p2,p3]);(all_goals (repeat' (with_reducible apply And.intro)));(all_goals try (first | exact q8 rfl | (refine x11 ?_;omega) | (refine q8 ?_;simp;done)))
    ·have : k = l.length := by omega
     subst this
     (repeat (first | apply j0 | refine z7 rfl ?_ | refine x7 rfl ?_ | apply j6 | (refine x5 fun K hK => ?_) | (refine x8 fun K hK => ?_) | ((first | apply j5 | apply x6 | ((first | refine j4 (hK _ ?_) | refine q9 (hK _ _ j8 ?_));clear hK K));(first | show AWP _ _ _ _ _ | ((try simp only [z8]);first | show loopQ _ _ _ _ _ _ | show cutQ _ _ _ _ | show AWP _ _ _ _ _))) | ((first | refine x10 rfl rfl rfl ?_ | refine q13 rfl rfl rfl ?_);simp (disch:=omega) only [go_sem,seval,hd,cb,configD,spotD,topoD,z12,x9];(first | refine ⟨_,aw,?_⟩)) | ((first | refine j7 [] rfl ?_ | refine q10 [] rfl ?_);simp (disch:=omega) only [go_sem,seval,hd,cb,configD,spotD,topoD,z12,x9];(repeat (first | refine ⟨by omega,?_⟩ | refine ⟨True.intro,?_⟩)))))
     refine j9 ⟨_,?_,rfl⟩;rw [Tryz.results9];simp (disch:=omega) only [ResVars,ResVar,ptrLoc,go_sem,seval,hd,cb,configD,spotD,topoD,z12,x9]
   ·have q0 : decide (edgeT c.tp s < 0) = true := decide_eq_true (z199 hm)
    generalize edgeT c.tp s = eT at eg q0
    refine q12 Tryz.func9 rfl (by decide +kernel) (by rw [Tryz.ntmps9];simp) ?_;rw [Tryz.ntmps9];simp only [frOf]
    (repeat (first | apply j0 | refine z7 rfl ?_ | refine x7 rfl ?_ | apply j6 | (refine x5 fun K hK => ?_) | (refine x8 fun K hK => ?_) | ((first | apply j5 | apply x6 | ((first | refine j4 (hK _ ?_) | refine q9 (hK _ _ j8 ?_));clear hK K));(first | show AWP _ _ _ _ _ | ((try simp only [z8]);first | show loopQ _ _ _ _ _ _ | show cutQ _ _ _ _ | show AWP _ _ _ _ _))) | ((first | refine x10 rfl rfl rfl ?_ | refine q13 rfl rfl rfl ?_);simp (disch:=omega) only [go_sem,seval,hd,cb,configD,spotD,topoD,z12,x9,q0];(first | refine ⟨_,kc,?_⟩ | refine ⟨_,ks,?_⟩ | refine ⟨_,kd,?_⟩ | refine ⟨_,kp,?_⟩ | refine ⟨_,eg,?_⟩ | refine ⟨_,aw,?_⟩)) | ((first | refine j7 [] rfl ?_ | refine q10 [] rfl ?_);simp (disch:=omega) only [go_sem,seval,hd,cb,configD,spotD,topoD,z12,x9,q0];(repeat (first | refine ⟨by omega,?_⟩ | refine ⟨True.intro,?_⟩)))))
    refine j9 ⟨_,?_,rfl⟩;rw [Tryz.results9];simp (disch:=omega) only [ResVars,ResVar,ptrLoc,go_sem,seval,hd,cb,configD,spotD,topoD,z12,x9,q0]
  ·have e1 : slimC c = (cfg0,errT c.tb) := by unfold slimC;rw [if_pos hs,if_neg he]
   have e10 : errT c.tb = 10 := (q126 c.tb (q197 hs)).resolve_left he
   rw [e1,e10] at kc
   refine q12 Tryz.func9 rfl (by decide +kernel) (by rw [Tryz.ntmps9];simp) ?_;rw [Tryz.ntmps9];simp only [frOf]
   (repeat (first | apply j0 | refine z7 rfl ?_ | refine x7 rfl ?_ | apply j6 | (refine x5 fun K hK => ?_) | (refine x8 fun K hK => ?_) | ((first | apply j5 | apply x6 | ((first | refine j4 (hK _ ?_) | refine q9 (hK _ _ j8 ?_));clear hK K));(first | show AWP _ _ _ _ _ | ((try simp only [z8]);first | show loopQ _ _ _ _ _ _ | show cutQ _ _ _ _ | show AWP _ _ _ _ _))) | ((first | refine x10 rfl rfl rfl ?_ | refine q13 rfl rfl rfl ?_);simp (disch:=omega) only [go_sem,seval,hd,cb,configD,spotD,topoD,z12,x9];(first | refine ⟨_,kc,?_⟩ | refine ⟨_,ks,?_⟩ | refine ⟨_,aw,?_⟩ | refine ⟨_,sm,?_⟩)) | ((first | refine j7 [] rfl ?_ | refine q10 [] rfl ?_);simp (disch:=omega) only [go_sem,seval,hd,cb,configD,spotD,topoD,z12,x9];(repeat (first | refine ⟨by omega,?_⟩ | refine ⟨True.intro,?_⟩)))))
   refine j9 ⟨_,?_,rfl⟩;rw [Tryz.results9];simp (disch:=omega) only [ResVars,ResVar,ptrLoc,go_sem,seval,hd,cb,configD,spotD,topoD,z12,x9]
 ·have e1 : slimC c = (cfg0,soundC c) := by unfold slimC;rw [if_neg hs]
  rw [e1] at kc
  have q : (soundC c != 0) = true := q14 hs
  have q1 : (soundC c == soundC c) = true := beq_self_eq_true _
  generalize soundC c = e at *
  refine q12 Tryz.func9 rfl (by decide +kernel) (by rw [Tryz.ntmps9];simp) ?_;rw [Tryz.ntmps9];simp only [frOf]
  (repeat (first | apply j0 | refine z7 rfl ?_ | refine x7 rfl ?_ | apply j6 | (refine x5 fun K hK => ?_) | (refine x8 fun K hK => ?_) | ((first | apply j5 | apply x6 | ((first | refine j4 (hK _ ?_) | refine q9 (hK _ _ j8 ?_));clear hK K));(first | show AWP _ _ _ _ _ | ((try simp only [z8]);first | show loopQ _ _ _ _ _ _ | show cutQ _ _ _ _ | show AWP _ _ _ _ _))) | ((first | refine x10 rfl rfl rfl ?_ | refine q13 rfl rfl rfl ?_);simp (disch:=omega) only [go_sem,seval,hd,cb,configD,spotD,topoD,z12,x9,q,q1];(first | refine ⟨_,kc,?_⟩ | refine ⟨_,ks,?_⟩ | refine ⟨_,aw,?_⟩ | refine ⟨_,sm,?_⟩)) | ((first | refine j7 [] rfl ?_ | refine q10 [] rfl ?_);simp (disch:=omega) only [go_sem,seval,hd,cb,configD,spotD,topoD,z12,x9,q,q1];(repeat (first | refine ⟨by omega,?_⟩ | refine ⟨True.intro,?_⟩)))))
  refine j9 ⟨_,?_,rfl⟩;rw [Tryz.results9];simp (disch:=omega) only [ResVars,ResVar,ptrLoc,go_sem,seval,hd,cb,configD,spotD,topoD,z12,x9,q,q1]
end Go.Proofs.YtemcdefpihkfpaaGreat
