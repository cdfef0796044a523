/- Part 5 of a proof: lemmas beneath the theorem that the last text bears. Conditions: none. -/
import Derived.Test.YtbamjcnhmmgnlaaKPredsOfd
import Derived.Shelf.Small.Bits
import Derived.Lib.ItoaNum
import Derived.Shelf.Spec.SlicesGrow
set_option maxHeartbeats 64000000
set_option linter.unusedSimpArgs false
set_option linter.unusedVariables false
namespace Go.Proofs.Ytbamjcnhmmgnlaa
open Go.Proofs.Ytbamjcnhmmgnlaa.AL
def errF (f : Nat → Int) : Nat → Nat → Int
 | 0,_ => 0
 | m + 1,i => if f i = 0 then errF f m (i + 1) else f i
theorem z104 {f : Nat → Int} {n i : Nat} (h : i < n) : errF f (n - i) i = if f i = 0 then errF f (n - (i + 1)) (i + 1) else f i := by
 rw [show n - i = (n - (i + 1)) + 1 by omega];rfl
theorem x104 {f : Nat → Int} {n i : Nat} (h : n ≤ i) : errF f (n - i) i = 0 := by
 rw [show n - i = 0 by omega];rfl
def polE (c : Config) : Int := if sizesC c = false then 4 else if policyC c = false then 2 else 0
def tabE (c : Config) (i : Nat) : Int := soundTab (c.tb.getD i []) (c.tp.getD i [])
def soundC (c : Config) : Int := if soundT c.tp ≠ 0 then soundT c.tp else if polE c ≠ 0 then polE c else if c.tb.length ≠ c.tp.length then 4 else errF (tabE c) c.tb.length 0
def soundCI (c : Config) (R : Int) (s : {i : Nat // i ≤ c.tb.length ∧ errF (tabE c) (c.tb.length - i) i = R}) : ASt :=
 ⟨[(33,.p (.d (.v (.int .i64 (s.val : Int))))),(32,.p (.d (.v (.int .i64 (c.tb.length : Int))))),(31,.p (.d (.sl 1 c.tb.length (rowTT c.tb)))),(1,.p (.d (.bx (configD c))))],[]⟩
set_option maxRecDepth 100000 in
theorem q71 (c : Config) (hc : c.small) : ACalls Try.prog 47 [.agg (configD c)] (· = [.d (.v (.int .i64 (soundC c)))]) := by
 have s1 := q155 c.tp hc.tp
 have s2 := sizes_c c hc
 have s3 := z157 c hc
 have htp := hc.tp
 have hat := hc.at
 have hb := hc.tb
 have hb2 := hc.tp.1
 unfold soundC polE
 simp only [topoD] at s1
 simp only [configD] at s2 s3
 generalize soundT c.tp = e1 at s1
 generalize sizesC c = b2 at s2
 generalize policyC c = b3 at s3
 by_cases h1 : e1 = 0
 ·subst h1
  rw [if_neg (by decide)]
  cases b2
  ·simp only [if_true]
   rw [if_pos (by decide)]
   refine q11 Try.func47 rfl (by decide +kernel) (by rw [Try.ntmps47];simp) ?_;rw [Try.ntmps47];simp only [frOf]
   (repeat (first | apply j0 | refine j6 rfl ?_ | refine z7 rfl ?_ | apply z6 | (refine j4 fun K hK => ?_) | (refine z5 fun K hK => ?_) | ((first | apply x5 | apply j5 | ((first | refine z3 (hK _ ?_) | refine x4 (hK _ _ z4 ?_));clear hK K));(first | show AWP _ _ _ _ _ | ((try simp only [x6]);first | show loopQ _ _ _ _ _ _ | show cutQ _ _ _ _ | show AWP _ _ _ _ _))) | ((first | refine j8 rfl rfl rfl ?_ | refine q9 rfl rfl rfl ?_);simp (disch:=omega) only [go_sem,seval,policyD,wayD,pairD,spotD,topoD,configD,j10];(first | refine ⟨_,s1,?_⟩ | refine ⟨_,s2,?_⟩ | refine ⟨_,s3,?_⟩)) | ((first | refine x7 [] rfl ?_ | refine j7 [] rfl ?_);simp (disch:=omega) only [go_sem,seval,policyD,wayD,pairD,spotD,topoD,configD,j10];(repeat (first | refine ⟨by omega,?_⟩ | refine ⟨True.intro,?_⟩)))))
   refine x8 ⟨_,?_,rfl⟩;rw [Try.results47];simp (disch:=omega) only [ResVars,ResVar,ptrLoc,go_sem,seval,policyD,wayD,pairD,spotD,topoD,configD,j10]
  ·cases b3
   ·simp only [if_true,Bool.true_eq_false,if_false]
    rw [if_pos (by decide)]
    refine q11 Try.func47 rfl (by decide +kernel) (by rw [Try.ntmps47];simp) ?_;rw [Try.ntmps47];simp only [frOf]
    (repeat (first | apply j0 | refine j6 rfl ?_ | refine z7 rfl ?_ | apply z6 | (refine j4 fun K hK => ?_) | (refine z5 fun K hK => ?_) | ((first | apply x5 | apply j5 | ((first | refine z3 (hK _ ?_) | refine x4 (hK _ _ z4 ?_));clear hK K));(first | show AWP _ _ _ _ _ | ((try simp only [x6]);first | show loopQ _ _ _ _ _ _ | show cutQ _ _ _ _ | show AWP _ _ _ _ _))) | ((first | refine j8 rfl rfl rfl ?_ | refine q9 rfl rfl rfl ?_);simp (disch:=omega) only [go_sem,seval,policyD,wayD,pairD,spotD,topoD,configD,j10];(first | refine ⟨_,s1,?_⟩ | refine ⟨_,s2,?_⟩ | refine ⟨_,s3,?_⟩)) | ((first | refine x7 [] rfl ?_ | refine j7 [] rfl ?_);simp (disch:=omega) only [go_sem,seval,policyD,wayD,pairD,spotD,topoD,configD,j10];(repeat (first | refine ⟨by omega,?_⟩ | refine ⟨True.intro,?_⟩)))))
    refine x8 ⟨_,?_,rfl⟩;rw [Try.results47];simp (disch:=omega) only [ResVars,ResVar,ptrLoc,go_sem,seval,policyD,wayD,pairD,spotD,topoD,configD,j10]
   ·simp only [if_true,Bool.true_eq_false,if_false]
    rw [if_neg (by decide)]
    by_cases h4 : c.tb.length = c.tp.length
    ·rw [if_neg (by omega)]
     have q : ((c.tb.length : Int) != (c.tp.length : Int)) = false := x13 (by omega)
     generalize hR : errF (tabE c) c.tb.length 0 = R
     refine q11 Try.func47 rfl (by decide +kernel) (by rw [Try.ntmps47];simp) ?_;rw [Try.ntmps47];simp only [frOf]
     (repeat (first | apply j0 | refine j6 rfl ?_ | refine z7 rfl ?_ | apply z6 | (refine j4 fun K hK => ?_) | (refine z5 fun K hK => ?_) | ((first | apply x5 | apply j5 | ((first | refine z3 (hK _ ?_) | refine x4 (hK _ _ z4 ?_));clear hK K));(first | show AWP _ _ _ _ _ | ((try simp only [x6]);first | show loopQ _ _ _ _ _ _ | show cutQ _ _ _ _ | show AWP _ _ _ _ _))) | ((first | refine j8 rfl rfl rfl ?_ | refine q9 rfl rfl rfl ?_);simp (disch:=omega) only [go_sem,seval,policyD,wayD,pairD,spotD,topoD,configD,j10,q];(first | refine ⟨_,s1,?_⟩ | refine ⟨_,s2,?_⟩ | refine ⟨_,s3,?_⟩)) | ((first | refine x7 [] rfl ?_ | refine j7 [] rfl ?_);simp (disch:=omega) only [go_sem,seval,policyD,wayD,pairD,spotD,topoD,configD,j10,q];(repeat (first | refine ⟨by omega,?_⟩ | refine ⟨True.intro,?_⟩)))))
     refine x12 (soundCI c R) (fun s => c.tb.length - s.val) ⟨0,Nat.zero_le _,hR⟩ ?_ (fun s => ?_)
     ·unfold soundCI
      refine Weak.list ?_ ?_;(all_goals simp (disch:=omega) only [AllF,AllL,q10,z10,j9,exists_eq_left',go_sem,seval,policyD,wayD,pairD,spotD,topoD,configD,j10]);(all_goals (repeat' (with_reducible apply And.intro)));(all_goals try (first | exact q8 rfl | (refine x10 ?_;omega) | (refine q8 ?_;simp;done)))
     obtain ⟨i,hi,hr⟩ := s
     unfold soundCI
     simp only [] at hi hr ⊢
     by_cases h : i < c.tb.length
     ·rw [z104 h] at hr
      have r1 := q53 c.tb i
      have r2 := q19 c.tp i
      have ct := x156 (c.tb.getD i []) (c.tp.getD i []) (hat i) (q20 htp i)
      have hte : tabE c i = soundTab (c.tb.getD i []) (c.tp.getD i []) := rfl
      rw [hte] at hr
      have l1 := q20 htp i
      have l2 := (hat i).1
      generalize soundTab (c.tb.getD i []) (c.tp.getD i []) = e at hr ct
      generalize c.tb.getD i [] = ts at r1 ct l2
      generalize c.tp.getD i [] = ps at r2 ct l1
      by_cases he : e = 0
      ·subst he
       rw [if_pos rfl] at hr
       (repeat (first | apply j0 | refine j6 rfl ?_ | refine z7 rfl ?_ | apply z6 | (refine j4 fun K hK => ?_) | (refine z5 fun K hK => ?_) | ((first | apply x5 | apply j5 | ((first | refine z3 (hK _ ?_) | refine x4 (hK _ _ z4 ?_));clear hK K));(first | show AWP _ _ _ _ _ | ((try simp only [x6]);first | show loopQ _ _ _ _ _ _ | show cutQ _ _ _ _ | show AWP _ _ _ _ _))) | ((first | refine j8 rfl rfl rfl ?_ | refine q9 rfl rfl rfl ?_);simp (disch:=omega) only [go_sem,seval,policyD,wayD,pairD,spotD,topoD,configD,j10,r1,r2];(first | refine ⟨_,ct,?_⟩)) | ((first | refine x7 [] rfl ?_ | refine j7 [] rfl ?_);simp (disch:=omega) only [go_sem,seval,policyD,wayD,pairD,spotD,topoD,configD,j10,r1,r2];(repeat (first | refine ⟨by omega,?_⟩ | refine ⟨True.intro,?_⟩)))))
       refine ⟨⟨i + 1,by omega,hr⟩,by simp only [];omega,?_⟩
       refine Weak.list ?_ ?_;(all_goals simp (disch:=omega) only [AllF,AllL,q10,z10,j9,exists_eq_left',go_sem,seval,policyD,wayD,pairD,spotD,topoD,configD,j10,r1,r2]);(all_goals (repeat' (with_reducible apply And.intro)));(all_goals try (first | exact q8 rfl | (refine x10 ?_;omega) | (refine q8 ?_;simp;done)))
      ·rw [if_neg he] at hr
       have q2 : (e != 0) = true := z12 he
       subst hr
       (repeat (first | apply j0 | refine j6 rfl ?_ | refine z7 rfl ?_ | apply z6 | (refine j4 fun K hK => ?_) | (refine z5 fun K hK => ?_) | ((first | apply x5 | apply j5 | ((first | refine z3 (hK _ ?_) | refine x4 (hK _ _ z4 ?_));clear hK K));(first | show AWP _ _ _ _ _ | ((try simp only [x6]);first | show loopQ _ _ _ _ _ _ | show cutQ _ _ _ _ | show AWP _ _ _ _ _))) | ((first | refine j8 rfl rfl rfl ?_ | refine q9 rfl rfl rfl ?_);simp (disch:=omega) only [go_sem,seval,policyD,wayD,pairD,spotD,topoD,configD,j10,r1,r2,q2];(first | refine ⟨_,ct,?_⟩)) | ((first | refine x7 [] rfl ?_ | refine j7 [] rfl ?_);simp (disch:=omega) only [go_sem,seval,policyD,wayD,pairD,spotD,topoD,configD,j10,r1,r2,q2];(repeat (first | refine ⟨by omega,?_⟩ | refine ⟨True.intro,?_⟩)))))
       refine x8 ⟨_,?_,rfl⟩;rw [Try.results47];simp (disch:=omega) only [ResVars,ResVar,ptrLoc,go_sem,seval,policyD,wayD,pairD,spotD,topoD,configD,j10,r1,r2,q2]
     ·rw [x104 (show c.tb.length ≤ i by omega)] at hr
      subst hr
      (repeat (first | apply j0 | refine j6 rfl ?_ | refine z7 rfl ?_ | apply z6 | (refine j4 fun K hK => ?_) | (refine z5 fun K hK => ?_) | ((first | apply x5 | apply j5 | ((first | refine z3 (hK _ ?_) | refine x4 (hK _ _ z4 ?_));clear hK K));(first | show AWP _ _ _ _ _ | ((try simp only [x6]);first | show loopQ _ _ _ _ _ _ | show cutQ _ _ _ _ | show AWP _ _ _ _ _))) | ((first | refine x7 [] rfl ?_ | refine j7 [] rfl ?_);simp (disch:=omega) only [go_sem,seval,policyD,wayD,pairD,spotD,topoD,configD,j10];(repeat (first | refine ⟨by omega,?_⟩ | refine ⟨True.intro,?_⟩)))))
      refine x8 ⟨_,?_,rfl⟩;rw [Try.results47];simp (disch:=omega) only [ResVars,ResVar,ptrLoc,go_sem,seval,policyD,wayD,pairD,spotD,topoD,configD,j10]
    ·rw [if_pos h4]
     have q : ((c.tb.length : Int) != (c.tp.length : Int)) = true := z12 (by omega)
     refine q11 Try.func47 rfl (by decide +kernel) (by rw [Try.ntmps47];simp) ?_;rw [Try.ntmps47];simp only [frOf]
     (repeat (first | apply j0 | refine j6 rfl ?_ | refine z7 rfl ?_ | apply z6 | (refine j4 fun K hK => ?_) | (refine z5 fun K hK => ?_) | ((first | apply x5 | apply j5 | ((first | refine z3 (hK _ ?_) | refine x4 (hK _ _ z4 ?_));clear hK K));(first | show AWP _ _ _ _ _ | ((try simp only [x6]);first | show loopQ _ _ _ _ _ _ | show cutQ _ _ _ _ | show AWP _ _ _ _ _))) | ((first | refine j8 rfl rfl rfl ?_ | refine q9 rfl rfl rfl ?_);simp (disch:=omega) only [go_sem,seval,policyD,wayD,pairD,spotD,topoD,configD,j10,q];(first | refine ⟨_,s1,?_⟩ | refine ⟨_,s2,?_⟩ | refine ⟨_,s3,?_⟩)) | ((first | refine x7 [] rfl ?_ | refine j7 [] rfl ?_);simp (disch:=omega) only [go_sem,seval,policyD,wayD,pairD,spotD,topoD,configD,j10,q];(repeat (first | refine ⟨by omega,?_⟩ | refine ⟨True.intro,?_⟩)))))
     refine x8 ⟨_,?_,rfl⟩;rw [Try.results47];simp (disch:=omega) only [ResVars,ResVar,ptrLoc,go_sem,seval,policyD,wayD,pairD,spotD,topoD,configD,j10,q]
 ·rw [if_pos h1]
  have q : (e1 != 0) = true := z12 h1
  refine q11 Try.func47 rfl (by decide +kernel) (by rw [Try.ntmps47];simp) ?_;rw [Try.ntmps47];simp only [frOf]
  (repeat (first | apply j0 | refine j6 rfl ?_ | refine z7 rfl ?_ | apply z6 | (refine j4 fun K hK => ?_) | (refine z5 fun K hK => ?_) | ((first | apply x5 | apply j5 | ((first | refine z3 (hK _ ?_) | refine x4 (hK _ _ z4 ?_));clear hK K));(first | show AWP _ _ _ _ _ | ((try simp only [x6]);first | show loopQ _ _ _ _ _ _ | show cutQ _ _ _ _ | show AWP _ _ _ _ _))) | ((first | refine j8 rfl rfl rfl ?_ | refine q9 rfl rfl rfl ?_);simp (disch:=omega) only [go_sem,seval,policyD,wayD,pairD,spotD,topoD,configD,j10,q];(first | refine ⟨_,s1,?_⟩)) | ((first | refine x7 [] rfl ?_ | refine j7 [] rfl ?_);simp (disch:=omega) only [go_sem,seval,policyD,wayD,pairD,spotD,topoD,configD,j10,q];(repeat (first | refine ⟨by omega,?_⟩ | refine ⟨True.intro,?_⟩)))))
  refine x8 ⟨_,?_,rfl⟩;rw [Try.results47];simp (disch:=omega) only [ResVars,ResVar,ptrLoc,go_sem,seval,policyD,wayD,pairD,spotD,topoD,configD,j10,q]
def polRI (c : Config) (l : List Spot) (R : Int) (s : {i : Nat // i ≤ l.length ∧ (if allF (edgeOk c) l.length i = false then 4 else if policyC c = false then 2 else 0) = R}) : ASt :=
 ⟨[(6,.p (.d (.v (.int .i64 (s.val : Int))))),(5,.p (.d (.sl 2 l.length (rowS l)))),(3,.p (.d (.bx (policyD c.po)))),(2,.p (.d (.bx (topoD c.tp))))],[]⟩
def polRJ (c : Config) (R : Int) (s : {i : Nat // i ≤ c.po.peers.length ∧ (if (allF (pairOk c) c.po.peers.length i && allF (wayOk c) c.po.ways.length 0) = false then 2 else 0) = R}) : ASt :=
 ⟨[(7,.p (.d (.v (.int .i64 (s.val : Int))))),(3,.p (.d (.bx (policyD c.po)))),(2,.p (.d (.bx (topoD c.tp))))],[]⟩
def polRK (c : Config) (R : Int) (s : {i : Nat // i ≤ c.po.ways.length ∧ (if allF (wayOk c) c.po.ways.length i = false then 2 else 0) = R}) : ASt :=
 ⟨[(8,.p (.d (.v (.int .i64 (s.val : Int))))),(3,.p (.d (.bx (policyD c.po)))),(2,.p (.d (.bx (topoD c.tp))))],[]⟩
set_option maxRecDepth 100000 in
theorem x163 (c : Config) (hc : c.small) : ACalls Try.prog 86 [.agg (topoD c.tp),.agg (policyD c.po)] (· = [.d (.v (.int .i64 (polE c)))]) := by
 have hl1 := hc.po.1
 have hl2 := hc.po.2
 have ed := q96 c.tp hc.tp
 have eb := q27 hc.tp c.tp.length
 have et := hc.tp.1
 have htp := hc.tp
 rw [show edgesTo c.tp c.tp.length = edgesT c.tp from rfl] at eb
 unfold polE sizesC
 simp only [topoD] at ed
 rcases x97 c.po.tn c.po.peers.length c.po.ways.length with h1 | ⟨h1,h2⟩ | ⟨h1,h2,h3⟩ | ⟨h1,h2,h3,h4⟩ | ⟨h1,h2,h3,h4⟩
 case' inr.inr.inr.inr =>
  rw [show (if c.po.tn < 1 ∨ 4 < c.po.tn ∨ 16 < c.po.peers.length ∨ 4 < c.po.ways.length then false else sizesB c) = sizesB c from if_neg (by omega)]
  unfold sizesB
  have hok : ∀ i,edgeOk c i = tenantP c.po (edgeT c.tp ((edgesT c.tp).getD i s0)) := fun i => rfl
  generalize edgesT c.tp = l at ed eb hok
  generalize hR : (if allF (edgeOk c) l.length 0 = false then (4 : Int) else if policyC c = false then 2 else 0) = R
  refine q11 Try.func86 rfl (by decide +kernel) (by rw [Try.ntmps86];simp) ?_;rw [Try.ntmps86];simp only [frOf]
  (repeat (first | apply j0 | refine j6 rfl ?_ | refine z7 rfl ?_ | apply z6 | (refine j4 fun K hK => ?_) | (refine z5 fun K hK => ?_) | ((first | apply x5 | apply j5 | ((first | refine z3 (hK _ ?_) | refine x4 (hK _ _ z4 ?_));clear hK K));(first | show AWP _ _ _ _ _ | ((try simp only [x6]);first | show loopQ _ _ _ _ _ _ | show cutQ _ _ _ _ | show AWP _ _ _ _ _))) | ((first | refine j8 rfl rfl rfl ?_ | refine q9 rfl rfl rfl ?_);simp (disch:=omega) only [go_sem,seval,policyD,wayD,pairD,spotD,topoD,configD,j10];(first | refine ⟨_,ed,?_⟩)) | ((first | refine x7 [] rfl ?_ | refine j7 [] rfl ?_);simp (disch:=omega) only [go_sem,seval,policyD,wayD,pairD,spotD,topoD,configD,j10];(repeat (first | refine ⟨by omega,?_⟩ | refine ⟨True.intro,?_⟩)))))
  refine x12 (polRI c l R) (fun s => l.length - s.val) ⟨0,Nat.zero_le _,hR⟩ ?_ (fun s => ?_)
  ·unfold polRI
   refine Weak.list ?_ ?_;(all_goals simp (disch:=omega) only [AllF,AllL,q10,z10,j9,exists_eq_left',go_sem,seval,policyD,wayD,pairD,spotD,topoD,configD,j10]);(all_goals (repeat' (with_reducible apply And.intro)));(all_goals try (first | exact q8 rfl | (refine x10 ?_;omega) | (refine q8 ?_;simp;done)))
  clear hR
  obtain ⟨i,hi,hr⟩ := s
  unfold polRI
  simp only [] at hi hr ⊢
  by_cases h : i < l.length
  ·rw [z18 h,hok] at hr
   have r1 := z39 l i
   generalize l.getD i s0 = x at r1 hr
   have ce := j95 c.tp x htp
   generalize edgeT c.tp x = e at ce hr
   have ct := j39 c.po e
   obtain ⟨x1,x2⟩ := x
   simp only [spotD] at r1 ce
   simp only [topoD] at ce
   simp only [policyD] at ct
   generalize tenantP c.po e = b at hr ct
   cases b
   ·rw [Bool.false_and,if_pos rfl] at hr
    subst hr
    (repeat (first | apply j0 | refine j6 rfl ?_ | refine z7 rfl ?_ | apply z6 | (refine j4 fun K hK => ?_) | (refine z5 fun K hK => ?_) | ((first | apply x5 | apply j5 | ((first | refine z3 (hK _ ?_) | refine x4 (hK _ _ z4 ?_));clear hK K));(first | show AWP _ _ _ _ _ | ((try simp only [x6]);first | show loopQ _ _ _ _ _ _ | show cutQ _ _ _ _ | show AWP _ _ _ _ _))) | ((first | refine j8 rfl rfl rfl ?_ | refine q9 rfl rfl rfl ?_);simp (disch:=omega) only [go_sem,seval,policyD,wayD,pairD,spotD,topoD,configD,j10,r1];(first | refine ⟨_,ce,?_⟩ | refine ⟨_,ct,?_⟩)) | ((first | refine x7 [] rfl ?_ | refine j7 [] rfl ?_);simp (disch:=omega) only [go_sem,seval,policyD,wayD,pairD,spotD,topoD,configD,j10,r1];(repeat (first | refine ⟨by omega,?_⟩ | refine ⟨True.intro,?_⟩)))))
    refine x8 ⟨_,?_,rfl⟩;rw [Try.results86];simp (disch:=omega) only [ResVars,ResVar,ptrLoc,go_sem,seval,policyD,wayD,pairD,spotD,topoD,configD,j10,r1]
   ·rw [Bool.true_and] at hr
    (repeat (first | apply j0 | refine j6 rfl ?_ | refine z7 rfl ?_ | apply z6 | (refine j4 fun K hK => ?_) | (refine z5 fun K hK => ?_) | ((first | apply x5 | apply j5 | ((first | refine z3 (hK _ ?_) | refine x4 (hK _ _ z4 ?_));clear hK K));(first | show AWP _ _ _ _ _ | ((try simp only [x6]);first | show loopQ _ _ _ _ _ _ | show cutQ _ _ _ _ | show AWP _ _ _ _ _))) | ((first | refine j8 rfl rfl rfl ?_ | refine q9 rfl rfl rfl ?_);simp (disch:=omega) only [go_sem,seval,policyD,wayD,pairD,spotD,topoD,configD,j10,r1];(first | refine ⟨_,ce,?_⟩ | refine ⟨_,ct,?_⟩)) | ((first | refine x7 [] rfl ?_ | refine j7 [] rfl ?_);simp (disch:=omega) only [go_sem,seval,policyD,wayD,pairD,spotD,topoD,configD,j10,r1];(repeat (first | refine ⟨by omega,?_⟩ | refine ⟨True.intro,?_⟩)))))
    refine ⟨⟨i + 1,by omega,hr⟩,by simp only [];omega,?_⟩
    refine Weak.list ?_ ?_;(all_goals simp (disch:=omega) only [AllF,AllL,q10,z10,j9,exists_eq_left',go_sem,seval,policyD,wayD,pairD,spotD,topoD,configD,j10,r1]);(all_goals (repeat' (with_reducible apply And.intro)));(all_goals try (first | exact q8 rfl | (refine x10 ?_;omega) | (refine q8 ?_;simp;done)))
  ·rw [x18 (show l.length ≤ i by omega),if_neg (by decide)] at hr
   unfold policyC at hr
   (repeat (first | apply j0 | refine j6 rfl ?_ | refine z7 rfl ?_ | apply z6 | (refine j4 fun K hK => ?_) | (refine z5 fun K hK => ?_) | ((first | apply x5 | apply j5 | ((first | refine z3 (hK _ ?_) | refine x4 (hK _ _ z4 ?_));clear hK K));(first | show AWP _ _ _ _ _ | ((try simp only [x6]);first | show loopQ _ _ _ _ _ _ | show cutQ _ _ _ _ | show AWP _ _ _ _ _))) | ((first | refine x7 [] rfl ?_ | refine j7 [] rfl ?_);simp (disch:=omega) only [go_sem,seval,policyD,wayD,pairD,spotD,topoD,configD,j10];(repeat (first | refine ⟨by omega,?_⟩ | refine ⟨True.intro,?_⟩)))))
   refine x12 (polRJ c R) (fun s => c.po.peers.length - s.val) ⟨0,Nat.zero_le _,hr⟩ ?_ (fun s => ?_)
   ·unfold polRJ
    refine Weak.list ?_ ?_;(all_goals simp (disch:=omega) only [AllF,AllL,q10,z10,j9,exists_eq_left',go_sem,seval,policyD,wayD,pairD,spotD,topoD,configD,j10]);(all_goals (repeat' (with_reducible apply And.intro)));(all_goals try (first | exact q8 rfl | (refine x10 ?_;omega) | (refine q8 ?_;simp;done)))
   obtain ⟨i,hi,hr⟩ := s
   unfold polRJ
   simp only [] at hi hr ⊢
   by_cases h : i < c.po.peers.length
   ·have hok : pairOk c i = (tenantP c.po (c.po.peers.getD i (0,0)).1 && tenantP c.po (c.po.peers.getD i (0,0)).2) := rfl
    rw [z18 h,hok] at hr
    have r1 := x96 c.po.peers i
    generalize c.po.peers.getD i (0,0) = x at r1 hr
    obtain ⟨x1,x2⟩ := x
    simp only [pairD] at r1
    simp only [] at hr
    have c1 := j39 c.po x1
    have c2 := j39 c.po x2
    simp only [policyD] at c1 c2
    generalize tenantP c.po x1 = b1 at c1 hr
    generalize tenantP c.po x2 = b2 at c2 hr
    cases b1
    ·simp only [Bool.false_and,if_true] at hr
     subst hr
     (repeat (first | apply j0 | refine j6 rfl ?_ | refine z7 rfl ?_ | apply z6 | (refine j4 fun K hK => ?_) | (refine z5 fun K hK => ?_) | ((first | apply x5 | apply j5 | ((first | refine z3 (hK _ ?_) | refine x4 (hK _ _ z4 ?_));clear hK K));(first | show AWP _ _ _ _ _ | ((try simp only [x6]);first | show loopQ _ _ _ _ _ _ | show cutQ _ _ _ _ | show AWP _ _ _ _ _))) | ((first | refine j8 rfl rfl rfl ?_ | refine q9 rfl rfl rfl ?_);simp (disch:=omega) only [go_sem,seval,policyD,wayD,pairD,spotD,topoD,configD,j10,r1];(first | refine ⟨_,c1,?_⟩)) | ((first | refine x7 [] rfl ?_ | refine j7 [] rfl ?_);simp (disch:=omega) only [go_sem,seval,policyD,wayD,pairD,spotD,topoD,configD,j10,r1];(repeat (first | refine ⟨by omega,?_⟩ | refine ⟨True.intro,?_⟩)))))
     refine x8 ⟨_,?_,rfl⟩;rw [Try.results86];simp (disch:=omega) only [ResVars,ResVar,ptrLoc,go_sem,seval,policyD,wayD,pairD,spotD,topoD,configD,j10,r1]
    ·cases b2
     ·simp only [Bool.true_and,Bool.false_and,if_true] at hr
      subst hr
      (repeat (first | apply j0 | refine j6 rfl ?_ | refine z7 rfl ?_ | apply z6 | (refine j4 fun K hK => ?_) | (refine z5 fun K hK => ?_) | ((first | apply x5 | apply j5 | ((first | refine z3 (hK _ ?_) | refine x4 (hK _ _ z4 ?_));clear hK K));(first | show AWP _ _ _ _ _ | ((try simp only [x6]);first | show loopQ _ _ _ _ _ _ | show cutQ _ _ _ _ | show AWP _ _ _ _ _))) | ((first | refine j8 rfl rfl rfl ?_ | refine q9 rfl rfl rfl ?_);simp (disch:=omega) only [go_sem,seval,policyD,wayD,pairD,spotD,topoD,configD,j10,r1];(first | refine ⟨_,c1,?_⟩ | refine ⟨_,c2,?_⟩)) | ((first | refine x7 [] rfl ?_ | refine j7 [] rfl ?_);simp (disch:=omega) only [go_sem,seval,policyD,wayD,pairD,spotD,topoD,configD,j10,r1];(repeat (first | refine ⟨by omega,?_⟩ | refine ⟨True.intro,?_⟩)))))
      refine x8 ⟨_,?_,rfl⟩;rw [Try.results86];simp (disch:=omega) only [ResVars,ResVar,ptrLoc,go_sem,seval,policyD,wayD,pairD,spotD,topoD,configD,j10,r1]
     ·simp only [Bool.true_and] at hr
      (repeat (first | apply j0 | refine j6 rfl ?_ | refine z7 rfl ?_ | apply z6 | (refine j4 fun K hK => ?_) | (refine z5 fun K hK => ?_) | ((first | apply x5 | apply j5 | ((first | refine z3 (hK _ ?_) | refine x4 (hK _ _ z4 ?_));clear hK K));(first | show AWP _ _ _ _ _ | ((try simp only [x6]);first | show loopQ _ _ _ _ _ _ | show cutQ _ _ _ _ | show AWP _ _ _ _ _))) | ((first | refine j8 rfl rfl rfl ?_ | refine q9 rfl rfl rfl ?_);simp (disch:=omega) only [go_sem,seval,policyD,wayD,pairD,spotD,topoD,configD,j10,r1];(first | refine ⟨_,c1,?_⟩ | refine ⟨_,c2,?_⟩)) | ((first | refine x7 [] rfl ?_ | refine j7 [] rfl ?_);simp (disch:=omega) only [go_sem,seval,policyD,wayD,pairD,spotD,topoD,configD,j10,r1];(repeat (first | refine ⟨by omega,?_⟩ | refine ⟨True.intro,?_⟩)))))
      refine ⟨⟨i + 1,by omega,hr⟩,by simp only [];omega,?_⟩
      refine Weak.list ?_ ?_;(all_goals simp (disch:=omega) only [AllF,AllL,q10,z10,j9,exists_eq_left',go_sem,seval,policyD,wayD,pairD,spotD,topoD,configD,j10,r1]);(all_goals (repeat' (with_reducible apply And.intro)));(all_goals try (first | exact q8 rfl | (refine x10 ?_;omega) | (refine q8 ?_;simp;done)))
   ·rw [x18 (show c.po.peers.length ≤ i by omega),Bool.true_and] at hr
    (repeat (first | apply j0 | refine j6 rfl ?_ | refine z7 rfl ?_ | apply z6 | (refine j4 fun K hK => ?_) | (refine z5 fun K hK => ?_) | ((first | apply x5 | apply j5 | ((first | refine z3 (hK _ ?_) | refine x4 (hK _ _ z4 ?_));clear hK K));(first | show AWP _ _ _ _ _ | ((try simp only [x6]);first | show loopQ _ _ _ _ _ _ | show cutQ _ _ _ _ | show AWP _ _ _ _ _))) | ((first | refine x7 [] rfl ?_ | refine j7 [] rfl ?_);simp (disch:=omega) only [go_sem,seval,policyD,wayD,pairD,spotD,topoD,configD,j10];(repeat (first | refine ⟨by omega,?_⟩ | refine ⟨True.intro,?_⟩)))))
    refine x12 (polRK c R) (fun s => c.po.ways.length - s.val) ⟨0,Nat.zero_le _,hr⟩ ?_ (fun s => ?_)
    ·unfold polRK
     refine Weak.list ?_ ?_;(all_goals simp (disch:=omega) only [AllF,AllL,q10,z10,j9,exists_eq_left',go_sem,seval,policyD,wayD,pairD,spotD,topoD,configD,j10]);(all_goals (repeat' (with_reducible apply And.intro)));(all_goals try (first | exact q8 rfl | (refine x10 ?_;omega) | (refine q8 ?_;simp;done)))
    obtain ⟨i,hi,hr⟩ := s
    unfold polRK
    simp only [] at hi hr ⊢
    by_cases h : i < c.po.ways.length
    ·have hok : wayOk c i = (tenantP c.po (c.po.ways.getD i w0).fr && tenantP c.po (c.po.ways.getD i w0).to && decide (0 ≤ (c.po.ways.getD i w0).via) && decide ((c.po.ways.getD i w0).via < c.tp.length)) := rfl
     rw [z18 h,hok] at hr
     have r1 := z96 c.po.ways i
     generalize c.po.ways.getD i w0 = x at r1 hr
     obtain ⟨x1,x2,x3⟩ := x
     simp only [wayD] at r1
     simp only [] at hr
     have c1 := j39 c.po x1
     have c2 := j39 c.po x2
     simp only [policyD] at c1 c2
     generalize tenantP c.po x1 = b1 at c1 hr
     generalize tenantP c.po x2 = b2 at c2 hr
     cases b1
     ·simp only [Bool.false_and,if_true] at hr
      subst hr
      (repeat (first | apply j0 | refine j6 rfl ?_ | refine z7 rfl ?_ | apply z6 | (refine j4 fun K hK => ?_) | (refine z5 fun K hK => ?_) | ((first | apply x5 | apply j5 | ((first | refine z3 (hK _ ?_) | refine x4 (hK _ _ z4 ?_));clear hK K));(first | show AWP _ _ _ _ _ | ((try simp only [x6]);first | show loopQ _ _ _ _ _ _ | show cutQ _ _ _ _ | show AWP _ _ _ _ _))) | ((first | refine j8 rfl rfl rfl ?_ | refine q9 rfl rfl rfl ?_);simp (disch:=omega) only [go_sem,seval,policyD,wayD,pairD,spotD,topoD,configD,j10,r1];(first | refine ⟨_,c1,?_⟩)) | ((first | refine x7 [] rfl ?_ | refine j7 [] rfl ?_);simp (disch:=omega) only [go_sem,seval,policyD,wayD,pairD,spotD,topoD,configD,j10,r1];(repeat (first | refine ⟨by omega,?_⟩ | refine ⟨True.intro,?_⟩)))))
      refine x8 ⟨_,?_,rfl⟩;rw [Try.results86];simp (disch:=omega) only [ResVars,ResVar,ptrLoc,go_sem,seval,policyD,wayD,pairD,spotD,topoD,configD,j10,r1]
     ·cases b2
      ·simp only [Bool.true_and,Bool.false_and,if_true] at hr
       subst hr
       (repeat (first | apply j0 | refine j6 rfl ?_ | refine z7 rfl ?_ | apply z6 | (refine j4 fun K hK => ?_) | (refine z5 fun K hK => ?_) | ((first | apply x5 | apply j5 | ((first | refine z3 (hK _ ?_) | refine x4 (hK _ _ z4 ?_));clear hK K));(first | show AWP _ _ _ _ _ | ((try simp only [x6]);first | show loopQ _ _ _ _ _ _ | show cutQ _ _ _ _ | show AWP _ _ _ _ _))) | ((first | refine j8 rfl rfl rfl ?_ | refine q9 rfl rfl rfl ?_);simp (disch:=omega) only [go_sem,seval,policyD,wayD,pairD,spotD,topoD,configD,j10,r1];(first | refine ⟨_,c1,?_⟩ | refine ⟨_,c2,?_⟩)) | ((first | refine x7 [] rfl ?_ | refine j7 [] rfl ?_);simp (disch:=omega) only [go_sem,seval,policyD,wayD,pairD,spotD,topoD,configD,j10,r1];(repeat (first | refine ⟨by omega,?_⟩ | refine ⟨True.intro,?_⟩)))))
       refine x8 ⟨_,?_,rfl⟩;rw [Try.results86];simp (disch:=omega) only [ResVars,ResVar,ptrLoc,go_sem,seval,policyD,wayD,pairD,spotD,topoD,configD,j10,r1]
      ·by_cases h3 : 0 ≤ x3
       ·by_cases h4 : x3 < c.tp.length
        ·rw [decide_eq_true h3,decide_eq_true h4] at hr
         simp only [Bool.true_and] at hr
         (repeat (first | apply j0 | refine j6 rfl ?_ | refine z7 rfl ?_ | apply z6 | (refine j4 fun K hK => ?_) | (refine z5 fun K hK => ?_) | ((first | apply x5 | apply j5 | ((first | refine z3 (hK _ ?_) | refine x4 (hK _ _ z4 ?_));clear hK K));(first | show AWP _ _ _ _ _ | ((try simp only [x6]);first | show loopQ _ _ _ _ _ _ | show cutQ _ _ _ _ | show AWP _ _ _ _ _))) | ((first | refine j8 rfl rfl rfl ?_ | refine q9 rfl rfl rfl ?_);simp (disch:=omega) only [go_sem,seval,policyD,wayD,pairD,spotD,topoD,configD,j10,r1];(first | refine ⟨_,c1,?_⟩ | refine ⟨_,c2,?_⟩)) | ((first | refine x7 [] rfl ?_ | refine j7 [] rfl ?_);simp (disch:=omega) only [go_sem,seval,policyD,wayD,pairD,spotD,topoD,configD,j10,r1];(repeat (first | refine ⟨by omega,?_⟩ | refine ⟨True.intro,?_⟩)))))
         refine ⟨⟨i + 1,by omega,hr⟩,by simp only [];omega,?_⟩
         refine Weak.list ?_ ?_;(all_goals simp (disch:=omega) only [AllF,AllL,q10,z10,j9,exists_eq_left',go_sem,seval,policyD,wayD,pairD,spotD,topoD,configD,j10,r1]);(all_goals (repeat' (with_reducible apply And.intro)));(all_goals try (first | exact q8 rfl | (refine x10 ?_;omega) | (refine q8 ?_;simp;done)))
        ·rw [decide_eq_true h3,decide_eq_false h4] at hr
         simp only [Bool.true_and,Bool.false_and,if_true] at hr
         subst hr
         (repeat (first | apply j0 | refine j6 rfl ?_ | refine z7 rfl ?_ | apply z6 | (refine j4 fun K hK => ?_) | (refine z5 fun K hK => ?_) | ((first | apply x5 | apply j5 | ((first | refine z3 (hK _ ?_) | refine x4 (hK _ _ z4 ?_));clear hK K));(first | show AWP _ _ _ _ _ | ((try simp only [x6]);first | show loopQ _ _ _ _ _ _ | show cutQ _ _ _ _ | show AWP _ _ _ _ _))) | ((first | refine j8 rfl rfl rfl ?_ | refine q9 rfl rfl rfl ?_);simp (disch:=omega) only [go_sem,seval,policyD,wayD,pairD,spotD,topoD,configD,j10,r1];(first | refine ⟨_,c1,?_⟩ | refine ⟨_,c2,?_⟩)) | ((first | refine x7 [] rfl ?_ | refine j7 [] rfl ?_);simp (disch:=omega) only [go_sem,seval,policyD,wayD,pairD,spotD,topoD,configD,j10,r1];(repeat (first | refine ⟨by omega,?_⟩ | refine ⟨True.intro,?_⟩)))))
         refine x8 ⟨_,?_,rfl⟩;rw [Try.results86];simp (disch:=omega) only [ResVars,ResVar,ptrLoc,go_sem,seval,policyD,wayD,pairD,spotD,topoD,configD,j10,r1]
       ·rw [decide_eq_false h3] at hr
        simp only [Bool.true_and,Bool.false_and,if_true] at hr
        subst hr
        (repeat (first | apply j0 | refine j6 rfl ?_ | refine z7 rfl ?_ | apply z6 | (refine j4 fun K hK => ?_) | (refine z5 fun K hK => ?_) | ((first | apply x5 | apply j5 | ((first | refine z3 (hK _ ?_) | refine x4 (hK _ _ z4 ?_));clear hK K));(first | show AWP _ _ _ _ _ | ((try simp only [x6]);first | show loopQ _ _ _ _ _ _ | show cutQ _ _ _ _ | show AWP _ _ _ _ _))) | ((first | refine j8 rfl rfl rfl ?_ | refine q9 rfl rfl rfl ?_);simp (disch:=omega) only [go_sem,seval,policyD,wayD,pairD,spotD,topoD,configD,j10,r1];(first | refine ⟨_,c1,?_⟩ | refine ⟨_,c2,?_⟩)) | ((first | refine x7 [] rfl ?_ | refine j7 [] rfl ?_);simp (disch:=omega) only [go_sem,seval,policyD,wayD,pairD,spotD,topoD,configD,j10,r1];(repeat (first | refine ⟨by omega,?_⟩ | refine ⟨True.intro,?_⟩)))))
        refine x8 ⟨_,?_,rfl⟩;rw [Try.results86];simp (disch:=omega) only [ResVars,ResVar,ptrLoc,go_sem,seval,policyD,wayD,pairD,spotD,topoD,configD,j10,r1]
    ·rw [x18 (show c.po.ways.length ≤ i by omega),if_neg (by decide)] at hr
     subst hr
     (repeat (first | apply j0 | refine j6 rfl ?_ | refine z7 rfl ?_ | apply z6 | (refine j4 fun K hK => ?_) | (refine z5 fun K hK => ?_) | ((first | apply x5 | apply j5 | ((first | refine z3 (hK _ ?_) | refine x4 (hK _ _ z4 ?_));clear hK K));(first | show AWP _ _ _ _ _ | ((try simp only [x6]);first | show loopQ _ _ _ _ _ _ | show cutQ _ _ _ _ | show AWP _ _ _ _ _))) | ((first | refine x7 [] rfl ?_ | refine j7 [] rfl ?_);simp (disch:=omega) only [go_sem,seval,policyD,wayD,pairD,spotD,topoD,configD,j10];(repeat (first | refine ⟨by omega,?_⟩ | refine ⟨True.intro,?_⟩)))))
     refine x8 ⟨_,?_,rfl⟩;rw [Try.results86];simp (disch:=omega) only [ResVars,ResVar,ptrLoc,go_sem,seval,policyD,wayD,pairD,spotD,topoD,configD,j10]
 all_goals
  rw [show (if c.po.tn < 1 ∨ 4 < c.po.tn ∨ 16 < c.po.peers.length ∨ 4 < c.po.ways.length then false else sizesB c) = false from if_pos (by omega),if_pos rfl]
  refine q11 Try.func86 rfl (by decide +kernel) (by rw [Try.ntmps86];simp) ?_;rw [Try.ntmps86];simp only [frOf]
  (repeat (first | apply j0 | refine j6 rfl ?_ | refine z7 rfl ?_ | apply z6 | (refine j4 fun K hK => ?_) | (refine z5 fun K hK => ?_) | ((first | apply x5 | apply j5 | ((first | refine z3 (hK _ ?_) | refine x4 (hK _ _ z4 ?_));clear hK K));(first | show AWP _ _ _ _ _ | ((try simp only [x6]);first | show loopQ _ _ _ _ _ _ | show cutQ _ _ _ _ | show AWP _ _ _ _ _))) | ((first | refine x7 [] rfl ?_ | refine j7 [] rfl ?_);simp (disch:=omega) only [go_sem,seval,policyD,wayD,pairD,spotD,topoD,configD,j10];(repeat (first | refine ⟨by omega,?_⟩ | refine ⟨True.intro,?_⟩)))))
  refine x8 ⟨_,?_,rfl⟩;rw [Try.results86];simp (disch:=omega) only [ResVars,ResVar,ptrLoc,go_sem,seval,policyD,wayD,pairD,spotD,topoD,configD,j10]
def soundCRI (c : Config) (R : Int) (s : {i : Nat // i ≤ c.tb.length ∧ errF (tabE c) (c.tb.length - i) i = R}) : ASt :=
 ⟨[(4,.p (.d (.v (.int .i64 (s.val : Int))))),(1,.p (.d (.bx (configD c))))],[]⟩
set_option maxRecDepth 100000 in
theorem j163 (c : Config) (hc : c.small) : ACalls Try.prog 55 [.agg (configD c)] (· = [.d (.v (.int .i64 (soundC c)))]) := by
 have s1 := z155 c.tp hc.tp
 have s2 := x163 c hc
 have htp := hc.tp
 have hat := hc.at
 have hb := hc.tb
 have hb2 := hc.tp.1
 unfold soundC
 simp only [topoD] at s1
 simp only [topoD,policyD] at s2
 generalize soundT c.tp = e1 at s1
 generalize polE c = e2 at s2
 by_cases h1 : e1 = 0
 ·subst h1
  rw [if_neg (by decide)]
  by_cases h2 : e2 = 0
  ·subst h2
   rw [if_neg (by decide)]
   by_cases h4 : c.tb.length = c.tp.length
   ·rw [if_neg (by omega)]
    have q : ((c.tb.length : Int) != (c.tp.length : Int)) = false := x13 (by omega)
    generalize hR : errF (tabE c) c.tb.length 0 = R
    refine q11 Try.func55 rfl (by decide +kernel) (by rw [Try.ntmps55];simp) ?_;rw [Try.ntmps55];simp only [frOf]
    (repeat (first | apply j0 | refine j6 rfl ?_ | refine z7 rfl ?_ | apply z6 | (refine j4 fun K hK => ?_) | (refine z5 fun K hK => ?_) | ((first | apply x5 | apply j5 | ((first | refine z3 (hK _ ?_) | refine x4 (hK _ _ z4 ?_));clear hK K));(first | show AWP _ _ _ _ _ | ((try simp only [x6]);first | show loopQ _ _ _ _ _ _ | show cutQ _ _ _ _ | show AWP _ _ _ _ _))) | ((first | refine j8 rfl rfl rfl ?_ | refine q9 rfl rfl rfl ?_);simp (disch:=omega) only [go_sem,seval,policyD,wayD,pairD,spotD,topoD,configD,j10,q];(first | refine ⟨_,s1,?_⟩ | refine ⟨_,s2,?_⟩)) | ((first | refine x7 [] rfl ?_ | refine j7 [] rfl ?_);simp (disch:=omega) only [go_sem,seval,policyD,wayD,pairD,spotD,topoD,configD,j10,q];(repeat (first | refine ⟨by omega,?_⟩ | refine ⟨True.intro,?_⟩)))))
    refine x12 (soundCRI c R) (fun s => c.tb.length - s.val) ⟨0,Nat.zero_le _,hR⟩ ?_ (fun s => ?_)
    ·unfold soundCRI
     refine Weak.list ?_ ?_;(all_goals simp (disch:=omega) only [AllF,AllL,q10,z10,j9,exists_eq_left',go_sem,seval,policyD,wayD,pairD,spotD,topoD,configD,j10]);(all_goals (repeat' (with_reducible apply And.intro)));(all_goals try (first | exact q8 rfl | (refine x10 ?_;omega) | (refine q8 ?_;simp;done)))
    obtain ⟨i,hi,hr⟩ := s
    unfold soundCRI
    simp only [] at hi hr ⊢
    by_cases h : i < c.tb.length
    ·rw [z104 h] at hr
     have r1 := q53 c.tb i
     have r2 := q19 c.tp i
     have ct := j156 (c.tb.getD i []) (c.tp.getD i []) (hat i) (q20 htp i)
     have hte : tabE c i = soundTab (c.tb.getD i []) (c.tp.getD i []) := rfl
     rw [hte] at hr
     have l1 := q20 htp i
     have l2 := (hat i).1
     generalize soundTab (c.tb.getD i []) (c.tp.getD i []) = e at hr ct
     generalize c.tb.getD i [] = ts at r1 ct l2
     generalize c.tp.getD i [] = ps at r2 ct l1
     by_cases he : e = 0
     ·subst he
      rw [if_pos rfl] at hr
      (repeat (first | apply j0 | refine j6 rfl ?_ | refine z7 rfl ?_ | apply z6 | (refine j4 fun K hK => ?_) | (refine z5 fun K hK => ?_) | ((first | apply x5 | apply j5 | ((first | refine z3 (hK _ ?_) | refine x4 (hK _ _ z4 ?_));clear hK K));(first | show AWP _ _ _ _ _ | ((try simp only [x6]);first | show loopQ _ _ _ _ _ _ | show cutQ _ _ _ _ | show AWP _ _ _ _ _))) | ((first | refine j8 rfl rfl rfl ?_ | refine q9 rfl rfl rfl ?_);simp (disch:=omega) only [go_sem,seval,policyD,wayD,pairD,spotD,topoD,configD,j10,r1,r2];(first | refine ⟨_,ct,?_⟩)) | ((first | refine x7 [] rfl ?_ | refine j7 [] rfl ?_);simp (disch:=omega) only [go_sem,seval,policyD,wayD,pairD,spotD,topoD,configD,j10,r1,r2];(repeat (first | refine ⟨by omega,?_⟩ | refine ⟨True.intro,?_⟩)))))
      refine ⟨⟨i + 1,by omega,hr⟩,by simp only [];omega,?_⟩
      refine Weak.list ?_ ?_;(all_goals simp (disch:=omega) only [AllF,AllL,q10,z10,j9,exists_eq_left',go_sem,seval,policyD,wayD,pairD,spotD,topoD,configD,j10,r1,r2]);(all_goals (repeat' (with_reducible apply And.intro)));(all_goals try (first | exact q8 rfl | (refine x10 ?_;omega) | (refine q8 ?_;simp;done)))
     ·rw [if_neg he] at hr
      have q2 : (e != 0) = true := z12 he
      subst hr
      (repeat (first | apply j0 | refine j6 rfl ?_ | refine z7 rfl ?_ | apply z6 | (refine j4 fun K hK => ?_) | (refine z5 fun K hK => ?_) | ((first | apply x5 | apply j5 | ((first | refine z3 (hK _ ?_) | refine x4 (hK _ _ z4 ?_));clear hK K));(first | show AWP _ _ _ _ _ | ((try simp only [x6]);first | show loopQ _ _ _ _ _ _ | show cutQ _ _ _ _ | show AWP _ _ _ _ _))) | ((first | refine j8 rfl rfl rfl ?_ | refine q9 rfl rfl rfl ?_);simp (disch:=omega) only [go_sem,seval,policyD,wayD,pairD,spotD,topoD,configD,j10,r1,r2,q2];(first | refine ⟨_,ct,?_⟩)) | ((first | refine x7 [] rfl ?_ | refine j7 [] rfl ?_);simp (disch:=omega) only [go_sem,seval,policyD,wayD,pairD,spotD,topoD,configD,j10,r1,r2,q2];(repeat (first | refine ⟨by omega,?_⟩ | refine ⟨True.intro,?_⟩)))))
      refine x8 ⟨_,?_,rfl⟩;rw [Try.results55];simp (disch:=omega) only [ResVars,ResVar,ptrLoc,go_sem,seval,policyD,wayD,pairD,spotD,topoD,configD,j10,r1,r2,q2]
    ·rw [x104 (show c.tb.length ≤ i by omega)] at hr
     subst hr
     (repeat (first | apply j0 | refine j6 rfl ?_ | refine z7 rfl ?_ | apply z6 | (refine j4 fun K hK => ?_) | (refine z5 fun K hK => ?_) | ((first | apply x5 | apply j5 | ((first | refine z3 (hK _ ?_) | refine x4 (hK _ _ z4 ?_));clear hK K));(first | show AWP _ _ _ _ _ | ((try simp only [x6]);first | show loopQ _ _ _ _ _ _ | show cutQ _ _ _ _ | show AWP _ _ _ _ _))) | ((first | refine x7 [] rfl ?_ | refine j7 [] rfl ?_);simp (disch:=omega) only [go_sem,seval,policyD,wayD,pairD,spotD,topoD,configD,j10];(repeat (first | refine ⟨by omega,?_⟩ | refine ⟨True.intro,?_⟩)))))
     refine x8 ⟨_,?_,rfl⟩;rw [Try.results55];simp (disch:=omega) only [ResVars,ResVar,ptrLoc,go_sem,seval,policyD,wayD,pairD,spotD,topoD,configD,j10]
   ·rw [if_pos h4]
    have q : ((c.tb.length : Int) != (c.tp.length : Int)) = true := z12 (by omega)
    refine q11 Try.func55 rfl (by decide +kernel) (by rw [Try.ntmps55];simp) ?_;rw [Try.ntmps55];simp only [frOf]
    (repeat (first | apply j0 | refine j6 rfl ?_ | refine z7 rfl ?_ | apply z6 | (refine j4 fun K hK => ?_) | (refine z5 fun K hK => ?_) | ((first | apply x5 | apply j5 | ((first | refine z3 (hK _ ?_) | refine x4 (hK _ _ z4 ?_));clear hK K));(first | show AWP _ _ _ _ _ | ((try simp only [x6]);first | show loopQ _ _ _ _ _ _ | show cutQ _ _ _ _ | show AWP _ _ _ _ _))) | ((first | refine j8 rfl rfl rfl ?_ | refine q9 rfl rfl rfl ?_);simp (disch:=omega) only [go_sem,seval,policyD,wayD,pairD,spotD,topoD,configD,j10,q];(first | refine ⟨_,s1,?_⟩ | refine ⟨_,s2,?_⟩)) | ((first | refine x7 [] rfl ?_ | refine j7 [] rfl ?_);simp (disch:=omega) only [go_sem,seval,policyD,wayD,pairD,spotD,topoD,configD,j10,q];(repeat (first | refine ⟨by omega,?_⟩ | refine ⟨True.intro,?_⟩)))))
    refine x8 ⟨_,?_,rfl⟩;rw [Try.results55];simp (disch:=omega) only [ResVars,ResVar,ptrLoc,go_sem,seval,policyD,wayD,pairD,spotD,topoD,configD,j10,q]
  ·rw [if_pos h2]
   have q : (e2 != 0) = true := z12 h2
   refine q11 Try.func55 rfl (by decide +kernel) (by rw [Try.ntmps55];simp) ?_;rw [Try.ntmps55];simp only [frOf]
   (repeat (first | apply j0 | refine j6 rfl ?_ | refine z7 rfl ?_ | apply z6 | (refine j4 fun K hK => ?_) | (refine z5 fun K hK => ?_) | ((first | apply x5 | apply j5 | ((first | refine z3 (hK _ ?_) | refine x4 (hK _ _ z4 ?_));clear hK K));(first | show AWP _ _ _ _ _ | ((try simp only [x6]);first | show loopQ _ _ _ _ _ _ | show cutQ _ _ _ _ | show AWP _ _ _ _ _))) | ((first | refine j8 rfl rfl rfl ?_ | refine q9 rfl rfl rfl ?_);simp (disch:=omega) only [go_sem,seval,policyD,wayD,pairD,spotD,topoD,configD,j10,q];(first | refine ⟨_,s1,?_⟩ | refine ⟨_,s2,?_⟩)) | ((first | refine x7 [] rfl ?_ | refine j7 [] rfl ?_);simp (disch:=omega) only [go_sem,seval,policyD,wayD,pairD,spotD,topoD,configD,j10,q];(repeat (first | refine ⟨by omega,?_⟩ | refine ⟨True.intro,?_⟩)))))
   refine x8 ⟨_,?_,rfl⟩;rw [Try.results55];simp (disch:=omega) only [ResVars,ResVar,ptrLoc,go_sem,seval,policyD,wayD,pairD,spotD,topoD,configD,j10,q]
 ·rw [if_pos h1]
  have q : (e1 != 0) = true := z12 h1
  refine q11 Try.func55 rfl (by decide +kernel) (by rw [Try.ntmps55];simp) ?_;rw [Try.ntmps55];simp only [frOf]
  (repeat (first | apply j0 | refine j6 rfl ?_ | refine z7 rfl ?_ | apply z6 | (refine j4 fun K hK => ?_) | (refine z5 fun K hK => ?_) | ((first | apply x5 | apply j5 | ((first | refine z3 (hK _ ?_) | refine x4 (hK _ _ z4 ?_));clear hK K));(first | show AWP _ _ _ _ _ | ((try simp only [x6]);first | show loopQ _ _ _ _ _ _ | show cutQ _ _ _ _ | show AWP _ _ _ _ _))) | ((first | refine j8 rfl rfl rfl ?_ | refine q9 rfl rfl rfl ?_);simp (disch:=omega) only [go_sem,seval,policyD,wayD,pairD,spotD,topoD,configD,j10,q];(first | refine ⟨_,s1,?_⟩)) | ((first | refine x7 [] rfl ?_ | refine j7 [] rfl ?_);simp (disch:=omega) only [go_sem,seval,policyD,wayD,pairD,spotD,topoD,configD,j10,q];(repeat (first | refine ⟨by omega,?_⟩ | refine ⟨True.intro,?_⟩)))))
  refine x8 ⟨_,?_,rfl⟩;rw [Try.results55];simp (disch:=omega) only [ResVars,ResVar,ptrLoc,go_sem,seval,policyD,wayD,pairD,spotD,topoD,configD,j10,q]
def spotI (l : List Spot) (x : Spot) (q : Nat → Bool) (R : Int) (s : {i : Nat // i ≤ l.length ∧ idxN q (l.length - i) i = R}) : ASt :=
 ⟨[(8,.p (.d (.v (.int .i64 (s.val : Int))))),(7,.p (.d (.v (.int .i64 (l.length : Int))))),(3,.p (.d (.bx (spotD x)))),(0,.p (.d (.sl 2 l.length (rowS l))))],[]⟩
theorem q164 (a b : Spot) : eqI [a.sw,a.po] [b.sw,b.po] = (a == b) := by
 obtain ⟨a1,a2⟩ := a
 obtain ⟨b1,b2⟩ := b
 rw [Bool.eq_iff_iff]
 simp [eqI]
theorem z164 (l : List Spot) (x : Spot) (hl : l.length ≤ 1099511627776) :
  ACalls Try.prog 111 [.d (.sl 2 l.length (rowS l)),.agg (spotD x)] (· = [.d (.v (.int .i64 (idxN (fun i => x == l.getD i s0) l.length 0)))]) := by
 have hstep := fun i (h : i < l.length) => x155 (q := fun i => x == l.getD i s0) h
 have hq : ∀ i,(fun i => x == l.getD i s0) i = (x == l.getD i s0) := fun i => rfl
 generalize (fun i => x == l.getD i s0) = q at hstep hq
 generalize hR : idxN q l.length 0 = R
 refine q11 Try.func111 rfl (by decide +kernel) (by rw [Try.ntmps111];simp) ?_;rw [Try.ntmps111];simp only [frOf]
 (repeat (first | apply j0 | refine j6 rfl ?_ | refine z7 rfl ?_ | apply z6 | (refine j4 fun K hK => ?_) | (refine z5 fun K hK => ?_) | ((first | apply x5 | apply j5 | ((first | refine z3 (hK _ ?_) | refine x4 (hK _ _ z4 ?_));clear hK K));(first | show AWP _ _ _ _ _ | ((try simp only [x6]);first | show loopQ _ _ _ _ _ _ | show cutQ _ _ _ _ | show AWP _ _ _ _ _))) | ((first | refine x7 [] rfl ?_ | refine j7 [] rfl ?_);simp (disch:=omega) only [go_sem,seval,policyD,wayD,spotD,j10];(repeat (first | refine ⟨by omega,?_⟩ | refine ⟨True.intro,?_⟩)))))
 refine x12 (spotI l x q R) (fun s => l.length - s.val) ⟨0,Nat.zero_le _,hR⟩ ?_ (fun s => ?_)
 ·unfold spotI
  refine Weak.list ?_ ?_;(all_goals simp (disch:=omega) only [AllF,AllL,q10,z10,j9,exists_eq_left',go_sem,seval,policyD,wayD,spotD,j10]);(all_goals (repeat' (with_reducible apply And.intro)));(all_goals try (first | exact q8 rfl | (refine x10 ?_;omega) | (refine q8 ?_;simp;done)))
 obtain ⟨i,h1,h2⟩ := s
 unfold spotI
 simp only [] at h1 h2 ⊢
 by_cases h : i < l.length
 ·have r1 := z39 l i
  rw [hstep i h] at h2
  generalize l.getD i s0 = y at r1 h2
  have e := q164 x y
  generalize (x == y) = b at e h2
  simp only [spotD] at r1
  cases b
  ·simp only [Bool.false_eq_true,if_false] at h2
   (repeat (first | apply j0 | refine j6 rfl ?_ | refine z7 rfl ?_ | apply z6 | (refine j4 fun K hK => ?_) | (refine z5 fun K hK => ?_) | ((first | apply x5 | apply j5 | ((first | refine z3 (hK _ ?_) | refine x4 (hK _ _ z4 ?_));clear hK K));(first | show AWP _ _ _ _ _ | ((try simp only [x6]);first | show loopQ _ _ _ _ _ _ | show cutQ _ _ _ _ | show AWP _ _ _ _ _))) | ((first | refine x7 [] rfl ?_ | refine j7 [] rfl ?_);simp (disch:=omega) only [go_sem,seval,policyD,wayD,spotD,j10,r1,e];(repeat (first | refine ⟨by omega,?_⟩ | refine ⟨True.intro,?_⟩)))))
   refine ⟨⟨i + 1,by omega,h2⟩,by simp only [];omega,?_⟩
   refine Weak.list ?_ ?_;(all_goals simp (disch:=omega) only [AllF,AllL,q10,z10,j9,exists_eq_left',go_sem,seval,policyD,wayD,spotD,j10,r1,e]);(all_goals (repeat' (with_reducible apply And.intro)));(all_goals try (first | exact q8 rfl | (refine x10 ?_;omega) | (refine q8 ?_;simp;done)))
  ·simp only [if_true] at h2
   subst h2
   (repeat (first | apply j0 | refine j6 rfl ?_ | refine z7 rfl ?_ | apply z6 | (refine j4 fun K hK => ?_) | (refine z5 fun K hK => ?_) | ((first | apply x5 | apply j5 | ((first | refine z3 (hK _ ?_) | refine x4 (hK _ _ z4 ?_));clear hK K));(first | show AWP _ _ _ _ _ | ((try simp only [x6]);first | show loopQ _ _ _ _ _ _ | show cutQ _ _ _ _ | show AWP _ _ _ _ _))) | ((first | refine x7 [] rfl ?_ | refine j7 [] rfl ?_);simp (disch:=omega) only [go_sem,seval,policyD,wayD,spotD,j10,r1,e];(repeat (first | refine ⟨by omega,?_⟩ | refine ⟨True.intro,?_⟩)))))
   refine x8 ⟨_,?_,rfl⟩;rw [Try.results111];simp (disch:=omega) only [ResVars,ResVar,ptrLoc,go_sem,seval,policyD,wayD,spotD,j10,r1,e]
 ·rw [j155 (by omega)] at h2
  subst h2
  (repeat (first | apply j0 | refine j6 rfl ?_ | refine z7 rfl ?_ | apply z6 | (refine j4 fun K hK => ?_) | (refine z5 fun K hK => ?_) | ((first | apply x5 | apply j5 | ((first | refine z3 (hK _ ?_) | refine x4 (hK _ _ z4 ?_));clear hK K));(first | show AWP _ _ _ _ _ | ((try simp only [x6]);first | show loopQ _ _ _ _ _ _ | show cutQ _ _ _ _ | show AWP _ _ _ _ _))) | ((first | refine x7 [] rfl ?_ | refine j7 [] rfl ?_);simp (disch:=omega) only [go_sem,seval,policyD,wayD,spotD,j10];(repeat (first | refine ⟨by omega,?_⟩ | refine ⟨True.intro,?_⟩)))))
  refine x8 ⟨_,?_,rfl⟩;rw [Try.results111];simp (disch:=omega) only [ResVars,ResVar,ptrLoc,go_sem,seval,policyD,wayD,spotD,j10]
theorem x164 (l : List Spot) (x : Spot) (hl : l.length ≤ 1099511627776) : ACalls Try.prog 83 [.d (.sl 2 l.length (rowS l)),.agg (spotD x)] (· = [.d (.v (.bool (l.contains x)))]) := by
 have c := z164 l x hl
 have e := j96 (q := fun i => x == l.getD i s0) (m := l.length) (i := 0)
 rw [q156 l s0 (fun y => x == y),List.any_beq] at e
 rw [← e]
 generalize idxN (fun i => x == l.getD i s0) l.length 0 = r at c
 simp only [spotD] at c
 refine q11 Try.func83 rfl (by decide +kernel) (by rw [Try.ntmps83];simp) ?_;rw [Try.ntmps83];simp only [frOf]
 (repeat (first | apply j0 | refine j6 rfl ?_ | refine z7 rfl ?_ | apply z6 | (refine j4 fun K hK => ?_) | (refine z5 fun K hK => ?_) | ((first | apply x5 | apply j5 | ((first | refine z3 (hK _ ?_) | refine x4 (hK _ _ z4 ?_));clear hK K));(first | show AWP _ _ _ _ _ | ((try simp only [x6]);first | show loopQ _ _ _ _ _ _ | show cutQ _ _ _ _ | show AWP _ _ _ _ _))) | ((first | refine j8 rfl rfl rfl ?_ | refine q9 rfl rfl rfl ?_);simp (disch:=omega) only [go_sem,seval,policyD,wayD,spotD,j10];(first | refine ⟨_,c,?_⟩)) | ((first | refine x7 [] rfl ?_ | refine j7 [] rfl ?_);simp (disch:=omega) only [go_sem,seval,policyD,wayD,spotD,j10];(repeat (first | refine ⟨by omega,?_⟩ | refine ⟨True.intro,?_⟩)))))
 refine x8 ⟨_,?_,rfl⟩;rw [Try.results83];simp (disch:=omega) only [ResVars,ResVar,ptrLoc,go_sem,seval,policyD,wayD,spotD,j10]
theorem j54 (n j : Nat) (hj : j < 128) : (ones n).getLsbD j = decide (j < n) := by
 unfold ones
 rw [BitVec.getLsbD_ofNat,Nat.testBit_two_pow_sub_one]
 simp [hj]
theorem j104 (x : BitVec 64) : (bvi x != 0) = (x != 0) := by
 have := z66 (a := x) (b := 0)
 rw [show bvi 0 = 0 from by decide] at this
 show (!(bvi x == 0)) = !(x == 0)
 rw [this]
theorem j164 (b : Nat) (v : BitVec 64) (hb : b ≤ 64) : over b v = (decide (b < 64) && (bvi v / 2 ^ min b 64 != 0)) := by
 unfold over
 rw [j65]
 have e : lo (ones b) = bvi ((ones b).extractLsb' 0 64) := rfl
 rw [e,x65,j104,j104]
 have k1 : (v &&& ~~~((ones b).extractLsb' 0 64)) = 0 ↔ ∀ i,i < 64 → v.getLsbD i = true → i < b := by
  constructor
  ·intro h i hi hv
   have := congrArg (fun z => z.getLsbD i) h
   simp only [BitVec.getLsbD_and,BitVec.getLsbD_not,BitVec.getLsbD_extractLsb',Nat.zero_add,j54 b i (by omega),hi,hv,decide_true,Bool.true_and] at this
   simpa using this
  ·intro h
   apply BitVec.eq_of_getLsbD_eq
   intro i hi
   simp only [BitVec.getLsbD_and,BitVec.getLsbD_not,BitVec.getLsbD_extractLsb',Nat.zero_add,j54 b i (by omega),hi,decide_true,Bool.true_and]
   cases hv : v.getLsbD i
   ·simp
   ·simp [h i hi hv]
 have k2 : v >>> b = 0 ↔ ∀ i,i < 64 → v.getLsbD i = true → i < b := by
  constructor
  ·intro h i hi hv
   refine Nat.lt_of_not_le fun hle => ?_
   have := congrArg (fun z => z.getLsbD (i - b)) h
   simp only [BitVec.getLsbD_ushiftRight,show b + (i - b) = i from by omega,hv] at this
   simp at this
  ·intro h
   apply BitVec.eq_of_getLsbD_eq
   intro i hi
   rw [BitVec.getLsbD_ushiftRight]
   cases hv : v.getLsbD (b + i)
   ·simp
   ·have h1 : b + i < 64 := by
     refine Nat.lt_of_not_le fun hle => ?_
     rw [BitVec.getLsbD_of_ge v (b + i) hle] at hv;cases hv
    have := h (b + i) h1 hv;omega
 by_cases h64 : b < 64
 ·rw [decide_eq_true h64,Bool.true_and]
  have : ((v &&& ~~~((ones b).extractLsb' 0 64)) = 0) = (v >>> b = 0) := propext (k1.trans k2.symm)
  rw [Bool.eq_iff_iff,bne_iff_ne,bne_iff_ne,ne_eq,ne_eq,this]
 ·rw [decide_eq_false h64,Bool.false_and]
  have : (v &&& ~~~((ones b).extractLsb' 0 64)) = 0 := k1.2 fun i hi _ => by omega
  rw [this];rfl
def wordOf (n : Int) : BitVec 64 := BitVec.ofNat 64 n.toNat
theorem z71 {n : Int} (h1 : 0 ≤ n) (h2 : n < 9223372036854775808) : bvi (wordOf n) = n := by
 unfold bvi wordOf
 rw [BitVec.toNat_ofNat]
 omega
theorem q165 (b : Nat) (n : Int) (h1 : 0 ≤ n) (h2 : n < 2 ^ b) (hb : b ≤ 32) : over b (wordOf n) = false := by
 have hlt : n < 9223372036854775808 := Int.lt_of_lt_of_le h2 (by
  have : (2 : Int) ^ b ≤ 2 ^ 32 := by
   have h := Nat.pow_le_pow_right (show 1 ≤ 2 by decide) hb
   exact_mod_cast h
  omega)
 rw [j164 b _ (by omega),z71 h1 hlt,show min b 64 = b by omega,Int.ediv_eq_zero_of_lt h1 h2]
 simp
def stampV (tn v : Int) : Cube := mkC (putB (putB 0 88 24 (wordOf (tn + 1))) 112 8 (wordOf v)) (ones 40 <<< 88)
def edgesHas (t : List (List Port)) (s : Spot) : Bool := (edgesT t).contains s
def stampE (c : Config) (s : Spot) (v : Int) : Int := if soundC c ≠ 0 then soundC c else if v < 0 ∨ 255 < v then 4 else if edgesHas c.tp s = false then 7 else 0
def stampC (c : Config) (s : Spot) (v : Int) : Cube := if stampE c s v = 0 then stampV (edgeT c.tp s) v else ⟨0,0⟩
theorem z165 {t : List (List Port)} (h : soundT t = 0) {i j : Nat} (hi : i < t.length) (hj : j < (t.getD i []).length) : portT t i j = true := by
 unfold soundT at h
 split at h
 ·cases h
 ·split at h
  ·cases h
  ·split at h
   ·rename_i h3
    have h4 := z52.1 h3 i (Nat.zero_le _) hi
    exact z52.1 h4 j (Nat.zero_le _) hj
   ·cases h
theorem q105 {t : List (List Port)} (h : soundT t = 0) {s : Spot} (hs : s ∈ edgesT t) : 0 ≤ edgeT t s ∧ edgeT t s < 4 := by
 obtain ⟨i,j,e1,h1,h2,h3⟩ := x69 hs
 obtain ⟨i',j',g1,g2,g3,g4⟩ := q68.1 hs
 have e2 : i' = i ∧ j' = j := by
  rw [e1] at g4
  have a1 := congrArg Spot.sw g4
  have a2 := congrArg Spot.po g4
  simp only [] at a1 a2
  omega
 obtain ⟨rfl,rfl⟩ := e2
 have hp := z165 h h1 h2
 rw [h3]
 unfold portT at hp
 simp only [] at hp
 rw [if_neg (by omega),if_pos g3] at hp
 simp only [Bool.and_eq_true,decide_eq_true_eq] at hp
 exact ⟨hp.1.1.1.1,hp.1.1.1.2⟩
theorem z105 (a b n : Int) (h1 : 0 ≤ n) (h2 : n < 2 ^ b.toNat) (hb : b.toNat ≤ 32) (hf : fieldB a b 64 = true) : putE a b (wordOf n) = 0 := by
 unfold putE
 rw [hf,q165 b.toNat n h1 h2 hb];rfl
theorem q55 : cb ⟨0,0⟩ = [.v (.int .u64 0),.v (.int .u64 0),.v (.int .u64 0),.v (.int .u64 0)] := by unfold cb;simp only [q17,z17]
set_option maxRecDepth 100000 in
theorem x165 (c : Config) (s : Spot) (v : Int) (hc : c.small) (hv : -9223372036854775808 ≤ v ∧ v < 9223372036854775808) : ACalls Try.prog 50 [.agg (configD c),.agg (spotD s),.d (.v (.int .i64 v))] (· = [.agg (cb (stampC c s v)),.d (.v (.int .i64 (stampE c s v)))]) := by
 have s1 := q71 c hc
 have eb := q27 hc.tp c.tp.length
 have et := hc.tp.1
 rw [show edgesTo c.tp c.tp.length = edgesT c.tp from rfl] at eb
 have ed := z68 c.tp hc.tp
 have ct := x164 (edgesT c.tp) s (by omega)
 have fail : stampE c s v ≠ 0 → stampC c s v = ⟨0,0⟩ := fun h => if_neg h
 simp only [configD] at s1
 simp only [topoD] at ed
 simp only [spotD] at ct
 have hst : stampE c s v = if soundC c ≠ 0 then soundC c else if v < 0 ∨ 255 < v then 4 else if (edgesT c.tp).contains s = false then 7 else 0 := rfl
 by_cases h1 : soundC c = 0
 ·rw [if_neg (by omega)] at hst
  rw [h1] at s1
  by_cases h2 : v < 0 ∨ 255 < v
  ·rw [if_pos h2] at hst
   rw [fail (by rw [hst];decide),hst,q55]
   by_cases h3 : v < 0
   all_goals
    refine q11 Try.func50 rfl (by decide +kernel) (by rw [Try.ntmps50];simp) ?_;rw [Try.ntmps50];simp only [frOf]
    (repeat (first | apply j0 | refine j6 rfl ?_ | refine z7 rfl ?_ | apply z6 | (refine j4 fun K hK => ?_) | (refine z5 fun K hK => ?_) | ((first | apply x5 | apply j5 | ((first | refine z3 (hK _ ?_) | refine x4 (hK _ _ z4 ?_));clear hK K));(first | show AWP _ _ _ _ _ | ((try simp only [x6]);first | show loopQ _ _ _ _ _ _ | show cutQ _ _ _ _ | show AWP _ _ _ _ _))) | ((first | refine j8 rfl rfl rfl ?_ | refine q9 rfl rfl rfl ?_);simp (disch:=omega) only [go_sem,seval,policyD,topoD,configD,spotD,hd,cb];(first | refine ⟨_,s1,?_⟩)) | ((first | refine x7 [] rfl ?_ | refine j7 [] rfl ?_);simp (disch:=omega) only [go_sem,seval,policyD,topoD,configD,spotD,hd,cb];(repeat (first | refine ⟨by omega,?_⟩ | refine ⟨True.intro,?_⟩)))))
    refine x8 ⟨_,?_,rfl⟩;rw [Try.results50];simp (disch:=omega) only [ResVars,ResVar,ptrLoc,go_sem,seval,policyD,topoD,configD,spotD,hd,cb]
  ·rw [if_neg h2] at hst
   cases hq : (edgesT c.tp).contains s
   ·rw [hq] at ct
    rw [if_pos hq] at hst
    rw [fail (by rw [hst];decide),hst,q55]
    generalize edgesT c.tp = l at ed ct
    refine q11 Try.func50 rfl (by decide +kernel) (by rw [Try.ntmps50];simp) ?_;rw [Try.ntmps50];simp only [frOf]
    (repeat (first | apply j0 | refine j6 rfl ?_ | refine z7 rfl ?_ | apply z6 | (refine j4 fun K hK => ?_) | (refine z5 fun K hK => ?_) | ((first | apply x5 | apply j5 | ((first | refine z3 (hK _ ?_) | refine x4 (hK _ _ z4 ?_));clear hK K));(first | show AWP _ _ _ _ _ | ((try simp only [x6]);first | show loopQ _ _ _ _ _ _ | show cutQ _ _ _ _ | show AWP _ _ _ _ _))) | ((first | refine j8 rfl rfl rfl ?_ | refine q9 rfl rfl rfl ?_);simp (disch:=omega) only [go_sem,seval,policyD,topoD,configD,spotD,hd,cb];(first | refine ⟨_,s1,?_⟩ | refine ⟨_,ed,?_⟩ | refine ⟨_,ct,?_⟩)) | ((first | refine x7 [] rfl ?_ | refine j7 [] rfl ?_);simp (disch:=omega) only [go_sem,seval,policyD,topoD,configD,spotD,hd,cb];(repeat (first | refine ⟨by omega,?_⟩ | refine ⟨True.intro,?_⟩)))))
    refine x8 ⟨_,?_,rfl⟩;rw [Try.results50];simp (disch:=omega) only [ResVars,ResVar,ptrLoc,go_sem,seval,policyD,topoD,configD,spotD,hd,cb]
   ·rw [hq] at ct
    rw [if_neg (by rw [hq];decide)] at hst
    have hs0 : soundT c.tp = 0 := by
     refine Classical.byContradiction fun h => ?_
     unfold soundC at h1
     rw [if_pos h] at h1
     exact h h1
    have hmem : s ∈ edgesT c.tp := by simpa using hq
    obtain ⟨tn1,tn2⟩ := q105 hs0 hmem
    obtain ⟨i,j,e1,b1,b2,e2⟩ := x69 hmem
    have hsc : stampC c s v = stampV (edgeT c.tp s) v := if_pos hst
    rw [hsc,hst]
    unfold stampV
    generalize edgeT c.tp s = tn at tn1 tn2 e2
    have hv0 : 0 ≤ v := by omega
    have p1 := Put_c 0 88 24 (wordOf (tn + 1)) (by omega)
    rw [z105 88 24 (tn + 1) (by omega) (by simp;omega) (by decide) (by decide),if_pos rfl,z71 (by omega) (by omega)] at p1
    have p2 := Put_c (putB 0 (88 : Int).toNat (24 : Int).toNat (wordOf (tn + 1))) 112 8 (wordOf v) (by omega)
    rw [z105 112 8 v hv0 (by simp;omega) (by decide) (by decide),if_pos rfl,z71 hv0 (by omega)] at p2
    have mk := Mask_c 88 40 (by omega)
    rw [show fieldB 88 40 128 = true from by decide,if_pos rfl,if_pos rfl] at mk
    generalize hk1 : ones (40 : Int).toNat <<< (88 : Int).toNat = care at mk
    generalize hk2 : putB 0 (88 : Int).toNat (24 : Int).toNat (wordOf (tn + 1)) = x1 at p1 p2
    generalize hk3 : putB x1 (112 : Int).toNat (8 : Int).toNat (wordOf v) = x2 at p2
    have km := j67 x2 care
    have r1 := q19 c.tp i
    have r2 := q22 (c.tp.getD i []) j
    have l1 := q20 hc.tp i
    generalize edgesT c.tp = l at ed ct
    generalize c.tp.getD i [] = ps at r1 r2 b2 e2 l1
    generalize ps.getD j p0 = p at r2 e2
    obtain ⟨kd,pt,pe,at',co⟩ := p
    simp only [portD] at r2
    simp only [] at e2
    subst e2
    subst e1
    simp only [hd] at p1 p2 mk km
    simp only [q17,z17] at p1
    refine q11 Try.func50 rfl (by decide +kernel) (by rw [Try.ntmps50];simp) ?_;rw [Try.ntmps50];simp only [frOf]
    (repeat (first | apply j0 | refine j6 rfl ?_ | refine z7 rfl ?_ | apply z6 | (refine j4 fun K hK => ?_) | (refine z5 fun K hK => ?_) | ((first | apply x5 | apply j5 | ((first | refine z3 (hK _ ?_) | refine x4 (hK _ _ z4 ?_));clear hK K));(first | show AWP _ _ _ _ _ | ((try simp only [x6]);first | show loopQ _ _ _ _ _ _ | show cutQ _ _ _ _ | show AWP _ _ _ _ _))) | ((first | refine j8 rfl rfl rfl ?_ | refine q9 rfl rfl rfl ?_);simp (disch:=omega) only [go_sem,seval,policyD,topoD,configD,spotD,hd,cb,r1,r2];(first | refine ⟨_,s1,?_⟩ | refine ⟨_,ed,?_⟩ | refine ⟨_,ct,?_⟩ | refine ⟨_,mk,?_⟩ | refine ⟨_,p1,?_⟩ | refine ⟨_,p2,?_⟩ | refine ⟨_,km,?_⟩)) | ((first | refine x7 [] rfl ?_ | refine j7 [] rfl ?_);simp (disch:=omega) only [go_sem,seval,policyD,topoD,configD,spotD,hd,cb,r1,r2];(repeat (first | refine ⟨by omega,?_⟩ | refine ⟨True.intro,?_⟩)))))
    refine x8 ⟨_,?_,rfl⟩;rw [Try.results50];simp (disch:=omega) only [ResVars,ResVar,ptrLoc,go_sem,seval,policyD,topoD,configD,spotD,hd,cb,r1,r2]
    subst hk3 hk2 hk1
    rfl
 ·rw [if_pos h1] at hst
  rw [fail (by rw [hst];exact h1),hst,q55]
  have q : (soundC c != 0) = true := z12 h1
  generalize soundC c = e at s1 q
  refine q11 Try.func50 rfl (by decide +kernel) (by rw [Try.ntmps50];simp) ?_;rw [Try.ntmps50];simp only [frOf]
  (repeat (first | apply j0 | refine j6 rfl ?_ | refine z7 rfl ?_ | apply z6 | (refine j4 fun K hK => ?_) | (refine z5 fun K hK => ?_) | ((first | apply x5 | apply j5 | ((first | refine z3 (hK _ ?_) | refine x4 (hK _ _ z4 ?_));clear hK K));(first | show AWP _ _ _ _ _ | ((try simp only [x6]);first | show loopQ _ _ _ _ _ _ | show cutQ _ _ _ _ | show AWP _ _ _ _ _))) | ((first | refine j8 rfl rfl rfl ?_ | refine q9 rfl rfl rfl ?_);simp (disch:=omega) only [go_sem,seval,policyD,topoD,configD,spotD,hd,cb,q];(first | refine ⟨_,s1,?_⟩)) | ((first | refine x7 [] rfl ?_ | refine j7 [] rfl ?_);simp (disch:=omega) only [go_sem,seval,policyD,topoD,configD,spotD,hd,cb,q];(repeat (first | refine ⟨by omega,?_⟩ | refine ⟨True.intro,?_⟩)))))
  refine x8 ⟨_,?_,rfl⟩;rw [Try.results50];simp (disch:=omega) only [ResVars,ResVar,ptrLoc,go_sem,seval,policyD,topoD,configD,spotD,hd,cb,q]
end Go.Proofs.Ytbamjcnhmmgnlaa
namespace Go.Proofs.Ytbamjcnhmmgnlaa
open Go Go.Proofs.Ytbamjcnhmmgnlaa.AL
def fold1 (f : List Cube → Rule → List Cube) (l : List Rule) (L : List Cube) : List Cube := l.foldl f L
def fold2 (f : List Cube → Rule → List Cube) (t : List (List Rule)) (L : List Cube) : List Cube := t.foldl (fun L l => fold1 f l L) L
def fold3 (f : List Cube → Rule → List Cube) (b : List (List (List Rule))) (L : List Cube) : List Cube := b.foldl (fun L t => fold2 f t L) L
def cnt2 (t : List (List Rule)) : Nat := (t.map List.length).sum
def cnt3 (b : List (List (List Rule))) : Nat := (b.map cnt2).sum
theorem j165 (f : List Cube → Rule → List Cube) (l : List Rule) (i : Nat) (h : i < l.length) (L : List Cube) : fold1 f (l.drop i) L = fold1 f (l.drop (i + 1)) (f L (l.getD i r0)) := by
 rw [j19 l i r0 h];rfl
theorem q166 (f : List Cube → Rule → List Cube) (t : List (List Rule)) (i : Nat) (h : i < t.length) (L : List Cube) : fold2 f (t.drop i) L = fold2 f (t.drop (i + 1)) (fold1 f (t.getD i []) L) := by
 rw [j19 t i [] h];rfl
theorem z166 (f : List Cube → Rule → List Cube) (b : List (List (List Rule))) (i : Nat) (h : i < b.length) (L : List Cube) : fold3 f (b.drop i) L = fold3 f (b.drop (i + 1)) (fold2 f (b.getD i []) L) := by
 rw [j19 b i [] h];rfl
theorem x166 (t : List (List Rule)) (i : Nat) (h : i < t.length) : cnt2 (t.drop i) = (t.getD i []).length + cnt2 (t.drop (i + 1)) := by
 rw [j19 t i [] h];simp [cnt2]
theorem j166 (b : List (List (List Rule))) (i : Nat) (h : i < b.length) : cnt3 (b.drop i) = cnt2 (b.getD i []) + cnt3 (b.drop (i + 1)) := by
 rw [j19 b i [] h];simp [cnt3]
def ruA (b : List (List (List Rule))) (g : FuncId) (f : List Cube → Rule → List Cube) (R : List Cube) (s : {s : Nat × List Cube // s.1 ≤ b.length ∧ fold3 f (b.drop s.1) s.2 = R ∧ s.2.length + cnt3 (b.drop s.1) ≤ 1000000}) : ASt :=
 ⟨[(13,.p (.d (.v (.int .i64 (s.val.1 : Int))))),(12,.p (.d (.v (.int .i64 (b.length : Int))))),(11,.p (.d (.sl 1 b.length (rowTT b)))),(1,.cl (.func g) [.a1 1000 0] [])],lstL s.val.2⟩
def ruB (b : List (List (List Rule))) (i : Nat) (t : List (List Rule)) (g : FuncId) (f : List Cube → Rule → List Cube) (R : List Cube) (s : {s : Nat × List Cube // s.1 ≤ t.length ∧ fold2 f (t.drop s.1) s.2 = R ∧ s.2.length + cnt2 (t.drop s.1) + cnt3 (b.drop (i + 1)) ≤ 1000000}) : ASt :=
 ⟨[(19,.p (.d (.v (.int .i64 (s.val.1 : Int))))),(18,.p (.d (.v (.int .i64 (t.length : Int))))),(17,.p (.d (.sl 1 t.length (rowRR t)))),(13,.p (.d (.v (.int .i64 (i : Int))))),(12,.p (.d (.v (.int .i64 (b.length : Int))))),(11,.p (.d (.sl 1 b.length (rowTT b)))),(1,.cl (.func g) [.a1 1000 0] [])],lstL s.val.2⟩
def ruC (b : List (List (List Rule))) (i j : Nat) (t : List (List Rule)) (l : List Rule) (g : FuncId) (f : List Cube → Rule → List Cube) (R : List Cube) (s : {s : Nat × List Cube // s.1 ≤ l.length ∧ fold1 f (l.drop s.1) s.2 = R ∧ s.2.length + (l.length - s.1) + cnt2 (t.drop (j + 1)) + cnt3 (b.drop (i + 1)) ≤ 1000000}) : ASt :=
 ⟨[(25,.p (.d (.v (.int .i64 (s.val.1 : Int))))),(24,.p (.d (.v (.int .i64 (l.length : Int))))),(23,.p (.d (.sl 12 l.length (rowR l)))),(19,.p (.d (.v (.int .i64 (j : Int))))),(18,.p (.d (.v (.int .i64 (t.length : Int))))),(17,.p (.d (.sl 1 t.length (rowRR t)))),(13,.p (.d (.v (.int .i64 (i : Int))))),(12,.p (.d (.v (.int .i64 (b.length : Int))))),(11,.p (.d (.sl 1 b.length (rowTT b)))),(1,.cl (.func g) [.a1 1000 0] [])],lstL s.val.2⟩
set_option maxRecDepth 100000 in
theorem x105 (c : Config) (hc : c.small) (g : FuncId) (f : List Cube → Rule → List Cube) (L : List Cube) (R : List Cube)
  (hs : ∀ L r,L.length ≤ 1000000 → MCalls Try.prog g [.ag [.loc 1000 0],.p (.agg (ruleD r))] (lstL L) (fun rs M => rs = [] ∧ M = lstL (f L r))) (hf : ∀ L r,(f L r).length ≤ L.length + 1)
  (hl : L.length + cnt3 c.tb ≤ 1000000) (hR : fold3 f c.tb L = R) :
  MCalls Try.prog 52 [.p (.agg (configD c)),.cl (.func g) [.a1 1000 0] []] (lstL L) (fun rs M => rs = [] ∧ M = lstL R) := by
 have hb := hc.tb
 unfold configD lstL lstA
 refine j18 Try.func52 rfl (by decide +kernel) (by rw [Try.ntmps52];simp) (fun l X h => by simp only [AL.look] at h;(repeat' split at h);all_goals first | omega | cases h) ?_;rw [Try.ntmps52];simp only [frA]
 (repeat (first | apply j0 | refine j6 rfl ?_ | refine z7 rfl ?_ | apply z6 | (refine j4 fun K hK => ?_) | (refine z5 fun K hK => ?_) | ((first | apply x5 | apply j5 | ((first | refine z3 (hK _ ?_) | refine x4 (hK _ _ z4 ?_));clear hK K));(first | show AWP _ _ _ _ _ | ((try simp only [x6]);first | show loopQ _ _ _ _ _ _ | show cutQ _ _ _ _ | show AWP _ _ _ _ _))) | ((first | refine x7 [] rfl ?_ | refine j7 [] rfl ?_);simp (disch:=omega) only [go_sem,seval,hd,cb,ruleD,lstL,lstA];(repeat (first | refine ⟨by omega,?_⟩ | refine ⟨True.intro,?_⟩)))))
 refine x12 (ruA c.tb g f R) (fun s => c.tb.length - s.val.1) ⟨(0,L),by omega,by rw [List.drop_zero];exact hR,by rw [List.drop_zero];exact hl⟩ ?_ (fun s => ?_)
 ·unfold ruA
  refine Weak.list ?_ ?_;(all_goals simp (disch:=omega) only [AllF,AllL,q10,z10,j9,exists_eq_left',go_sem,seval,hd,cb,ruleD,lstL,lstA]);(all_goals (repeat' (with_reducible apply And.intro)));(all_goals try (first | exact q8 rfl | (refine x10 ?_;omega) | (refine q8 ?_;simp;done)))
 obtain ⟨⟨i,L1⟩,hi,h1,h2⟩ := s
 simp only [] at hi h1 h2
 unfold ruA
 simp only []
 by_cases hn : i < c.tb.length
 ·have r1 := q53 c.tb i
  have hsm := hc.at i
  rw [z166 f c.tb i hn] at h1
  rw [j166 c.tb i hn] at h2
  generalize c.tb.getD i [] = t at r1 h1 h2 hsm
  have b1 := hsm.1
  obtain ⟨R2,hR2⟩ : ∃ x,fold2 f t L1 = x := ⟨_,rfl⟩
  rw [hR2] at h1
  (repeat (first | apply j0 | refine j6 rfl ?_ | refine z7 rfl ?_ | apply z6 | (refine j4 fun K hK => ?_) | (refine z5 fun K hK => ?_) | ((first | apply x5 | apply j5 | ((first | refine z3 (hK _ ?_) | refine x4 (hK _ _ z4 ?_));clear hK K));(first | show AWP _ _ _ _ _ | ((try simp only [x6]);first | show loopQ _ _ _ _ _ _ | show cutQ _ _ _ _ | show AWP _ _ _ _ _))) | ((first | refine x7 [] rfl ?_ | refine j7 [] rfl ?_);simp (disch:=omega) only [go_sem,seval,hd,cb,ruleD,lstL,lstA,r1];(repeat (first | refine ⟨by omega,?_⟩ | refine ⟨True.intro,?_⟩)))))
  refine x12 (ruB c.tb i t g f R2) (fun s => t.length - s.val.1) ⟨(0,L1),by omega,by rw [List.drop_zero];exact hR2,by rw [List.drop_zero];simp only [];omega⟩ ?_ (fun s => ?_)
  ·unfold ruB
   refine Weak.list ?_ ?_;(all_goals simp (disch:=omega) only [AllF,AllL,q10,z10,j9,exists_eq_left',go_sem,seval,hd,cb,ruleD,lstL,lstA,r1]);(all_goals (repeat' (with_reducible apply And.intro)));(all_goals try (first | exact q8 rfl | (refine x10 ?_;omega) | (refine q8 ?_;simp;done)))
  obtain ⟨⟨j,L2⟩,hj,h3,h4⟩ := s
  simp only [] at hj h3 h4
  unfold ruB
  simp only []
  by_cases hm : j < t.length
  ·have r2 := x32 t j
   have b2 := j52 hsm j
   rw [q166 f t j hm] at h3
   rw [x166 t j hm] at h4
   generalize t.getD j [] = l at r2 h3 h4 b2
   obtain ⟨R3,hR3⟩ : ∃ x,fold1 f l L2 = x := ⟨_,rfl⟩
   rw [hR3] at h3
   (repeat (first | apply j0 | refine j6 rfl ?_ | refine z7 rfl ?_ | apply z6 | (refine j4 fun K hK => ?_) | (refine z5 fun K hK => ?_) | ((first | apply x5 | apply j5 | ((first | refine z3 (hK _ ?_) | refine x4 (hK _ _ z4 ?_));clear hK K));(first | show AWP _ _ _ _ _ | ((try simp only [x6]);first | show loopQ _ _ _ _ _ _ | show cutQ _ _ _ _ | show AWP _ _ _ _ _))) | ((first | refine x7 [] rfl ?_ | refine j7 [] rfl ?_);simp (disch:=omega) only [go_sem,seval,hd,cb,ruleD,lstL,lstA,r1,r2];(repeat (first | refine ⟨by omega,?_⟩ | refine ⟨True.intro,?_⟩)))))
   refine x12 (ruC c.tb i j t l g f R3) (fun s => l.length - s.val.1) ⟨(0,L2),by omega,by rw [List.drop_zero];exact hR3,by simp only [];omega⟩ ?_ (fun s => ?_)
   ·unfold ruC
    refine Weak.list ?_ ?_;(all_goals simp (disch:=omega) only [AllF,AllL,q10,z10,j9,exists_eq_left',go_sem,seval,hd,cb,ruleD,lstL,lstA,r1,r2]);(all_goals (repeat' (with_reducible apply And.intro)));(all_goals try (first | exact q8 rfl | (refine x10 ?_;omega) | (refine q8 ?_;simp;done)))
   obtain ⟨⟨k,L3⟩,hk,h5,h6⟩ := s
   simp only [] at hk h5 h6
   unfold ruC
   simp only []
   by_cases ho : k < l.length
   ·have r3 := j38 l k
    rw [j165 f l k ho] at h5
    generalize l.getD k r0 = r at r3 h5
    have st := hs L3 r (by omega)
    have sl := hf L3 r
    generalize f L3 r = L4 at st sl h5
    unfold lstL lstA at st
    (repeat (first | apply j0 | refine j6 rfl ?_ | refine z7 rfl ?_ | apply z6 | (refine j4 fun K hK => ?_) | (refine z5 fun K hK => ?_) | ((first | apply x5 | apply j5 | ((first | refine z3 (hK _ ?_) | refine x4 (hK _ _ z4 ?_));clear hK K));(first | show AWP _ _ _ _ _ | ((try simp only [x6]);first | show loopQ _ _ _ _ _ _ | show cutQ _ _ _ _ | show AWP _ _ _ _ _))) | ((first | refine x7 [] rfl ?_ | refine j7 [] rfl ?_);simp (disch:=omega) only [go_sem,seval,hd,cb,ruleD,lstL,lstA,r1,r2,r3];(repeat (first | refine ⟨by omega,?_⟩ | refine ⟨True.intro,?_⟩)))))
    (refine q16 _ (x16 [(1000,1000),(1001,1001),(1002,1002)] rfl rfl rfl rfl rfl rfl (st) rfl (j16 (by repeat (first | exact trivial | refine ⟨rfl,?_⟩)) (by kernel_rfl))) ?_);simp (disch:=omega) only [go_sem,seval,hd,cb,ruleD,lstL,lstA,r1,r2,r3]
    (repeat (first | apply j0 | refine j6 rfl ?_ | refine z7 rfl ?_ | apply z6 | (refine j4 fun K hK => ?_) | (refine z5 fun K hK => ?_) | ((first | apply x5 | apply j5 | ((first | refine z3 (hK _ ?_) | refine x4 (hK _ _ z4 ?_));clear hK K));(first | show AWP _ _ _ _ _ | ((try simp only [x6]);first | show loopQ _ _ _ _ _ _ | show cutQ _ _ _ _ | show AWP _ _ _ _ _))) | ((first | refine x7 [] rfl ?_ | refine j7 [] rfl ?_);simp (disch:=omega) only [go_sem,seval,hd,cb,ruleD,lstL,lstA,r1,r2,r3];(repeat (first | refine ⟨by omega,?_⟩ | refine ⟨True.intro,?_⟩)))))
    refine ⟨⟨(k + 1,L4),by simp only [];omega,h5,by simp only [];omega⟩,by simp only [];omega,?_⟩
    refine Weak.list ?_ ?_;(all_goals simp (disch:=omega) only [AllF,AllL,q10,z10,j9,exists_eq_left',go_sem,seval,hd,cb,ruleD,lstL,lstA,r1,r2,r3]);(all_goals (repeat' (with_reducible apply And.intro)));(all_goals try (first | exact q8 rfl | (refine x10 ?_;omega) | (refine q8 ?_;simp;done)))
   ·have : k = l.length := by omega
    subst this
    rw [List.drop_length] at h5
    cases h5
    (repeat (first | apply j0 | refine j6 rfl ?_ | refine z7 rfl ?_ | apply z6 | (refine j4 fun K hK => ?_) | (refine z5 fun K hK => ?_) | ((first | apply x5 | apply j5 | ((first | refine z3 (hK _ ?_) | refine x4 (hK _ _ z4 ?_));clear hK K));(first | show AWP _ _ _ _ _ | ((try simp only [x6]);first | show loopQ _ _ _ _ _ _ | show cutQ _ _ _ _ | show AWP _ _ _ _ _))) | ((first | refine x7 [] rfl ?_ | refine j7 [] rfl ?_);simp (disch:=omega) only [go_sem,seval,hd,cb,ruleD,lstL,lstA,r1,r2];(repeat (first | refine ⟨by omega,?_⟩ | refine ⟨True.intro,?_⟩)))))
    refine ⟨⟨(j + 1,L3),by simp only [];omega,h3,by simp only [];omega⟩,by simp only [];omega,?_⟩
    refine Weak.list ?_ ?_;(all_goals simp (disch:=omega) only [AllF,AllL,q10,z10,j9,exists_eq_left',go_sem,seval,hd,cb,ruleD,lstL,lstA,r1,r2]);(all_goals (repeat' (with_reducible apply And.intro)));(all_goals try (first | exact q8 rfl | (refine x10 ?_;omega) | (refine q8 ?_;simp;done)))
  ·have : j = t.length := by omega
   subst this
   rw [List.drop_length] at h3
   cases h3
   (repeat (first | apply j0 | refine j6 rfl ?_ | refine z7 rfl ?_ | apply z6 | (refine j4 fun K hK => ?_) | (refine z5 fun K hK => ?_) | ((first | apply x5 | apply j5 | ((first | refine z3 (hK _ ?_) | refine x4 (hK _ _ z4 ?_));clear hK K));(first | show AWP _ _ _ _ _ | ((try simp only [x6]);first | show loopQ _ _ _ _ _ _ | show cutQ _ _ _ _ | show AWP _ _ _ _ _))) | ((first | refine x7 [] rfl ?_ | refine j7 [] rfl ?_);simp (disch:=omega) only [go_sem,seval,hd,cb,ruleD,lstL,lstA,r1];(repeat (first | refine ⟨by omega,?_⟩ | refine ⟨True.intro,?_⟩)))))
   refine ⟨⟨(i + 1,L2),by simp only [];omega,h1,?_⟩,by simp only [];omega,?_⟩
   ·simp only [List.drop_length,cnt2,List.map_nil,List.sum_nil] at h4 ⊢
    omega
   refine Weak.list ?_ ?_;(all_goals simp (disch:=omega) only [AllF,AllL,q10,z10,j9,exists_eq_left',go_sem,seval,hd,cb,ruleD,lstL,lstA,r1]);(all_goals (repeat' (with_reducible apply And.intro)));(all_goals try (first | exact q8 rfl | (refine x10 ?_;omega) | (refine q8 ?_;simp;done)))
 ·have : i = c.tb.length := by omega
  subst this
  rw [List.drop_length] at h1
  cases h1
  (repeat (first | apply j0 | refine j6 rfl ?_ | refine z7 rfl ?_ | apply z6 | (refine j4 fun K hK => ?_) | (refine z5 fun K hK => ?_) | ((first | apply x5 | apply j5 | ((first | refine z3 (hK _ ?_) | refine x4 (hK _ _ z4 ?_));clear hK K));(first | show AWP _ _ _ _ _ | ((try simp only [x6]);first | show loopQ _ _ _ _ _ _ | show cutQ _ _ _ _ | show AWP _ _ _ _ _))) | ((first | refine x7 [] rfl ?_ | refine j7 [] rfl ?_);simp (disch:=omega) only [go_sem,seval,hd,cb,ruleD,lstL,lstA];(repeat (first | refine ⟨by omega,?_⟩ | refine ⟨True.intro,?_⟩)))))
  (first | refine x5 ?_ | refine j5 ?_ | refine z3 (hK _ ?_) | refine x4 (hK _ _ z4 ?_));(show retM _ _ _ .normal _)
  refine q34 [] (lstL L1) trivial ?_ ⟨rfl,rfl⟩
  simp [AL.look,lstL,lstA]
end Go.Proofs.Ytbamjcnhmmgnlaa
namespace Go.Proofs.Ytbamjcnhmmgnlaa.AL
open Go
theorem j105 {P : Program} {nt : Nat} {ops : Array Oper} {o : Oper} {A : ASt} {t : TypeId} {x : Operand} {ti : TI} {l : Nat} {e : TypeId} {cs : List AV} (ys : List CV) (ho : o.op = .load t x) (hti : tiOf P t = some ti) (hag : ti.k.agg = true)
  (hd : dstOK nt o = true) (hw : wantedA ops o A = some true) (hx : A.eval x = .loc l 0) (hl : look A.locs l = some (.cells e cs)) (hys : cs.mapM cvAV = some ys) (hs : cs.length = ti.size) : StepS P nt ops o A (A.apply o.dst { val := .ag ys }) := by
 refine OpDo.step (lo := some l) (E := { val := .ag ys }) ⟨z31 hd,.inr ⟨hw,OpSem.toT ?_⟩,fun hf => (by cases hf),fun l L hu => (by cases hu)⟩
 refine j12 fun B w h r hr hL => ?_
 simp only [ho,Op.operands] at hr
 have h0 : RelA w h (r x) (A.eval x) := hr.2 0 (r x) _ rfl rfl
 rw [hx] at h0
 have h0' : r x = .pointer (some ⟨h.ρ l,0,none⟩) := h0
 obtain ⟨arr,hB,hh,hsz,hg,hrr⟩ := hL l (.cells e cs) (by simp [ASt.locAt,hl])
 have hr2 : RelAs w h arr.toList cs := ⟨by simpa using hsz,fun j v c hv hc => (hrr j v c (by simpa using hv) hc).1⟩
 refine ⟨.agg arr.toList.toArray,z19 ho r w h0' (j27 hti hag (by simp;omega) fun j v hv => ?_),arr.toList,rfl,q62 hys hr2,fun u hu => ?_⟩
 ·rw [Nat.zero_add,z16 hh];simpa using hv
 ·obtain ⟨j,hj⟩ := List.getElem?_of_mem hu
  have hlt : j < cs.length := by
   have := (List.getElem?_eq_some_iff.1 hj).1
   simp at this;omega
  exact (hrr j u cs[j] (by simpa using hj) (List.getElem?_eq_getElem hlt)).2
end Go.Proofs.Ytbamjcnhmmgnlaa.AL
namespace Go.Proofs.Ytbamjcnhmmgnlaa
open Go Go.Proofs.Ytbamjcnhmmgnlaa.AL
set_option maxRecDepth 100000 in
theorem q106 : MCalls Try.prog 48 [] [] (fun rs M => rs = [.loc 3 0] ∧ M = [(3,.cells 127 [.p (.d (.v (.slice none 0 0))),.mp 1]),(1,.map [.u64,.u64,.u64,.u64] [])]) := by
 refine j18 Try.func48 rfl (by decide +kernel) (by rw [Try.ntmps48];simp) (fun l X h => by simp only [AL.look] at h;(repeat' split at h);all_goals first | omega | cases h) ?_;rw [Try.ntmps48];simp only [frA]
 (repeat (first | apply j0 | refine j6 rfl ?_ | refine z7 rfl ?_ | apply z6 | (refine j4 fun K hK => ?_) | (refine z5 fun K hK => ?_) | ((first | apply x5 | apply j5 | ((first | refine z3 (hK _ ?_) | refine x4 (hK _ _ z4 ?_));clear hK K));(first | show AWP _ _ _ _ _ | ((try simp only [x6]);first | show loopQ _ _ _ _ _ _ | show cutQ _ _ _ _ | show AWP _ _ _ _ _))) | ((first | refine x7 [3] rfl ?_ | refine j7 [3] rfl ?_);simp (disch:=omega) only [go_sem,seval,hd,cb,ruleD,configD,spotD,z8];(repeat (first | refine ⟨by omega,?_⟩ | refine ⟨z15,?_⟩)))))
 refine x8 (retM_of [.loc 3 0] _ ⟨rfl,trivial⟩ ?_ ⟨rfl,rfl⟩)
 simp [AL.look]
def matchF (L : List Cube) (r : Rule) : List Cube := addC L r.mt
def setF (L : List Cube) (r : Rule) : List Cube := if r.st = ⟨0,0⟩ then L else addC L r.st
set_option maxRecDepth 100000 in
theorem q167 (L : List Cube) (r : Rule) (hl : L.length ≤ 1000000) : MCalls Try.prog 59 [.ag [.loc 1000 0],.p (.agg (ruleD r))] (lstL L) (fun rs M => rs = [] ∧ M = lstL (matchF L r)) := by
 have ad := x54 L r.mt (by omega)
 unfold matchF
 generalize addC L r.mt = L2 at ad
 unfold lstL lstA at *
 refine j18 Try.func59 rfl (by decide +kernel) (by rw [Try.ntmps59];simp) (fun l X h => by simp only [AL.look] at h;(repeat' split at h);all_goals first | omega | cases h) ?_;rw [Try.ntmps59];simp only [frA]
 (repeat (first | apply j0 | refine j6 rfl ?_ | refine z7 rfl ?_ | apply z6 | (refine j4 fun K hK => ?_) | (refine z5 fun K hK => ?_) | ((first | apply x5 | apply j5 | ((first | refine z3 (hK _ ?_) | refine x4 (hK _ _ z4 ?_));clear hK K));(first | show AWP _ _ _ _ _ | ((try simp only [x6]);first | show loopQ _ _ _ _ _ _ | show cutQ _ _ _ _ | show AWP _ _ _ _ _))) | ((first | refine x7 [2] rfl ?_ | refine j7 [2] rfl ?_);simp (disch:=omega) only [go_sem,seval,hd,cb,ruleD,configD,spotD,z8,lstL,lstA];(repeat (first | refine ⟨by omega,?_⟩ | refine ⟨z15,?_⟩)))))
 (refine q16 _ (x16 [(1000,1000),(1001,1001),(1002,1002)] rfl rfl rfl rfl rfl rfl (ad) rfl (j16 (by repeat (first | exact trivial | refine ⟨rfl,?_⟩)) (by kernel_rfl))) ?_);simp (disch:=omega) only [go_sem,seval,hd,cb,ruleD,configD,spotD,z8,lstL,lstA]
 (repeat (first | apply j0 | refine j6 rfl ?_ | refine z7 rfl ?_ | apply z6 | (refine j4 fun K hK => ?_) | (refine z5 fun K hK => ?_) | ((first | apply x5 | apply j5 | ((first | refine z3 (hK _ ?_) | refine x4 (hK _ _ z4 ?_));clear hK K));(first | show AWP _ _ _ _ _ | ((try simp only [x6]);first | show loopQ _ _ _ _ _ _ | show cutQ _ _ _ _ | show AWP _ _ _ _ _))) | ((first | refine x7 [2] rfl ?_ | refine j7 [2] rfl ?_);simp (disch:=omega) only [go_sem,seval,hd,cb,ruleD,configD,spotD,z8,lstL,lstA];(repeat (first | refine ⟨by omega,?_⟩ | refine ⟨z15,?_⟩)))))
 (first | refine x5 ?_ | refine j5 ?_ | refine z3 (hK _ ?_) | refine x4 (hK _ _ z4 ?_));(show retM _ _ _ .normal _)
 refine q34 [] (lstL L2) trivial ?_ ⟨rfl,rfl⟩
 simp [AL.look,lstL,lstA]
set_option maxRecDepth 100000 in
theorem setP_c (L : List Cube) (r : Rule) (hl : L.length ≤ 1000000) : MCalls Try.prog 53 [.ag [.loc 1000 0],.p (.agg (ruleD r))] (lstL L) (fun rs M => rs = [] ∧ M = lstL (setF L r)) := by
 have ad := x54 L r.st (by omega)
 have q := z54 r.st ⟨0,0⟩
 simp only [q17,z17] at q
 unfold setF
 by_cases h : r.st = ⟨0,0⟩
 ·rw [if_pos h]
  rw [show (r.st == (⟨0,0⟩ : Cube)) = true by rw [h];exact beq_self_eq_true _] at q
  unfold lstL lstA at *
  refine j18 Try.func53 rfl (by decide +kernel) (by rw [Try.ntmps53];simp) (fun l X h => by simp only [AL.look] at h;(repeat' split at h);all_goals first | omega | cases h) ?_;rw [Try.ntmps53];simp only [frA]
  (repeat (first | apply j0 | refine j6 rfl ?_ | refine z7 rfl ?_ | apply z6 | (refine j4 fun K hK => ?_) | (refine z5 fun K hK => ?_) | ((first | apply x5 | apply j5 | ((first | refine z3 (hK _ ?_) | refine x4 (hK _ _ z4 ?_));clear hK K));(first | show AWP _ _ _ _ _ | ((try simp only [x6]);first | show loopQ _ _ _ _ _ _ | show cutQ _ _ _ _ | show AWP _ _ _ _ _))) | ((first | refine x7 [2] rfl ?_ | refine j7 [2] rfl ?_);simp (disch:=omega) only [go_sem,seval,hd,cb,ruleD,configD,spotD,z8,lstL,lstA,q];(repeat (first | refine ⟨by omega,?_⟩ | refine ⟨z15,?_⟩)))))
  (first | refine x5 ?_ | refine j5 ?_ | refine z3 (hK _ ?_) | refine x4 (hK _ _ z4 ?_));(show retM _ _ _ .normal _)
  refine q34 [] (lstL L) trivial ?_ ⟨rfl,rfl⟩
  simp [AL.look,lstL,lstA]
 ·rw [if_neg h]
  rw [show (r.st == (⟨0,0⟩ : Cube)) = false by rw [beq_eq_false_iff_ne];exact h] at q
  generalize addC L r.st = L2 at ad
  unfold lstL lstA at *
  refine j18 Try.func53 rfl (by decide +kernel) (by rw [Try.ntmps53];simp) (fun l X h => by simp only [AL.look] at h;(repeat' split at h);all_goals first | omega | cases h) ?_;rw [Try.ntmps53];simp only [frA]
  (repeat (first | apply j0 | refine j6 rfl ?_ | refine z7 rfl ?_ | apply z6 | (refine j4 fun K hK => ?_) | (refine z5 fun K hK => ?_) | ((first | apply x5 | apply j5 | ((first | refine z3 (hK _ ?_) | refine x4 (hK _ _ z4 ?_));clear hK K));(first | show AWP _ _ _ _ _ | ((try simp only [x6]);first | show loopQ _ _ _ _ _ _ | show cutQ _ _ _ _ | show AWP _ _ _ _ _))) | ((first | refine x7 [2] rfl ?_ | refine j7 [2] rfl ?_);simp (disch:=omega) only [go_sem,seval,hd,cb,ruleD,configD,spotD,z8,lstL,lstA,q];(repeat (first | refine ⟨by omega,?_⟩ | refine ⟨z15,?_⟩)))))
  (refine q16 _ (x16 [(1000,1000),(1001,1001),(1002,1002)] rfl rfl rfl rfl rfl rfl (ad) rfl (j16 (by repeat (first | exact trivial | refine ⟨rfl,?_⟩)) (by kernel_rfl))) ?_);simp (disch:=omega) only [go_sem,seval,hd,cb,ruleD,configD,spotD,z8,lstL,lstA,q]
  (repeat (first | apply j0 | refine j6 rfl ?_ | refine z7 rfl ?_ | apply z6 | (refine j4 fun K hK => ?_) | (refine z5 fun K hK => ?_) | ((first | apply x5 | apply j5 | ((first | refine z3 (hK _ ?_) | refine x4 (hK _ _ z4 ?_));clear hK K));(first | show AWP _ _ _ _ _ | ((try simp only [x6]);first | show loopQ _ _ _ _ _ _ | show cutQ _ _ _ _ | show AWP _ _ _ _ _))) | ((first | refine x7 [2] rfl ?_ | refine j7 [2] rfl ?_);simp (disch:=omega) only [go_sem,seval,hd,cb,ruleD,configD,spotD,z8,lstL,lstA,q];(repeat (first | refine ⟨by omega,?_⟩ | refine ⟨z15,?_⟩)))))
  (first | refine x5 ?_ | refine j5 ?_ | refine z3 (hK _ ?_) | refine x4 (hK _ _ z4 ?_));(show retM _ _ _ .normal _)
  refine q34 [] (lstL L2) trivial ?_ ⟨rfl,rfl⟩
  simp [AL.look,lstL,lstA]
theorem x71 (L : List Cube) (r : Rule) : (matchF L r).length ≤ L.length + 1 := j20 L r.mt
theorem z55 (L : List Cube) (r : Rule) : (setF L r).length ≤ L.length + 1 := by
 unfold setF;split
 ·omega
 ·exact j20 L r.st
theorem z25 {α : Type} (f : List Cube → α → List Cube) (hf : ∀ L a,(f L a).length ≤ L.length + 1) : ∀ (l : List α) (L : List Cube),(l.foldl f L).length ≤ L.length + l.length
 | [],L => by simp
 |a :: l,L => by
  have := z25 f hf l (f L a)
  have := hf L a
  simp only [List.foldl_cons,List.length_cons]
  omega
theorem z167 (f : List Cube → Rule → List Cube) (hf : ∀ L r,(f L r).length ≤ L.length + 1) (l : List Rule) (L : List Cube) : (fold1 f l L).length ≤ L.length + l.length := z25 f hf l L
theorem z106 (f : List Cube → Rule → List Cube) (hf : ∀ L r,(f L r).length ≤ L.length + 1) : ∀ (t : List (List Rule)) (L : List Cube),(fold2 f t L).length ≤ L.length + cnt2 t
 | [],L => by simp [fold2]
 |l :: t,L => by
  have h1 := z106 f hf t (fold1 f l L)
  have h2 := z167 f hf l L
  have e : fold2 f (l :: t) L = fold2 f t (fold1 f l L) := rfl
  have c : cnt2 (l :: t) = l.length + cnt2 t := by simp [cnt2]
  rw [e,c];omega
theorem j40 (f : List Cube → Rule → List Cube) (hf : ∀ L r,(f L r).length ≤ L.length + 1) : ∀ (b : List (List (List Rule))) (L : List Cube),(fold3 f b L).length ≤ L.length + cnt3 b
 | [],L => by simp [fold3]
 |t :: b,L => by
  have h1 := j40 f hf b (fold2 f t L)
  have h2 := z106 f hf t L
  have e : fold3 f (t :: b) L = fold3 f b (fold2 f t L) := rfl
  have c : cnt3 (t :: b) = cnt2 t + cnt3 b := by simp [cnt3]
  rw [e,c];omega
def stampF (c : Config) (v : Int) (L : List Cube) (s : Spot) : List Cube := addC L (stampC c s v)
def setsE (c : Config) (v : Int) : List Cube := (edgesT c.tp).foldl (stampF c v) []
def setsL (c : Config) (v : Int) : List Cube := fold3 setF c.tb (setsE c v)
def predE (c : Config) (v : Int) : Int := if soundC c ≠ 0 then soundC c else if v < 0 ∨ 255 < v then 4 else 0
def setsV (c : Config) (v : Int) : List Cube := if predE c v = 0 then setsL c v else []
def setsI (c : Config) (v : Int) (l : List Spot) (R : List Cube) (s : {s : Nat × List Cube // s.1 ≤ l.length ∧ (l.drop s.1).foldl (stampF c v) s.2 = R ∧ s.2.length ≤ s.1}) : ASt :=
 ⟨[(29,.p (.d (.v (.int .i64 (s.val.1 : Int))))),(28,.p (.d (.v (.int .i64 (l.length : Int))))),(27,.p (.d (.sl 2 l.length (rowS l)))),(7,.loc 7 0),(2,.p (.d (.bx (configD c)))),(1,.p (.d (.v (.int .i64 v))))],
  [(7,.cells 117 [.loc 601 0]),(601,.cells 127 [.ow 603 s.val.2.length 4 s.val.2.length,.mp 602]),(602,.map [.u64,.u64,.u64,.u64] (seenM s.val.2)),(603,.own 27 4 s.val.2.length s.val.2.length (rowC s.val.2))]⟩
set_option maxRecDepth 100000 in
theorem x106 (c : Config) (v : Int) (hc : c.small) (e : Int) (he : e ≠ 0) (h : soundC c = e ∨ (soundC c = 0 ∧ (v < 0 ∨ 255 < v) ∧ e = 4)) : ACalls Try.prog 24 [.agg (configD c),.d (.v (.int .i64 v))] (· = [.d (.sl 4 ([] : List Cube).length (rowC [])),.d (.v (.int .i64 e))]) := by
 have so := q71 c hc
 rcases h with h | ⟨h,hv,rfl⟩
 ·rw [h] at so
  have q := z12 he
  refine q11 Try.func24 rfl (by decide +kernel) (by rw [Try.ntmps24];simp) ?_;rw [Try.ntmps24];simp only [frOf]
  (repeat (first | apply j0 | refine j6 rfl ?_ | refine z7 rfl ?_ | apply z6 | (refine j4 fun K hK => ?_) | (refine z5 fun K hK => ?_) | ((first | apply x5 | apply j5 | ((first | refine z3 (hK _ ?_) | refine x4 (hK _ _ z4 ?_));clear hK K));(first | show AWP _ _ _ _ _ | ((try simp only [x6]);first | show loopQ _ _ _ _ _ _ | show cutQ _ _ _ _ | show AWP _ _ _ _ _))) | ((first | refine j8 rfl rfl rfl ?_ | refine q9 rfl rfl rfl ?_);simp (disch:=omega) only [go_sem,seval,hd,cb,ruleD,configD,spotD,z8,q];(first | refine ⟨_,so,?_⟩)) | ((first | refine x7 [7] rfl ?_ | refine j7 [7] rfl ?_);simp (disch:=omega) only [go_sem,seval,hd,cb,ruleD,configD,spotD,z8,q];(repeat (first | refine ⟨by omega,?_⟩ | refine ⟨z15,?_⟩)))))
  refine j22 4 _ (.p (.d (.sl 4 ([] : List Cube).length (rowC [])))) rfl (x31 4 _ _ rfl) ?_
  refine x8 ⟨_,?_,rfl⟩;rw [Try.results24];simp (disch:=omega) only [ResVars,ResVar,ptrLoc,go_sem,seval,hd,cb,ruleD,configD,spotD,z8,q]
 ·rw [h] at so
  by_cases h0 : v < 0
  ·have q1 : decide (v < 0) = true := decide_eq_true h0
   refine q11 Try.func24 rfl (by decide +kernel) (by rw [Try.ntmps24];simp) ?_;rw [Try.ntmps24];simp only [frOf]
   (repeat (first | apply j0 | refine j6 rfl ?_ | refine z7 rfl ?_ | apply z6 | (refine j4 fun K hK => ?_) | (refine z5 fun K hK => ?_) | ((first | apply x5 | apply j5 | ((first | refine z3 (hK _ ?_) | refine x4 (hK _ _ z4 ?_));clear hK K));(first | show AWP _ _ _ _ _ | ((try simp only [x6]);first | show loopQ _ _ _ _ _ _ | show cutQ _ _ _ _ | show AWP _ _ _ _ _))) | ((first | refine j8 rfl rfl rfl ?_ | refine q9 rfl rfl rfl ?_);simp (disch:=omega) only [go_sem,seval,hd,cb,ruleD,configD,spotD,z8,q1];(first | refine ⟨_,so,?_⟩)) | ((first | refine x7 [7] rfl ?_ | refine j7 [7] rfl ?_);simp (disch:=omega) only [go_sem,seval,hd,cb,ruleD,configD,spotD,z8,q1];(repeat (first | refine ⟨by omega,?_⟩ | refine ⟨z15,?_⟩)))))
   refine j22 4 _ (.p (.d (.sl 4 ([] : List Cube).length (rowC [])))) rfl (x31 4 _ _ rfl) ?_
   refine x8 ⟨_,?_,rfl⟩;rw [Try.results24];simp (disch:=omega) only [ResVars,ResVar,ptrLoc,go_sem,seval,hd,cb,ruleD,configD,spotD,z8,q1]
  ·have q1 : decide (v < 0) = false := decide_eq_false h0
   have q2 : decide (255 < v) = true := decide_eq_true (by omega)
   refine q11 Try.func24 rfl (by decide +kernel) (by rw [Try.ntmps24];simp) ?_;rw [Try.ntmps24];simp only [frOf]
   (repeat (first | apply j0 | refine j6 rfl ?_ | refine z7 rfl ?_ | apply z6 | (refine j4 fun K hK => ?_) | (refine z5 fun K hK => ?_) | ((first | apply x5 | apply j5 | ((first | refine z3 (hK _ ?_) | refine x4 (hK _ _ z4 ?_));clear hK K));(first | show AWP _ _ _ _ _ | ((try simp only [x6]);first | show loopQ _ _ _ _ _ _ | show cutQ _ _ _ _ | show AWP _ _ _ _ _))) | ((first | refine j8 rfl rfl rfl ?_ | refine q9 rfl rfl rfl ?_);simp (disch:=omega) only [go_sem,seval,hd,cb,ruleD,configD,spotD,z8,q1,q2];(first | refine ⟨_,so,?_⟩)) | ((first | refine x7 [7] rfl ?_ | refine j7 [7] rfl ?_);simp (disch:=omega) only [go_sem,seval,hd,cb,ruleD,configD,spotD,z8,q1,q2];(repeat (first | refine ⟨by omega,?_⟩ | refine ⟨z15,?_⟩)))))
   refine j22 4 _ (.p (.d (.sl 4 ([] : List Cube).length (rowC [])))) rfl (x31 4 _ _ rfl) ?_
   refine x8 ⟨_,?_,rfl⟩;rw [Try.results24];simp (disch:=omega) only [ResVars,ResVar,ptrLoc,go_sem,seval,hd,cb,ruleD,configD,spotD,z8,q1,q2]
set_option maxRecDepth 100000 in
theorem x167 (c : Config) (v : Int) (hc : c.small) (h : soundC c = 0) (hv : 0 ≤ v ∧ v ≤ 255) (he : (edgesT c.tp).length ≤ 1000) (ht : cnt3 c.tb ≤ 100000) : ACalls Try.prog 24 [.agg (configD c),.d (.v (.int .i64 v))] (· = [.d (.sl 4 (setsL c v).length (rowC (setsL c v))),.d (.v (.int .i64 0))]) := by
 have so := q71 c hc
 have ed := z68 c.tp hc.tp
 unfold setsL setsE
 have hst : ∀ i,i < (edgesT c.tp).length → stampE c ((edgesT c.tp).getD i s0) v = 0 := fun i hi => by
  unfold stampE
  rw [if_neg (by simp [h]),if_neg (by omega),if_neg]
  unfold edgesHas
  simp only [Bool.not_eq_false,List.contains_iff_mem]
  exact q23 hi s0
 generalize edgesT c.tp = l at ed he hst
 obtain ⟨R,hR⟩ : ∃ x,l.foldl (stampF c v) [] = x := ⟨_,rfl⟩
 have hRl : R.length ≤ 1000 := by
  have := z25 (stampF c v) (fun L a => j20 L _) l []
  rw [hR] at this;simp at this;omega
 rw [hR]
 rw [h] at so
 have q1 : decide (v < 0) = false := decide_eq_false (by omega)
 have q2 : decide (255 < v) = false := decide_eq_false (by omega)
 refine q11 Try.func24 rfl (by decide +kernel) (by rw [Try.ntmps24];simp) ?_;rw [Try.ntmps24];simp only [frOf]
 (repeat (first | apply j0 | refine j6 rfl ?_ | refine z7 rfl ?_ | apply z6 | (refine j4 fun K hK => ?_) | (refine z5 fun K hK => ?_) | ((first | apply x5 | apply j5 | ((first | refine z3 (hK _ ?_) | refine x4 (hK _ _ z4 ?_));clear hK K));(first | show AWP _ _ _ _ _ | ((try simp only [x6]);first | show loopQ _ _ _ _ _ _ | show cutQ _ _ _ _ | show AWP _ _ _ _ _))) | ((first | refine j8 rfl rfl rfl ?_ | refine q9 rfl rfl rfl ?_);simp (disch:=omega) only [go_sem,seval,hd,cb,ruleD,configD,spotD,z8,q1,q2];(first | refine ⟨_,so,?_⟩)) | ((first | refine x7 [7] rfl ?_ | refine j7 [7] rfl ?_);simp (disch:=omega) only [go_sem,seval,hd,cb,ruleD,configD,spotD,z8,q1,q2];(repeat (first | refine ⟨by omega,?_⟩ | refine ⟨z15,?_⟩)))))
 (refine q16 _ (x16 [(3,601),(1,602)] rfl rfl rfl rfl rfl rfl (q106) rfl (j16 (by repeat (first | exact trivial | refine ⟨rfl,?_⟩)) (by kernel_rfl))) ?_);simp (disch:=omega) only [go_sem,seval,hd,cb,ruleD,configD,spotD,z8,q1,q2]
 (repeat ((fail_if_success (show AWP _ _ (.region 7 _ _) _ _));first | apply j0 | refine j6 rfl ?_ | refine z7 rfl ?_ | apply z6 | (refine j4 fun K hK => ?_) | (refine z5 fun K hK => ?_) | ((first | apply x5 | apply j5 | ((first | refine z3 (hK _ ?_) | refine x4 (hK _ _ z4 ?_));clear hK K));(first | show AWP _ _ _ _ _ | ((try simp only [x6]);first | show loopQ _ _ _ _ _ _ | show cutQ _ _ _ _ | show AWP _ _ _ _ _))) | ((first | refine x7 [7] rfl ?_ | refine j7 [7] rfl ?_);simp (disch:=omega) only [go_sem,seval,hd,cb,ruleD,configD,spotD,z8,q1,q2];(repeat (first | refine ⟨by omega,?_⟩ | refine ⟨z15,?_⟩)))))
 refine x101 601 603 0 4 27 (rowC []) rfl rfl (by omega) (by kernel_rfl) rfl ?_
 (repeat (first | apply j0 | refine j6 rfl ?_ | refine z7 rfl ?_ | apply z6 | (refine j4 fun K hK => ?_) | (refine z5 fun K hK => ?_) | ((first | apply x5 | apply j5 | ((first | refine z3 (hK _ ?_) | refine x4 (hK _ _ z4 ?_));clear hK K));(first | show AWP _ _ _ _ _ | ((try simp only [x6]);first | show loopQ _ _ _ _ _ _ | show cutQ _ _ _ _ | show AWP _ _ _ _ _))) | ((first | refine j8 rfl rfl rfl ?_ | refine q9 rfl rfl rfl ?_);simp (disch:=omega) only [go_sem,seval,hd,cb,ruleD,configD,spotD,z8,q1,q2];(first | refine ⟨_,ed,?_⟩)) | ((first | refine x7 [7] rfl ?_ | refine j7 [7] rfl ?_);simp (disch:=omega) only [go_sem,seval,hd,cb,ruleD,configD,spotD,z8,q1,q2];(repeat (first | refine ⟨by omega,?_⟩ | refine ⟨z15,?_⟩)))))
 refine x12 (setsI c v l R) (fun s => l.length - s.val.1) ⟨(0,[]),by omega,by rw [List.drop_zero];exact hR,by simp⟩ ?_ (fun s => ?_)
 ·unfold setsI
  refine Weak.list ?_ ?_;(all_goals simp (disch:=omega) only [AllF,AllL,q10,z10,j9,exists_eq_left',go_sem,seval,hd,cb,ruleD,configD,spotD,z8,q1,q2]);(all_goals (repeat' (with_reducible apply And.intro)));(all_goals try (first | exact q8 rfl | (refine x10 ?_;omega) | (refine q8 ?_;simp;done)))
  ·exact LLe.refl _
  ·exact LLe.refl _
 obtain ⟨⟨i,L⟩,hi,h1,h2⟩ := s
 simp only [] at hi h1 h2
 unfold setsI
 simp only []
 by_cases hn : i < l.length
 ·have r1 := z39 l i
  have hs0 := hst i hn
  rw [j19 l i s0 hn] at h1
  simp only [List.foldl_cons] at h1
  generalize l.getD i s0 = s at r1 hs0 h1
  have st := x165 c s v hc (by omega)
  rw [hs0] at st
  have ad := x54 L (stampC c s v) (by omega)
  have al := j20 L (stampC c s v)
  unfold stampF at h1
  generalize addC L (stampC c s v) = L2 at ad al h1
  generalize stampC c s v = k at st ad
  unfold lstL lstA at ad
  (repeat (first | apply j0 | refine j6 rfl ?_ | refine z7 rfl ?_ | apply z6 | (refine j4 fun K hK => ?_) | (refine z5 fun K hK => ?_) | ((first | apply x5 | apply j5 | ((first | refine z3 (hK _ ?_) | refine x4 (hK _ _ z4 ?_));clear hK K));(first | show AWP _ _ _ _ _ | ((try simp only [x6]);first | show loopQ _ _ _ _ _ _ | show cutQ _ _ _ _ | show AWP _ _ _ _ _))) | ((first | refine j8 rfl rfl rfl ?_ | refine q9 rfl rfl rfl ?_);simp (disch:=omega) only [go_sem,seval,hd,cb,ruleD,configD,spotD,z8,r1];(first | refine ⟨_,st,?_⟩)) | ((first | refine x7 [7] rfl ?_ | refine j7 [7] rfl ?_);simp (disch:=omega) only [go_sem,seval,hd,cb,ruleD,configD,spotD,z8,r1];(repeat (first | refine ⟨by omega,?_⟩ | refine ⟨z15,?_⟩)))))
  (refine q16 _ (x16 [(1000,601),(1001,602),(1002,603)] rfl rfl rfl rfl rfl rfl (ad) rfl (j16 (by repeat (first | exact trivial | refine ⟨rfl,?_⟩)) (by kernel_rfl))) ?_);simp (disch:=omega) only [go_sem,seval,hd,cb,ruleD,configD,spotD,z8,r1]
  (repeat (first | apply j0 | refine j6 rfl ?_ | refine z7 rfl ?_ | apply z6 | (refine j4 fun K hK => ?_) | (refine z5 fun K hK => ?_) | ((first | apply x5 | apply j5 | ((first | refine z3 (hK _ ?_) | refine x4 (hK _ _ z4 ?_));clear hK K));(first | show AWP _ _ _ _ _ | ((try simp only [x6]);first | show loopQ _ _ _ _ _ _ | show cutQ _ _ _ _ | show AWP _ _ _ _ _))) | ((first | refine x7 [7] rfl ?_ | refine j7 [7] rfl ?_);simp (disch:=omega) only [go_sem,seval,hd,cb,ruleD,configD,spotD,z8,r1];(repeat (first | refine ⟨by omega,?_⟩ | refine ⟨z15,?_⟩)))))
  refine ⟨⟨(i + 1,L2),by simp only [];omega,h1,by simp only [];omega⟩,by simp only [];omega,?_⟩
  refine Weak.list ?_ ?_;(all_goals simp (disch:=omega) only [AllF,AllL,q10,z10,j9,exists_eq_left',go_sem,seval,hd,cb,ruleD,configD,spotD,z8,r1]);(all_goals (repeat' (with_reducible apply And.intro)));(all_goals try (first | exact q8 rfl | (refine x10 ?_;omega) | (refine q8 ?_;simp;done)))
 ·have : i = l.length := by omega
  subst this
  rw [List.drop_length] at h1
  obtain rfl : L = R := h1
  obtain ⟨R2,hR2⟩ : ∃ x,fold3 setF c.tb L = x := ⟨_,rfl⟩
  have ru := x105 c hc 53 setF L R2 setP_c z55 (by omega) hR2
  rw [hR2]
  unfold lstL lstA at ru
  (repeat ((fail_if_success (show AWP _ _ (.region 15 _ _) _ _));first | apply j0 | refine j6 rfl ?_ | refine z7 rfl ?_ | apply z6 | (refine j4 fun K hK => ?_) | (refine z5 fun K hK => ?_) | ((first | apply x5 | apply j5 | ((first | refine z3 (hK _ ?_) | refine x4 (hK _ _ z4 ?_));clear hK K));(first | show AWP _ _ _ _ _ | ((try simp only [x6]);first | show loopQ _ _ _ _ _ _ | show cutQ _ _ _ _ | show AWP _ _ _ _ _))) | ((first | refine x7 [7] rfl ?_ | refine j7 [7] rfl ?_);simp (disch:=omega) only [go_sem,seval,hd,cb,ruleD,configD,spotD,z8,Option.bind_none,Option.map_none];(repeat (first | refine ⟨by omega,?_⟩ | refine ⟨z15,?_⟩)))))
  refine j4 fun K hK => ?_
  (first | refine q64 [7] rfl rfl ?_ | refine z64 [7] rfl rfl ?_ | refine x48 rfl rfl ?_ | refine j48 rfl rfl ?_)
  simp (disch:=omega) only [go_sem,seval,hd,cb,ruleD,configD,spotD,z8,Option.bind_none,Option.map_none]
  refine q16 _ (j105 [.loc 601 0] rfl ty117 rfl rfl rfl rfl rfl rfl rfl) ?_
  simp (disch:=omega) only [go_sem,seval,hd,cb,ruleD,configD,spotD,z8,Option.bind_none,Option.map_none]
  (repeat (first | apply j0 | refine j6 rfl ?_ | refine z7 rfl ?_ | apply z6 | (refine j4 fun K hK => ?_) | (refine z5 fun K hK => ?_) | ((first | apply x5 | apply j5 | ((first | refine z3 (hK _ ?_) | refine x4 (hK _ _ z4 ?_));clear hK K));(first | show AWP _ _ _ _ _ | ((try simp only [x6]);first | show loopQ _ _ _ _ _ _ | show cutQ _ _ _ _ | show AWP _ _ _ _ _))) | ((first | refine x7 [7] rfl ?_ | refine j7 [7] rfl ?_);simp (disch:=omega) only [go_sem,seval,hd,cb,ruleD,configD,spotD,z8,Option.bind_none,Option.map_none];(repeat (first | refine ⟨by omega,?_⟩ | refine ⟨z15,?_⟩)))))
  (refine q16 _ (x16 [(1000,601),(1001,602),(1002,603)] rfl rfl rfl rfl rfl rfl (ru) rfl (j16 (by repeat (first | exact trivial | refine ⟨rfl,?_⟩)) (by kernel_rfl))) ?_);simp (disch:=omega) only [go_sem,seval,hd,cb,ruleD,configD,spotD,z8,Option.bind_none,Option.map_none]
  (repeat (first | apply j0 | refine j6 rfl ?_ | refine z7 rfl ?_ | apply z6 | (refine j4 fun K hK => ?_) | (refine z5 fun K hK => ?_) | ((first | apply x5 | apply j5 | ((first | refine z3 (hK _ ?_) | refine x4 (hK _ _ z4 ?_));clear hK K));(first | show AWP _ _ _ _ _ | ((try simp only [x6]);first | show loopQ _ _ _ _ _ _ | show cutQ _ _ _ _ | show AWP _ _ _ _ _))) | ((first | refine x7 [7] rfl ?_ | refine j7 [7] rfl ?_);simp (disch:=omega) only [go_sem,seval,hd,cb,ruleD,configD,spotD,z8,Option.bind_none,Option.map_none];(repeat (first | refine ⟨by omega,?_⟩ | refine ⟨z15,?_⟩)))))
  refine z87 (Weak.freeze _ 56 603 R2.length 4 R2.length 27 (rowC R2) rfl rfl) ?_
  have hR3 : R2.length ≤ 101000 := by
   have := j40 setF z55 c.tb L
   rw [hR2] at this;omega
  have cp := j102 R2.length (rowC R2) (by omega)
  simp (disch:=omega) only [go_sem,seval,hd,cb,ruleD,configD,spotD,z8,Option.bind_none,Option.map_none,j17]
  (repeat (first | apply j0 | refine j6 rfl ?_ | refine z7 rfl ?_ | apply z6 | (refine j4 fun K hK => ?_) | (refine z5 fun K hK => ?_) | ((first | apply x5 | apply j5 | ((first | refine z3 (hK _ ?_) | refine x4 (hK _ _ z4 ?_));clear hK K));(first | show AWP _ _ _ _ _ | ((try simp only [x6]);first | show loopQ _ _ _ _ _ _ | show cutQ _ _ _ _ | show AWP _ _ _ _ _))) | ((first | refine j8 rfl rfl rfl ?_ | refine q9 rfl rfl rfl ?_);simp (disch:=omega) only [go_sem,seval,hd,cb,ruleD,configD,spotD,z8,Option.bind_none,Option.map_none,j17];(first | refine ⟨_,cp,?_⟩)) | ((first | refine x7 [7] rfl ?_ | refine j7 [7] rfl ?_);simp (disch:=omega) only [go_sem,seval,hd,cb,ruleD,configD,spotD,z8,Option.bind_none,Option.map_none,j17];(repeat (first | refine ⟨by omega,?_⟩ | refine ⟨z15,?_⟩)))))
  refine x8 ⟨_,?_,rfl⟩;rw [Try.results24];simp (disch:=omega) only [ResVars,ResVar,ptrLoc,go_sem,seval,hd,cb,ruleD,configD,spotD,z8,Option.bind_none,Option.map_none,j17]
def onesA (x : Int) : Int := IntKind.u64.wrap (bits .and .u64 (x / 2 ^ min 1 64) 6148914691236517205 + bits .and .u64 x 6148914691236517205)
def onesB (x : Int) : Int := IntKind.u64.wrap (bits .and .u64 (x / 2 ^ min 2 64) 3689348814741910323 + bits .and .u64 x 3689348814741910323)
def onesC (x : Int) : Int := bits .and .u64 (IntKind.u64.wrap (x / 2 ^ min 4 64 + x)) 1085102592571150095
def onesD (x : Int) (n : Nat) : Int := IntKind.u64.wrap (x + x / 2 ^ min n 64)
def onesI (x : Int) : Int := bits .and .i64 (IntKind.i64.wrap (onesD (onesD (onesD (onesC (onesB (onesA x))) 8) 16) 32)) 127
theorem j106 (x : Int) : ACalls Try.prog 119 [.d (.v (.int .u64 x))] (· = [.d (.v (.int .i64 (onesI x)))]) := by
 unfold onesI onesD onesC onesB onesA
 refine q11 Try.func119 rfl (by decide +kernel) (by rw [Try.ntmps119];simp) ?_;rw [Try.ntmps119];simp only [frOf]
 (repeat (first | apply j0 | refine j6 rfl ?_ | refine z7 rfl ?_ | apply z6 | (refine j4 fun K hK => ?_) | (refine z5 fun K hK => ?_) | ((first | apply x5 | apply j5 | ((first | refine z3 (hK _ ?_) | refine x4 (hK _ _ z4 ?_));clear hK K));(first | show AWP _ _ _ _ _ | ((try simp only [x6]);first | show loopQ _ _ _ _ _ _ | show cutQ _ _ _ _ | show AWP _ _ _ _ _))) | ((first | refine x7 [] rfl ?_ | refine j7 [] rfl ?_);simp (disch:=omega) only [go_sem,seval,hd,cb];(repeat (first | refine ⟨by omega,?_⟩ | refine ⟨True.intro,?_⟩)))))
 refine x8 ⟨_,?_,rfl⟩;rw [Try.results119];simp (disch:=omega) only [ResVars,ResVar,ptrLoc,go_sem,seval,hd,cb]
theorem j167 (y : Int) : 0 ≤ bits .and .i64 y 127 ∧ bits .and .i64 y 127 ≤ 127 := by
 show 0 ≤ IntKind.i64.wrap (((BitVec.ofInt 64 y &&& BitVec.ofInt 64 127).toNat : Nat) : Int) ∧ IntKind.i64.wrap (((BitVec.ofInt 64 y &&& BitVec.ofInt 64 127).toNat : Nat) : Int) ≤ 127
 have h : (BitVec.ofInt 64 y &&& BitVec.ofInt 64 127).toNat ≤ 127 := by
  rw [BitVec.toNat_and]
  exact Nat.le_trans Nat.and_le_right (by decide)
 generalize (BitVec.ofInt 64 y &&& BitVec.ofInt 64 127).toNat = n at h
 rw [wi (by omega)]
 omega
theorem x55 (x : Int) : 0 ≤ onesI x ∧ onesI x ≤ 127 := j167 _
def onesK (k : Cube) : Int := onesI (hi k.c) + onesI (lo k.c)
theorem q107 (k : Cube) : 0 ≤ onesK k ∧ onesK k ≤ 254 := by
 have := x55 (hi k.c)
 have := x55 (lo k.c)
 unfold onesK;omega
theorem z107 (k : Cube) : ACalls Try.prog 90 [.agg (hd k.c)] (· = [.d (.v (.int .i64 (onesK k)))]) := by
 have h1 := j106 (hi k.c)
 have h2 := j106 (lo k.c)
 have l1 := x55 (hi k.c)
 have l2 := x55 (lo k.c)
 unfold onesK
 generalize onesI (hi k.c) = a at h1 l1
 generalize onesI (lo k.c) = b at h2 l2
 refine q11 Try.func90 rfl (by decide +kernel) (by rw [Try.ntmps90];simp) ?_;rw [Try.ntmps90];simp only [frOf]
 (repeat (first | apply j0 | refine j6 rfl ?_ | refine z7 rfl ?_ | apply z6 | (refine j4 fun K hK => ?_) | (refine z5 fun K hK => ?_) | ((first | apply x5 | apply j5 | ((first | refine z3 (hK _ ?_) | refine x4 (hK _ _ z4 ?_));clear hK K));(first | show AWP _ _ _ _ _ | ((try simp only [x6]);first | show loopQ _ _ _ _ _ _ | show cutQ _ _ _ _ | show AWP _ _ _ _ _))) | ((first | refine j8 rfl rfl rfl ?_ | refine q9 rfl rfl rfl ?_);simp (disch:=omega) only [go_sem,seval,hd,cb];(first | refine ⟨_,h1,?_⟩ | refine ⟨_,h2,?_⟩)) | ((first | refine x7 [] rfl ?_ | refine j7 [] rfl ?_);simp (disch:=omega) only [go_sem,seval,hd,cb];(repeat (first | refine ⟨by omega,?_⟩ | refine ⟨True.intro,?_⟩)))))
 refine x8 ⟨_,?_,rfl⟩;rw [Try.results90];simp (disch:=omega) only [ResVars,ResVar,ptrLoc,go_sem,seval,hd,cb]
theorem wide_c (a b : Cube) : ACalls Try.prog 62 [.agg (cb a),.agg (cb b)] (· = [.d (.v (.int .i64 (onesK a - onesK b)))]) := by
 have h1 := z107 a
 have h2 := z107 b
 have l1 := q107 a
 have l2 := q107 b
 generalize onesK a = x at h1 l1
 generalize onesK b = y at h2 l2
 unfold hd at h1 h2
 refine q11 Try.func62 rfl (by decide +kernel) (by rw [Try.ntmps62];simp) ?_;rw [Try.ntmps62];simp only [frOf]
 (repeat (first | apply j0 | refine j6 rfl ?_ | refine z7 rfl ?_ | apply z6 | (refine j4 fun K hK => ?_) | (refine z5 fun K hK => ?_) | ((first | apply x5 | apply j5 | ((first | refine z3 (hK _ ?_) | refine x4 (hK _ _ z4 ?_));clear hK K));(first | show AWP _ _ _ _ _ | ((try simp only [x6]);first | show loopQ _ _ _ _ _ _ | show cutQ _ _ _ _ | show AWP _ _ _ _ _))) | ((first | refine j8 rfl rfl rfl ?_ | refine q9 rfl rfl rfl ?_);simp (disch:=omega) only [go_sem,seval,hd,cb];(first | refine ⟨_,h1,?_⟩ | refine ⟨_,h2,?_⟩)) | ((first | refine x7 [] rfl ?_ | refine j7 [] rfl ?_);simp (disch:=omega) only [go_sem,seval,hd,cb];(repeat (first | refine ⟨by omega,?_⟩ | refine ⟨True.intro,?_⟩)))))
 refine x8 ⟨_,?_,rfl⟩;rw [Try.results62];simp (disch:=omega) only [ResVars,ResVar,ptrLoc,go_sem,seval,hd,cb]
theorem j55 {c : Config} (h : soundC c = 0) : (edgesT c.tp).length ≤ 36 ∧ cnt3 c.tb ≤ 576 := by
 unfold soundC at h
 split at h
 ·contradiction
 rename_i ht
 have ht : soundT c.tp = 0 := by simpa using ht
 split at h
 ·contradiction
 split at h
 ·exact absurd h (by decide)
 rename_i hl
 have hl : c.tb.length = c.tp.length := by simpa using hl
 unfold soundT at ht
 split at ht
 ·exact absurd ht (by decide)
 rename_i h6
 split at ht
 ·exact absurd ht (by decide)
 rename_i hlens
 have hlens : allF (lensT c.tp) c.tp.length 0 = true := by simpa using hlens
 rw [z52] at hlens
 constructor
 ·have key : ∀ n,n ≤ c.tp.length → (edgesTo c.tp n).length ≤ n * 6 := by
   intro n
   induction n with
   | zero => intro _;simp [edgesTo]
   |succ n ih =>
    intro hn
    have h1 := ih (by omega)
    have h2 := q39 (c.tp.getD n []) n (c.tp.getD n []).length
    have h3 := hlens n (by omega) (by omega)
    unfold lensT at h3
    have h3 := of_decide_eq_true h3
    unfold edgesTo
    simp only [List.length_append]
    omega
  have := key c.tp.length (Nat.le_refl _)
  unfold edgesT
  omega
 ·have hf : ∀ i,i < c.tb.length → tabE c i = 0 := by
   have key : ∀ n i,errF (tabE c) n i = 0 → ∀ k,i ≤ k → k < i + n → tabE c k = 0 := by
    intro n
    induction n with
    | zero => intro i _ k h1 h2;omega
    |succ n ih =>
     intro i he k h1 h2
     unfold errF at he
     split at he
     ·rename_i h0
      by_cases hk : k = i
      ·subst hk;exact h0
      ·exact ih (i + 1) he k (by omega) (by omega)
     ·rename_i h0;exact absurd he h0
   intro i hi
   exact key _ 0 h i (by omega) (by omega)
  have hs : ∀ i,i < c.tb.length → cnt2 (c.tb.getD i []) ≤ 96 := by
   intro i hi
   have h1 := hf i hi
   unfold tabE soundTab at h1
   split at h1
   ·exact absurd h1 (by decide)
   split at h1
   ·exact absurd h1 (by decide)
   rename_i h96
   have e : ∀ (t : List (List Rule)) (n : Nat),sumR t n = cnt2 (t.take n) := by
    intro t n
    induction n with
    | zero => simp [sumR,cnt2]
    |succ n ih =>
     unfold sumR
     rw [ih]
     by_cases hn : n < t.length
     ·rw [z93 t n [] hn];simp [cnt2]
     ·rw [List.getD_eq_getElem?_getD,List.getElem?_eq_none (by omega),List.take_of_length_le (by omega),List.take_of_length_le (by omega)];simp
   rw [e,List.take_length] at h96
   omega
  have key : ∀ b : List (List (List Rule)),(∀ i,i < b.length → cnt2 (b.getD i []) ≤ 96) → cnt3 b ≤ b.length * 96 := by
   intro b
   induction b with
   | nil => intro _;simp [cnt3]
   |cons t b ih =>
    intro hb
    have h0 := hb 0 (by simp)
    have h1 := ih fun i hi => by have := hb (i + 1) (by simpa using hi);simpa using this
    have e : cnt3 (t :: b) = cnt2 t + cnt3 b := by simp [cnt3]
    simp only [List.getD_cons_zero] at h0
    rw [e,List.length_cons,Nat.add_mul]
    omega
  have := key c.tb hs
  omega
theorem j71 (c : Config) (v : Int) (hc : c.small) (hv : -9223372036854775808 ≤ v ∧ v < 9223372036854775808) : ACalls Try.prog 24 [.agg (configD c),.d (.v (.int .i64 v))] (· = [.d (.sl 4 (setsV c v).length (rowC (setsV c v))),.d (.v (.int .i64 (predE c v)))]) := by
 unfold setsV
 by_cases h : soundC c = 0
 ·have hb := j55 h
  by_cases h2 : v < 0 ∨ 255 < v
  ·have e : predE c v = 4 := by unfold predE;rw [if_neg (by simpa using h),if_pos h2]
   rw [e,if_neg (by decide)]
   exact x106 c v hc 4 (by decide) (.inr ⟨h,h2,rfl⟩)
  ·have e : predE c v = 0 := by unfold predE;rw [if_neg (by simpa using h),if_neg h2]
   rw [e,if_pos rfl]
   exact x167 c v hc h (by omega) (by omega) (by omega)
 ·have e : predE c v = soundC c := by unfold predE;rw [if_pos h]
  rw [e,if_neg h]
  exact x106 c v hc _ h (.inl rfl)
def befF (x : Cube) (L : List Cube) (s : Cube) : List Cube := if beforeO x s then addC L (beforeV x s) else L
def closeF (S : List Cube) : Nat → Nat → List Cube → List Cube
 | 0,_,L => L
 | f + 1,n,L => if n < L.length ∧ L.length ≤ 500 then closeF S f (n + 1) (S.foldl (befF (L.getD n ⟨0,0⟩)) L) else L
def asksL (c : Config) (v : Int) : List Cube := closeF (setsL c v) 501 0 (fold3 matchF c.tb [])
def ofE (c : Config) (v : Int) : Int := if predE c v ≠ 0 then predE c v else if 500 < (asksL c v).length then 10 else 0
def ofV (c : Config) (v : Int) : List Cube := if ofE c v = 0 then isort onesK (asksL c v) else []
theorem x107 (x : Cube) (L : List Cube) (s : Cube) : (befF x L s).length ≤ L.length + 1 := by
 unfold befF;split
 ·exact j20 _ _
 ·omega
def ofA (c : Config) (S R : List Cube) (s : {s : Nat × List Cube // closeF S (501 - s.1) s.1 s.2 = R ∧ s.2.length ≤ 100000 ∧ s.1 ≤ 501}) : ASt :=
 ⟨[(9,.p (.d (.v (.int .i64 (s.val.1 : Int))))),(8,.loc 8 0),(6,.p (.d (.sl 4 S.length (rowC S))))],
  [(8,.cells 117 [.loc 601 0]),(601,.cells 127 [.ow 603 s.val.2.length 4 s.val.2.length,.mp 602]),(602,.map [.u64,.u64,.u64,.u64] (seenM s.val.2)),(603,.own 27 4 s.val.2.length s.val.2.length (rowC s.val.2))]⟩
def ofB (c : Config) (S R : List Cube) (n : Nat) (x : Cube) (s : {s : Nat × List Cube // s.1 ≤ S.length ∧ (S.drop s.1).foldl (befF x) s.2 = R ∧ s.2.length ≤ 500 + s.1 ∧ n < s.2.length ∧ s.2.getD n ⟨0,0⟩ = x}) : ASt :=
 ⟨[(50,.p (.d (.v (.int .i64 (s.val.1 : Int))))),(49,.p (.d (.v (.int .i64 (S.length : Int))))),(48,.p (.d (.sl 4 S.length (rowC S)))),(9,.p (.d (.v (.int .i64 (n : Int))))),(8,.loc 8 0),(6,.p (.d (.sl 4 S.length (rowC S))))],
  [(8,.cells 117 [.loc 601 0]),(601,.cells 127 [.ow 603 s.val.2.length 4 s.val.2.length,.mp 602]),(602,.map [.u64,.u64,.u64,.u64] (seenM s.val.2)),(603,.own 27 4 s.val.2.length s.val.2.length (rowC s.val.2))]⟩
theorem j107 (L : List Cube) (k : Cube) {n : Nat} (hn : n < L.length) : n < (addC L k).length ∧ (addC L k).getD n ⟨0,0⟩ = L.getD n ⟨0,0⟩ := by
 unfold addC
 split
 ·exact ⟨hn,rfl⟩
 ·refine ⟨by simp;omega,?_⟩
  rw [List.getD_eq_getElem?_getD,List.getD_eq_getElem?_getD,List.getElem?_append_left hn]
set_option maxRecDepth 100000 in
theorem q108 (c : Config) (v : Int) (hc : c.small) (hv : -9223372036854775808 ≤ v ∧ v < 9223372036854775808) (h : predE c v ≠ 0) : ACalls Try.prog 28 [.agg (configD c),.d (.v (.int .i64 v))] (· = [.d (.sl 4 ([] : List Cube).length (rowC [])),.d (.v (.int .i64 (predE c v)))]) := by
 have st := j71 c v hc hv
 unfold setsV at st
 rw [if_neg h] at st
 generalize predE c v = e at *
 have q := z12 h
 refine q11 Try.func28 rfl (by decide +kernel) (by rw [Try.ntmps28];simp) ?_;rw [Try.ntmps28];simp only [frOf]
 (repeat (first | apply j0 | refine j6 rfl ?_ | refine z7 rfl ?_ | apply z6 | (refine j4 fun K hK => ?_) | (refine z5 fun K hK => ?_) | ((first | apply x5 | apply j5 | ((first | refine z3 (hK _ ?_) | refine x4 (hK _ _ z4 ?_));clear hK K));(first | show AWP _ _ _ _ _ | ((try simp only [x6]);first | show loopQ _ _ _ _ _ _ | show cutQ _ _ _ _ | show AWP _ _ _ _ _))) | ((first | refine j8 rfl rfl rfl ?_ | refine q9 rfl rfl rfl ?_);simp (disch:=omega) only [go_sem,seval,hd,cb,ruleD,configD,spotD,z8,q];(first | refine ⟨_,st,?_⟩)) | ((first | refine x7 [8] rfl ?_ | refine j7 [8] rfl ?_);simp (disch:=omega) only [go_sem,seval,hd,cb,ruleD,configD,spotD,z8,q];(repeat (first | refine ⟨by omega,?_⟩ | refine ⟨z15,?_⟩)))))
 refine j22 4 _ (.p (.d (.sl 4 ([] : List Cube).length (rowC [])))) rfl (x31 4 _ _ rfl) ?_
 refine x8 ⟨_,?_,rfl⟩;rw [Try.results28];simp (disch:=omega) only [ResVars,ResVar,ptrLoc,go_sem,seval,hd,cb,ruleD,configD,spotD,z8,q]
theorem wideK : CmpK Try.prog 62 onesK (fun p q => onesK p - onesK q) where
 call := wide_c
 lt := fun p q => by constructor <;> intro <;> omega
theorem q168 (l : List Cube) : seg (fun i => l.getD i ⟨0,0⟩) 0 l.length = l := by
 apply List.ext_getElem
 ·simp [q25]
 ·intro k h1 h2
  simp [seg,h2]
theorem z168 (l : List Cube) (i : Nat) (hi : i < l.length) : rowFK (stab onesK 0 l.length (fun i => l.getD i ⟨0,0⟩)) i = rowC (isort onesK l) i := by
 unfold rowFK rowC stab
 rw [if_pos ⟨Nat.zero_le _,hi⟩,q168]
 have : i < (isort onesK l).length := by rw [x40];exact hi
 simp [this]
set_option maxRecDepth 100000 in
theorem Of_good (c : Config) (v : Int) (hc : c.small) (hv : -9223372036854775808 ≤ v ∧ v < 9223372036854775808) (h : predE c v = 0) : ACalls Try.prog 28 [.agg (configD c),.d (.v (.int .i64 v))] (· = [.d (.sl 4 (ofV c v).length (rowC (ofV c v))),.d (.v (.int .i64 (ofE c v)))]) := by
 have h0 : soundC c = 0 := by
  unfold predE at h
  split at h
  ·contradiction
  ·rename_i hh;simpa using hh
 have hb := j55 h0
 have st := j71 c v hc hv
 have hSl : (setsL c v).length ≤ 1000 := by
  have h1 := z25 (stampF c v) (fun L a => j20 L _) (edgesT c.tp) []
  have h2 := j40 setF z55 c.tb (setsE c v)
  unfold setsL
  unfold setsE at h2 ⊢
  simp at h1;omega
 have hMl : (fold3 matchF c.tb []).length ≤ 1000 := by
  have h2 := j40 matchF x71 c.tb []
  simp at h2;omega
 have ru := x105 c hc 59 matchF [] (fold3 matchF c.tb []) q167 x71 (by simp;omega) rfl
 unfold setsV at st
 rw [h,if_pos rfl] at st
 obtain ⟨R,hR⟩ : ∃ x,asksL c v = x := ⟨_,rfl⟩
 have e1 : ofE c v = if 500 < R.length then 10 else 0 := by unfold ofE;rw [hR,if_neg (by simpa using h)]
 have e2 : ofV c v = if 500 < R.length then [] else isort onesK R := by
  unfold ofV;rw [e1,hR]
  split
  ·rw [if_neg (by decide)]
  ·rw [if_pos rfl]
 unfold asksL at hR
 generalize setsL c v = S at st hSl hR
 generalize fold3 matchF c.tb [] = L0 at ru hMl hR
 unfold lstL lstA at ru
 refine q11 Try.func28 rfl (by decide +kernel) (by rw [Try.ntmps28];simp) ?_;rw [Try.ntmps28];simp only [frOf]
 (repeat (first | apply j0 | refine j6 rfl ?_ | refine z7 rfl ?_ | apply z6 | (refine j4 fun K hK => ?_) | (refine z5 fun K hK => ?_) | ((first | apply x5 | apply j5 | ((first | refine z3 (hK _ ?_) | refine x4 (hK _ _ z4 ?_));clear hK K));(first | show AWP _ _ _ _ _ | ((try simp only [x6]);first | show loopQ _ _ _ _ _ _ | show cutQ _ _ _ _ | show AWP _ _ _ _ _))) | ((first | refine j8 rfl rfl rfl ?_ | refine q9 rfl rfl rfl ?_);simp (disch:=omega) only [go_sem,seval,hd,cb,ruleD,configD,spotD,z8,Option.bind_none,Option.map_none];(first | refine ⟨_,st,?_⟩)) | ((first | refine x7 [8] rfl ?_ | refine j7 [8] rfl ?_);simp (disch:=omega) only [go_sem,seval,hd,cb,ruleD,configD,spotD,z8,Option.bind_none,Option.map_none];(repeat (first | refine ⟨by omega,?_⟩ | refine ⟨z15,?_⟩)))))
 (refine q16 _ (x16 [(3,601),(1,602)] rfl rfl rfl rfl rfl rfl (q106) rfl (j16 (by repeat (first | exact trivial | refine ⟨rfl,?_⟩)) (by kernel_rfl))) ?_);simp (disch:=omega) only [go_sem,seval,hd,cb,ruleD,configD,spotD,z8,Option.bind_none,Option.map_none]
 (repeat ((fail_if_success (show AWP _ _ (.region 5 _ _) _ _));first | apply j0 | refine j6 rfl ?_ | refine z7 rfl ?_ | apply z6 | (refine j4 fun K hK => ?_) | (refine z5 fun K hK => ?_) | ((first | apply x5 | apply j5 | ((first | refine z3 (hK _ ?_) | refine x4 (hK _ _ z4 ?_));clear hK K));(first | show AWP _ _ _ _ _ | ((try simp only [x6]);first | show loopQ _ _ _ _ _ _ | show cutQ _ _ _ _ | show AWP _ _ _ _ _))) | ((first | refine x7 [8] rfl ?_ | refine j7 [8] rfl ?_);simp (disch:=omega) only [go_sem,seval,hd,cb,ruleD,configD,spotD,z8,Option.bind_none,Option.map_none];(repeat (first | refine ⟨by omega,?_⟩ | refine ⟨z15,?_⟩)))))
 refine x101 601 603 0 4 27 (rowC []) rfl rfl (by omega) (by kernel_rfl) rfl ?_
 refine j4 fun K hK => ?_
 (first | refine q64 [8] rfl rfl ?_ | refine z64 [8] rfl rfl ?_ | refine x48 rfl rfl ?_ | refine j48 rfl rfl ?_)
 simp (disch:=omega) only [go_sem,seval,hd,cb,ruleD,configD,spotD,z8,Option.bind_none,Option.map_none]
 refine q16 _ (j105 [.loc 601 0] rfl ty117 rfl rfl rfl rfl rfl rfl rfl) ?_
 simp (disch:=omega) only [go_sem,seval,hd,cb,ruleD,configD,spotD,z8,Option.bind_none,Option.map_none]
 (repeat (first | apply j0 | refine j6 rfl ?_ | refine z7 rfl ?_ | apply z6 | (refine j4 fun K hK => ?_) | (refine z5 fun K hK => ?_) | ((first | apply x5 | apply j5 | ((first | refine z3 (hK _ ?_) | refine x4 (hK _ _ z4 ?_));clear hK K));(first | show AWP _ _ _ _ _ | ((try simp only [x6]);first | show loopQ _ _ _ _ _ _ | show cutQ _ _ _ _ | show AWP _ _ _ _ _))) | ((first | refine x7 [8] rfl ?_ | refine j7 [8] rfl ?_);simp (disch:=omega) only [go_sem,seval,hd,cb,ruleD,configD,spotD,z8,Option.bind_none,Option.map_none];(repeat (first | refine ⟨by omega,?_⟩ | refine ⟨z15,?_⟩)))))
 (refine q16 _ (x16 [(1000,601),(1001,602),(1002,603)] rfl rfl rfl rfl rfl rfl (ru) rfl (j16 (by repeat (first | exact trivial | refine ⟨rfl,?_⟩)) (by kernel_rfl))) ?_);simp (disch:=omega) only [go_sem,seval,hd,cb,ruleD,configD,spotD,z8,Option.bind_none,Option.map_none]
 (repeat (first | apply j0 | refine j6 rfl ?_ | refine z7 rfl ?_ | apply z6 | (refine j4 fun K hK => ?_) | (refine z5 fun K hK => ?_) | ((first | apply x5 | apply j5 | ((first | refine z3 (hK _ ?_) | refine x4 (hK _ _ z4 ?_));clear hK K));(first | show AWP _ _ _ _ _ | ((try simp only [x6]);first | show loopQ _ _ _ _ _ _ | show cutQ _ _ _ _ | show AWP _ _ _ _ _))) | ((first | refine x7 [8] rfl ?_ | refine j7 [8] rfl ?_);simp (disch:=omega) only [go_sem,seval,hd,cb,ruleD,configD,spotD,z8,Option.bind_none,Option.map_none];(repeat (first | refine ⟨by omega,?_⟩ | refine ⟨z15,?_⟩)))))
 refine x12 (ofA c S R) (fun s => 501 - s.val.1) ⟨(0,L0),hR,by simp only [];omega,by simp only [];omega⟩ ?_ (fun s => ?_)
 ·unfold ofA
  refine Weak.list ?_ ?_;(all_goals simp (disch:=omega) only [AllF,AllL,q10,z10,j9,exists_eq_left',go_sem,seval,hd,cb,ruleD,configD,spotD,z8,Option.bind_none,Option.map_none]);(all_goals (repeat' (with_reducible apply And.intro)));(all_goals try (first | exact q8 rfl | (refine x10 ?_;omega) | (refine q8 ?_;simp;done)))
 obtain ⟨⟨n,L⟩,h1,h2,h3⟩ := s
 simp only [] at h1 h2 h3
 unfold ofA
 simp only []
 by_cases hn : n < L.length
 ·by_cases h5 : L.length ≤ 500
  ·obtain ⟨f,hf⟩ : ∃ f,501 - n = f + 1 := ⟨500 - n,by omega⟩
   have hf2 : 501 - (n + 1) = f := by omega
   rw [hf] at h1
   unfold closeF at h1
   rw [if_pos ⟨hn,h5⟩] at h1
   obtain ⟨x,hx⟩ : ∃ x,L.getD n ⟨0,0⟩ = x := ⟨_,rfl⟩
   rw [hx] at h1
   obtain ⟨L9,hL9⟩ : ∃ y,S.foldl (befF x) L = y := ⟨_,rfl⟩
   rw [hL9] at h1
   have hl9 : L9.length ≤ 1500 := by
    have := z25 (befF x) (x107 x) S L
    rw [hL9] at this;omega
   (repeat (first | apply j0 | refine j6 rfl ?_ | refine z7 rfl ?_ | apply z6 | (refine j4 fun K hK => ?_) | (refine z5 fun K hK => ?_) | ((first | apply x5 | apply j5 | ((first | refine z3 (hK _ ?_) | refine x4 (hK _ _ z4 ?_));clear hK K));(first | show AWP _ _ _ _ _ | ((try simp only [x6]);first | show loopQ _ _ _ _ _ _ | show cutQ _ _ _ _ | show AWP _ _ _ _ _))) | ((first | refine x7 [8] rfl ?_ | refine j7 [8] rfl ?_);simp (disch:=omega) only [go_sem,seval,hd,cb,ruleD,configD,spotD,z8];(repeat (first | refine ⟨by omega,?_⟩ | refine ⟨z15,?_⟩)))))
   refine x12 (ofB c S L9 n x) (fun s => S.length - s.val.1) ⟨(0,L),by omega,by rw [List.drop_zero];exact hL9,by simp only [];omega,hn,hx⟩ ?_ (fun s => ?_)
   ·unfold ofB
    refine Weak.list ?_ ?_;(all_goals simp (disch:=omega) only [AllF,AllL,q10,z10,j9,exists_eq_left',go_sem,seval,hd,cb,ruleD,configD,spotD,z8]);(all_goals (repeat' (with_reducible apply And.intro)));(all_goals try (first | exact q8 rfl | (refine x10 ?_;omega) | (refine q8 ?_;simp;done)))
   obtain ⟨⟨j,L2⟩,hj,k1,k2,k3,k4⟩ := s
   simp only [] at hj k1 k2 k3 k4
   unfold ofB
   simp only []
   by_cases hm : j < S.length
   ·have r1 := z23 S j
    have r2 := z23 L2 n
    rw [k4] at r2
    rw [j19 S j ⟨0,0⟩ hm] at k1
    simp only [List.foldl_cons] at k1
    generalize S.getD j ⟨0,0⟩ = s at r1 k1
    have bf := z153 x s
    unfold befF at k1
    have ad := x54 L2 (beforeV x s) (by omega)
    have al := j20 L2 (beforeV x s)
    obtain ⟨at1,at2⟩ := j107 L2 (beforeV x s) k3
    generalize addC L2 (beforeV x s) = L3 at ad al k1 at1 at2
    generalize beforeV x s = y at bf ad
    unfold lstL lstA at ad
    cases hbo : beforeO x s
    ·rw [hbo] at bf k1
     simp only [Bool.false_eq_true,if_false] at k1
     (repeat (first | apply j0 | refine j6 rfl ?_ | refine z7 rfl ?_ | apply z6 | (refine j4 fun K hK => ?_) | (refine z5 fun K hK => ?_) | ((first | apply x5 | apply j5 | ((first | refine z3 (hK _ ?_) | refine x4 (hK _ _ z4 ?_));clear hK K));(first | show AWP _ _ _ _ _ | ((try simp only [x6]);first | show loopQ _ _ _ _ _ _ | show cutQ _ _ _ _ | show AWP _ _ _ _ _))) | ((first | refine j8 rfl rfl rfl ?_ | refine q9 rfl rfl rfl ?_);simp (disch:=omega) only [go_sem,seval,hd,cb,ruleD,configD,spotD,z8,r1,r2];(first | refine ⟨_,bf,?_⟩)) | ((first | refine x7 [8] rfl ?_ | refine j7 [8] rfl ?_);simp (disch:=omega) only [go_sem,seval,hd,cb,ruleD,configD,spotD,z8,r1,r2];(repeat (first | refine ⟨by omega,?_⟩ | refine ⟨z15,?_⟩)))))
     refine ⟨⟨(j + 1,L2),by simp only [];omega,k1,by simp only [];omega,k3,k4⟩,by simp only [];omega,?_⟩
     refine Weak.list ?_ ?_;(all_goals simp (disch:=omega) only [AllF,AllL,q10,z10,j9,exists_eq_left',go_sem,seval,hd,cb,ruleD,configD,spotD,z8,r1,r2]);(all_goals (repeat' (with_reducible apply And.intro)));(all_goals try (first | exact q8 rfl | (refine x10 ?_;omega) | (refine q8 ?_;simp;done)))
    ·rw [hbo] at bf k1
     simp only [if_true] at k1
     (repeat (first | apply j0 | refine j6 rfl ?_ | refine z7 rfl ?_ | apply z6 | (refine j4 fun K hK => ?_) | (refine z5 fun K hK => ?_) | ((first | apply x5 | apply j5 | ((first | refine z3 (hK _ ?_) | refine x4 (hK _ _ z4 ?_));clear hK K));(first | show AWP _ _ _ _ _ | ((try simp only [x6]);first | show loopQ _ _ _ _ _ _ | show cutQ _ _ _ _ | show AWP _ _ _ _ _))) | ((first | refine j8 rfl rfl rfl ?_ | refine q9 rfl rfl rfl ?_);simp (disch:=omega) only [go_sem,seval,hd,cb,ruleD,configD,spotD,z8,r1,r2];(first | refine ⟨_,bf,?_⟩)) | ((first | refine x7 [8] rfl ?_ | refine j7 [8] rfl ?_);simp (disch:=omega) only [go_sem,seval,hd,cb,ruleD,configD,spotD,z8,r1,r2];(repeat (first | refine ⟨by omega,?_⟩ | refine ⟨z15,?_⟩)))))
     (refine q16 _ (x16 [(1000,601),(1001,602),(1002,603)] rfl rfl rfl rfl rfl rfl (ad) rfl (j16 (by repeat (first | exact trivial | refine ⟨rfl,?_⟩)) (by kernel_rfl))) ?_);simp (disch:=omega) only [go_sem,seval,hd,cb,ruleD,configD,spotD,z8,r1,r2]
     (repeat (first | apply j0 | refine j6 rfl ?_ | refine z7 rfl ?_ | apply z6 | (refine j4 fun K hK => ?_) | (refine z5 fun K hK => ?_) | ((first | apply x5 | apply j5 | ((first | refine z3 (hK _ ?_) | refine x4 (hK _ _ z4 ?_));clear hK K));(first | show AWP _ _ _ _ _ | ((try simp only [x6]);first | show loopQ _ _ _ _ _ _ | show cutQ _ _ _ _ | show AWP _ _ _ _ _))) | ((first | refine x7 [8] rfl ?_ | refine j7 [8] rfl ?_);simp (disch:=omega) only [go_sem,seval,hd,cb,ruleD,configD,spotD,z8,r1,r2];(repeat (first | refine ⟨by omega,?_⟩ | refine ⟨z15,?_⟩)))))
     refine ⟨⟨(j + 1,L3),by simp only [];omega,k1,by simp only [];omega,at1,at2.trans k4⟩,by simp only [];omega,?_⟩
     refine Weak.list ?_ ?_;(all_goals simp (disch:=omega) only [AllF,AllL,q10,z10,j9,exists_eq_left',go_sem,seval,hd,cb,ruleD,configD,spotD,z8,r1,r2]);(all_goals (repeat' (with_reducible apply And.intro)));(all_goals try (first | exact q8 rfl | (refine x10 ?_;omega) | (refine q8 ?_;simp;done)))
   ·have : j = S.length := by omega
    subst this
    rw [List.drop_length] at k1
    obtain rfl : L2 = L9 := k1
    (repeat (first | apply j0 | refine j6 rfl ?_ | refine z7 rfl ?_ | apply z6 | (refine j4 fun K hK => ?_) | (refine z5 fun K hK => ?_) | ((first | apply x5 | apply j5 | ((first | refine z3 (hK _ ?_) | refine x4 (hK _ _ z4 ?_));clear hK K));(first | show AWP _ _ _ _ _ | ((try simp only [x6]);first | show loopQ _ _ _ _ _ _ | show cutQ _ _ _ _ | show AWP _ _ _ _ _))) | ((first | refine x7 [8] rfl ?_ | refine j7 [8] rfl ?_);simp (disch:=omega) only [go_sem,seval,hd,cb,ruleD,configD,spotD,z8];(repeat (first | refine ⟨by omega,?_⟩ | refine ⟨z15,?_⟩)))))
    refine ⟨⟨(n + 1,L2),by simp only [];rw [hf2];exact h1,by simp only [];omega,by simp only [];omega⟩,by simp only [];omega,?_⟩
    refine Weak.list ?_ ?_;(all_goals simp (disch:=omega) only [AllF,AllL,q10,z10,j9,exists_eq_left',go_sem,seval,hd,cb,ruleD,configD,spotD,z8]);(all_goals (repeat' (with_reducible apply And.intro)));(all_goals try (first | exact q8 rfl | (refine x10 ?_;omega) | (refine q8 ?_;simp;done)))
  ·have hR2 : L = R := by
    rw [← h1]
    cases 501 - n with
    | zero => rfl
    | succ f => unfold closeF;rw [if_neg (by omega)]
   subst hR2
   rw [e1,e2,if_pos (by omega),if_pos (by omega)]
   (repeat (first | apply j0 | refine j6 rfl ?_ | refine z7 rfl ?_ | apply z6 | (refine j4 fun K hK => ?_) | (refine z5 fun K hK => ?_) | ((first | apply x5 | apply j5 | ((first | refine z3 (hK _ ?_) | refine x4 (hK _ _ z4 ?_));clear hK K));(first | show AWP _ _ _ _ _ | ((try simp only [x6]);first | show loopQ _ _ _ _ _ _ | show cutQ _ _ _ _ | show AWP _ _ _ _ _))) | ((first | refine x7 [8] rfl ?_ | refine j7 [8] rfl ?_);simp (disch:=omega) only [go_sem,seval,hd,cb,ruleD,configD,spotD,z8];(repeat (first | refine ⟨by omega,?_⟩ | refine ⟨z15,?_⟩)))))
   refine j22 4 _ (.p (.d (.sl 4 ([] : List Cube).length (rowC [])))) rfl (x31 4 _ _ rfl) ?_
   refine x8 ⟨_,?_,rfl⟩;rw [Try.results28];simp (disch:=omega) only [ResVars,ResVar,ptrLoc,go_sem,seval,hd,cb,ruleD,configD,spotD,z8]
 ·have hR2 : L = R := by
   rw [← h1]
   cases 501 - n with
   | zero => rfl
   | succ f => unfold closeF;rw [if_neg (by omega)]
  subst hR2
  by_cases h5 : 500 < L.length
  ·rw [e1,e2,if_pos h5,if_pos h5]
   (repeat (first | apply j0 | refine j6 rfl ?_ | refine z7 rfl ?_ | apply z6 | (refine j4 fun K hK => ?_) | (refine z5 fun K hK => ?_) | ((first | apply x5 | apply j5 | ((first | refine z3 (hK _ ?_) | refine x4 (hK _ _ z4 ?_));clear hK K));(first | show AWP _ _ _ _ _ | ((try simp only [x6]);first | show loopQ _ _ _ _ _ _ | show cutQ _ _ _ _ | show AWP _ _ _ _ _))) | ((first | refine x7 [8] rfl ?_ | refine j7 [8] rfl ?_);simp (disch:=omega) only [go_sem,seval,hd,cb,ruleD,configD,spotD,z8];(repeat (first | refine ⟨by omega,?_⟩ | refine ⟨z15,?_⟩)))))
   refine j22 4 _ (.p (.d (.sl 4 ([] : List Cube).length (rowC [])))) rfl (x31 4 _ _ rfl) ?_
   refine x8 ⟨_,?_,rfl⟩;rw [Try.results28];simp (disch:=omega) only [ResVars,ResVar,ptrLoc,go_sem,seval,hd,cb,ruleD,configD,spotD,z8]
  ·rw [e1,e2,if_neg h5,if_neg h5]
   have so := j162 wideK (fun i => L.getD i ⟨0,0⟩) L.length L.length (by omega)
   have sl := z168 L
   have sn := x40 (key := onesK) L
   have cp := j102 (isort onesK L).length (rowC (isort onesK L)) (by omega)
   rw [sn] at cp ⊢
   (repeat (first | apply j0 | refine j6 rfl ?_ | refine z7 rfl ?_ | apply z6 | (refine j4 fun K hK => ?_) | (refine z5 fun K hK => ?_) | ((first | apply x5 | apply j5 | ((first | refine z3 (hK _ ?_) | refine x4 (hK _ _ z4 ?_));clear hK K));(first | show AWP _ _ _ _ _ | ((try simp only [x6]);first | show loopQ _ _ _ _ _ _ | show cutQ _ _ _ _ | show AWP _ _ _ _ _))) | ((first | refine x7 [8] rfl ?_ | refine j7 [8] rfl ?_);simp (disch:=omega) only [go_sem,seval,hd,cb,ruleD,configD,spotD,z8,j17];(repeat (first | refine ⟨by omega,?_⟩ | refine ⟨z15,?_⟩)))))
   (refine q16 _ (x16 [(1000,603)] rfl rfl rfl rfl rfl rfl (so) rfl (j16 (by repeat (first | exact trivial | refine ⟨rfl,?_⟩)) (by kernel_rfl))) ?_);simp (disch:=omega) only [go_sem,seval,hd,cb,ruleD,configD,spotD,z8,j17]
   (repeat ((fail_if_success (show AWP _ _ (.region 19 _ _) _ _));first | apply j0 | refine j6 rfl ?_ | refine z7 rfl ?_ | apply z6 | (refine j4 fun K hK => ?_) | (refine z5 fun K hK => ?_) | ((first | apply x5 | apply j5 | ((first | refine z3 (hK _ ?_) | refine x4 (hK _ _ z4 ?_));clear hK K));(first | show AWP _ _ _ _ _ | ((try simp only [x6]);first | show loopQ _ _ _ _ _ _ | show cutQ _ _ _ _ | show AWP _ _ _ _ _))) | ((first | refine x7 [8] rfl ?_ | refine j7 [8] rfl ?_);simp (disch:=omega) only [go_sem,seval,hd,cb,ruleD,configD,spotD,z8,j17];(repeat (first | refine ⟨by omega,?_⟩ | refine ⟨z15,?_⟩)))))
   refine x93 603 (rowC (isort onesK L)) rfl sl ?_
   (repeat (first | apply j0 | refine j6 rfl ?_ | refine z7 rfl ?_ | apply z6 | (refine j4 fun K hK => ?_) | (refine z5 fun K hK => ?_) | ((first | apply x5 | apply j5 | ((first | refine z3 (hK _ ?_) | refine x4 (hK _ _ z4 ?_));clear hK K));(first | show AWP _ _ _ _ _ | ((try simp only [x6]);first | show loopQ _ _ _ _ _ _ | show cutQ _ _ _ _ | show AWP _ _ _ _ _))) | ((first | refine x7 [8] rfl ?_ | refine j7 [8] rfl ?_);simp (disch:=omega) only [go_sem,seval,hd,cb,ruleD,configD,spotD,z8,j17];(repeat (first | refine ⟨by omega,?_⟩ | refine ⟨z15,?_⟩)))))
   refine z87 (Weak.freeze _ 90 603 L.length 4 L.length 27 (rowC (isort onesK L)) rfl rfl) ?_
   simp (disch:=omega) only [go_sem,seval,hd,cb,ruleD,configD,spotD,z8,j17]
   (repeat (first | apply j0 | refine j6 rfl ?_ | refine z7 rfl ?_ | apply z6 | (refine j4 fun K hK => ?_) | (refine z5 fun K hK => ?_) | ((first | apply x5 | apply j5 | ((first | refine z3 (hK _ ?_) | refine x4 (hK _ _ z4 ?_));clear hK K));(first | show AWP _ _ _ _ _ | ((try simp only [x6]);first | show loopQ _ _ _ _ _ _ | show cutQ _ _ _ _ | show AWP _ _ _ _ _))) | ((first | refine j8 rfl rfl rfl ?_ | refine q9 rfl rfl rfl ?_);simp (disch:=omega) only [go_sem,seval,hd,cb,ruleD,configD,spotD,z8,j17];(first | refine ⟨_,cp,?_⟩)) | ((first | refine x7 [8] rfl ?_ | refine j7 [8] rfl ?_);simp (disch:=omega) only [go_sem,seval,hd,cb,ruleD,configD,spotD,z8,j17];(repeat (first | refine ⟨by omega,?_⟩ | refine ⟨z15,?_⟩)))))
   refine x8 ⟨_,?_,rfl⟩;rw [Try.results28];simp (disch:=omega) only [ResVars,ResVar,ptrLoc,go_sem,seval,hd,cb,ruleD,configD,spotD,z8,j17]
end Go.Proofs.Ytbamjcnhmmgnlaa
namespace Go.Proofs.Ytbamjcnhmmgnlaa
open Go.Proofs.Ytbamjcnhmmgnlaa.AL
def stB1 (x : BitVec 128) (i j : Nat) : Bool := if 88 ≤ j ∧ j < i then false else x.getLsbD j
def stB2 (x : BitVec 128) (T i j : Nat) : Bool := if 88 ≤ j then decide (j < i) && T.testBit (j - 88) else x.getLsbD j
def stB3 (x : BitVec 128) (T V i j : Nat) : Bool := if j < 88 then x.getLsbD j else if j < 112 then T.testBit (j - 88) else decide (j < i) && V.testBit (j - 112)
def stampR (x : BitVec 128) (T V : Nat) : BitVec 128 := ofBits (stB3 x T V 120)
theorem z108 (m : Nat) : (((m : Nat) : Int).tmod 2 == 1) = m.testBit 0 := by
 rw [Nat.testBit_zero,Int.tmod_eq_emod_of_nonneg (by omega),Bool.eq_iff_iff,beq_iff_eq,decide_eq_true_eq]
 omega
theorem x108 (m : Nat) : ((m : Nat) : Int).tdiv 2 = ((m / 2 : Nat) : Int) := by
 rw [Int.tdiv_eq_ediv_of_nonneg (by omega)];omega
theorem j108 (N k : Nat) : (N / 2 ^ k).testBit 0 = N.testBit k := by
 rw [← Nat.shiftRight_eq_div_pow,Nat.testBit_shiftRight,Nat.add_zero]
theorem q109 (N k : Nat) : N / 2 ^ k / 2 = N / 2 ^ (k + 1) := by
 rw [Nat.div_div_eq_div_mul,Nat.pow_succ]
def stI1 (x : BitVec 128) (T V : Nat) (s : {i : Nat // 88 ≤ i ∧ i ≤ 128}) : ASt :=
 ⟨[(10,.p (.d (.v (.int .i64 (s.val : Int))))),(9,.p (.d (.v (.int .i64 (V : Int))))),(8,.p (.d (.v (.int .i64 (T : Int))))),(7,.loc 7 0),(6,.loc 6 0)],
  [(7,.arr 99 128 fun j => .v (.bool (stB1 x s.val j))),(6,.cells 25 [.p (.d (.v (.int .u64 0))),.p (.d (.v (.int .u64 0)))])]⟩
def stI2 (x : BitVec 128) (T V : Nat) (s : {s : Nat × Nat // 88 ≤ s.1 ∧ s.1 ≤ 112 ∧ s.2 = T / 2 ^ (s.1 - 88)}) : ASt :=
 ⟨[(11,.p (.d (.v (.int .i64 (s.val.1 : Int))))),(9,.p (.d (.v (.int .i64 (V : Int))))),(8,.p (.d (.v (.int .i64 (s.val.2 : Int))))),(7,.loc 7 0),(6,.loc 6 0)],
  [(7,.arr 99 128 fun j => .v (.bool (stB2 x T s.val.1 j))),(6,.cells 25 [.p (.d (.v (.int .u64 0))),.p (.d (.v (.int .u64 0)))])]⟩
def stI3 (x : BitVec 128) (T V : Nat) (s : {s : Nat × Nat // 112 ≤ s.1 ∧ s.1 ≤ 120 ∧ s.2 = V / 2 ^ (s.1 - 112)}) : ASt :=
 ⟨[(12,.p (.d (.v (.int .i64 (s.val.1 : Int))))),(9,.p (.d (.v (.int .i64 (s.val.2 : Int))))),(7,.loc 7 0),(6,.loc 6 0)],
  [(7,.arr 99 128 fun j => .v (.bool (stB3 x T V s.val.1 j))),(6,.cells 25 [.p (.d (.v (.int .u64 0))),.p (.d (.v (.int .u64 0)))])]⟩
set_option maxRecDepth 100000 in
theorem x168 (x : BitVec 128) (T V : Nat) (ht : T < 1000000) (hv : V < 1000000) : ACalls Try.prog 65 [.agg (hd x),.d (.v (.int .i64 (T : Int))),.d (.v (.int .i64 (V : Int)))] (· = [.agg (hd (stampR x (T + 1) V))]) := by
 have c1 := x68 x
 have c2 := j68 (stB3 x (T + 1) V 120)
 rw [show ofBits (stB3 x (T + 1) V 120) = stampR x (T + 1) V from rfl] at c2
 simp only [hd] at c1 c2
 have e1 : ((T : Int) + 1) = ((T + 1 : Nat) : Int) := by omega
 refine q11 Try.func65 rfl (by decide +kernel) (by rw [Try.ntmps65];simp) ?_;rw [Try.ntmps65];simp only [frOf]
 (repeat (first | apply j0 | refine j6 rfl ?_ | refine z7 rfl ?_ | apply z6 | (refine j4 fun K hK => ?_) | (refine z5 fun K hK => ?_) | ((first | apply x5 | apply j5 | ((first | refine z3 (hK _ ?_) | refine x4 (hK _ _ z4 ?_));clear hK K));(first | show AWP _ _ _ _ _ | ((try simp only [x6]);first | show loopQ _ _ _ _ _ _ | show cutQ _ _ _ _ | show AWP _ _ _ _ _))) | ((first | refine j8 rfl rfl rfl ?_ | refine q9 rfl rfl rfl ?_);simp (disch:=omega) only [go_sem,seval,hd,e1];(first | refine ⟨_,c1,?_⟩)) | ((first | refine x7 [6,7] rfl ?_ | refine j7 [6,7] rfl ?_);simp (disch:=omega) only [go_sem,seval,hd,e1];(repeat (first | refine ⟨by omega,?_⟩ | refine ⟨True.intro,?_⟩)))))
 generalize hN : T + 1 = N at c2
 have hNb : N ≤ 1000000 := by omega
 refine x12 (stI1 x N V) (fun s => 128 - s.val) ⟨88,by omega,by omega⟩ ?_ (fun s => ?_)
 ·unfold stI1
  refine Weak.list ?_ ?_;(all_goals simp (disch:=omega) only [AllF,AllL,q10,z10,j9,exists_eq_left',go_sem,seval,hd]);(all_goals (repeat' (with_reducible apply And.intro)));(all_goals try (first | exact q8 rfl | (refine x10 ?_;omega) | (refine q8 ?_;simp;done)))
  refine j31 (fun j hj => ?_)
  unfold stB1
  rw [if_neg (by omega)]
 obtain ⟨i,h1,h2⟩ := s
 unfold stI1
 simp only [] at h1 h2 ⊢
 by_cases h : i < 128
 ·(repeat (first | apply j0 | refine j6 rfl ?_ | refine z7 rfl ?_ | apply z6 | (refine j4 fun K hK => ?_) | (refine z5 fun K hK => ?_) | ((first | apply x5 | apply j5 | ((first | refine z3 (hK _ ?_) | refine x4 (hK _ _ z4 ?_));clear hK K));(first | show AWP _ _ _ _ _ | ((try simp only [x6]);first | show loopQ _ _ _ _ _ _ | show cutQ _ _ _ _ | show AWP _ _ _ _ _))) | ((first | refine x7 [6,7] rfl ?_ | refine j7 [6,7] rfl ?_);simp (disch:=omega) only [go_sem,seval,hd];(repeat (first | refine ⟨by omega,?_⟩ | refine ⟨True.intro,?_⟩)))))
  refine ⟨⟨i + 1,by omega,by omega⟩,by simp only [];omega,?_⟩
  refine Weak.list ?_ ?_;(all_goals simp (disch:=omega) only [AllF,AllL,q10,z10,j9,exists_eq_left',go_sem,seval,hd]);(all_goals (repeat' (with_reducible apply And.intro)));(all_goals try (first | exact q8 rfl | (refine x10 ?_;omega) | (refine q8 ?_;simp;done)))
  refine j31 (fun j hj => ?_)
  unfold stB1
  by_cases hj : j = i
  ·subst hj;rw [if_pos rfl,if_pos (by omega)]
  ·rw [if_neg hj]
   by_cases hk : 88 ≤ j ∧ j < i
   ·rw [if_pos hk,if_pos (by omega)]
   ·rw [if_neg hk,if_neg (by omega)]
 have : i = 128 := by omega
 subst this
 (repeat (first | apply j0 | refine j6 rfl ?_ | refine z7 rfl ?_ | apply z6 | (refine j4 fun K hK => ?_) | (refine z5 fun K hK => ?_) | ((first | apply x5 | apply j5 | ((first | refine z3 (hK _ ?_) | refine x4 (hK _ _ z4 ?_));clear hK K));(first | show AWP _ _ _ _ _ | ((try simp only [x6]);first | show loopQ _ _ _ _ _ _ | show cutQ _ _ _ _ | show AWP _ _ _ _ _))) | ((first | refine x7 [6,7] rfl ?_ | refine j7 [6,7] rfl ?_);simp (disch:=omega) only [go_sem,seval,hd];(repeat (first | refine ⟨by omega,?_⟩ | refine ⟨True.intro,?_⟩)))))
 refine x12 (stI2 x N V) (fun s => 112 - s.val.1) ⟨(88,N),by simp⟩ ?_ (fun s => ?_)
 ·unfold stI2
  refine Weak.list ?_ ?_;(all_goals simp (disch:=omega) only [AllF,AllL,q10,z10,j9,exists_eq_left',go_sem,seval,hd]);(all_goals (repeat' (with_reducible apply And.intro)));(all_goals try (first | exact q8 rfl | (refine x10 ?_;omega) | (refine q8 ?_;simp;done)))
  refine j31 (fun j hj => ?_)
  unfold stB1 stB2
  by_cases hk : 88 ≤ j
  ·rw [if_pos (by omega),if_pos hk,decide_eq_false (by omega)];rfl
  ·rw [if_neg (by omega),if_neg hk]
 obtain ⟨⟨i,m⟩,h1,h2,h3⟩ := s
 unfold stI2
 simp only [] at h1 h2 h3 ⊢
 have hm : m ≤ N := by rw [h3];exact Nat.div_le_self _ _
 by_cases h : i < 112
 ·have r1 := z108 m
  have r2 := x108 m
  have r3 : m / 2 = N / 2 ^ (i + 1 - 88) := by rw [h3,q109];congr 2;omega
  rw [h3,j108,← h3] at r1
  (repeat (first | apply j0 | refine j6 rfl ?_ | refine z7 rfl ?_ | apply z6 | (refine j4 fun K hK => ?_) | (refine z5 fun K hK => ?_) | ((first | apply x5 | apply j5 | ((first | refine z3 (hK _ ?_) | refine x4 (hK _ _ z4 ?_));clear hK K));(first | show AWP _ _ _ _ _ | ((try simp only [x6]);first | show loopQ _ _ _ _ _ _ | show cutQ _ _ _ _ | show AWP _ _ _ _ _))) | ((first | refine x7 [6,7] rfl ?_ | refine j7 [6,7] rfl ?_);simp (disch:=omega) only [go_sem,seval,hd,r1,r2];(repeat (first | refine ⟨by omega,?_⟩ | refine ⟨True.intro,?_⟩)))))
  refine ⟨⟨(i + 1,m / 2),by omega,by simp only [];omega,r3⟩,by simp only [];omega,?_⟩
  refine Weak.list ?_ ?_;(all_goals simp (disch:=omega) only [AllF,AllL,q10,z10,j9,exists_eq_left',go_sem,seval,hd]);(all_goals (repeat' (with_reducible apply And.intro)));(all_goals try (first | exact q8 rfl | (refine x10 ?_;omega) | (refine q8 ?_;simp;done)))
  refine j31 (fun j hj => ?_)
  unfold stB2
  by_cases hj : j = i
  ·subst hj;rw [if_pos rfl,if_pos (by omega),decide_eq_true (by omega)];simp
  ·rw [if_neg hj]
   by_cases hk : 88 ≤ j
   ·rw [if_pos hk,if_pos hk]
    by_cases hl : j < i
    ·rw [decide_eq_true hl,decide_eq_true (by omega)]
    ·rw [decide_eq_false hl,decide_eq_false (by omega)]
   ·rw [if_neg hk,if_neg hk]
 have : i = 112 := by omega
 subst this
 (repeat (first | apply j0 | refine j6 rfl ?_ | refine z7 rfl ?_ | apply z6 | (refine j4 fun K hK => ?_) | (refine z5 fun K hK => ?_) | ((first | apply x5 | apply j5 | ((first | refine z3 (hK _ ?_) | refine x4 (hK _ _ z4 ?_));clear hK K));(first | show AWP _ _ _ _ _ | ((try simp only [x6]);first | show loopQ _ _ _ _ _ _ | show cutQ _ _ _ _ | show AWP _ _ _ _ _))) | ((first | refine x7 [6,7] rfl ?_ | refine j7 [6,7] rfl ?_);simp (disch:=omega) only [go_sem,seval,hd];(repeat (first | refine ⟨by omega,?_⟩ | refine ⟨True.intro,?_⟩)))))
 refine x12 (stI3 x N V) (fun s => 120 - s.val.1) ⟨(112,V),by simp⟩ ?_ (fun s => ?_)
 ·unfold stI3
  refine Weak.list ?_ ?_;(all_goals simp (disch:=omega) only [AllF,AllL,q10,z10,j9,exists_eq_left',go_sem,seval,hd]);(all_goals (repeat' (with_reducible apply And.intro)));(all_goals try (first | exact q8 rfl | (refine x10 ?_;omega) | (refine q8 ?_;simp;done)))
  refine j31 (fun j hj => ?_)
  unfold stB2 stB3
  by_cases hk : j < 88
  ·rw [if_neg (by omega),if_pos hk]
  ·rw [if_pos (by omega),if_neg hk]
   by_cases hl : j < 112
   ·rw [if_pos hl,decide_eq_true hl];simp
   ·rw [if_neg hl,decide_eq_false hl];simp
 obtain ⟨⟨i,m⟩,h1,h2,h3⟩ := s
 unfold stI3
 simp only [] at h1 h2 h3 ⊢
 have hm : m ≤ V := by rw [h3];exact Nat.div_le_self _ _
 by_cases h : i < 120
 ·have r1 := z108 m
  have r2 := x108 m
  have r3 : m / 2 = V / 2 ^ (i + 1 - 112) := by rw [h3,q109];congr 2;omega
  rw [h3,j108,← h3] at r1
  (repeat (first | apply j0 | refine j6 rfl ?_ | refine z7 rfl ?_ | apply z6 | (refine j4 fun K hK => ?_) | (refine z5 fun K hK => ?_) | ((first | apply x5 | apply j5 | ((first | refine z3 (hK _ ?_) | refine x4 (hK _ _ z4 ?_));clear hK K));(first | show AWP _ _ _ _ _ | ((try simp only [x6]);first | show loopQ _ _ _ _ _ _ | show cutQ _ _ _ _ | show AWP _ _ _ _ _))) | ((first | refine x7 [6,7] rfl ?_ | refine j7 [6,7] rfl ?_);simp (disch:=omega) only [go_sem,seval,hd,r1,r2];(repeat (first | refine ⟨by omega,?_⟩ | refine ⟨True.intro,?_⟩)))))
  refine ⟨⟨(i + 1,m / 2),by omega,by simp only [];omega,r3⟩,by simp only [];omega,?_⟩
  refine Weak.list ?_ ?_;(all_goals simp (disch:=omega) only [AllF,AllL,q10,z10,j9,exists_eq_left',go_sem,seval,hd]);(all_goals (repeat' (with_reducible apply And.intro)));(all_goals try (first | exact q8 rfl | (refine x10 ?_;omega) | (refine q8 ?_;simp;done)))
  refine j31 (fun j hj => ?_)
  unfold stB3
  by_cases hj : j = i
  ·subst hj;rw [if_pos rfl,if_neg (by omega),if_neg (by omega),decide_eq_true (by omega)];simp
  ·rw [if_neg hj]
   by_cases hk : j < 88
   ·rw [if_pos hk,if_pos hk]
   ·rw [if_neg hk,if_neg hk]
    by_cases hl : j < 112
    ·rw [if_pos hl,if_pos hl]
    ·rw [if_neg hl,if_neg hl]
     by_cases hl : j < i
     ·rw [decide_eq_true hl,decide_eq_true (by omega)]
     ·rw [decide_eq_false hl,decide_eq_false (by omega)]
 have : i = 120 := by omega
 subst this
 (repeat (first | apply j0 | refine j6 rfl ?_ | refine z7 rfl ?_ | apply z6 | (refine j4 fun K hK => ?_) | (refine z5 fun K hK => ?_) | ((first | apply x5 | apply j5 | ((first | refine z3 (hK _ ?_) | refine x4 (hK _ _ z4 ?_));clear hK K));(first | show AWP _ _ _ _ _ | ((try simp only [x6]);first | show loopQ _ _ _ _ _ _ | show cutQ _ _ _ _ | show AWP _ _ _ _ _))) | ((first | refine j8 rfl rfl rfl ?_ | refine q9 rfl rfl rfl ?_);simp (disch:=omega) only [go_sem,seval,hd];(first | refine ⟨_,c2,?_⟩)) | ((first | refine x7 [6,7] rfl ?_ | refine j7 [6,7] rfl ?_);simp (disch:=omega) only [go_sem,seval,hd];(repeat (first | refine ⟨by omega,?_⟩ | refine ⟨True.intro,?_⟩)))))
 refine x8 ⟨_,?_,rfl⟩;rw [Try.results65];simp (disch:=omega) only [ResVars,ResVar,ptrLoc,go_sem,seval,hd]
theorem z109 (n : Nat) (i : Nat) : (wordOf (n : Int)).getLsbD i = (decide (i < 64) && n.testBit i) := by
 unfold wordOf
 rw [BitVec.getLsbD_ofNat,Int.toNat_natCast]
theorem x109 {n i b : Nat} (h : n < 2 ^ b) (hi : b ≤ i) : n.testBit i = false :=
 Nat.testBit_lt_two_pow (Nat.lt_of_lt_of_le h (Nat.pow_le_pow_right (by decide) hi))
theorem j109 (x : BitVec 128) (a b : Nat) (v : BitVec 64) (j : Nat) (hj : j < 128) :
  (putB x a b v).getLsbD j = ((x.getLsbD j && !(decide (a ≤ j) && decide (j < a + b))) || (decide (a ≤ j) && v.getLsbD (j - a))) := by
 unfold putB
 rw [BitVec.getLsbD_or,BitVec.getLsbD_and,BitVec.getLsbD_not,BitVec.getLsbD_shiftLeft,BitVec.getLsbD_shiftLeft,j54 _ _ (by omega),BitVec.getLsbD_setWidth]
 simp only [hj,decide_true,Bool.true_and,show j - a < 128 by omega]
 by_cases h : j < a
 ·simp [h,show ¬ a ≤ j by omega]
 ·simp only [h,decide_false,Bool.not_false,Bool.true_and,show a ≤ j by omega,decide_true]
  by_cases hb : j - a < b
  ·simp [hb,show j < a + b by omega]
  ·simp [hb,show ¬ j < a + b by omega]
theorem j168 (h : BitVec 128) (tn v : Nat) (ht : tn + 1 < 2 ^ 24) (hv : v < 2 ^ 8) : setH h (stampV (tn : Int) (v : Int)) = stampR h (tn + 1) v := by
 apply BitVec.eq_of_getLsbD_eq
 intro j hj
 unfold stampR
 rw [z50 _ _ hj]
 unfold setH stampV mkC stB3
 simp only []
 have hc : (ones 40 <<< 88).getLsbD j = decide (88 ≤ j) := by
  rw [BitVec.getLsbD_shiftLeft,j54 _ _ (by omega),decide_eq_true hj,Bool.true_and]
  by_cases hk : j < 88
  ·simp [hk,show ¬ 88 ≤ j by omega]
  ·simp [hk,show 88 ≤ j by omega,show j - 88 < 40 by omega]
 rw [BitVec.getLsbD_or,BitVec.getLsbD_and,BitVec.getLsbD_not,BitVec.getLsbD_and,BitVec.getLsbD_and,hc,j109 _ _ _ _ _ hj,j109 _ _ _ _ _ hj]
 rw [show ((tn : Int) + 1) = ((tn + 1 : Nat) : Int) by omega,z109,z109]
 by_cases h1 : j < 88
 ·simp [h1,show ¬ 88 ≤ j by omega,show ¬ 112 ≤ j by omega,hj]
 ·by_cases h2 : j < 112
  ·simp [h1,h2,show 88 ≤ j by omega,show ¬ 112 ≤ j by omega,hj,show j - 88 < 64 by omega]
  ·by_cases h3 : j < 120
   ·simp [h1,h2,h3,show 88 ≤ j by omega,show 112 ≤ j by omega,hj,show j - 112 < 64 by omega]
   ·have e1 : (tn + 1).testBit (j - 88) = false := x109 ht (by omega)
    have e2 : v.testBit (j - 112) = false := x109 hv (by omega)
    simp [h1,h2,h3,show 88 ≤ j by omega,show 112 ≤ j by omega,hj,e1,e2]
end Go.Proofs.Ytbamjcnhmmgnlaa
namespace Go.Proofs.Ytbamjcnhmmgnlaa
open Go Go.Proofs.Ytbamjcnhmmgnlaa.AL
def addRI (L : List Cube) (k : Cube) (B : Bool) (s : {i : Nat // i ≤ L.length ∧ (L.drop i).contains k = B}) : ASt :=
 ⟨[(5,.p (.d (.v (.int .i64 (s.val : Int))))),(3,.p (.d (.bx (cb k)))),(0,.p (.d (.sl 4 L.length (rowC L))))],[]⟩
theorem row_two (L : List Cube) (k : Cube) (i : Nat) (hi : i < L.length + 1) : catF L.length (catF 0 (fun _ => []) (rowC L)) (fun i => [cb k].getD i []) i = rowC (L ++ [k]) i := by
 rw [← q103 L k i hi]
 unfold catF
 split
 ·rename_i h
  simp
 ·rfl
set_option maxRecDepth 100000 in
theorem q56 (L : List Cube) (k : Cube) (hl : L.length ≤ 1073741824) : ACalls Try.prog 30 [.d (.sl 4 L.length (rowC L)),.agg (cb k)] (· = [.d (.sl 4 (addC L k).length (rowC (addC L k)))]) := by
 unfold addC
 obtain ⟨B,hB⟩ : ∃ B,L.contains k = B := ⟨_,rfl⟩
 rw [hB]
 refine q11 Try.func30 rfl (by decide +kernel) (by rw [Try.ntmps30];simp) ?_;rw [Try.ntmps30];simp only [frOf]
 (repeat (first | apply j0 | refine j6 rfl ?_ | refine z7 rfl ?_ | apply z6 | (refine j4 fun K hK => ?_) | (refine z5 fun K hK => ?_) | ((first | apply x5 | apply j5 | ((first | refine z3 (hK _ ?_) | refine x4 (hK _ _ z4 ?_));clear hK K));(first | show AWP _ _ _ _ _ | ((try simp only [x6]);first | show loopQ _ _ _ _ _ _ | show cutQ _ _ _ _ | show AWP _ _ _ _ _))) | ((first | refine x7 [19] rfl ?_ | refine j7 [19] rfl ?_);simp (disch:=omega) only [go_sem,seval,hd,cb,ruleD,configD,spotD,z8];(repeat (first | refine ⟨by omega,?_⟩ | refine ⟨True.intro,?_⟩)))))
 refine x12 (addRI L k B) (fun s => L.length - s.val) ⟨0,by omega,by rw [List.drop_zero];exact hB⟩ ?_ (fun s => ?_)
 ·unfold addRI
  refine Weak.list ?_ ?_;(all_goals simp (disch:=omega) only [AllF,AllL,q10,z10,j9,exists_eq_left',go_sem,seval,hd,cb,ruleD,configD,spotD,z8]);(all_goals (repeat' (with_reducible apply And.intro)));(all_goals try (first | exact q8 rfl | (refine x10 ?_;omega) | (refine q8 ?_;simp;done)))
 obtain ⟨i,hi,he⟩ := s
 unfold addRI
 by_cases hn : i < L.length
 ·have r1 := z23 L i
  rw [j19 L i ⟨0,0⟩ hn,List.contains_cons] at he
  generalize L.getD i ⟨0,0⟩ = x at r1 he
  have q := z54 x k
  cases hx : (x == k)
  ·rw [hx] at q
   have hx2 : (k == x) = false := by
    rw [beq_eq_false_iff_ne] at hx ⊢;exact fun e => hx e.symm
   rw [hx2,Bool.false_or] at he
   (repeat (first | apply j0 | refine j6 rfl ?_ | refine z7 rfl ?_ | apply z6 | (refine j4 fun K hK => ?_) | (refine z5 fun K hK => ?_) | ((first | apply x5 | apply j5 | ((first | refine z3 (hK _ ?_) | refine x4 (hK _ _ z4 ?_));clear hK K));(first | show AWP _ _ _ _ _ | ((try simp only [x6]);first | show loopQ _ _ _ _ _ _ | show cutQ _ _ _ _ | show AWP _ _ _ _ _))) | ((first | refine x7 [19] rfl ?_ | refine j7 [19] rfl ?_);simp (disch:=omega) only [go_sem,seval,hd,cb,ruleD,configD,spotD,z8,r1,q];(repeat (first | refine ⟨by omega,?_⟩ | refine ⟨True.intro,?_⟩)))))
   refine ⟨⟨i + 1,by omega,he⟩,by simp only [];omega,?_⟩
   refine Weak.list ?_ ?_;(all_goals simp (disch:=omega) only [AllF,AllL,q10,z10,j9,exists_eq_left',go_sem,seval,hd,cb,ruleD,configD,spotD,z8,r1,q]);(all_goals (repeat' (with_reducible apply And.intro)));(all_goals try (first | exact q8 rfl | (refine x10 ?_;omega) | (refine q8 ?_;simp;done)))
  ·rw [hx] at q
   have hx2 : (k == x) = true := by
    rw [beq_iff_eq] at hx ⊢;exact hx.symm
   rw [hx2,Bool.true_or] at he
   subst he
   rw [if_pos rfl]
   (repeat (first | apply j0 | refine j6 rfl ?_ | refine z7 rfl ?_ | apply z6 | (refine j4 fun K hK => ?_) | (refine z5 fun K hK => ?_) | ((first | apply x5 | apply j5 | ((first | refine z3 (hK _ ?_) | refine x4 (hK _ _ z4 ?_));clear hK K));(first | show AWP _ _ _ _ _ | ((try simp only [x6]);first | show loopQ _ _ _ _ _ _ | show cutQ _ _ _ _ | show AWP _ _ _ _ _))) | ((first | refine x7 [19] rfl ?_ | refine j7 [19] rfl ?_);simp (disch:=omega) only [go_sem,seval,hd,cb,ruleD,configD,spotD,z8,r1,q];(repeat (first | refine ⟨by omega,?_⟩ | refine ⟨True.intro,?_⟩)))))
   refine x8 ⟨_,?_,rfl⟩;rw [Try.results30];simp (disch:=omega) only [ResVars,ResVar,ptrLoc,go_sem,seval,hd,cb,ruleD,configD,spotD,z8,r1,q]
 ·have : i = L.length := by omega
  subst this
  rw [List.drop_length,List.contains_nil] at he
  subst he
  rw [if_neg (by decide)]
  (repeat (first | apply j0 | refine j6 rfl ?_ | refine z7 rfl ?_ | apply z6 | (refine j4 fun K hK => ?_) | (refine z5 fun K hK => ?_) | ((first | apply x5 | apply j5 | ((first | refine z3 (hK _ ?_) | refine x4 (hK _ _ z4 ?_));clear hK K));(first | show AWP _ _ _ _ _ | ((try simp only [x6]);first | show loopQ _ _ _ _ _ _ | show cutQ _ _ _ _ | show AWP _ _ _ _ _))) | ((first | refine x7 [19] rfl ?_ | refine j7 [19] rfl ?_);simp (disch:=omega) only [go_sem,seval,hd,cb,ruleD,configD,spotD,z8];(repeat (first | refine ⟨by omega,?_⟩ | refine ⟨True.intro,?_⟩)))))
  refine j22 4 _ (.p (.d (.sl 4 (L ++ [k]).length (rowC (L ++ [k]))))) rfl (z49 (by simp) (fun i hi => row_two L k i hi)) ?_
  refine x8 ⟨_,?_,rfl⟩;rw [Try.results30];simp (disch:=omega) only [ResVars,ResVar,ptrLoc,go_sem,seval,hd,cb,ruleD,configD,spotD,z8]
def rulesA (b : List (List (List Rule))) : List Rule := (b.map List.flatten).flatten
theorem q72 (b : List (List (List Rule))) : (rulesA b).length = cnt3 b := by
 induction b with
 | nil => rfl
 |cons t b ih =>
  have e : rulesA (t :: b) = t.flatten ++ rulesA b := by simp [rulesA]
  have e2 : cnt3 (t :: b) = cnt2 t + cnt3 b := by simp [cnt3]
  rw [e,e2,List.length_append,ih]
  simp [cnt2,List.length_flatten]
theorem z56 (f : List Cube → Rule → List Cube) : ∀ (b : List (List (List Rule))) (L : List Cube),fold3 f b L = (rulesA b).foldl f L
 | [],L => rfl
 |t :: b,L => by
  have e : rulesA (t :: b) = t.flatten ++ rulesA b := by simp [rulesA]
  have h2 : ∀ (t : List (List Rule)) (L : List Cube),fold2 f t L = t.flatten.foldl f L := by
   intro t
   induction t with
   | nil => intro L;rfl
   | cons l t ih => intro L;rw [List.flatten_cons,List.foldl_append,← ih];rfl
  rw [e,List.foldl_append,← h2,← z56 f b];rfl
def ruleRI (b : List (List (List Rule))) (c : Config) (R : List Rule) (s : {s : Nat × List Rule × Nat // s.1 ≤ b.length ∧ s.2.1 ++ rulesA (b.drop s.1) = R}) : ASt :=
 ⟨[(4,.p (.d (.v (.int .i64 (s.val.1 : Int))))),(3,.gr 6 s.val.2.2 12 s.val.2.1.length (rowR s.val.2.1)),(1,.p (.d (.bx (configD c))))],[(6,.grow 75 12 s.val.2.1.length s.val.2.2)]⟩
def ruleRJ (b : List (List (List Rule))) (c : Config) (R : List Rule) (i : Nat) (t : List (List Rule)) (s : {s : Nat × List Rule × Nat // s.1 ≤ t.length ∧ s.2.1 ++ ((t.drop s.1).flatten ++ rulesA (b.drop (i + 1))) = R}) : ASt :=
 ⟨[(5,.p (.d (.v (.int .i64 (s.val.1 : Int))))),(4,.p (.d (.v (.int .i64 (i : Int))))),(3,.gr 6 s.val.2.2 12 s.val.2.1.length (rowR s.val.2.1)),(1,.p (.d (.bx (configD c))))],[(6,.grow 75 12 s.val.2.1.length s.val.2.2)]⟩
theorem q169 (a b : List Rule) (i : Nat) : catF a.length (rowR a) (rowR b) i = rowR (a ++ b) i := by
 unfold catF rowR
 split
 ·rename_i h
  rw [List.getD_eq_getElem?_getD,List.getD_eq_getElem?_getD,List.getElem?_append_left h]
 ·rename_i h
  rw [List.getD_eq_getElem?_getD,List.getD_eq_getElem?_getD,List.getElem?_append_right (by omega)]
set_option maxRecDepth 100000 in
theorem q110 (c : Config) (hc : c.small) (hl : cnt3 c.tb ≤ 100000) : ACalls Try.prog 29 [.agg (configD c)] (· = [.d (.sl 12 (rulesA c.tb).length (rowR (rulesA c.tb)))]) := by
 have hb := hc.tb
 rw [← q72] at hl
 obtain ⟨R,hR⟩ : ∃ R,rulesA c.tb = R := ⟨_,rfl⟩
 rw [hR] at hl ⊢
 refine q11 Try.func29 rfl (by decide +kernel) (by rw [Try.ntmps29];simp) ?_;rw [Try.ntmps29];simp only [frOf]
 (repeat (first | apply j0 | refine j6 rfl ?_ | refine z7 rfl ?_ | apply z6 | (refine j4 fun K hK => ?_) | (refine z5 fun K hK => ?_) | ((first | apply x5 | apply j5 | ((first | refine z3 (hK _ ?_) | refine x4 (hK _ _ z4 ?_));clear hK K));(first | show AWP _ _ _ _ _ | ((try simp only [x6]);first | show loopQ _ _ _ _ _ _ | show cutQ _ _ _ _ | show AWP _ _ _ _ _))) | ((first | refine x7 [6] rfl ?_ | refine j7 [6] rfl ?_);simp (disch:=omega) only [go_sem,seval,hd,cb,ruleD,configD,spotD,z8];(repeat (first | refine ⟨by omega,?_⟩ | refine ⟨True.intro,?_⟩)))))
 refine x12 (ruleRI c.tb c R) (fun s => c.tb.length - s.val.1) ⟨(0,[],0),by omega,by rw [List.drop_zero,List.nil_append];exact hR⟩ ?_ (fun s => ?_)
 ·unfold ruleRI
  refine Weak.list ?_ ?_;(all_goals simp (disch:=omega) only [AllF,AllL,q10,z10,j9,exists_eq_left',go_sem,seval,hd,cb,ruleD,configD,spotD,z8]);(all_goals (repeat' (with_reducible apply And.intro)));(all_goals try (first | exact q8 rfl | (refine x10 ?_;omega) | (refine q8 ?_;simp;done)))
  exact x38 rfl rfl (fun i hi => by simp at hi)
 obtain ⟨⟨i,out,g⟩,hi,h1⟩ := s
 simp only [] at hi h1
 unfold ruleRI
 simp only []
 by_cases hn : i < c.tb.length
 ·have r1 := q53 c.tb i
  have hsm := hc.at i
  have e1 : rulesA (c.tb.drop i) = (c.tb.getD i []).flatten ++ rulesA (c.tb.drop (i + 1)) := by
   rw [j19 c.tb i [] hn];simp [rulesA]
  rw [e1] at h1
  generalize c.tb.getD i [] = t at r1 h1 hsm
  have b1 := hsm.1
  (repeat (first | apply j0 | refine j6 rfl ?_ | refine z7 rfl ?_ | apply z6 | (refine j4 fun K hK => ?_) | (refine z5 fun K hK => ?_) | ((first | apply x5 | apply j5 | ((first | refine z3 (hK _ ?_) | refine x4 (hK _ _ z4 ?_));clear hK K));(first | show AWP _ _ _ _ _ | ((try simp only [x6]);first | show loopQ _ _ _ _ _ _ | show cutQ _ _ _ _ | show AWP _ _ _ _ _))) | ((first | refine x7 [6] rfl ?_ | refine j7 [6] rfl ?_);simp (disch:=omega) only [go_sem,seval,hd,cb,ruleD,configD,spotD,z8,r1];(repeat (first | refine ⟨by omega,?_⟩ | refine ⟨True.intro,?_⟩)))))
  refine x12 (ruleRJ c.tb c R i t) (fun s => t.length - s.val.1) ⟨(0,out,g),by omega,by rw [List.drop_zero];exact h1⟩ ?_ (fun s => ?_)
  ·unfold ruleRJ
   refine Weak.list ?_ ?_;(all_goals simp (disch:=omega) only [AllF,AllL,q10,z10,j9,exists_eq_left',go_sem,seval,hd,cb,ruleD,configD,spotD,z8,r1]);(all_goals (repeat' (with_reducible apply And.intro)));(all_goals try (first | exact q8 rfl | (refine x10 ?_;omega) | (refine q8 ?_;simp;done)))
  obtain ⟨⟨j,ou2,g2⟩,hj,h2⟩ := s
  simp only [] at hj h2
  unfold ruleRJ
  simp only []
  by_cases hm : j < t.length
  ·have r2 := x32 t j
   have e2 : (t.drop j).flatten = t.getD j [] ++ (t.drop (j + 1)).flatten := by
    rw [j19 t j [] hm];simp
   rw [e2] at h2
   generalize t.getD j [] = l at r2 h2
   have hlen : ou2.length + l.length ≤ R.length := by
    rw [← h2];simp
   (repeat (first | apply j0 | refine j6 rfl ?_ | refine z7 rfl ?_ | apply z6 | (refine j4 fun K hK => ?_) | (refine z5 fun K hK => ?_) | ((first | apply x5 | apply j5 | ((first | refine z3 (hK _ ?_) | refine x4 (hK _ _ z4 ?_));clear hK K));(first | show AWP _ _ _ _ _ | ((try simp only [x6]);first | show loopQ _ _ _ _ _ _ | show cutQ _ _ _ _ | show AWP _ _ _ _ _))) | ((first | refine x7 [6] rfl ?_ | refine j7 [6] rfl ?_);simp (disch:=omega) only [go_sem,seval,hd,cb,ruleD,configD,spotD,z8,r1,r2];(repeat (first | refine ⟨by omega,?_⟩ | refine ⟨True.intro,?_⟩)))))
   refine ⟨⟨(j + 1,ou2 ++ l,g2 + 1),by simp only [];omega,by rw [← h2];simp⟩,by simp only [];omega,?_⟩
   refine Weak.list ?_ ?_;(all_goals simp (disch:=omega) only [AllF,AllL,q10,z10,j9,exists_eq_left',go_sem,seval,hd,cb,ruleD,configD,spotD,z8,r1,r2]);(all_goals (repeat' (with_reducible apply And.intro)));(all_goals try (first | exact q8 rfl | (refine x10 ?_;omega) | (refine q8 ?_;simp;done)))
   ·exact x38 rfl (by simp) (fun k hk => q169 ou2 l k)
   ·exact j64 (by simp) rfl
  ·have : j = t.length := by omega
   subst this
   (repeat (first | apply j0 | refine j6 rfl ?_ | refine z7 rfl ?_ | apply z6 | (refine j4 fun K hK => ?_) | (refine z5 fun K hK => ?_) | ((first | apply x5 | apply j5 | ((first | refine z3 (hK _ ?_) | refine x4 (hK _ _ z4 ?_));clear hK K));(first | show AWP _ _ _ _ _ | ((try simp only [x6]);first | show loopQ _ _ _ _ _ _ | show cutQ _ _ _ _ | show AWP _ _ _ _ _))) | ((first | refine x7 [6] rfl ?_ | refine j7 [6] rfl ?_);simp (disch:=omega) only [go_sem,seval,hd,cb,ruleD,configD,spotD,z8,r1];(repeat (first | refine ⟨by omega,?_⟩ | refine ⟨True.intro,?_⟩)))))
   refine ⟨⟨(i + 1,ou2,g2),by simp only [];omega,by rw [← h2];simp⟩,by simp only [];omega,?_⟩
   refine Weak.list ?_ ?_;(all_goals simp (disch:=omega) only [AllF,AllL,q10,z10,j9,exists_eq_left',go_sem,seval,hd,cb,ruleD,configD,spotD,z8,r1]);(all_goals (repeat' (with_reducible apply And.intro)));(all_goals try (first | exact q8 rfl | (refine x10 ?_;omega) | (refine q8 ?_;simp;done)))
 ·have : i = c.tb.length := by omega
  subst this
  have hr : out = R := by rw [← h1];simp [rulesA]
  subst hr
  (repeat (first | apply j0 | refine j6 rfl ?_ | refine z7 rfl ?_ | apply z6 | (refine j4 fun K hK => ?_) | (refine z5 fun K hK => ?_) | ((first | apply x5 | apply j5 | ((first | refine z3 (hK _ ?_) | refine x4 (hK _ _ z4 ?_));clear hK K));(first | show AWP _ _ _ _ _ | ((try simp only [x6]);first | show loopQ _ _ _ _ _ _ | show cutQ _ _ _ _ | show AWP _ _ _ _ _))) | ((first | refine x7 [6] rfl ?_ | refine j7 [6] rfl ?_);simp (disch:=omega) only [go_sem,seval,hd,cb,ruleD,configD,spotD,z8];(repeat (first | refine ⟨by omega,?_⟩ | refine ⟨True.intro,?_⟩)))))
  refine j22 2 _ (.p (.d (.sl 12 out.length (rowR out)))) rfl (z49 rfl (fun _ _ => rfl)) ?_
  refine x8 ⟨_,?_,rfl⟩;rw [Try.results29];simp (disch:=omega) only [ResVars,ResVar,ptrLoc,go_sem,seval,hd,cb,ruleD,configD,spotD,z8]
theorem z169 (k : Cube) (h : k.v &&& k.c = k.v) : setH 0 k = k.v := by
 unfold setH
 apply BitVec.eq_of_getLsbD_eq
 intro i hi
 have := congrArg (fun x => x.getLsbD i) h
 simp only [BitVec.getLsbD_and,BitVec.getLsbD_or,BitVec.getLsbD_not] at this ⊢
 revert this
 cases k.v.getLsbD i <;> cases k.c.getLsbD i <;> simp
theorem x169 (tn v : Nat) (ht : tn + 1 < 2 ^ 24) (hv : v < 2 ^ 8) : (stampV (tn : Int) (v : Int)).v = stampR 0 (tn + 1) v := by
 rw [← j168 0 tn v ht hv,z169]
 unfold stampV mkC
 apply BitVec.eq_of_getLsbD_eq
 intro i hi
 simp only [BitVec.getLsbD_and]
 cases (ones 40 <<< 88 : BitVec 128).getLsbD i <;> simp
theorem care_hi : hi (ones 40 <<< 88) = 18446744073692774400 := by decide +kernel
theorem care_lo : lo (ones 40 <<< 88) = 0 := by decide +kernel
theorem j169 (tn v : Int) : (stampV tn v).c = ones 40 <<< 88 := rfl
theorem maskR_c (tn v : Nat) (ht : tn < 1000) (hv : v ≤ 255) : ACalls Try.prog 58 [.d (.v (.int .i64 (tn : Int))),.d (.v (.int .i64 (v : Int)))] (· = [.agg (cb (stampV (tn : Int) (v : Int)))]) := by
 have st := x168 0 tn v (by omega) (by omega)
 simp only [hd,q17,z17] at st
 have e := x169 tn v (by omega) (by omega)
 have e2 := j169 (tn : Int) (v : Int)
 generalize stampV (tn : Int) (v : Int) = k at e e2
 have e3 : cb k = [.v (.int .u64 (hi (stampR 0 (tn + 1) v))),.v (.int .u64 (lo (stampR 0 (tn + 1) v))),.v (.int .u64 18446744073692774400),.v (.int .u64 0)] := by
  unfold cb;rw [e,e2,care_hi,care_lo]
 rw [e3]
 generalize stampR 0 (tn + 1) v = z at st
 refine q11 Try.func58 rfl (by decide +kernel) (by rw [Try.ntmps58];simp) ?_;rw [Try.ntmps58];simp only [frOf]
 (repeat (first | apply j0 | refine j6 rfl ?_ | refine z7 rfl ?_ | apply z6 | (refine j4 fun K hK => ?_) | (refine z5 fun K hK => ?_) | ((first | apply x5 | apply j5 | ((first | refine z3 (hK _ ?_) | refine x4 (hK _ _ z4 ?_));clear hK K));(first | show AWP _ _ _ _ _ | ((try simp only [x6]);first | show loopQ _ _ _ _ _ _ | show cutQ _ _ _ _ | show AWP _ _ _ _ _))) | ((first | refine j8 rfl rfl rfl ?_ | refine q9 rfl rfl rfl ?_);simp (disch:=omega) only [go_sem,seval,hd,cb,ruleD,configD,spotD,z8];(first | refine ⟨_,st,?_⟩)) | ((first | refine x7 [] rfl ?_ | refine j7 [] rfl ?_);simp (disch:=omega) only [go_sem,seval,hd,cb,ruleD,configD,spotD,z8];(repeat (first | refine ⟨by omega,?_⟩ | refine ⟨True.intro,?_⟩)))))
 refine x8 ⟨_,?_,rfl⟩;rw [Try.results58];simp (disch:=omega) only [ResVars,ResVar,ptrLoc,go_sem,seval,hd,cb,ruleD,configD,spotD,z8]
theorem x56 {c : Config} {v : Int} (h : predE c v = 0) : soundC c = 0 ∧ 0 ≤ v ∧ v ≤ 255 := by
 unfold predE at h
 split at h
 ·contradiction
 ·rename_i hh
  split at h
  ·exact absurd h (by decide)
  ·exact ⟨by simpa using hh,by omega,by omega⟩
theorem z110 {c : Config} {v : Int} (h : predE c v = 0) {s : Spot} (hs : s ∈ edgesT c.tp) : ∃ tn : Nat,tn < 4 ∧ edgeT c.tp s = (tn : Int) ∧ stampE c s v = 0 ∧ stampC c s v = stampV (tn : Int) v := by
 obtain ⟨h0,h1,h2⟩ := x56 h
 have ht : soundT c.tp = 0 := by
  unfold soundC at h0
  split at h0
  ·contradiction
  ·rename_i hh;simpa using hh
 obtain ⟨k1,k2⟩ := q105 ht hs
 have e : stampE c s v = 0 := by
  unfold stampE
  rw [if_neg (by simp [h0]),if_neg (by omega),if_neg]
  unfold edgesHas
  simp only [Bool.not_eq_false,List.contains_iff_mem]
  exact hs
 refine ⟨(edgeT c.tp s).toNat,by omega,by omega,e,?_⟩
 unfold stampC
 rw [if_pos e,Int.toNat_of_nonneg k1]
theorem wrong_c (c : Config) (v : Int) (hc : c.small) : ACalls Try.prog 25 [.agg (configD c),.d (.v (.int .i64 v))] (· = [.d (.v (.int .i64 (predE c v)))]) := by
 have so := j163 c hc
 unfold predE
 by_cases h : soundC c = 0
 ·rw [if_neg (by simpa using h)]
  rw [h] at so
  by_cases h1 : v < 0
  ·have q1 : decide (v < 0) = true := decide_eq_true h1
   rw [if_pos (.inl h1)]
   refine q11 Try.func25 rfl (by decide +kernel) (by rw [Try.ntmps25];simp) ?_;rw [Try.ntmps25];simp only [frOf]
   (repeat (first | apply j0 | refine j6 rfl ?_ | refine z7 rfl ?_ | apply z6 | (refine j4 fun K hK => ?_) | (refine z5 fun K hK => ?_) | ((first | apply x5 | apply j5 | ((first | refine z3 (hK _ ?_) | refine x4 (hK _ _ z4 ?_));clear hK K));(first | show AWP _ _ _ _ _ | ((try simp only [x6]);first | show loopQ _ _ _ _ _ _ | show cutQ _ _ _ _ | show AWP _ _ _ _ _))) | ((first | refine j8 rfl rfl rfl ?_ | refine q9 rfl rfl rfl ?_);simp (disch:=omega) only [go_sem,seval,hd,cb,ruleD,configD,spotD,topoD,z8,q1];(first | refine ⟨_,so,?_⟩)) | ((first | refine x7 [] rfl ?_ | refine j7 [] rfl ?_);simp (disch:=omega) only [go_sem,seval,hd,cb,ruleD,configD,spotD,topoD,z8,q1];(repeat (first | refine ⟨by omega,?_⟩ | refine ⟨True.intro,?_⟩)))))
   refine x8 ⟨_,?_,rfl⟩;rw [Try.results25];simp (disch:=omega) only [ResVars,ResVar,ptrLoc,go_sem,seval,hd,cb,ruleD,configD,spotD,topoD,z8,q1]
  ·have q1 : decide (v < 0) = false := decide_eq_false h1
   by_cases h2 : 255 < v
   ·have q2 : decide (255 < v) = true := decide_eq_true h2
    rw [if_pos (.inr h2)]
    refine q11 Try.func25 rfl (by decide +kernel) (by rw [Try.ntmps25];simp) ?_;rw [Try.ntmps25];simp only [frOf]
    (repeat (first | apply j0 | refine j6 rfl ?_ | refine z7 rfl ?_ | apply z6 | (refine j4 fun K hK => ?_) | (refine z5 fun K hK => ?_) | ((first | apply x5 | apply j5 | ((first | refine z3 (hK _ ?_) | refine x4 (hK _ _ z4 ?_));clear hK K));(first | show AWP _ _ _ _ _ | ((try simp only [x6]);first | show loopQ _ _ _ _ _ _ | show cutQ _ _ _ _ | show AWP _ _ _ _ _))) | ((first | refine j8 rfl rfl rfl ?_ | refine q9 rfl rfl rfl ?_);simp (disch:=omega) only [go_sem,seval,hd,cb,ruleD,configD,spotD,topoD,z8,q1,q2];(first | refine ⟨_,so,?_⟩)) | ((first | refine x7 [] rfl ?_ | refine j7 [] rfl ?_);simp (disch:=omega) only [go_sem,seval,hd,cb,ruleD,configD,spotD,topoD,z8,q1,q2];(repeat (first | refine ⟨by omega,?_⟩ | refine ⟨True.intro,?_⟩)))))
    refine x8 ⟨_,?_,rfl⟩;rw [Try.results25];simp (disch:=omega) only [ResVars,ResVar,ptrLoc,go_sem,seval,hd,cb,ruleD,configD,spotD,topoD,z8,q1,q2]
   ·have q2 : decide (255 < v) = false := decide_eq_false h2
    rw [if_neg (by omega)]
    refine q11 Try.func25 rfl (by decide +kernel) (by rw [Try.ntmps25];simp) ?_;rw [Try.ntmps25];simp only [frOf]
    (repeat (first | apply j0 | refine j6 rfl ?_ | refine z7 rfl ?_ | apply z6 | (refine j4 fun K hK => ?_) | (refine z5 fun K hK => ?_) | ((first | apply x5 | apply j5 | ((first | refine z3 (hK _ ?_) | refine x4 (hK _ _ z4 ?_));clear hK K));(first | show AWP _ _ _ _ _ | ((try simp only [x6]);first | show loopQ _ _ _ _ _ _ | show cutQ _ _ _ _ | show AWP _ _ _ _ _))) | ((first | refine j8 rfl rfl rfl ?_ | refine q9 rfl rfl rfl ?_);simp (disch:=omega) only [go_sem,seval,hd,cb,ruleD,configD,spotD,topoD,z8,q1,q2];(first | refine ⟨_,so,?_⟩)) | ((first | refine x7 [] rfl ?_ | refine j7 [] rfl ?_);simp (disch:=omega) only [go_sem,seval,hd,cb,ruleD,configD,spotD,topoD,z8,q1,q2];(repeat (first | refine ⟨by omega,?_⟩ | refine ⟨True.intro,?_⟩)))))
    refine x8 ⟨_,?_,rfl⟩;rw [Try.results25];simp (disch:=omega) only [ResVars,ResVar,ptrLoc,go_sem,seval,hd,cb,ruleD,configD,spotD,topoD,z8,q1,q2]
 ·rw [if_pos h]
  have q := q13 h
  refine q11 Try.func25 rfl (by decide +kernel) (by rw [Try.ntmps25];simp) ?_;rw [Try.ntmps25];simp only [frOf]
  (repeat (first | apply j0 | refine j6 rfl ?_ | refine z7 rfl ?_ | apply z6 | (refine j4 fun K hK => ?_) | (refine z5 fun K hK => ?_) | ((first | apply x5 | apply j5 | ((first | refine z3 (hK _ ?_) | refine x4 (hK _ _ z4 ?_));clear hK K));(first | show AWP _ _ _ _ _ | ((try simp only [x6]);first | show loopQ _ _ _ _ _ _ | show cutQ _ _ _ _ | show AWP _ _ _ _ _))) | ((first | refine j8 rfl rfl rfl ?_ | refine q9 rfl rfl rfl ?_);simp (disch:=omega) only [go_sem,seval,hd,cb,ruleD,configD,spotD,topoD,z8,q];(first | refine ⟨_,so,?_⟩)) | ((first | refine x7 [] rfl ?_ | refine j7 [] rfl ?_);simp (disch:=omega) only [go_sem,seval,hd,cb,ruleD,configD,spotD,topoD,z8,q];(repeat (first | refine ⟨by omega,?_⟩ | refine ⟨True.intro,?_⟩)))))
  refine x8 ⟨_,?_,rfl⟩;rw [Try.results25];simp (disch:=omega) only [ResVars,ResVar,ptrLoc,go_sem,seval,hd,cb,ruleD,configD,spotD,topoD,z8,q]
def setsRI (c : Config) (v : Nat) (l : List Spot) (R : List Cube) (s : {s : Nat × List Cube // s.1 ≤ l.length ∧ (l.drop s.1).foldl (stampF c v) s.2 = R ∧ s.2.length ≤ s.1}) : ASt :=
 ⟨[(7,.p (.d (.v (.int .i64 (s.val.1 : Int))))),(6,.p (.d (.sl 2 l.length (rowS l)))),(5,.p (.d (.sl 4 s.val.2.length (rowC s.val.2)))),(2,.p (.d (.bx (configD c)))),(1,.p (.d (.v (.int .i64 (v : Int)))))],[]⟩
def setsRJ (l : List Rule) (R : List Cube) (N : Nat) (s : {s : Nat × List Cube // s.1 ≤ l.length ∧ (l.drop s.1).foldl setF s.2 = R ∧ s.2.length ≤ N + s.1}) : ASt :=
 ⟨[(9,.p (.d (.v (.int .i64 (s.val.1 : Int))))),(8,.p (.d (.sl 12 l.length (rowR l)))),(5,.p (.d (.sl 4 s.val.2.length (rowC s.val.2))))],[]⟩
set_option maxRecDepth 100000 in
theorem setsR_c (c : Config) (v : Nat) (hc : c.small) (h : predE c v = 0) : ACalls Try.prog 27 [.agg (configD c),.d (.v (.int .i64 (v : Int)))] (· = [.d (.sl 4 (setsL c v).length (rowC (setsL c v)))]) := by
 obtain ⟨h0,h1,h2⟩ := x56 h
 have hb := j55 h0
 have ed := q96 c.tp hc.tp
 have ru := q110 c hc (by omega)
 have rl := q72 c.tb
 unfold setsL setsE
 rw [z56]
 have hst : ∀ i,i < (edgesT c.tp).length → ∃ tn : Nat,tn < 4 ∧ edgeT c.tp ((edgesT c.tp).getD i s0) = (tn : Int) ∧ stampE c ((edgesT c.tp).getD i s0) v = 0 ∧ stampC c ((edgesT c.tp).getD i s0) v = stampV (tn : Int) v := fun i hi => z110 h (q23 hi s0)
 generalize edgesT c.tp = l at ed hb hst
 generalize rulesA c.tb = rs at ru rl
 obtain ⟨R,hR⟩ : ∃ x,l.foldl (stampF c v) [] = x := ⟨_,rfl⟩
 have hRl : R.length ≤ 36 := by
  have := z25 (stampF c v) (fun L a => j20 L _) l []
  rw [hR] at this;simp at this;omega
 rw [hR]
 obtain ⟨R2,hR2⟩ : ∃ x,rs.foldl setF R = x := ⟨_,rfl⟩
 rw [hR2]
 refine q11 Try.func27 rfl (by decide +kernel) (by rw [Try.ntmps27];simp) ?_;rw [Try.ntmps27];simp only [frOf]
 (repeat (first | apply j0 | refine j6 rfl ?_ | refine z7 rfl ?_ | apply z6 | (refine j4 fun K hK => ?_) | (refine z5 fun K hK => ?_) | ((first | apply x5 | apply j5 | ((first | refine z3 (hK _ ?_) | refine x4 (hK _ _ z4 ?_));clear hK K));(first | show AWP _ _ _ _ _ | ((try simp only [x6]);first | show loopQ _ _ _ _ _ _ | show cutQ _ _ _ _ | show AWP _ _ _ _ _))) | ((first | refine j8 rfl rfl rfl ?_ | refine q9 rfl rfl rfl ?_);simp (disch:=omega) only [go_sem,seval,hd,cb,ruleD,configD,spotD,topoD,z8];(first | refine ⟨_,ed,?_⟩)) | ((first | refine x7 [] rfl ?_ | refine j7 [] rfl ?_);simp (disch:=omega) only [go_sem,seval,hd,cb,ruleD,configD,spotD,topoD,z8];(repeat (first | refine ⟨by omega,?_⟩ | refine ⟨True.intro,?_⟩)))))
 refine x12 (setsRI c v l R) (fun s => l.length - s.val.1) ⟨(0,[]),by omega,by rw [List.drop_zero];exact hR,by simp⟩ ?_ (fun s => ?_)
 ·unfold setsRI
  refine Weak.list ?_ ?_;(all_goals simp (disch:=omega) only [AllF,AllL,q10,z10,j9,exists_eq_left',go_sem,seval,hd,cb,ruleD,configD,spotD,topoD,z8]);(all_goals (repeat' (with_reducible apply And.intro)));(all_goals try (first | exact q8 rfl | (refine x10 ?_;omega) | (refine q8 ?_;simp;done)))
  exact le_sl rfl (fun i hi => by omega)
 obtain ⟨⟨i,L⟩,hi,k1,k2⟩ := s
 simp only [] at hi k1 k2
 unfold setsRI
 simp only []
 by_cases hn : i < l.length
 ·have r1 := z39 l i
  obtain ⟨tn,t1,t2,t3,t4⟩ := hst i hn
  rw [j19 l i s0 hn] at k1
  simp only [List.foldl_cons] at k1
  generalize l.getD i s0 = s at r1 t2 t3 t4 k1
  have eg := j95 c.tp s hc.tp
  rw [t2] at eg
  have mk := maskR_c tn v (by omega) (by omega)
  unfold stampF at k1
  rw [t4] at k1
  have ad := q56 L (stampV (tn : Int) (v : Int)) (by omega)
  have al := j20 L (stampV (tn : Int) (v : Int))
  generalize addC L (stampV (tn : Int) (v : Int)) = L2 at ad al k1
  generalize stampV (tn : Int) (v : Int) = k at mk ad
  (repeat (first | apply j0 | refine j6 rfl ?_ | refine z7 rfl ?_ | apply z6 | (refine j4 fun K hK => ?_) | (refine z5 fun K hK => ?_) | ((first | apply x5 | apply j5 | ((first | refine z3 (hK _ ?_) | refine x4 (hK _ _ z4 ?_));clear hK K));(first | show AWP _ _ _ _ _ | ((try simp only [x6]);first | show loopQ _ _ _ _ _ _ | show cutQ _ _ _ _ | show AWP _ _ _ _ _))) | ((first | refine j8 rfl rfl rfl ?_ | refine q9 rfl rfl rfl ?_);simp (disch:=omega) only [go_sem,seval,hd,cb,ruleD,configD,spotD,topoD,z8,r1];(first | refine ⟨_,eg,?_⟩ | refine ⟨_,mk,?_⟩ | refine ⟨_,ad,?_⟩)) | ((first | refine x7 [] rfl ?_ | refine j7 [] rfl ?_);simp (disch:=omega) only [go_sem,seval,hd,cb,ruleD,configD,spotD,topoD,z8,r1];(repeat (first | refine ⟨by omega,?_⟩ | refine ⟨True.intro,?_⟩)))))
  refine ⟨⟨(i + 1,L2),by simp only [];omega,k1,by simp only [];omega⟩,by simp only [];omega,?_⟩
  refine Weak.list ?_ ?_;(all_goals simp (disch:=omega) only [AllF,AllL,q10,z10,j9,exists_eq_left',go_sem,seval,hd,cb,ruleD,configD,spotD,topoD,z8,r1]);(all_goals (repeat' (with_reducible apply And.intro)));(all_goals try (first | exact q8 rfl | (refine x10 ?_;omega) | (refine q8 ?_;simp;done)))
 ·have : i = l.length := by omega
  subst this
  rw [List.drop_length] at k1
  obtain rfl : L = R := k1
  (repeat (first | apply j0 | refine j6 rfl ?_ | refine z7 rfl ?_ | apply z6 | (refine j4 fun K hK => ?_) | (refine z5 fun K hK => ?_) | ((first | apply x5 | apply j5 | ((first | refine z3 (hK _ ?_) | refine x4 (hK _ _ z4 ?_));clear hK K));(first | show AWP _ _ _ _ _ | ((try simp only [x6]);first | show loopQ _ _ _ _ _ _ | show cutQ _ _ _ _ | show AWP _ _ _ _ _))) | ((first | refine j8 rfl rfl rfl ?_ | refine q9 rfl rfl rfl ?_);simp (disch:=omega) only [go_sem,seval,hd,cb,ruleD,configD,spotD,topoD,z8];(first | refine ⟨_,ru,?_⟩)) | ((first | refine x7 [] rfl ?_ | refine j7 [] rfl ?_);simp (disch:=omega) only [go_sem,seval,hd,cb,ruleD,configD,spotD,topoD,z8];(repeat (first | refine ⟨by omega,?_⟩ | refine ⟨True.intro,?_⟩)))))
  refine x12 (setsRJ rs R2 36) (fun s => rs.length - s.val.1) ⟨(0,L),by omega,by rw [List.drop_zero];exact hR2,by simp only [];omega⟩ ?_ (fun s => ?_)
  ·unfold setsRJ
   refine Weak.list ?_ ?_;(all_goals simp (disch:=omega) only [AllF,AllL,q10,z10,j9,exists_eq_left',go_sem,seval,hd,cb,ruleD,configD,spotD,topoD,z8]);(all_goals (repeat' (with_reducible apply And.intro)));(all_goals try (first | exact q8 rfl | (refine x10 ?_;omega) | (refine q8 ?_;simp;done)))
  obtain ⟨⟨j,L2⟩,hj,k3,k4⟩ := s
  simp only [] at hj k3 k4
  unfold setsRJ
  simp only []
  by_cases hm : j < rs.length
  ·have r1 := j38 rs j
   rw [j19 rs j r0 hm] at k3
   simp only [List.foldl_cons] at k3
   generalize rs.getD j r0 = r at r1 k3
   have q := z54 r.st ⟨0,0⟩
   simp only [q17,z17] at q
   unfold setF at k3
   by_cases hz : r.st = ⟨0,0⟩
   ·rw [if_pos hz] at k3
    rw [show (r.st == (⟨0,0⟩ : Cube)) = true by rw [hz];exact beq_self_eq_true _] at q
    (repeat (first | apply j0 | refine j6 rfl ?_ | refine z7 rfl ?_ | apply z6 | (refine j4 fun K hK => ?_) | (refine z5 fun K hK => ?_) | ((first | apply x5 | apply j5 | ((first | refine z3 (hK _ ?_) | refine x4 (hK _ _ z4 ?_));clear hK K));(first | show AWP _ _ _ _ _ | ((try simp only [x6]);first | show loopQ _ _ _ _ _ _ | show cutQ _ _ _ _ | show AWP _ _ _ _ _))) | ((first | refine x7 [] rfl ?_ | refine j7 [] rfl ?_);simp (disch:=omega) only [go_sem,seval,hd,cb,ruleD,configD,spotD,topoD,z8,r1,q];(repeat (first | refine ⟨by omega,?_⟩ | refine ⟨True.intro,?_⟩)))))
    refine ⟨⟨(j + 1,L2),by simp only [];omega,k3,by simp only [];omega⟩,by simp only [];omega,?_⟩
    refine Weak.list ?_ ?_;(all_goals simp (disch:=omega) only [AllF,AllL,q10,z10,j9,exists_eq_left',go_sem,seval,hd,cb,ruleD,configD,spotD,topoD,z8,r1,q]);(all_goals (repeat' (with_reducible apply And.intro)));(all_goals try (first | exact q8 rfl | (refine x10 ?_;omega) | (refine q8 ?_;simp;done)))
   ·rw [if_neg hz] at k3
    rw [show (r.st == (⟨0,0⟩ : Cube)) = false by rw [beq_eq_false_iff_ne];exact hz] at q
    have ad := q56 L2 r.st (by omega)
    have al := j20 L2 r.st
    generalize addC L2 r.st = L3 at ad al k3
    (repeat (first | apply j0 | refine j6 rfl ?_ | refine z7 rfl ?_ | apply z6 | (refine j4 fun K hK => ?_) | (refine z5 fun K hK => ?_) | ((first | apply x5 | apply j5 | ((first | refine z3 (hK _ ?_) | refine x4 (hK _ _ z4 ?_));clear hK K));(first | show AWP _ _ _ _ _ | ((try simp only [x6]);first | show loopQ _ _ _ _ _ _ | show cutQ _ _ _ _ | show AWP _ _ _ _ _))) | ((first | refine j8 rfl rfl rfl ?_ | refine q9 rfl rfl rfl ?_);simp (disch:=omega) only [go_sem,seval,hd,cb,ruleD,configD,spotD,topoD,z8,r1,q];(first | refine ⟨_,ad,?_⟩)) | ((first | refine x7 [] rfl ?_ | refine j7 [] rfl ?_);simp (disch:=omega) only [go_sem,seval,hd,cb,ruleD,configD,spotD,topoD,z8,r1,q];(repeat (first | refine ⟨by omega,?_⟩ | refine ⟨True.intro,?_⟩)))))
    refine ⟨⟨(j + 1,L3),by simp only [];omega,k3,by simp only [];omega⟩,by simp only [];omega,?_⟩
    refine Weak.list ?_ ?_;(all_goals simp (disch:=omega) only [AllF,AllL,q10,z10,j9,exists_eq_left',go_sem,seval,hd,cb,ruleD,configD,spotD,topoD,z8,r1,q]);(all_goals (repeat' (with_reducible apply And.intro)));(all_goals try (first | exact q8 rfl | (refine x10 ?_;omega) | (refine q8 ?_;simp;done)))
  ·have : j = rs.length := by omega
   subst this
   rw [List.drop_length] at k3
   obtain rfl : L2 = R2 := k3
   (repeat (first | apply j0 | refine j6 rfl ?_ | refine z7 rfl ?_ | apply z6 | (refine j4 fun K hK => ?_) | (refine z5 fun K hK => ?_) | ((first | apply x5 | apply j5 | ((first | refine z3 (hK _ ?_) | refine x4 (hK _ _ z4 ?_));clear hK K));(first | show AWP _ _ _ _ _ | ((try simp only [x6]);first | show loopQ _ _ _ _ _ _ | show cutQ _ _ _ _ | show AWP _ _ _ _ _))) | ((first | refine x7 [] rfl ?_ | refine j7 [] rfl ?_);simp (disch:=omega) only [go_sem,seval,hd,cb,ruleD,configD,spotD,topoD,z8];(repeat (first | refine ⟨by omega,?_⟩ | refine ⟨True.intro,?_⟩)))))
   refine x8 ⟨_,?_,rfl⟩;rw [Try.results27];simp (disch:=omega) only [ResVars,ResVar,ptrLoc,go_sem,seval,hd,cb,ruleD,configD,spotD,topoD,z8]
def DLe (x y : Dat) : Prop := ∀ (w : World) (g : Nat → Nat) (v : Value),RelD w g v x → RelD w g v y
inductive DLes : List Dat → List Dat → Prop
 | nil : DLes [] []
 | cons {x y : Dat} {xs ys : List Dat} (h : DLe x y) (t : DLes xs ys) : DLes (x :: xs) (y :: ys)
theorem x110 (x : Dat) : DLe x x := fun _ _ _ h => h
theorem DLes.refl : ∀ xs : List Dat,DLes xs xs
 | [] => .nil
 | x :: xs => .cons (x110 x) (DLes.refl xs)
theorem DLes.of_eq {xs ys : List Dat} (h : xs = ys) : DLes xs ys := h ▸ DLes.refl xs
theorem DLes.length {xs ys : List Dat} (h : DLes xs ys) : xs.length = ys.length := by
 induction h with
 | nil => rfl
 | cons _ _ ih => simp [ih]
theorem DLes.at {xs ys : List Dat} (h : DLes xs ys) : ∀ {j : Nat} {y : Dat},ys[j]? = some y → ∃ x,xs[j]? = some x ∧ DLe x y := by
 induction h with
 | nil => intro j y h;simp at h
 |cons h t ih =>
  intro j y hy
  cases j with
  | zero => simp at hy;subst hy;exact ⟨_,by simp,h⟩
  | succ j => simp at hy;obtain ⟨x,h1,h2⟩ := ih hy;exact ⟨x,by simpa using h1,h2⟩
theorem z34 {sz n n' : Nat} {f f' : Nat → List Dat} (hn : n = n') (hf : ∀ i,i < n → DLes (f i) (f' i)) : DLe (.sl sz n f) (.sl sz n' f') := by
 subst hn
 intro w g v r
 cases r with
 | sl0 a c sz f => exact .sl0 _ _ _ _
 |sl b off n c sz f u h1 h2 h3 h4 h5 =>
  refine .sl b off n c sz f' u h1 (fun i hi => by rw [← (hf i hi).length];exact h2 i hi) h3 h4 (fun i j y hi hy => ?_)
  obtain ⟨x,k1,k2⟩ := (hf i hi).at hy
  exact k2 _ _ _ (h5 i j x hi k1)
theorem j110 {a : Option Addr} {c sz : Nat} {f : Nat → List Dat} : DLe (.v (.slice a 0 c)) (.sl sz 0 f) := by
 intro w g v r
 cases r
 exact .sl0 _ _ _ _
theorem q111 {xs ys : List Dat} (h : DLes xs ys) : PLe (.agg xs) (.agg ys) := by
 intro w g v r
 cases r with
 |agg vs _ h1 h2 =>
  refine .agg vs ys (by rw [h1,h.length]) (fun j v y hv hy => ?_)
  obtain ⟨x,k1,k2⟩ := h.at hy
  exact k2 _ _ _ (h2 j v x hv k1)
theorem q170 {P : Program} {f : FuncId} {xs : List PV} {ds ds' : List Dat} (h : DLes ds ds') (c : ACalls P f xs (· = [.agg ds])) : ACalls P f xs (· = [.agg ds']) := by
 refine q49.2 fun w g vs hz hr => ?_
 have := q49.1 c w g vs hz hr
 unfold CallRes at *
 split at this
 ·refine this.mono fun e w' ⟨v,he,g',rs,h1,h2,h3⟩ => ?_
  subst h2
  exact ⟨v,he,g',_,h1,rfl,q111 h _ _ _ h3⟩
 ·obtain ⟨g',rs,h1,h2,h3⟩ := this
  subst h2
  exact ⟨g',_,h1,rfl,q111 h _ _ _ h3⟩
 ·exact this.elim
def lineK : Config := ⟨[[⟨1,0,0,0,0⟩,⟨2,0,1,0,1⟩],[⟨2,0,0,1,1⟩,⟨1,0,0,0,0⟩]],⟨1,[],[]⟩,
 [[[⟨1,⟨1,1⟩,3,1,0,⟨0,0⟩⟩,⟨0,⟨0,0⟩,1,0,0,⟨0,0⟩⟩]],[[⟨1,⟨1,1⟩,2,1,0,⟨0,0⟩⟩,⟨0,⟨0,0⟩,1,0,0,⟨0,0⟩⟩]]]⟩
def lI (n : Int) : Dat := .v (.int .i64 n)
def lU (n : Int) : Dat := .v (.int .u64 n)
def lpRaw (a b c d e : Int) : List Dat := [lI a,lI b,lI c,lI d,lI e]
def lrRaw (k : Int) : List Dat := [lI 1,lU 0,lU 1,lU 0,lU 1,lI k,lI 1,lI 0,lU 0,lU 0,lU 0,lU 0]
def ldRaw : List Dat := [lI 0,lU 0,lU 0,lU 0,lU 0,lI 1,lI 0,lI 0,lU 0,lU 0,lU 0,lU 0]
def ltRaw (k : Int) : List Dat := [.sl 1 1 fun i => [[.sl 12 2 fun i => [lrRaw k,ldRaw].getD i []]].getD i []]
def lineRaw : List Dat := [.sl 1 2 fun i => [[.sl 5 2 fun i => [lpRaw 1 0 0 0 0,lpRaw 2 0 1 0 1].getD i []],[.sl 5 2 fun i => [lpRaw 2 0 0 1 1,lpRaw 1 0 0 0 0].getD i []]].getD i [],lI 1,.v (.slice none 0 0),.v (.slice none 0 0),
 .sl 1 2 fun i => [ltRaw 3,ltRaw 2].getD i []]
theorem q41 {i : Nat} (h : i < 2) : i = 0 ∨ i = 1 := by omega
theorem lt_one {i : Nat} (h : i < 1) : i = 0 := by omega
theorem z170 (k : Int) (i : Nat) (h : i < 2) : [lrRaw k,ldRaw].getD i [] = rowR [⟨1,⟨1,1⟩,k,1,0,⟨0,0⟩⟩,⟨0,⟨0,0⟩,1,0,0,⟨0,0⟩⟩] i := by
 rcases q41 h with rfl | rfl
 ·show lrRaw k = ruleD ⟨1,⟨1,1⟩,k,1,0,⟨0,0⟩⟩
  unfold ruleD lrRaw lI lU
  simp only [q17,z17,show hi 1 = 0 by decide,show lo 1 = 1 by decide]
 ·show ldRaw = ruleD ⟨0,⟨0,0⟩,1,0,0,⟨0,0⟩⟩
  unfold ruleD ldRaw lI lU
  simp only [q17,z17]
theorem z111 (k : Int) : DLes (ltRaw k) [.sl 1 1 (rowRR [[⟨1,⟨1,1⟩,k,1,0,⟨0,0⟩⟩,⟨0,⟨0,0⟩,1,0,0,⟨0,0⟩⟩]])] := by
 refine .cons (z34 rfl fun i h => ?_) .nil
 obtain rfl := lt_one h
 exact .cons (z34 rfl fun i h => .of_eq (z170 k i h)) .nil
theorem x170 : DLes lineRaw (configD lineK) := by
 refine .cons (z34 rfl fun i h => ?_) (.cons (x110 _) (.cons j110 (.cons j110 (.cons (z34 rfl fun i h => ?_) .nil))))
 ·rcases q41 h with rfl | rfl
  ·refine .cons (z34 rfl fun i h => ?_) .nil
   rcases q41 h with rfl | rfl <;> exact .of_eq rfl
  ·refine .cons (z34 rfl fun i h => ?_) .nil
   rcases q41 h with rfl | rfl <;> exact .of_eq rfl
 ·rcases q41 h with rfl | rfl
  ·exact z111 3
  ·exact z111 2
theorem x111 : lineK.small := by
 refine ⟨⟨by decide,?_⟩,⟨by decide,by decide⟩,by decide,?_⟩
 ·intro l h
  simp only [lineK,List.mem_cons,List.not_mem_nil,or_false] at h
  rcases h with rfl | rfl <;> decide
 ·intro t h
  simp only [lineK,List.mem_cons,List.not_mem_nil,or_false] at h
  rcases h with rfl | rfl <;> refine ⟨by decide,fun l h => ?_⟩ <;> (simp only [List.mem_singleton] at h;subst h;decide)
set_option maxRecDepth 100000 in
theorem j170 : ACalls Try.prog 56 [] (· = [.agg (configD lineK)]) := by
 refine q170 x170 ?_
 unfold lineRaw ltRaw lrRaw ldRaw lpRaw lI lU
 refine q11 Try.func56 rfl (by decide +kernel) (by rw [Try.ntmps56];simp) ?_;rw [Try.ntmps56];simp only [frOf]
 (repeat (first | apply j0 | refine j6 rfl ?_ | refine z7 rfl ?_ | apply z6 | (refine j4 fun K hK => ?_) | (refine z5 fun K hK => ?_) | ((first | apply x5 | apply j5 | ((first | refine z3 (hK _ ?_) | refine x4 (hK _ _ z4 ?_));clear hK K));(first | show AWP _ _ _ _ _ | ((try simp only [x6]);first | show loopQ _ _ _ _ _ _ | show cutQ _ _ _ _ | show AWP _ _ _ _ _))) | ((first | refine x7 [1,2,3] rfl ?_ | refine j7 [1,2,3] rfl ?_);simp (disch:=omega) only [go_sem,seval,hd,cb];(repeat (first | refine ⟨by omega,?_⟩ | refine ⟨True.intro,?_⟩)))))
 refine x8 ⟨_,?_,rfl⟩;rw [Try.results56];simp (disch:=omega) only [ResVars,ResVar,ptrLoc,go_sem,seval,hd,cb]
theorem Of_c (c : Config) (v : Int) (hc : c.small) (hv : -9223372036854775808 ≤ v ∧ v < 9223372036854775808) : ACalls Try.prog 28 [.agg (configD c),.d (.v (.int .i64 v))] (· = [.d (.sl 4 (ofV c v).length (rowC (ofV c v))),.d (.v (.int .i64 (ofE c v)))]) := by
 by_cases h : predE c v = 0
 ·exact Of_good c v hc hv h
 ·have e : ofE c v = predE c v := by unfold ofE;rw [if_pos h]
  have e2 : ofV c v = [] := by unfold ofV;rw [e,if_neg h]
  rw [e,e2]
  exact q108 c v hc hv h
theorem q171 : ofE lineK 0 = 0 := by decide +kernel
theorem z171 : ofV lineK 0 = [⟨0,0⟩,⟨1,1⟩] := by decide +kernel
theorem x171 : setsV lineK 0 = [stampV 0 0] := by decide +kernel
theorem j171 : predE lineK 0 = 0 := by decide +kernel
set_option maxRecDepth 100000 in
theorem j56 : ACalls Try.prog 26 [] (· = [.d (.v (.bool true))]) := by
 have k0 := j170
 have k1 := Of_c lineK 0 x111 (by omega)
 have k2 := j71 lineK 0 x111 (by omega)
 rw [q171,z171] at k1
 rw [x171,j171] at k2
 generalize stampV 0 0 = k at k2
 have r0 : rowC ([⟨0,0⟩,⟨1,1⟩] : List Cube) 0 = [.v (.int .u64 0),.v (.int .u64 0),.v (.int .u64 0),.v (.int .u64 0)] := by
  show cb ⟨0,0⟩ = _
  unfold cb;simp only [q17,z17]
 have r1 : rowC ([⟨0,0⟩,⟨1,1⟩] : List Cube) 1 = [.v (.int .u64 0),.v (.int .u64 1),.v (.int .u64 0),.v (.int .u64 1)] := by
  show cb ⟨1,1⟩ = _
  unfold cb;simp only [show hi 1 = 0 by decide,show lo 1 = 1 by decide]
 simp only [List.length_cons,List.length_nil,Nat.zero_add,Nat.reduceAdd] at k1 k2
 generalize rowC ([⟨0,0⟩,⟨1,1⟩] : List Cube) = f at k1 r0 r1
 refine q11 Try.func26 rfl (by decide +kernel) (by rw [Try.ntmps26];simp) ?_;rw [Try.ntmps26];simp only [frOf]
 (repeat (first | apply j0 | refine j6 rfl ?_ | refine z7 rfl ?_ | apply z6 | (refine j4 fun K hK => ?_) | (refine z5 fun K hK => ?_) | ((first | apply x5 | apply j5 | ((first | refine z3 (hK _ ?_) | refine x4 (hK _ _ z4 ?_));clear hK K));(first | show AWP _ _ _ _ _ | ((try simp only [x6]);first | show loopQ _ _ _ _ _ _ | show cutQ _ _ _ _ | show AWP _ _ _ _ _))) | ((first | refine j8 rfl rfl rfl ?_ | refine q9 rfl rfl rfl ?_);simp (disch:=omega) only [go_sem,seval,hd,cb,ruleD,configD,spotD,topoD,z8,j11,r0,r1,eqI];(first | refine ⟨_,k0,?_⟩ | refine ⟨_,k1,?_⟩ | refine ⟨_,k2,?_⟩)) | ((first | refine x7 [1] rfl ?_ | refine j7 [1] rfl ?_);simp (disch:=omega) only [go_sem,seval,hd,cb,ruleD,configD,spotD,topoD,z8,j11,r0,r1,eqI];(repeat (first | refine ⟨by omega,?_⟩ | refine ⟨True.intro,?_⟩)))))
 refine x8 ⟨_,?_,rfl⟩;rw [Try.results26];simp (disch:=omega) only [ResVars,ResVar,ptrLoc,go_sem,seval,hd,cb,ruleD,configD,spotD,topoD,z8,j11,r0,r1,eqI]
def dropK (a b : Cube) : Cube := ⟨a.v,a.c &&& ~~~b.c⟩
theorem dropK_x {a b : Cube} {n : Nat} (h : b.c.getLsbD n = true) : chI (dropK a b) n = 120 := by
 simp [chI,dropK,h]
theorem dropK_a {a b : Cube} {n : Nat} (hn : n < 128) (h : b.c.getLsbD n = false) : chI (dropK a b) n = chI a n := by
 simp only [chI,dropK,BitVec.getLsbD_and,BitVec.getLsbD_not,h,Bool.not_false,Bool.and_true,hn,decide_true]
 rfl
theorem j111 (a b : Cube) (c : Int) (i j : Nat) (hc : chI (dropK a b) (127 - i) = c) :
  (if j = i then Dat.v (.int .u8 c) else Dat.v (.int .u8 (if j < i then chI (dropK a b) (127 - j) else chI a (127 - j)))) = Dat.v (.int .u8 (if j < i + 1 then chI (dropK a b) (127 - j) else chI a (127 - j))) := by
 by_cases h : j = i
 ·subst h;rw [if_pos rfl,if_pos (by omega),hc]
 ·rw [if_neg h]
  by_cases h2 : j < i
  ·rw [if_pos h2,if_pos (by omega)]
  ·rw [if_neg h2,if_neg (by omega)]
theorem q172 (a b : Cube) (i j : Nat) (hc : chI (dropK a b) (127 - i) = chI a (127 - i)) :
  Dat.v (.int .u8 (if j < i then chI (dropK a b) (127 - j) else chI a (127 - j))) = Dat.v (.int .u8 (if j < i + 1 then chI (dropK a b) (127 - j) else chI a (127 - j))) := by
 by_cases h : j = i
 ·subst h;rw [if_neg (by omega),if_pos (by omega),hc]
 ·by_cases h2 : j < i
  ·rw [if_pos h2,if_pos (by omega)]
  ·rw [if_neg h2,if_neg (by omega)]
def befRI (a b : Cube) (s : {i : Fin 129 // ∀ j,j < i.val → a.c.getLsbD (127 - j) = true → b.c.getLsbD (127 - j) = true → a.v.getLsbD (127 - j) = b.v.getLsbD (127 - j)}) : ASt :=
 ⟨[(11,.p (.d (.v (.int .i64 (s.val.val : Int))))),(10,.row 23 1 0 128),(8,.p (.d (.v (.string (txt b))))),(4,.loc 4 0)],
  [(4,.cells 27 [.p (.d (.v (.int .u64 0))),.p (.d (.v (.int .u64 0))),.p (.d (.v (.int .u64 0))),.p (.d (.v (.int .u64 0)))]),(23,.arr 5 128 fun j => .v (.int .u8 (if j < s.val.val then chI (dropK a b) (127 - j) else chI a (127 - j))))]⟩
theorem z172 {k : Cube} (h : k.sound = true) : mkC k.v k.c = k := by
 have := (x50 k).1 h
 unfold mkC
 have e : k.v &&& k.c = k.v := by
  apply BitVec.eq_of_getLsbD_eq
  intro i hlt
  rw [BitVec.getLsbD_and]
  cases hv : k.v.getLsbD i
  ·rfl
  ·rw [this i hlt hv];rfl
 rw [e]
set_option maxRecDepth 100000 in
theorem x172 (a b : Cube) (ha : a.sound = true) (hb : b.sound = true) : ACalls Try.prog 31 [.agg (cb a),.agg (cb b)] (· = [.agg (cb (beforeV a b)),.d (.v (.bool (beforeO a b)))]) := by
 have ta := q40 a
 have tb := q40 b
 rw [ha,if_pos rfl] at ta
 rw [hb,if_pos rfl] at tb
 have sz := x52 a
 have sb := x52 b
 have eO : beforeO a b = (apart a b == 0) := by unfold beforeO;rw [ha,z172 hb,Bool.true_and]
 unfold beforeV
 rw [eO]
 refine q11 Try.func31 rfl (by decide +kernel) (by rw [Try.ntmps31];simp) ?_;rw [Try.ntmps31];simp only [frOf]
 (repeat (first | apply j0 | refine j6 rfl ?_ | refine z7 rfl ?_ | apply z6 | (refine j4 fun K hK => ?_) | (refine z5 fun K hK => ?_) | ((first | apply x5 | apply j5 | ((first | refine z3 (hK _ ?_) | refine x4 (hK _ _ z4 ?_));clear hK K));(first | show AWP _ _ _ _ _ | ((try simp only [x6]);first | show loopQ _ _ _ _ _ _ | show cutQ _ _ _ _ | show AWP _ _ _ _ _))) | ((first | refine j8 rfl rfl rfl ?_ | refine q9 rfl rfl rfl ?_);simp (disch:=omega) only [go_sem,seval,hd,cb,sz,sb];(first | refine ⟨_,ta,?_⟩ | refine ⟨_,tb,?_⟩)) | ((first | refine x7 [4] rfl ?_ | refine j7 [4] rfl ?_);simp (disch:=omega) only [go_sem,seval,hd,cb,sz,sb];(repeat (first | refine ⟨by omega,?_⟩ | refine ⟨True.intro,?_⟩)))))
 refine x12 (befRI a b) (fun s => 128 - s.val.val) ⟨⟨0,by omega⟩,fun j hj => by simp at hj⟩ ?_ (fun s => ?_)
 ·unfold befRI
  refine Weak.list ?_ ?_;(all_goals simp (disch:=omega) only [AllF,AllL,q10,z10,j9,exists_eq_left',go_sem,seval,hd,cb,sz,sb]);(all_goals (repeat' (with_reducible apply And.intro)));(all_goals try (first | exact q8 rfl | (refine x10 ?_;omega) | (refine q8 ?_;simp;done)))
  exact ⟨rfl,rfl,fun j hj => by
   have := z40 a j hj
   simp only [this]
   simp⟩
 obtain ⟨⟨i,hi9⟩,hs⟩ := s
 unfold befRI
 simp only [] at hs
 by_cases hn : i < 128
 ·have ai := z40 a i hn
  have bi := z40 b i hn
  cases hbc : b.c.getLsbD (127 - i)
  ·have mg : chI (dropK a b) (127 - i) = chI a (127 - i) := dropK_a (by omega) hbc
   rw [show chI b (127 - i) = 120 from by simp [chI,hbc]] at bi
   (repeat (first | apply j0 | refine j6 rfl ?_ | refine z7 rfl ?_ | apply z6 | (refine j4 fun K hK => ?_) | (refine z5 fun K hK => ?_) | ((first | apply x5 | apply j5 | ((first | refine z3 (hK _ ?_) | refine x4 (hK _ _ z4 ?_));clear hK K));(first | show AWP _ _ _ _ _ | ((try simp only [x6]);first | show loopQ _ _ _ _ _ _ | show cutQ _ _ _ _ | show AWP _ _ _ _ _))) | ((first | refine x7 [4] rfl ?_ | refine j7 [4] rfl ?_);simp (disch:=omega) only [go_sem,seval,hd,cb,sz,sb,ai,bi];(repeat (first | refine ⟨by omega,?_⟩ | refine ⟨True.intro,?_⟩)))))
   refine ⟨⟨⟨i + 1,by omega⟩,fun j hj h1 h2 => ?_⟩,by simp only [];omega,?_⟩
   ·by_cases e : j = i
    ·subst e;rw [hbc] at h2;cases h2
    ·exact hs j (by simp at hj;omega) h1 h2
   refine Weak.list ?_ ?_;(all_goals simp (disch:=omega) only [AllF,AllL,q10,z10,j9,exists_eq_left',go_sem,seval,hd,cb,sz,sb,ai,bi]);(all_goals (repeat' (with_reducible apply And.intro)));(all_goals try (first | exact q8 rfl | (refine x10 ?_;omega) | (refine q8 ?_;simp;done)))
   exact ⟨rfl,rfl,fun j hj => q172 a b i j mg⟩
  ·have mg : chI (dropK a b) (127 - i) = 120 := dropK_x hbc
   cases hac : a.c.getLsbD (127 - i)
   ·cases hbv : b.v.getLsbD (127 - i)
    all_goals
     have oi : (if i < i then chI (dropK a b) (127 - i) else chI a (127 - i)) = 120 := by rw [if_neg (Nat.lt_irrefl i)];simp [chI,hac]
     simp only [chI,hac,hbc,hbv,if_true,if_false,Bool.false_eq_true] at ai bi
     (repeat (first | apply j0 | refine j6 rfl ?_ | refine z7 rfl ?_ | apply z6 | (refine j4 fun K hK => ?_) | (refine z5 fun K hK => ?_) | ((first | apply x5 | apply j5 | ((first | refine z3 (hK _ ?_) | refine x4 (hK _ _ z4 ?_));clear hK K));(first | show AWP _ _ _ _ _ | ((try simp only [x6]);first | show loopQ _ _ _ _ _ _ | show cutQ _ _ _ _ | show AWP _ _ _ _ _))) | ((first | refine x7 [4] rfl ?_ | refine j7 [4] rfl ?_);simp (disch:=omega) only [go_sem,seval,hd,cb,sz,sb,ai,bi,oi];(repeat (first | refine ⟨by omega,?_⟩ | refine ⟨True.intro,?_⟩)))))
     refine ⟨⟨⟨i + 1,by omega⟩,fun j hj h1 h2 => ?_⟩,by simp only [];omega,?_⟩
     ·by_cases e : j = i
      ·subst e;rw [hac] at h1;cases h1
      ·exact hs j (by simp at hj;omega) h1 h2
     refine Weak.list ?_ ?_;(all_goals simp (disch:=omega) only [AllF,AllL,q10,z10,j9,exists_eq_left',go_sem,seval,hd,cb,sz,sb,ai,bi,oi]);(all_goals (repeat' (with_reducible apply And.intro)));(all_goals try (first | exact q8 rfl | (refine x10 ?_;omega) | (refine q8 ?_;simp;done)))
     exact ⟨rfl,rfl,fun j hj => j111 a b _ i j mg⟩
   ·cases hav : a.v.getLsbD (127 - i) <;> cases hbv : b.v.getLsbD (127 - i)
    all_goals
     have oi : (if i < i then chI (dropK a b) (127 - i) else chI a (127 - i)) = if a.v.getLsbD (127 - i) then 49 else 48 := by rw [if_neg (Nat.lt_irrefl i)];simp [chI,hac]
     simp only [hav,if_true,if_false,Bool.false_eq_true] at oi
     simp only [chI,hac,hav,hbc,hbv,if_true,if_false,Bool.false_eq_true] at ai bi
     (repeat (first | apply j0 | refine j6 rfl ?_ | refine z7 rfl ?_ | apply z6 | (refine j4 fun K hK => ?_) | (refine z5 fun K hK => ?_) | ((first | apply x5 | apply j5 | ((first | refine z3 (hK _ ?_) | refine x4 (hK _ _ z4 ?_));clear hK K));(first | show AWP _ _ _ _ _ | ((try simp only [x6]);first | show loopQ _ _ _ _ _ _ | show cutQ _ _ _ _ | show AWP _ _ _ _ _))) | ((first | refine x7 [4] rfl ?_ | refine j7 [4] rfl ?_);simp (disch:=omega) only [go_sem,seval,hd,cb,sz,sb,ai,bi,oi];(repeat (first | refine ⟨by omega,?_⟩ | refine ⟨True.intro,?_⟩)))))
    all_goals first
     |skip
      refine ⟨⟨⟨i + 1,by omega⟩,fun j hj h1 h2 => ?_⟩,by simp only [];omega,?_⟩
      ·by_cases e : j = i
       ·subst e;rw [hav,hbv]
       ·exact hs j (by simp at hj;omega) h1 h2
      refine Weak.list ?_ ?_;(all_goals simp (disch:=omega) only [AllF,AllL,q10,z10,j9,exists_eq_left',go_sem,seval,hd,cb,sz,sb,ai,bi,oi]);(all_goals (repeat' (with_reducible apply And.intro)));(all_goals try (first | exact q8 rfl | (refine x10 ?_;omega) | (refine q8 ?_;simp;done)))
      exact ⟨rfl,rfl,fun j hj => j111 a b _ i j mg⟩
     |skip
      have hf : (apart a b == 0) = false := by
       cases hf : (apart a b == 0)
       ·rfl
       ·have := (q97 a b).1 hf (127 - i) (by omega) hac hbc
        rw [hav,hbv] at this;cases this
      rw [hf]
      simp only [Bool.false_eq_true,if_false,q55]
      refine x8 ⟨_,?_,rfl⟩;rw [Try.results31];simp (disch:=omega) only [ResVars,ResVar,ptrLoc,go_sem,seval,hd,cb,sz,sb,ai,bi,oi]
      try rfl
 ·have h128 : i = 128 := by omega
  subst h128
  have hf : (apart a b == 0) = true := (q97 a b).2 fun j hj h1 h2 => by
   have := hs (127 - j) (by omega)
   rw [show 127 - (127 - j) = j from by omega] at this
   exact this h1 h2
  rw [hf,if_pos rfl]
  refine awp_arr 23 (fun j => .v (.int .u8 (chI (dropK a b) (127 - j)))) rfl (fun j hj => by rw [if_pos hj]) ?_
  have ct := CubeT_c (dropK a b)
  (repeat (first | apply j0 | refine j6 rfl ?_ | refine z7 rfl ?_ | apply z6 | (refine j4 fun K hK => ?_) | (refine z5 fun K hK => ?_) | ((first | apply x5 | apply j5 | ((first | refine z3 (hK _ ?_) | refine x4 (hK _ _ z4 ?_));clear hK K));(first | show AWP _ _ _ _ _ | ((try simp only [x6]);first | show loopQ _ _ _ _ _ _ | show cutQ _ _ _ _ | show AWP _ _ _ _ _))) | ((first | refine j8 rfl rfl rfl ?_ | refine q9 rfl rfl rfl ?_);simp (disch:=omega) only [go_sem,seval,hd,cb,sz,sb];(first | refine ⟨_,ct,?_⟩)) | ((first | refine x7 [4] rfl ?_ | refine j7 [4] rfl ?_);simp (disch:=omega) only [go_sem,seval,hd,cb,sz,sb];(repeat (first | refine ⟨by omega,?_⟩ | refine ⟨True.intro,?_⟩)))))
  refine x8 ⟨_,?_,rfl⟩;rw [Try.results31];simp (disch:=omega) only [ResVars,ResVar,ptrLoc,go_sem,seval,hd,cb,sz,sb]
  rfl
end Go.Proofs.Ytbamjcnhmmgnlaa
namespace Go.Proofs.Ytbamjcnhmmgnlaa
open Go.Proofs.Ytbamjcnhmmgnlaa.AL
def keyR (r : Rule) : Int := -r.pr
def sortR (l : List Rule) : List Rule := isort keyR l
def bestTo (u : Nat → Bool) (x : Nat → Rule) : Nat → Option Nat
 | 0 => none
 |i + 1 => match bestTo u x i with
  | none => if u i then none else some i
  | some b => if u i then some b else if (x b).pr < (x i).pr then some i else some b
theorem q112 (u : Nat → Bool) (x : Nat → Rule) : ∀ i,match bestTo u x i with
  | none => ∀ q,q < i → u q = true
  | some p => p < i ∧ u p = false ∧ ∀ q,q < i → u q = false → (x q).pr ≤ (x p).pr ∧ (q < p → (x q).pr < (x p).pr)
 | 0 => fun q h => by omega
 |i + 1 => by
  have ih := q112 u x i
  unfold bestTo
  cases hb : bestTo u x i with
  |none =>
   rw [hb] at ih
   cases hu : u i
   ·simp only [Bool.false_eq_true,if_false]
    refine ⟨by omega,hu,fun q hq hq2 => ?_⟩
    have : q = i := by
     refine Classical.byContradiction fun hne => ?_
     have := ih q (by omega)
     rw [hq2] at this;cases this
    subst this
    exact ⟨Int.le_refl _,fun h => by omega⟩
   ·simp only [if_true]
    intro q hq
    by_cases h : q = i
    ·rw [h];exact hu
    ·exact ih q (by omega)
  |some b =>
   rw [hb] at ih
   obtain ⟨h1,h2,h3⟩ := ih
   cases hu : u i
   ·simp only [Bool.false_eq_true,if_false]
    split
    ·rename_i p hp
     split at hp <;> cases hp
    ·rename_i p hp
     split at hp
     ·rename_i hlt
      cases hp
      refine ⟨by omega,hu,fun q hq hq2 => ?_⟩
      by_cases h : q = i
      ·subst h;exact ⟨Int.le_refl _,fun h => by omega⟩
      ·have := (h3 q (by omega) hq2).1
       exact ⟨by omega,fun _ => by omega⟩
     ·rename_i hlt
      cases hp
      refine ⟨by omega,h2,fun q hq hq2 => ?_⟩
      by_cases h : q = i
      ·subst h;exact ⟨by omega,fun h => by omega⟩
      ·exact h3 q (by omega) hq2
   ·simp only [if_true]
    refine ⟨by omega,h2,fun q hq hq2 => ?_⟩
    by_cases h : q = i
    ·subst h;rw [hu] at hq2;cases hq2
    ·exact h3 q (by omega) hq2
def rem (n : Nat) (out : List Nat) : List Nat := (List.range n).filter fun i => !out.contains i
theorem j172 {α : Type} {key : α → Int} (x : Nat → α) {r : List Nat} {p : Nat} (hr : r.Pairwise (· < ·)) (hp : p ∈ r) (hmin : ∀ q ∈ r,key (x p) ≤ key (x q) ∧ (q < p → key (x p) < key (x q))) :
  isort key (r.map x) = x p :: isort key ((r.filter (· != p)).map x) := by
 obtain ⟨r1,r2,rfl⟩ := List.append_of_mem hp
 have ⟨q1,q2,q3⟩ := List.pairwise_append.1 hr
 have q4 := List.pairwise_cons.1 q2
 have n1 : ∀ q ∈ r1,q < p := fun q hq => q3 q hq p (by simp)
 have n2 : ∀ q ∈ r2,p < q := fun q hq => q4.1 q hq
 have hf : (r1 ++ p :: r2).filter (· != p) = r1 ++ r2 := by
  rw [List.filter_append,List.filter_cons]
  simp only [bne_self_eq_false,Bool.false_eq_true,if_false]
  rw [List.filter_eq_self.2 fun q hq => by have := n1 q hq;simp;omega,List.filter_eq_self.2 fun q hq => by have := n2 q hq;simp;omega]
 rw [hf]
 refine z53 (q33 _) (List.pairwise_cons.2 ⟨fun e he => ?_,q33 _⟩) fun k => ?_
 ·have : e ∈ (isort key ((r1 ++ r2).map x)).filter (fun z => key z == key e) := List.mem_filter.2 ⟨he,by simp⟩
  rw [x29] at this
  obtain ⟨q,hq,rfl⟩ := List.mem_map.1 (List.mem_filter.1 this).1
  refine (hmin q ?_).1
  rcases List.mem_append.1 hq with h | h
  ·simp [h]
  ·simp [h]
 ·rw [x29,List.filter_cons,x29]
  simp only [List.map_append,List.map_cons,List.filter_append,List.filter_cons]
  by_cases hk : key (x p) = k
  ·have : (r1.map x).filter (fun e => key e == k) = [] := by
    rw [List.filter_eq_nil_iff]
    intro e he hk2
    obtain ⟨q,hq,rfl⟩ := List.mem_map.1 he
    have := (hmin q (by simp [hq])).2 (n1 q hq)
    have := beq_iff_eq.1 hk2
    omega
   rw [this];simp [hk]
  ·simp [hk]
theorem z112 {n : Nat} {out : List Nat} {p : Nat} : rem n (out ++ [p]) = (rem n out).filter (· != p) := by
 unfold rem
 rw [List.filter_filter]
 refine List.filter_congr fun i hi => ?_
 simp only [List.contains_append,List.contains_cons,List.contains_nil,Bool.or_false]
 cases out.contains i <;> simp [bne]
theorem z72 {n : Nat} {out : List Nat} {i : Nat} : i ∈ rem n out ↔ i < n ∧ i ∉ out := by
 unfold rem
 rw [List.mem_filter,List.mem_range]
 simp
theorem x112 {n : Nat} : ∀ {r : List Nat} {p : Nat},r.Pairwise (· < ·) → p ∈ r → (r.filter (· != p)).length + 1 = r.length
 | [],p,_,h => by cases h
 |q :: r,p,h,hp => by
  have ⟨h1,h2⟩ := List.pairwise_cons.1 h
  rw [List.filter_cons]
  rcases List.mem_cons.1 hp with rfl | hp
  ·simp only [bne_self_eq_false,Bool.false_eq_true,if_false]
   rw [List.filter_eq_self.2 fun q hq => by have := h1 q hq;simp;omega];rfl
  ·have := h1 p hp
   have hq : (q != p) = true := by simp;omega
   rw [if_pos hq,List.length_cons,List.length_cons,x112 (n := n) h2 hp]
theorem j112 (n : Nat) (out : List Nat) : (rem n out).Pairwise (· < ·) := List.Pairwise.filter _ List.pairwise_lt_range
structure Ord (l : List Rule) (out : List Nat) : Prop where
 lt : ∀ i ∈ out,i < l.length
 len : out.length + (rem l.length out).length = l.length
 eq : out.map (fun i => l.getD i r0) ++ sortR ((rem l.length out).map fun i => l.getD i r0) = sortR l
theorem Ord.start (l : List Rule) : Ord l [] := by
 have e : rem l.length [] = List.range l.length := by unfold rem;exact List.filter_eq_self.2 fun _ _ => rfl
 refine ⟨fun i h => (by cases h),by rw [e];simp,?_⟩
 rw [e]
 have : (List.range l.length).map (fun i => l.getD i r0) = l := by
  apply List.ext_getElem
  ·simp
  ·intro k h1 h2;simp [h2]
 rw [this];rfl
theorem Ord.step {l : List Rule} {out : List Nat} (h : Ord l out) (hlt : out.length < l.length) : ∃ p,bestTo (fun i => out.contains i) (fun i => l.getD i r0) l.length = some p ∧ p < l.length ∧ p ∉ out ∧ Ord l (out ++ [p]) := by
 have sp := q112 (fun i => out.contains i) (fun i => l.getD i r0) l.length
 cases hb : bestTo (fun i => out.contains i) (fun i => l.getD i r0) l.length with
 |none =>
  rw [hb] at sp
  have : rem l.length out = [] := by
   rw [List.eq_nil_iff_forall_not_mem]
   intro i hi
   obtain ⟨h1,h2⟩ := z72.1 hi
   have := sp i h1
   simp at this
   exact h2 this
  have := h.len
  rw [‹rem l.length out = []›] at this
  simp at this
  omega
 |some p =>
  rw [hb] at sp
  obtain ⟨h1,h2,h3⟩ := sp
  have hno : p ∉ out := by simpa using h2
  have hp : p ∈ rem l.length out := z72.2 ⟨h1,hno⟩
  refine ⟨p,rfl,h1,hno,⟨fun i hi => ?_,?_,?_⟩⟩
  ·rcases List.mem_append.1 hi with hi | hi
   ·exact h.lt i hi
   ·simp at hi;subst hi;exact h1
  ·rw [z112,List.length_append]
   have := x112 (n := l.length) (j112 l.length out) hp
   have := h.len
   simp;omega
  ·rw [z112,← h.eq,List.map_append,List.append_assoc]
   congr 1
   unfold sortR
   rw [j172 (key := keyR) (fun i => l.getD i r0) (j112 l.length out) hp fun q hq => ?_]
   ·rfl
   ·obtain ⟨q1,q2⟩ := z72.1 hq
    have := h3 q q1 (by simpa using q2)
    unfold keyR
    exact ⟨by have := this.1;omega,fun hlt => by have := this.2 hlt;omega⟩
theorem Ord.done {l : List Rule} {out : List Nat} (h : Ord l out) (hl : ¬ out.length < l.length) : out.length = l.length ∧ out.map (fun i => l.getD i r0) = sortR l := by
 have := h.len
 have e : rem l.length out = [] := List.eq_nil_of_length_eq_zero (by omega)
 refine ⟨by omega,?_⟩
 have := h.eq
 rw [e] at this
 simpa [sortR,isort] using this
def rowI (l : List Nat) : Nat → List Dat := fun i => [.v (.int .i64 ((l.getD i 0 : Nat) : Int))]
def ordTo (l : List Rule) : Nat → List Nat
 | 0 => []
 |k + 1 => match bestTo (fun i => (ordTo l k).contains i) (fun i => l.getD i r0) l.length with
  | some p => ordTo l k ++ [p]
  | none => ordTo l k
def orderR (l : List Rule) : List Nat := ordTo l l.length
section
variable {α : Type}
def swp (x : Nat → α) (i j : Nat) : Nat → α := fun k => if k = j then x i else if k = i then x j else x k
theorem q173 (x : Nat → α) (i : Nat) : swp x i i = x := by
 funext k;unfold swp
 by_cases h : k = i
 ·rw [if_pos h,h]
 ·rw [if_neg h,if_neg h]
theorem z173 (x : Nat → α) (i j : Nat) : swp x i j = swp x j i := by
 funext k;unfold swp
 by_cases h : k = j
 ·by_cases h2 : k = i
  ·rw [if_pos h,if_pos h2];congr 1;omega
  ·rw [if_pos h,if_neg h2,if_pos h]
 ·by_cases h2 : k = i
  ·rw [if_neg h,if_pos h2,if_pos h2]
  ·rw [if_neg h,if_neg h2,if_neg h2,if_neg h]
theorem z41 (x : Nat → α) (i j : Nat) : swp x i j i = x j := by
 unfold swp
 by_cases h : i = j
 ·rw [if_pos h,h]
 ·rw [if_neg h,if_pos rfl]
theorem x41 (x : Nat → α) (i j : Nat) : swp x i j j = x i := by unfold swp;rw [if_pos rfl]
theorem q21 (x : Nat → α) {i j k : Nat} (h1 : k ≠ i) (h2 : k ≠ j) : swp x i j k = x k := by unfold swp;rw [if_neg h2,if_neg h1]
theorem q57 (x : Nat → α) (a : Nat) : seg x a (a + 1) = [x a] := by
 unfold seg;rw [show a + 1 - a = 1 from by omega];rfl
structure PE (a b : Nat) (x y : Nat → α) : Prop where
 out : ∀ k,¬ (a ≤ k ∧ k < b) → y k = x k
 perm : (seg y a b).Perm (seg x a b)
theorem PE.refl (a b : Nat) (x : Nat → α) : PE a b x x := ⟨fun _ _ => rfl,List.Perm.refl _⟩
theorem PE.trans {a b : Nat} {x y z : Nat → α} (h : PE a b x y) (k : PE a b y z) : PE a b x z :=
 ⟨fun i hi => (k.out i hi).trans (h.out i hi),k.perm.trans h.perm⟩
theorem PE.widen {a b a' b' : Nat} {x y : Nat → α} (h : PE a b x y) (h1 : a' ≤ a) (hab : a ≤ b) (h2 : b ≤ b') : PE a' b' x y := by
 refine ⟨fun k hk => h.out k (by omega),?_⟩
 rw [z20 y (show a' ≤ b by omega) h2,z20 y h1 hab,z20 x (show a' ≤ b by omega) h2,z20 x h1 hab]
 rw [z29 (x := y) (y := x) (a := a') (b := a) (fun k _ hk => h.out k (by omega)),z29 (x := y) (y := x) (a := b) (b := b') (fun k hk _ => h.out k (by omega))]
 exact (h.perm.append_left _).append_right _
theorem PE.mem {a b : Nat} {x y : Nat → α} (h : PE a b x y) {k : Nat} (h1 : a ≤ k) (h2 : k < b) : ∃ k',a ≤ k' ∧ k' < b ∧ y k = x k' := by
 have : y k ∈ seg y a b := j32.2 ⟨k,h1,h2,rfl⟩
 obtain ⟨k',a1,a2,a3⟩ := j32.1 (h.perm.mem_iff.1 this)
 exact ⟨k',a1,a2,a3.symm⟩
theorem PE.swp_lt {x : Nat → α} {a b i j : Nat} (h1 : a ≤ i) (h2 : i < j) (h3 : j < b) : PE a b x (swp x i j) := by
 refine ⟨fun k hk => q21 x (by omega) (by omega),?_⟩
 have e : ∀ y : Nat → α,seg y a b = seg y a i ++ (seg y i (i + 1) ++ (seg y (i + 1) j ++ (seg y j (j + 1) ++ seg y (j + 1) b))) := by
  intro y
  rw [z20 y h1 (show i ≤ b by omega),z20 y (show i ≤ i + 1 by omega) (show i + 1 ≤ b by omega),z20 y (show i + 1 ≤ j by omega) (show j ≤ b by omega),z20 y (show j ≤ j + 1 by omega) (show j + 1 ≤ b by omega)]
 rw [e,e,q57,q57,q57,q57,z41,x41]
 rw [z29 (x := swp x i j) (y := x) (a := a) (b := i) (fun k _ _ => q21 x (by omega) (by omega)),
  z29 (x := swp x i j) (y := x) (a := i + 1) (b := j) (fun k _ _ => q21 x (by omega) (by omega)),
  z29 (x := swp x i j) (y := x) (a := j + 1) (b := b) (fun k _ _ => q21 x (by omega) (by omega))]
 refine List.Perm.append_left _ ?_
 simp only [List.singleton_append]
 refine (List.Perm.cons _ List.perm_middle).trans ?_
 exact (List.Perm.swap _ _ _).trans (List.Perm.cons _ List.perm_middle.symm)
theorem PE.swp {x : Nat → α} {a b i j : Nat} (h1 : a ≤ i) (h2 : i < b) (h3 : a ≤ j) (h4 : j < b) : PE a b x (swp x i j) := by
 by_cases h : i = j
 ·subst h;rw [q173];exact PE.refl _ _ _
 ·by_cases h' : i < j
  ·exact PE.swp_lt h1 h' h4
  ·rw [z173];exact PE.swp_lt h3 (by omega) h2
structure Dom (n N : Nat) (x : Nat → Nat) : Prop where
 lt : ∀ k,k < n → x k < N
 nd : (seg x 0 n).Nodup
theorem Dom.pe {n N a b : Nat} {x y : Nat → Nat} (h : Dom n N x) (p : PE a b x y) (hab : a ≤ b) (hb : b ≤ n) : Dom n N y := by
 have p' := p.widen (Nat.zero_le a) hab hb
 refine ⟨fun k hk => ?_,p'.perm.nodup_iff.2 h.nd⟩
 obtain ⟨k',_,h2,h3⟩ := p'.mem (Nat.zero_le k) hk
 rw [h3];exact h.lt k' h2
theorem Dom.inj {n N : Nat} {x : Nat → Nat} (h : Dom n N x) {i j : Nat} (hi : i < n) (hj : j < n) (e : x i = x j) : i = j := by
 have hn := h.nd
 unfold seg at hn
 rw [List.Nodup,List.pairwise_map,List.pairwise_iff_getElem] at hn
 apply Classical.byContradiction
 intro hne
 rcases Nat.lt_or_gt_of_ne hne with hlt | hlt
 ·have := hn i j (by simpa using hi) (by simpa using hj) hlt
  simp at this;exact this e
 ·have := hn j i (by simpa using hj) (by simpa using hi) hlt
  simp at this;exact this e.symm
end
end Go.Proofs.Ytbamjcnhmmgnlaa
namespace Go.Proofs.Ytbamjcnhmmgnlaa
open Go.Proofs.Ytbamjcnhmmgnlaa.AL
section
variable {key : Nat → Int}
def Hp (key : Nat → Int) (f : Nat) (x : Nat → Nat) (lo hi : Nat) : Prop := ∀ p c,lo ≤ p → (c = 2 * p + 1 ∨ c = 2 * p + 2) → c < hi → key (x (f + c)) ≤ key (x (f + p))
structure HpX (key : Nat → Int) (f : Nat) (x : Nat → Nat) (lo hi r : Nat) : Prop where
 oth : ∀ p c,lo ≤ p → p ≠ r → (c = 2 * p + 1 ∨ c = 2 * p + 2) → c < hi → key (x (f + c)) ≤ key (x (f + p))
 up : ∀ p c,lo ≤ p → (r = 2 * p + 1 ∨ r = 2 * p + 2) → (c = 2 * r + 1 ∨ c = 2 * r + 2) → c < hi → key (x (f + c)) ≤ key (x (f + p))
theorem HpX.start {f lo hi : Nat} {x : Nat → Nat} (h : Hp key f x (lo + 1) hi) : HpX key f x lo hi lo :=
 ⟨fun p c h1 h2 h3 h4 => h p c (by omega) h3 h4,fun p c h1 h2 _ _ => by omega⟩
theorem HpX.done {f lo hi r : Nat} {x : Nat → Nat} (h : HpX key f x lo hi r) (hr : ∀ c,(c = 2 * r + 1 ∨ c = 2 * r + 2) → c < hi → key (x (f + c)) ≤ key (x (f + r))) : Hp key f x lo hi := by
 intro p c h1 h2 h3
 by_cases e : p = r
 ·subst e;exact hr c h2 h3
 ·exact h.oth p c h1 e h2 h3
theorem HpX.step {f lo hi r c : Nat} {x : Nat → Nat} (h : HpX key f x lo hi r) (hlo : lo ≤ r) (hc : c = 2 * r + 1 ∨ c = 2 * r + 2) (hch : c < hi) (hlt : key (x (f + r)) ≤ key (x (f + c)))
  (hmax : ∀ d,(d = 2 * r + 1 ∨ d = 2 * r + 2) → d < hi → key (x (f + d)) ≤ key (x (f + c))) : HpX key f (swp x (f + r) (f + c)) lo hi c := by
 have sr : swp x (f + r) (f + c) (f + r) = x (f + c) := z41 _ _ _
 have sc : swp x (f + r) (f + c) (f + c) = x (f + r) := x41 _ _ _
 have so : ∀ k,k ≠ r → k ≠ c → swp x (f + r) (f + c) (f + k) = x (f + k) := fun k h1 h2 => q21 _ (by omega) (by omega)
 refine ⟨fun p d h1 h2 h3 h4 => ?_,fun p d h1 h2 h3 h4 => ?_⟩
 ·by_cases e : p = r
  ·subst e
   rw [sr]
   by_cases e2 : d = c
   ·subst e2;rw [sc];exact hlt
   ·rw [so d (by omega) e2];exact hmax d h3 h4
  ·rw [so p e h2]
   by_cases e2 : d = r
   ·subst e2;rw [sr];exact h.up p c h1 h3 hc hch
   ·by_cases e3 : d = c
    ·omega
    ·rw [so d e2 e3];exact h.oth p d h1 e h3 h4
 ·have e : p = r := by omega
  subst e
  rw [sr,so d (by omega) (by omega)]
  exact h.oth c d (by omega) (by omega) h3 h4
theorem Hp.root {f hi : Nat} {x : Nat → Nat} (h : Hp key f x 0 hi) : ∀ c,c < hi → key (x (f + c)) ≤ key (x (f + 0)) := by
 intro c
 induction c using Nat.strongRecOn with
 |_ c ih =>
  intro hc
  by_cases h0 : c = 0
  ·subst h0;exact Int.le_refl _
  ·have := ih ((c - 1) / 2) (by omega) (by omega)
   have h2 := h ((c - 1) / 2) c (by omega) (by omega) hc
   omega
theorem Hp.mono {f lo hi lo' hi' : Nat} {x y : Nat → Nat} (h : Hp key f x lo hi) (h1 : lo ≤ lo') (h2 : hi' ≤ hi) (hy : ∀ k,lo' ≤ k → k < hi' → y (f + k) = x (f + k)) : Hp key f y lo' hi' := by
 intro p c h3 h4 h5
 rw [hy p h3 (by omega),hy c (by omega) h5]
 exact h p c (by omega) h4 (by omega)
theorem Hp.none {f hi m : Nat} {x : Nat → Nat} (h : hi ≤ 2 * m + 1) : Hp key f x m hi := by
 intro p c h1 h2 h3;omega
structure HS (key : Nat → Int) (f b i : Nat) (y : Nat → Nat) : Prop where
 hp : Hp key f y 0 i
 srt : Srt key (f + i) b y
 up : ∀ p q,p < i → f + i ≤ q → q < b → key (y (f + p)) ≤ key (y q)
theorem HS.out {f b i : Nat} {y : Nat → Nat} (h : HS key f b (i + 1) y) (hb : f + i < b) : Hp key f (swp y f (f + i)) 1 i ∧ Srt key (f + i) b (swp y f (f + i)) ∧ ∀ p q,p < i → f + i ≤ q → q < b → key (swp y f (f + i) (f + p)) ≤ key (swp y f (f + i) q) := by
 have sr : swp y f (f + i) (f + i) = y f := x41 _ _ _
 have s0 : swp y f (f + i) f = y (f + i) := z41 _ _ _
 have so : ∀ k,k ≠ f → k ≠ f + i → swp y f (f + i) k = y k := fun k h1 h2 => q21 _ h1 h2
 have rt := h.hp.root
 refine ⟨h.hp.mono (by omega) (by omega) fun k h1 h2 => so _ (by omega) (by omega),fun p q h1 h2 h3 => ?_,fun p q h1 h2 h3 => ?_⟩
 ·rw [so q (by omega) (by omega)]
  by_cases e : p = f + i
  ·subst e;rw [sr];exact h.up 0 q (by omega) (by omega) h3
  ·rw [so p (by omega) e];exact h.srt p q (by omega) h2 h3
 ·by_cases e : q = f + i
  ·subst e;rw [sr]
   by_cases e2 : p = 0
   ·subst e2;rw [Nat.add_zero,s0];exact rt i (by omega)
   ·rw [so _ (by omega) (by omega)];exact rt p (by omega)
  ·rw [so q (by omega) e]
   by_cases e2 : p = 0
   ·subst e2;rw [Nat.add_zero,s0];exact h.up i q (by omega) (by omega) h3
   ·rw [so _ (by omega) (by omega)];exact h.up p q (by omega) (by omega) h3
theorem HS.next {f b i : Nat} {y z : Nat → Nat} (hs : Srt key (f + i) b y) (hu : ∀ p q,p < i → f + i ≤ q → q < b → key (y (f + p)) ≤ key (y q)) (hp : PE f (f + i) y z) (hh : Hp key f z 0 i) : HS key f b i z := by
 have zo : ∀ q,f + i ≤ q → z q = y q := fun q h => hp.out q (by omega)
 refine ⟨hh,fun p q h1 h2 h3 => ?_,fun p q h1 h2 h3 => ?_⟩
 ·rw [zo p h1,zo q (by omega)];exact hs p q h1 h2 h3
 ·obtain ⟨k,k1,k2,k3⟩ := hp.mem (show f ≤ f + p by omega) (by omega)
  rw [k3,zo q h2]
  have := hu (k - f) q (by omega) h2 h3
  rwa [show f + (k - f) = k by omega] at this
theorem HS.end {f b : Nat} {y : Nat → Nat} (h : HS key f b 0 y) : Srt key f b y := h.srt
structure Prt (key : Nat → Int) (a m b : Nat) (y : Nat → Nat) : Prop where
 lo : ∀ k,a ≤ k → k < m → key (y k) ≤ key (y m)
 hi : ∀ k,m < k → k < b → key (y m) ≤ key (y k)
theorem Prt.srt {a m b : Nat} {y : Nat → Nat} (h : Prt key a m b y) (h1 : Srt key a m y) (h2 : Srt key (m + 1) b y) (ha : a ≤ m) : Srt key a b y := by
 intro p q h3 h4 h5
 by_cases e1 : q < m
 ·exact h1 p q h3 h4 e1
 ·by_cases e2 : q = m
  ·subst e2;exact h.lo p h3 h4
  ·by_cases e3 : p < m
   ·exact Int.le_trans (h.lo p h3 e3) (h.hi q (by omega) h5)
   ·by_cases e4 : p = m
    ·subst e4;exact h.hi q (by omega) h5
    ·exact h2 p q (by omega) h4 h5
theorem Prt.pe {a m b c d : Nat} {y z : Nat → Nat} (h : Prt key a m b y) (hp : PE c d y z) (hcd : (a ≤ c ∧ c ≤ d ∧ d ≤ m) ∨ (m < c ∧ c ≤ d ∧ d ≤ b)) : Prt key a m b z := by
 have zm : z m = y m := hp.out m (by omega)
 refine ⟨fun k h1 h2 => ?_,fun k h1 h2 => ?_⟩
 ·rw [zm]
  by_cases e : c ≤ k ∧ k < d
  ·obtain ⟨k',k1,k2,k3⟩ := hp.mem e.1 e.2
   rw [k3];exact h.lo k' (by omega) (by omega)
  ·rw [hp.out k e];exact h.lo k h1 h2
 ·rw [zm]
  by_cases e : c ≤ k ∧ k < d
  ·obtain ⟨k',k1,k2,k3⟩ := hp.mem e.1 e.2
   rw [k3];exact h.hi k' (by omega) (by omega)
  ·rw [hp.out k e];exact h.hi k h1 h2
def Blw (key : Nat → Int) (a b : Nat) (y : Nat → Nat) : Prop := ∀ k,0 < a → a ≤ k → k < b → key (y (a - 1)) ≤ key (y k)
theorem Blw.pe {a b : Nat} {y z : Nat → Nat} (h : Blw key a b y) (hp : PE a b y z) : Blw key a b z := by
 intro k h0 h1 h2
 rw [hp.out (a - 1) (by omega)]
 obtain ⟨k',k1,k2,k3⟩ := hp.mem h1 h2
 rw [k3];exact h k' h0 k1 k2
end
end Go.Proofs.Ytbamjcnhmmgnlaa
namespace Go.Proofs.Ytbamjcnhmmgnlaa
open Go.Proofs.Ytbamjcnhmmgnlaa.AL
end Go.Proofs.Ytbamjcnhmmgnlaa
namespace Go.Proofs.Ytbamjcnhmmgnlaa
open Go.Shelf Go.Proofs Go.Proofs.Ytbamjcnhmmgnlaa.AL
end Go.Proofs.Ytbamjcnhmmgnlaa
namespace Go.Proofs.Ytbamjcnhmmgnlaa
open Go.Proofs.Ytbamjcnhmmgnlaa.AL
structure PI (key : Nat → Int) (a b : Nat) (x y : Nat → Nat) (i q : Nat) : Prop where
 h1 : a + 1 ≤ i
 h2 : i ≤ q
 h3 : q ≤ b
 pe : PE a b x y
 lo : ∀ k,a + 1 ≤ k → k < i → key (y k) < key (y a)
 hi : ∀ k,q ≤ k → k < b → key (y a) ≤ key (y k)
theorem PI.start {key : Nat → Int} {a b p : Nat} {x : Nat → Nat} (h : a < b) (h1 : a ≤ p) (h2 : p < b) : PI key a b x (swp x a p) (a + 1) b :=
 ⟨Nat.le_refl _,h,Nat.le_refl _,PE.swp (Nat.le_refl _) h h1 h2,fun k k1 k2 => by omega,fun k k1 k2 => by omega⟩
theorem PI.up {key : Nat → Int} {a b i q : Nat} {x y : Nat → Nat} (h : PI key a b x y i q) (hl : i < q) (hk : key (y i) < key (y a)) : PI key a b x y (i + 1) q :=
 ⟨by have := h.h1;omega,hl,h.h3,h.pe,fun k k1 k2 => by
  by_cases e : k = i
  ·subst e;exact hk
  ·exact h.lo k k1 (by omega),h.hi⟩
theorem PI.swap {key : Nat → Int} {a b i q : Nat} {x y : Nat → Nat} (h : PI key a b x y i (q + 1)) (hl : i ≤ q) (hi : ¬ key (y i) < key (y a)) (hq : key (y q) < key (y a)) : i + 1 ≤ q ∧ PI key a b x (swp y i q) (i + 1) q := by
 have hne : i ≠ q := fun e => by subst e;exact hi hq
 have g1 := h.h1;have g3 := h.h3
 have ea : swp y i q a = y a := q21 _ (by omega) (by omega)
 refine ⟨by omega,by omega,by omega,by omega,h.pe.trans (PE.swp (by omega) (by omega) (by omega) (by omega)),fun k k1 k2 => ?_,fun k k1 k2 => ?_⟩
 ·rw [ea]
  by_cases e : k = i
  ·subst e;rw [z41];exact hq
  ·rw [q21 _ e (by omega)];exact h.lo k k1 (by omega)
 ·rw [ea]
  by_cases e : k = q
  ·subst e;rw [x41];omega
  ·rw [q21 _ (by omega) e];exact h.hi k (by omega) k2
theorem PI.done {key : Nat → Int} {a b q : Nat} {x y : Nat → Nat} (h : PI key a b x y (q + 1) (q + 1)) : a ≤ q ∧ q < b ∧ PE a b x (swp y q a) ∧ Prt key a q b (swp y q a) := by
 have g1 := h.h1;have g3 := h.h3
 have em : swp y q a q = y a := z41 _ _ _
 refine ⟨by omega,by omega,h.pe.trans (PE.swp (by omega) (by omega) (by omega) (by omega)),⟨fun k k1 k2 => ?_,fun k k1 k2 => ?_⟩⟩
 ·rw [em]
  by_cases e : k = a
  ·subst e;rw [x41];exact Int.le_of_lt (h.lo q (by omega) (by omega))
  ·rw [q21 _ (by omega) e];exact Int.le_of_lt (h.lo k (by omega) (by omega))
 ·rw [em,q21 _ (by omega) (by omega)]
  exact h.hi k (by omega) k2
structure PA (key : Nat → Int) (a b : Nat) (x : Nat → Nat) (i : Nat) (y : Nat → Nat) : Prop where
 h1 : a + 1 ≤ i
 h2 : i ≤ b
 pe : PE a b x y
 st : Srt key a i y
theorem PA.up {key : Nat → Int} {a b i : Nat} {x y : Nat → Nat} (h : PA key a b x i y) (hl : i < b) (hk : ¬ key (y i) < key (y (i - 1))) : PA key a b x (i + 1) y := by
 refine ⟨by have := h.h1;omega,hl,h.pe,fun p q h1 h2 h3 => ?_⟩
 have := h.h1
 by_cases e : q = i
 ·subst e
  by_cases e2 : p = q - 1
  ·subst e2;omega
  ·have := h.st p (q - 1) h1 (by omega) (by omega);omega
 ·exact h.st p q h1 h2 (by omega)
theorem PA.swap {key : Nat → Int} {a b i : Nat} {x y : Nat → Nat} (h : PA key a b x i y) (hl : i < b) : PE a b x (swp y i (i - 1)) ∧ Srt key a (i - 1) (swp y i (i - 1)) := by
 have := h.h1
 refine ⟨h.pe.trans (PE.swp (by omega) (by omega) (by omega) (by omega)),fun p q h1 h2 h3 => ?_⟩
 rw [q21 _ (by omega) (by omega),q21 _ (by omega) (by omega)]
 exact h.st p q h1 h2 (by omega)
structure PD (key : Nat → Int) (n N a b : Nat) (x : Nat → Nat) (a' b' : Nat) (y : Nat → Nat) : Prop where
 h1 : a ≤ a'
 h2 : a' ≤ b'
 h3 : b' ≤ b
 pe : PE a b x y
 bl : Blw key a' b' y
 fin : ∀ z,PE a' b' y z → Srt key a' b' z → Srt key a b z
theorem PD.left {key : Nat → Int} {n N a b a' b' m : Nat} {x y z : Nat → Nat} (h : PD key n N a b x a' b' y) (hm : a' ≤ m) (hm2 : m < b') (hp : Prt key a' m b' y) (h1 : PE a' m y z) (h2 : Srt key a' m z) : PD key n N a b x (m + 1) b' z := by
 have hpz := hp.pe h1 (.inl ⟨Nat.le_refl _,hm,Nat.le_refl _⟩)
 have g1 := h.h1;have g3 := h.h3
 refine ⟨by omega,by omega,g3,h.pe.trans (h1.widen g1 hm (by omega)),fun k k0 k1 k2 => by rw [Nat.add_sub_cancel];exact hpz.hi k (by omega) k2,fun u u1 u2 => ?_⟩
 refine h.fin u ((h1.widen (Nat.le_refl _) hm (by omega)).trans (u1.widen (by omega) (by omega) (Nat.le_refl _))) ?_
 refine (hpz.pe u1 (.inr ⟨by omega,by omega,Nat.le_refl _⟩)).srt (fun p q q1 q2 q3 => ?_) u2 hm
 rw [u1.out p (by omega),u1.out q (by omega)]
 exact h2 p q q1 q2 q3
theorem PD.right {key : Nat → Int} {n N a b a' b' m : Nat} {x y z : Nat → Nat} (h : PD key n N a b x a' b' y) (hm : a' ≤ m) (hm2 : m < b') (hp : Prt key a' m b' y) (h1 : PE (m + 1) b' y z) (h2 : Srt key (m + 1) b' z) : PD key n N a b x a' m z := by
 have hpz := hp.pe h1 (.inr ⟨by omega,by omega,Nat.le_refl _⟩)
 have g1 := h.h1;have g3 := h.h3
 refine ⟨g1,hm,by omega,h.pe.trans (h1.widen (by omega) (by omega) g3),fun k k0 k1 k2 => ?_,fun u u1 u2 => ?_⟩
 ·rw [h1.out (a' - 1) (by omega),h1.out k (by omega)]
  exact h.bl k k0 k1 (by omega)
 ·refine h.fin u ((h1.widen (by omega) (by omega) (Nat.le_refl _)).trans (u1.widen (Nat.le_refl _) hm (by omega))) ?_
  refine (hpz.pe u1 (.inl ⟨Nat.le_refl _,hm,Nat.le_refl _⟩)).srt u2 (fun p q q1 q2 q3 => ?_) hm
  rw [u1.out p (by omega),u1.out q (by omega)]
  exact h2 p q q1 q2 q3
end Go.Proofs.Ytbamjcnhmmgnlaa
namespace Go.Proofs.Ytbamjcnhmmgnlaa.AL
open Go
end Go.Proofs.Ytbamjcnhmmgnlaa.AL
namespace Go.Proofs.Ytbamjcnhmmgnlaa
open Go.Proofs.Ytbamjcnhmmgnlaa.AL
def findO (l : List Rule) (h : BitVec 128) : List Nat → Option Nat
 | [] => none
 | n :: r => if hasC (l.getD n r0).mt h then some n else findO l h r
def findI (l : List Rule) (h : BitVec 128) (R : Option Nat) (s : {i : Nat // i ≤ l.length ∧ findO l h ((orderR l).drop i) = R}) : ASt :=
 ⟨[(11,.p (.d (.v (.int .i64 (s.val : Int))))),(10,.p (.d (.v (.int .i64 (l.length : Int))))),(9,.p (.d (.sl 1 l.length (rowI (orderR l))))),(3,.p (.d (.bx (hd h)))),(0,.p (.d (.sl 12 l.length (rowR l))))],[]⟩
end Go.Proofs.Ytbamjcnhmmgnlaa
namespace Go.Proofs.Ytbamjcnhmmgnlaa
open Go.Proofs.Ytbamjcnhmmgnlaa.AL Go.RowKit
end Go.Proofs.Ytbamjcnhmmgnlaa
namespace Go.Proofs.Ytbamjcnhmmgnlaa
open Go.Proofs.Ytbamjcnhmmgnlaa.AL
def other (r b : Cube) (n : Nat) : Cube := ⟨(r.v ||| (b.v &&& (ones 1 <<< n))) ^^^ (ones 1 <<< n),r.c ||| (ones 1 <<< n)⟩
def rsI (l : List Rule) (n : Nat) (i : {i : Nat // i ≤ (orderR l).idxOf n}) : ASt :=
 ⟨[(7,.p (.d (.v (.int .i64 (i.val : Int))))),(6,.p (.d (.sl 1 l.length (rowI (orderR l))))),(1,.p (.d (.v (.int .i64 (n : Int))))),(0,.p (.d (.sl 12 l.length (rowR l))))],[]⟩
def stepE (x : Rule) : Int := if x.kd = 4 then 0 else if x.kd = 3 then 0 else if x.kd = 2 then 2 else 1
theorem q113 {f : Nat → Bool} {n i : Nat} (h : allF f n 0 = true) (hi : i < n) : f i = true := (z52.1 h) i (Nat.zero_le _) hi
theorem x173 {c : Config} (h : soundC c = 0) : soundT c.tp = 0 ∧ c.tb.length = c.tp.length ∧ ∀ n,n < c.tb.length → soundTab (c.tb.getD n []) (c.tp.getD n []) = 0 := by
 unfold soundC at h
 split at h
 ·rename_i h1;exact absurd h h1
 ·rename_i h1
  split at h
  ·rename_i h2;exact absurd h h2
  ·split at h
   ·cases h
   ·rename_i h3
    refine ⟨by omega,by omega,fun n hn => ?_⟩
    have go : ∀ (f : Nat → Int) (m i : Nat),errF f m i = 0 → ∀ n,i ≤ n → n < i + m → f n = 0 := by
     intro f m
     induction m with
     | zero => intro i _ n h1 h2;omega
     |succ m ih =>
      intro i he n h1 h2
      unfold errF at he
      split at he
      ·rename_i h0
       by_cases e : n = i
       ·subst e;first | exact h0 | omega
       ·exact ih (i + 1) he n (by omega) (by omega)
      ·rename_i h0
       first | exact absurd he h0 | omega
    exact go (tabE c) c.tb.length 0 h n (Nat.zero_le _) (by omega)
theorem j173 {ts : List (List Rule)} {ps : List Port} (h : soundTab ts ps = 0) : 0 < ts.length ∧ ts.length ≤ 3 ∧ ∀ i k,i < ts.length → k < (ts.getD i []).length → soundR ((ts.getD i []).getD k r0) i ps = true ∧ ((ts.getD i []).getD k r0).tb < ts.length := by
 unfold soundTab at h
 split at h
 ·cases h
 ·rename_i h1
  split at h
  ·cases h
  ·split at h
   ·rename_i h2
    refine ⟨by omega,by omega,fun i k hi hk => ?_⟩
    have := q113 h2 hi
    unfold tabOk at this
    have := q113 this hk
    unfold ruleOk at this
    rw [Bool.and_eq_true,decide_eq_true_iff] at this
    exact this
   ·cases h
theorem z113 (x y : BitVec 128) : (mkC x y).sound = true := by
 refine (x50 _).2 fun i hi hv => ?_
 simp only [mkC,BitVec.getLsbD_and,Bool.and_eq_true] at hv ⊢
 exact hv.2
theorem q174 (c s : Cube) : (beforeV c s).sound = true := by
 unfold beforeV
 split
 ·exact z113 _ _
 ·decide
end Go.Proofs.Ytbamjcnhmmgnlaa
namespace Go.Proofs.Ytbamjcnhmmgnlaa
open Go Go.Proofs.Ytbamjcnhmmgnlaa.AL
theorem x72 {L : List Cube} {k x : Cube} : x ∈ addC L k ↔ x ∈ L ∨ x = k := by
 unfold addC
 split
 ·rename_i h
  have h : k ∈ L := by simpa using h
  exact ⟨.inl,fun e => e.elim id fun e => e ▸ h⟩
 ·simp
theorem z57 {α : Type} (f : List Cube → α → List Cube) (p : Cube → Prop) : ∀ (l : List α),(∀ a ∈ l,∀ L,(∀ x ∈ L,p x) → ∀ x ∈ f L a,p x) → ∀ (L : List Cube),(∀ x ∈ L,p x) → ∀ x ∈ l.foldl f L,p x
 | [],_,L,h => h
 | a :: l,hf,L,h => z57 f p l (fun b hb => hf b (by simp [hb])) _ (hf a (by simp) L h)
theorem x113 {c : Config} (h : soundC c = 0) {r : Rule} (hr : r ∈ rulesA c.tb) : r.mt.sound = true ∧ r.st.sound = true := by
 obtain ⟨_,hl,hp⟩ := x173 h
 unfold rulesA at hr
 obtain ⟨t',ht',hr⟩ := List.mem_flatten.1 hr
 obtain ⟨t,ht,rfl⟩ := List.mem_map.1 ht'
 obtain ⟨l,hl',hr⟩ := List.mem_flatten.1 hr
 obtain ⟨n,hn,rfl⟩ := List.getElem_of_mem ht
 obtain ⟨i,hi',rfl⟩ := List.getElem_of_mem hl'
 obtain ⟨k,hk,rfl⟩ := List.getElem_of_mem hr
 have h1 := hp n hn
 have e1 : c.tb.getD n [] = c.tb[n] := by rw [List.getD_eq_getElem?_getD,List.getElem?_eq_getElem hn];rfl
 rw [e1] at h1
 have e2 : c.tb[n].getD i [] = c.tb[n][i] := by rw [List.getD_eq_getElem?_getD,List.getElem?_eq_getElem hi'];rfl
 have e3 : c.tb[n][i].getD k r0 = c.tb[n][i][k] := by rw [List.getD_eq_getElem?_getD,List.getElem?_eq_getElem hk];rfl
 have h2 := (j173 h1).2.2 i k hi' (by rw [e2];exact hk)
 rw [e2,e3] at h2
 unfold soundR at h2
 simp only [Bool.and_eq_true] at h2
 first | exact ⟨h2.1.1.2,h2.1.2⟩ | exact ⟨h2.1.1.1.2,h2.1.1.2⟩
theorem mkC_ok (x y : BitVec 128) : (mkC x y).sound = true := z113 x y
theorem z174 {c : Config} {v : Int} (h : predE c v = 0) : ∀ s ∈ setsL c v,s.sound = true := by
 have h0 := (x56 h).1
 unfold setsL
 rw [z56]
 refine z57 setF (fun s => s.sound = true) _ (fun r hr L hL x hx => ?_) _ ?_
 ·unfold setF at hx
  split at hx
  ·exact hL x hx
  ·rcases x72.1 hx with hx | rfl
   ·exact hL x hx
   ·exact (x113 h0 hr).2
 ·unfold setsE
  refine z57 _ (fun s => s.sound = true) _ (fun s hs L hL x hx => ?_) _ (by simp)
  unfold stampF at hx
  rcases x72.1 hx with hx | rfl
  ·exact hL x hx
  ·obtain ⟨tn,_,_,_,e⟩ := z110 h hs
   rw [e];exact mkC_ok _ _
end Go.Proofs.Ytbamjcnhmmgnlaa
namespace Go.Proofs.Ytbamjcnhmmgnlaa
def msk (m : Nat) : Nat → Nat
 | 0 => 0
 | n + 1 => m + 256 * msk m n
theorem msk_s (m n : Nat) : msk m (n + 1) = m + 256 * msk m n := rfl
theorem j41 {a b c d : Nat} (ha : a < 256) (hc : c < 256) : (a + 256 * b) &&& (c + 256 * d) = (a &&& c) + 256 * (b &&& d) := by
 have h1 : ((a + 256 * b) &&& (c + 256 * d)) % 2 ^ 8 = a &&& c := by
  rw [Nat.and_mod_two_pow]
  congr 1 <;> omega
 have h2 : ((a + 256 * b) &&& (c + 256 * d)) / 2 ^ 8 = b &&& d := by
  rw [Nat.and_div_two_pow]
  congr 1 <;> omega
 omega
def sA (n x : Nat) : Nat := ((x / 2) &&& msk 85 n) + (x &&& msk 85 n)
def sB (n x : Nat) : Nat := ((x / 4) &&& msk 51 n) + (x &&& msk 51 n)
def sC (n x : Nat) : Nat := (x / 16 + x) &&& msk 15 n
def a8 (y : Nat) : Nat := ((y / 2) &&& 85) + (y &&& 85)
def b8 (y : Nat) : Nat := ((y / 4) &&& 51) + (y &&& 51)
def c8 (y : Nat) : Nat := (y / 16 + y) &&& 15
def pop8 (y : Nat) : Nat := (List.range 8).foldl (fun s i => s + (y.testBit i).toNat) 0
theorem sA_cat (n y x : Nat) (hy : y < 256) : sA (n + 1) (y + 256 * x) = a8 y + 256 * sA n x := by
 unfold sA a8
 rw [msk_s]
 have e : (y + 256 * x) / 2 = (y / 2 + 128 * (x % 2)) + 256 * (x / 2) := by omega
 rw [e,j41 (by omega) (by omega),j41 hy (by omega)]
 have k : ∀ (y : Fin 256) (q : Fin 2),(y.val / 2 + 128 * q.val) &&& 85 = (y.val / 2) &&& 85 := by decide +kernel
 have := k ⟨y,hy⟩ ⟨x % 2,by omega⟩
 simp only [] at this
 rw [this];omega
theorem sB_cat (n y x : Nat) (hy : y < 256) : sB (n + 1) (y + 256 * x) = b8 y + 256 * sB n x := by
 unfold sB b8
 rw [msk_s]
 have e : (y + 256 * x) / 4 = (y / 4 + 64 * (x % 4)) + 256 * (x / 4) := by omega
 rw [e,j41 (by omega) (by omega),j41 hy (by omega)]
 have k : ∀ (y : Fin 256) (q : Fin 4),(y.val / 4 + 64 * q.val) &&& 51 = (y.val / 4) &&& 51 := by decide +kernel
 have := k ⟨y,hy⟩ ⟨x % 4,by omega⟩
 simp only [] at this
 rw [this];omega
def catB (ys : List Nat) : Nat := ys.foldr (fun y s => y + 256 * s) 0
theorem z21 (y : Nat) (ys : List Nat) : catB (y :: ys) = y + 256 * catB ys := rfl
theorem j113 : ∀ ys : List Nat,(∀ y ∈ ys,y < 256) → sA ys.length (catB ys) = catB (ys.map a8)
 | [],_ => by simp [sA,msk,catB]
 |y :: ys,h => by
  rw [List.length_cons,z21,sA_cat _ _ _ (h y (by simp)),j113 ys fun z hz => h z (List.mem_cons_of_mem _ hz)]
  rfl
theorem q114 : ∀ ys : List Nat,(∀ y ∈ ys,y < 256) → sB ys.length (catB ys) = catB (ys.map b8)
 | [],_ => by simp [sB,msk,catB]
 |y :: ys,h => by
  rw [List.length_cons,z21,sB_cat _ _ _ (h y (by simp)),q114 ys fun z hz => h z (List.mem_cons_of_mem _ hz)]
  rfl
theorem z114 : ∀ ys : List Nat,(∀ y ∈ ys,y % 16 ≤ 4 ∧ y / 16 ≤ 4) → sC ys.length (catB ys) = catB (ys.map c8)
 | [],_ => by simp [sC,msk,catB]
 |y :: ys,h => by
  have h1 := h y (by simp)
  have ih := z114 ys fun z hz => h z (List.mem_cons_of_mem _ hz)
  have hz : catB ys % 16 ≤ 4 := by
   cases ys with
   | nil => simp [catB]
   |cons z zs =>
    have := h z (by simp)
    rw [z21];omega
  rw [List.length_cons,z21,List.map_cons,z21,← ih]
  generalize catB ys = x at hz
  unfold sC c8
  rw [msk_s]
  have e : (y + 256 * x) / 16 + (y + 256 * x) = (y + y / 16 + 16 * (x % 16)) + 256 * (x / 16 + x) := by omega
  rw [e,j41 (by omega) (by omega)]
  have k : ∀ (a : Nat),a &&& 15 = a % 16 := fun a => Nat.and_two_pow_sub_one_eq_mod a 4
  rw [k,k]
  omega
theorem j72 : ∀ y,y < 256 → a8 y < 256 ∧ (b8 (a8 y) % 16 ≤ 4 ∧ b8 (a8 y) / 16 ≤ 4) ∧ c8 (b8 (a8 y)) = pop8 y := by
 have : ∀ y : Fin 256,a8 y.val < 256 ∧ (b8 (a8 y.val) % 16 ≤ 4 ∧ b8 (a8 y.val) / 16 ≤ 4) ∧ c8 (b8 (a8 y.val)) = pop8 y.val := by decide +kernel
 exact fun y hy => this ⟨y,hy⟩
theorem x174 (ys : List Nat) (h : ∀ y ∈ ys,y < 256) : sC ys.length (sB ys.length (sA ys.length (catB ys))) = catB (ys.map pop8) := by
 rw [j113 ys h]
 have e1 : ys.length = (ys.map a8).length := by simp
 have h1 : ∀ y ∈ ys.map a8,y < 256 := by
  intro y hy
  obtain ⟨z,hz,rfl⟩ := List.mem_map.1 hy
  exact (j72 z (h z hz)).1
 rw [e1,q114 _ h1]
 have e2 : (ys.map a8).length = ((ys.map a8).map b8).length := by simp
 have h2 : ∀ y ∈ (ys.map a8).map b8,y % 16 ≤ 4 ∧ y / 16 ≤ 4 := by
  intro y hy
  rw [List.map_map] at hy
  obtain ⟨z,hz,rfl⟩ := List.mem_map.1 hy
  exact (j72 z (h z hz)).2.1
 rw [e2,z114 _ h2,List.map_map,List.map_map]
 congr 1
 refine List.map_congr_left fun z hz => ?_
 exact (j72 z (h z hz)).2.2
end Go.Proofs.Ytbamjcnhmmgnlaa
namespace Go.Proofs.Ytbamjcnhmmgnlaa
open Go Go.Proofs.Ytbamjcnhmmgnlaa.AL
theorem q42 {a b : Nat} (ha : a < 18446744073709551616) (hb : b < 18446744073709551616) : bits .and .u64 (a : Int) (b : Int) = ((a &&& b : Nat) : Int) := by
 show IntKind.u64.wrap (((BitVec.ofInt 64 (a : Int) &&& BitVec.ofInt 64 (b : Int)).toNat : Nat) : Int) = _
 have h : (BitVec.ofInt 64 (a : Int) &&& BitVec.ofInt 64 (b : Int)).toNat = a &&& b := by
  rw [BitVec.toNat_and,BitVec.ofInt_natCast,BitVec.ofInt_natCast,BitVec.toNat_ofNat,BitVec.toNat_ofNat,Nat.mod_eq_of_lt (by omega),Nat.mod_eq_of_lt (by omega)]
 rw [h]
 have : a &&& b ≤ a := Nat.and_le_left
 exact wu (by omega)
theorem i64_127 {a : Nat} (ha : a < 9223372036854775808) : bits .and .i64 (a : Int) 127 = ((a % 128 : Nat) : Int) := by
 show IntKind.i64.wrap (((BitVec.ofInt 64 (a : Int) &&& BitVec.ofInt 64 127).toNat : Nat) : Int) = _
 have h : (BitVec.ofInt 64 (a : Int) &&& BitVec.ofInt 64 127).toNat = a % 128 := by
  rw [BitVec.toNat_and,BitVec.ofInt_natCast,BitVec.toNat_ofNat,Nat.mod_eq_of_lt (by omega)]
  exact Nat.and_two_pow_sub_one_eq_mod a 7
 rw [h]
 exact wi (by omega)
def byt (x : Nat) : List Nat := [x % 256,x / 256 % 256,x / 65536 % 256,x / 16777216 % 256,x / 4294967296 % 256,x / 1099511627776 % 256,x / 281474976710656 % 256,x / 72057594037927936 % 256]
theorem byt_cat {x : Nat} (hx : x < 18446744073709551616) : catB (byt x) = x := by
 unfold byt catB
 simp only [List.foldr_cons,List.foldr_nil]
 omega
theorem x114 (x : Nat) : ∀ y ∈ byt x,y < 256 := by
 intro y hy
 simp only [byt,List.mem_cons,List.not_mem_nil,or_false] at hy
 rcases hy with rfl | rfl | rfl | rfl | rfl | rfl | rfl | rfl <;> omega
theorem pop8_le : ∀ y,y < 256 → pop8 y ≤ 8 := by
 have : ∀ y : Fin 256,pop8 y.val ≤ 8 := by decide +kernel
 exact fun y hy => this ⟨y,hy⟩
def popN (x : Nat) : Nat := ((byt x).map pop8).sum
theorem sA_lt {x : Nat} (hx : x < 18446744073709551616) : sA 8 x < 18446744073709551616 ∧ sB 8 (sA 8 x) < 18446744073709551616 := by
 have h1 : x / 2 &&& msk 85 8 ≤ msk 85 8 := Nat.and_le_right
 have h2 : x &&& msk 85 8 ≤ msk 85 8 := Nat.and_le_right
 have h3 : sA 8 x / 4 &&& msk 51 8 ≤ msk 51 8 := Nat.and_le_right
 have h4 : sA 8 x &&& msk 51 8 ≤ msk 51 8 := Nat.and_le_right
 have e1 : msk 85 8 = 6148914691236517205 := by decide
 have e2 : msk 51 8 = 3689348814741910323 := by decide
 rw [e1] at h1 h2
 rw [e2] at h3 h4
 constructor
 ·unfold sA;rw [e1];omega
 ·unfold sB;rw [e2];omega
theorem x57 : ∀ xs ys : List Nat,xs.length = ys.length → catB xs + catB ys = catB (List.zipWith (· + ·) xs ys)
 | [],[],_ => rfl
 |x :: xs,y :: ys,h => by
  have ih := x57 xs ys (by simpa using h)
  rw [List.zipWith_cons_cons,z21,z21,z21,← ih];omega
theorem j114 : ∀ xs : List Nat,catB (xs ++ [0]) = catB xs
 | [] => rfl
 | x :: xs => by rw [List.cons_append,z21,z21,j114 xs]
theorem j29 (y : Nat) (ys : List Nat) (h : y < 256) : catB (y :: ys) / 256 = catB (ys ++ [0]) := by
 rw [j114,z21];omega
theorem q115 (m : Nat) : ∀ ys : List Nat,(∀ y ∈ ys,y ≤ m) → 255 * catB ys + m ≤ m * 256 ^ ys.length
 | [],_ => by simp [catB]
 |y :: ys,h => by
  have ih := q115 m ys fun z hz => h z (List.mem_cons_of_mem _ hz)
  have h0 := h y (by simp)
  rw [z21,List.length_cons,Nat.pow_succ,← Nat.mul_assoc]
  generalize m * 256 ^ ys.length = q at ih
  omega
theorem q73 {ys : List Nat} (hl : ys.length = 8) (h : ∀ y ∈ ys,y ≤ 64) : catB ys < 9223372036854775808 := by
 have := q115 64 ys h
 rw [hl] at this
 omega
theorem z73 (a n d : Nat) (hn : min n 64 = n) (hd : 2 ^ n = d) (h : a + a / d < 9223372036854775808) : onesD (a : Int) n = ((a + a / d : Nat) : Int) := by
 unfold onesD
 have : (a : Int) + (a : Int) / 2 ^ min n 64 = ((a + a / d : Nat) : Int) := by rw [hn,← hd];simp
 rw [this]
 generalize a + a / d = v at h
 exact wu (by omega)
theorem z115 {x : Nat} (hx : x < 18446744073709551616) : onesI (x : Int) = (popN x : Int) := by
 obtain ⟨l1,l2⟩ := sA_lt hx
 have hA : onesA (x : Int) = ((sA 8 x : Nat) : Int) := by
  unfold onesA
  have e : (x : Int) / 2 ^ min 1 64 = ((x / 2 : Nat) : Int) := by simp
  rw [e,show (6148914691236517205 : Int) = ((6148914691236517205 : Nat) : Int) from rfl,q42 (by omega) (by omega),q42 hx (by omega)]
  have e1 : msk 85 8 = 6148914691236517205 := by decide
  unfold sA at l1 ⊢
  rw [e1] at l1 ⊢
  rw [wu (by omega)];omega
 have hB : onesB ((sA 8 x : Nat) : Int) = ((sB 8 (sA 8 x) : Nat) : Int) := by
  generalize sA 8 x = a at *
  unfold onesB
  have e : (a : Int) / 2 ^ min 2 64 = ((a / 4 : Nat) : Int) := by simp
  rw [e,show (3689348814741910323 : Int) = ((3689348814741910323 : Nat) : Int) from rfl,q42 (by omega) (by omega),q42 l1 (by omega)]
  have e1 : msk 51 8 = 3689348814741910323 := by decide
  unfold sB at l2 ⊢
  rw [e1] at l2 ⊢
  rw [wu (by omega)];omega
 have l3 : sB 8 (sA 8 x) ≤ 7378697629483820646 := by
  have h3 : sA 8 x / 4 &&& msk 51 8 ≤ msk 51 8 := Nat.and_le_right
  have h4 : sA 8 x &&& msk 51 8 ≤ msk 51 8 := Nat.and_le_right
  have e2 : msk 51 8 = 3689348814741910323 := by decide
  rw [e2] at h3 h4
  unfold sB;rw [e2];omega
 have hC : onesC ((sB 8 (sA 8 x) : Nat) : Int) = ((sC 8 (sB 8 (sA 8 x)) : Nat) : Int) := by
  generalize sB 8 (sA 8 x) = b at *
  unfold onesC
  have e : IntKind.u64.wrap ((b : Int) / 2 ^ min 4 64 + (b : Int)) = ((b / 16 + b : Nat) : Int) := by
   have : (b : Int) / 2 ^ min 4 64 + (b : Int) = ((b / 16 + b : Nat) : Int) := by simp
   rw [this];exact wu (by omega)
  rw [e,show (1085102592571150095 : Int) = ((1085102592571150095 : Nat) : Int) from rfl,q42 (by omega) (by omega)]
  have e1 : msk 15 8 = 1085102592571150095 := by decide
  unfold sC
  rw [e1]
 have hs := x174 (byt x) (x114 x)
 rw [byt_cat hx] at hs
 have h8 : (byt x).length = 8 := rfl
 rw [h8] at hs
 unfold onesI
 rw [hA,hB,hC,hs]
 have hp : ∀ y ∈ byt x,pop8 y ≤ 8 := fun y hy => pop8_le y (x114 x y hy)
 unfold popN
 unfold byt at hp ⊢
 simp only [List.map_cons,List.map_nil,List.sum_cons,List.sum_nil]
 generalize x % 256 = y0 at *
 generalize x / 256 % 256 = y1 at *
 generalize x / 65536 % 256 = y2 at *
 generalize x / 16777216 % 256 = y3 at *
 generalize x / 4294967296 % 256 = y4 at *
 generalize x / 1099511627776 % 256 = y5 at *
 generalize x / 281474976710656 % 256 = y6 at *
 generalize x / 72057594037927936 % 256 = y7 at *
 have p0 := hp y0 (by simp)
 have p1 := hp y1 (by simp)
 have p2 := hp y2 (by simp)
 have p3 := hp y3 (by simp)
 have p4 := hp y4 (by simp)
 have p5 := hp y5 (by simp)
 have p6 := hp y6 (by simp)
 have p7 := hp y7 (by simp)
 clear hp hs hC hB hA l1 l2 l3 h8
 generalize pop8 y0 = q0 at *
 generalize pop8 y1 = q1 at *
 generalize pop8 y2 = q2 at *
 generalize pop8 y3 = q3 at *
 generalize pop8 y4 = q4 at *
 generalize pop8 y5 = q5 at *
 generalize pop8 y6 = q6 at *
 generalize pop8 y7 = q7 at *
 have b1 : ∀ y ∈ [q0 + q1,q1 + q2,q2 + q3,q3 + q4,q4 + q5,q5 + q6,q6 + q7,q7 + 0],y ≤ 64 := by intro y hy;simp only [List.mem_cons,List.not_mem_nil,or_false] at hy;omega
 have y1 : catB [q0,q1,q2,q3,q4,q5,q6,q7] + catB [q0,q1,q2,q3,q4,q5,q6,q7] / 256 = catB [q0 + q1,q1 + q2,q2 + q3,q3 + q4,q4 + q5,q5 + q6,q6 + q7,q7 + 0] := by
  rw [j29 _ _ (by omega)]
  refine (x57 _ _ ?_).trans ?_ <;> rfl
 rw [z73 _ 8 256 rfl rfl (by rw [y1];exact q73 rfl b1),y1]
 clear y1 b1
 simp only [Nat.add_zero]
 have b2 : ∀ y ∈ [q0 + q1 + (q2 + q3),q1 + q2 + (q3 + q4),q2 + q3 + (q4 + q5),q3 + q4 + (q5 + q6),q4 + q5 + (q6 + q7),q5 + q6 + q7,q6 + q7 + 0,q7 + 0],y ≤ 64 := by intro y hy;simp only [List.mem_cons,List.not_mem_nil,or_false] at hy;omega
 have y2 : catB [q0 + q1,q1 + q2,q2 + q3,q3 + q4,q4 + q5,q5 + q6,q6 + q7,q7] + catB [q0 + q1,q1 + q2,q2 + q3,q3 + q4,q4 + q5,q5 + q6,q6 + q7,q7] / 65536 = catB [q0 + q1 + (q2 + q3),q1 + q2 + (q3 + q4),q2 + q3 + (q4 + q5),q3 + q4 + (q5 + q6),q4 + q5 + (q6 + q7),q5 + q6 + q7,q6 + q7 + 0,q7 + 0] := by
  rw [show 65536 = 256 * 256 from rfl,← Nat.div_div_eq_div_mul,j29 _ _ (by omega)]
  simp only [List.cons_append,List.nil_append]
  rw [j29 _ _ (by omega)]
  refine (x57 _ _ ?_).trans ?_ <;> rfl
 rw [z73 _ 16 65536 rfl rfl (by rw [y2];exact q73 rfl b2),y2]
 clear y2 b2
 simp only [Nat.add_zero]
 have b3 : ∀ y ∈ [q0 + q1 + (q2 + q3) + (q4 + q5 + (q6 + q7)),q1 + q2 + (q3 + q4) + (q5 + q6 + q7),q2 + q3 + (q4 + q5) + (q6 + q7),q3 + q4 + (q5 + q6) + q7,q4 + q5 + (q6 + q7) + 0,q5 + q6 + q7 + 0,q6 + q7 + 0,q7 + 0],y ≤ 64 := by intro y hy;simp only [List.mem_cons,List.not_mem_nil,or_false] at hy;omega
 have y3 : catB [q0 + q1 + (q2 + q3),q1 + q2 + (q3 + q4),q2 + q3 + (q4 + q5),q3 + q4 + (q5 + q6),q4 + q5 + (q6 + q7),q5 + q6 + q7,q6 + q7,q7] + catB [q0 + q1 + (q2 + q3),q1 + q2 + (q3 + q4),q2 + q3 + (q4 + q5),q3 + q4 + (q5 + q6),q4 + q5 + (q6 + q7),q5 + q6 + q7,q6 + q7,q7] / 4294967296 =
   catB [q0 + q1 + (q2 + q3) + (q4 + q5 + (q6 + q7)),q1 + q2 + (q3 + q4) + (q5 + q6 + q7),q2 + q3 + (q4 + q5) + (q6 + q7),q3 + q4 + (q5 + q6) + q7,q4 + q5 + (q6 + q7) + 0,q5 + q6 + q7 + 0,q6 + q7 + 0,q7 + 0] := by
  rw [show 4294967296 = 256 * 256 * 256 * 256 from rfl,← Nat.div_div_eq_div_mul,← Nat.div_div_eq_div_mul,← Nat.div_div_eq_div_mul,j29 _ _ (by omega)]
  simp only [List.cons_append,List.nil_append]
  rw [j29 _ _ (by omega)]
  simp only [List.cons_append,List.nil_append]
  rw [j29 _ _ (by omega)]
  simp only [List.cons_append,List.nil_append]
  rw [j29 _ _ (by omega)]
  refine (x57 _ _ ?_).trans ?_ <;> rfl
 have l4 := q73 rfl b3
 rw [z73 _ 32 4294967296 rfl rfl (by rw [y3];omega),y3]
 rw [wi (by omega),i64_127 l4,z21]
 generalize catB [q1 + q2 + (q3 + q4) + (q5 + q6 + q7),q2 + q3 + (q4 + q5) + (q6 + q7),q3 + q4 + (q5 + q6) + q7,q4 + q5 + (q6 + q7) + 0,q5 + q6 + q7 + 0,q6 + q7 + 0,q7 + 0] = T
 have : (q0 + q1 + (q2 + q3) + (q4 + q5 + (q6 + q7)) + 256 * T) % 128 = q0 + (q1 + (q2 + (q3 + (q4 + (q5 + (q6 + (q7 + 0))))))) := by omega
 rw [this]
 first | rfl | (congr 1;done) | omega | (simp only [Nat.add_assoc,Nat.add_zero];done) | skip
def sumB (f : Nat → Bool) : Nat → Nat
 | 0 => 0
 | n + 1 => sumB f n + (f n).toNat
theorem q30 {f g : Nat → Bool} : ∀ n,(∀ i,i < n → f i = g i) → sumB f n = sumB g n
 | 0,_ => rfl
 |n + 1,h => by
  unfold sumB
  rw [q30 n fun i hi => h i (by omega),h n (by omega)]
theorem x23 (f : Nat → Bool) (a : Nat) : ∀ b,sumB f (a + b) = sumB f a + sumB (fun i => f (a + i)) b
 | 0 => rfl
 |b + 1 => by
  show sumB f (a + b) + (f (a + b)).toNat = sumB f a + (sumB (fun i => f (a + i)) b + (f (a + b)).toNat)
  rw [x23 f a b];omega
theorem x115 : ∀ (n : Nat) (f : Nat → Bool),sumB (fun i => f (n - 1 - i)) n = sumB f n
 | 0,_ => rfl
 |n + 1,f => by
  have h1 : sumB f (n + 1) = (f 0).toNat + sumB (fun i => f (i + 1)) n := by
   rw [show n + 1 = 1 + n by omega,x23]
   have : sumB f 1 = (f 0).toNat := Nat.zero_add _
   rw [this,q30 n fun i _ => by rw [Nat.add_comm]]
  rw [h1,← x115 n fun i => f (i + 1)]
  show sumB (fun i => f (n + 1 - 1 - i)) n + (f (n + 1 - 1 - n)).toNat = _
  rw [show n + 1 - 1 - n = 0 by omega,Nat.add_comm]
  congr 1
  exact q30 n fun i hi => by rw [show n + 1 - 1 - i = n - 1 - i + 1 by omega]
theorem j115 (f : Nat → Bool) : ∀ n,sumB f n ≤ n
 | 0 => Nat.le_refl _
 |n + 1 => by
  have h := j115 f n
  have : (f n).toNat ≤ 1 := by cases f n <;> simp
  show sumB f n + _ ≤ _
  omega
theorem j174 (y : Nat) : pop8 y = sumB y.testBit 8 := by
 unfold pop8
 have : List.range 8 = [0,1,2,3,4,5,6,7] := rfl
 rw [this]
 rfl
theorem pop8_at (x s : Nat) : pop8 (x / 2 ^ s % 256) = sumB (fun i => x.testBit (s + i)) 8 := by
 rw [j174]
 refine q30 8 fun i hi => ?_
 rw [show (256 : Nat) = 2 ^ 8 from rfl,Nat.testBit_mod_two_pow,Nat.testBit_div_two_pow]
 simp [hi,Nat.add_comm]
theorem q116 (x : Nat) : popN x = sumB x.testBit 64 := by
 have e : popN x = pop8 (x / 2 ^ 0 % 256) + (pop8 (x / 2 ^ 8 % 256) + (pop8 (x / 2 ^ 16 % 256) + (pop8 (x / 2 ^ 24 % 256) + (pop8 (x / 2 ^ 32 % 256) + (pop8 (x / 2 ^ 40 % 256) + (pop8 (x / 2 ^ 48 % 256) + (pop8 (x / 2 ^ 56 % 256) + 0))))))) := by
  unfold popN byt
  simp only [List.map_cons,List.map_nil,List.sum_cons,List.sum_nil,Nat.reducePow,Nat.div_one]
 rw [e]
 simp only [pop8_at]
 have h0 : sumB x.testBit 8 = sumB (fun i => x.testBit (0 + i)) 8 := q30 8 fun i _ => by rw [Nat.zero_add]
 have h1 : sumB x.testBit 16 = sumB x.testBit 8 + sumB (fun i => x.testBit (8 + i)) 8 := x23 _ 8 8
 have h2 : sumB x.testBit 24 = sumB x.testBit 16 + sumB (fun i => x.testBit (16 + i)) 8 := x23 _ 16 8
 have h3 : sumB x.testBit 32 = sumB x.testBit 24 + sumB (fun i => x.testBit (24 + i)) 8 := x23 _ 24 8
 have h4 : sumB x.testBit 40 = sumB x.testBit 32 + sumB (fun i => x.testBit (32 + i)) 8 := x23 _ 32 8
 have h5 : sumB x.testBit 48 = sumB x.testBit 40 + sumB (fun i => x.testBit (40 + i)) 8 := x23 _ 40 8
 have h6 : sumB x.testBit 56 = sumB x.testBit 48 + sumB (fun i => x.testBit (48 + i)) 8 := x23 _ 48 8
 have h7 : sumB x.testBit 64 = sumB x.testBit 56 + sumB (fun i => x.testBit (56 + i)) 8 := x23 _ 56 8
 rw [h7,h6,h5,h4,h3,h2,h1,h0]
 simp only [Nat.add_zero,Nat.add_assoc]
def bitsN (h : BitVec 128) : Nat := sumB h.getLsbD 128
theorem x73 (h : BitVec 128) : bitsN h ≤ 128 := j115 _ _
def onesN (k : Cube) : Nat := bitsN k.c
theorem hi_nat (h : BitVec 128) : hi h = ((h.toNat / 18446744073709551616 : Nat) : Int) := by
 unfold hi bvi
 rw [BitVec.extractLsb'_toNat,Nat.shiftRight_eq_div_pow]
 have := h.isLt
 norm_cast
 omega
theorem lo_nat (h : BitVec 128) : lo h = ((h.toNat % 18446744073709551616 : Nat) : Int) := by
 unfold lo bvi
 rw [BitVec.extractLsb'_toNat,Nat.shiftRight_eq_div_pow]
 norm_cast
 omega
theorem x25 (k : Cube) : onesK k = (onesN k : Int) := by
 unfold onesK onesN bitsN
 have hl := k.c.isLt
 rw [hi_nat,lo_nat,z115 (by omega),z115 (Nat.mod_lt _ (by decide)),q116,q116]
 have e0 : sumB k.c.getLsbD 128 = sumB k.c.getLsbD 64 + sumB (fun i => k.c.getLsbD (64 + i)) 64 := x23 _ 64 64
 rw [e0]
 have e1 : sumB k.c.getLsbD 64 = sumB (k.c.toNat % 18446744073709551616).testBit 64 := q30 64 fun i hi => by
  rw [show (18446744073709551616 : Nat) = 2 ^ 64 from rfl,Nat.testBit_mod_two_pow,BitVec.getLsbD]
  simp [hi]
 have e2 : sumB (fun i => k.c.getLsbD (64 + i)) 64 = sumB (k.c.toNat / 18446744073709551616).testBit 64 := q30 64 fun i hi => by
  rw [show (18446744073709551616 : Nat) = 2 ^ 64 from rfl,Nat.testBit_div_two_pow,BitVec.getLsbD,Nat.add_comm]
 rw [e1,e2]
 omega
def toldT (L : List Cube) : Nat → List Cube
 | 0 => []
 | n + 1 => toldT L n ++ L.filter (fun x => onesN x == n)
theorem z116 {L : List Cube} : ∀ {n : Nat} {x : Cube},x ∈ toldT L n → onesN x < n
 | 0,x,h => by cases h
 |n + 1,x,h => by
  rcases List.mem_append.1 h with h | h
  ·have := z116 h;omega
  ·have := (List.mem_filter.1 h).2
   have : onesN x = n := by simpa using this
   omega
theorem x116 (L : List Cube) : ∀ n,(toldT L n).Pairwise (fun a b => onesK a ≤ onesK b)
 | 0 => List.Pairwise.nil
 |n + 1 => by
  unfold toldT
  rw [List.pairwise_append]
  refine ⟨x116 L n,?_,fun a ha b hb => ?_⟩
  ·have : (L.filter (fun x => onesN x == n)).Pairwise (fun a b => True) := List.pairwise_of_forall (fun _ _ => trivial)
   refine List.Pairwise.imp_of_mem (fun {a b} ha hb _ => ?_) this
   have h1 : onesN a = n := by simpa using (List.mem_filter.1 ha).2
   have h2 : onesN b = n := by simpa using (List.mem_filter.1 hb).2
   rw [x25,x25];omega
  ·have h1 := z116 ha
   have h2 : onesN b = n := by simpa using (List.mem_filter.1 hb).2
   rw [x25,x25];omega
theorem j116 (L : List Cube) (p : Int) : ∀ n : Nat,(toldT L n).filter (fun x => onesK x == p) = if p < n then L.filter (fun x => onesK x == p) else []
 |0 => by
  rw [show toldT L 0 = [] from rfl,List.filter_nil]
  split
  ·rename_i h
   symm
   rw [List.filter_eq_nil_iff]
   intro x _
   rw [x25]
   simp;omega
  ·rfl
 |n + 1 => by
  unfold toldT
  rw [List.filter_append,j116 L p n,List.filter_filter]
  by_cases h1 : p < n
  ·rw [if_pos h1,if_pos (by omega)]
   have : L.filter (fun x => (onesK x == p) && (onesN x == n)) = [] := by
    rw [List.filter_eq_nil_iff]
    intro x _
    rw [x25]
    simp;omega
   rw [this,List.append_nil]
  ·rw [if_neg h1,List.nil_append]
   by_cases h2 : p < (n + 1 : Nat)
   ·rw [if_pos h2]
    congr 1
    funext x
    have hp : p = n := by omega
    rw [x25,hp]
    by_cases h : onesN x = n
    ·simp [h]
    ·simp [h]
     omega
   ·rw [if_neg h2,List.filter_eq_nil_iff]
    intro x _
    rw [x25]
    simp;omega
theorem q175 (L : List Cube) : toldT L 129 = isort onesK L := by
 refine z53 (x116 L 129) (q33 L) fun p => ?_
 rw [x29,j116]
 split
 ·rfl
 ·rename_i h
  symm
  rw [List.filter_eq_nil_iff]
  intro x _
  have := x73 x.c
  rw [x25]
  unfold onesN
  simp;omega
end Go.Proofs.Ytbamjcnhmmgnlaa
namespace Go.Proofs.Ytbamjcnhmmgnlaa.AL
open Go.RowKit
variable {P : Program}
def WeakX (A : ASt) (S : ASt → Prop) : Prop := ∀ (w0 : Base) (g0 : Nat → Nat) (nt : Nat) (h : Gh) (a : Act) (w : World),Rel w0 g0 nt A h a w → ∃ A' h',S A' ∧ Rel w0 g0 nt A' h' a w
theorem z175 {nt : Nat} {c : Code} {Q : Exit → ASt → Prop} {A : ASt} {S : ASt → Prop} (hw : WeakX A S) (h : ∀ A',S A' → AWP P nt c Q A') : AWP P nt c Q A := by
 rw [x64]
 intro w0 g0 h' a w r
 obtain ⟨A',h2,hs,r'⟩ := hw w0 g0 nt h' a w r
 exact x64.1 (h A' hs) w0 g0 h2 a w r'
def noM : Nat → Option Ent := fun _ => none
theorem Weak.arena (A : ASt) (hn : look A.locs 1999 = none) : Weak A ⟨A.fr,(1999,.raw noM) :: A.locs⟩ := by
 intro w0 g0 nt h a w r
 have hin : ∀ b,¬ inB h 1999 (.raw noM) b := fun b hb => hb rfl
 refine ⟨h,r.size,r.defers,r.fr,fun l L hL => ?_,fun l l' L L' b hne hL hL' hb hb' => ?_,r.ext,r.pin⟩
 ·simp only [look] at hL
  split at hL
  ·rename_i e;subst e;cases hL;intro b E hb;cases hb
  ·exact r.locs l L hL
 ·simp only [look] at hL hL'
  split at hL
  ·rename_i e;subst e;cases hL;exact hin b hb
  ·split at hL'
   ·rename_i e;subst e;cases hL';exact hin b hb'
   ·exact r.sep l l' L L' b hne hL hL' hb hb'
theorem x175 {nt : Nat} {c : Code} {Q : Exit → ASt → Prop} {A : ASt} (hn : look A.locs 1999 = none) (h : AWP P nt c Q ⟨A.fr,(1999,.raw noM) :: A.locs⟩) : AWP P nt c Q A := q24 (Weak.arena A hn) h
def PackR (M : Nat → Option Ent) (e : TypeId) (sz n : Nat) (f : Nat → List Dat) (v : Value) (M' : Nat → Option Ent) : Prop :=
 (n = 0 ∧ v = .slice none 0 0 ∧ M' = M) ∨ ∃ b c,n ≤ c ∧ M b = none ∧ v = .slice (some ⟨b,0,none⟩) n c ∧ M' = setM M b (some ⟨e,sz,c,n,f⟩)
theorem j73 {l : Nat} {L : List (Nat × LV)} {k : Nat} {X : LV} (h : look (dropL l L) k = some X) : k ≠ l ∧ look L k = some X := by
 rw [j17] at h
 split at h
 ·cases h
 ·exact ⟨‹_›,h⟩
theorem Rel.into {w0 : Base} {g0 : Nat → Nat} {nt : Nat} {A : ASt} {h : Gh} {a : Act} {w : World} (r : Rel w0 g0 nt A h a w) {l b : Nat} {X : LV} {M : Nat → Option Ent} {E : Ent} {fr : List (Nat × AV)}
  (hl : look A.locs l = some X) (hM : look A.locs 1999 = some (.raw M)) (hne : l ≠ 1999) (hb : inB h l X b) (hO : w0.O b) (hE : EntOK w h.g b E) (hg : h.g b = 0)
  (hfr : ∀ t x,look fr t = some x → RelA w h (a.tmps.getD t undef) x) : M b = none ∧ Rel w0 g0 nt ⟨fr,(1999,.raw (setM M b (some E))) :: dropL l A.locs⟩ h a w := by
 have hMb : M b = none := by
  have := r.sep l 1999 X _ b hne hl hM hb
  simp only [inB] at this
  exact Classical.byContradiction fun e => this e
 have old : ∀ k L,look ((1999,LV.raw (setM M b (some E))) :: dropL l A.locs) k = some L → (k = 1999 ∧ L = .raw (setM M b (some E))) ∨ (k ≠ 1999 ∧ k ≠ l ∧ look A.locs k = some L) := by
  intro k L hk
  simp only [look] at hk
  split at hk
  ·rename_i e;cases hk;exact .inl ⟨e.symm,rfl⟩
  ·rename_i e
   obtain ⟨k1,k2⟩ := j73 hk
   exact .inr ⟨fun e' => e e'.symm,k1,k2⟩
 have hin : ∀ b',inB h 1999 (.raw (setM M b (some E))) b' → b' = b ∨ inB h 1999 (.raw M) b' := by
  intro b' hb'
  simp only [inB,setM] at hb' ⊢
  split at hb'
  ·exact .inl ‹_›
  ·exact .inr hb'
 refine ⟨hMb,r.size,r.defers,hfr,fun k L hk => ?_,fun k k' L L' b' hkk hk hk' hb1 hb2 => ?_,r.ext,r.pin⟩
 ·rcases old k L hk with ⟨rfl,rfl⟩ | ⟨_,_,h3⟩
  ·intro b' E' hE'
   simp only [setM] at hE'
   split at hE'
   ·rename_i e;subst e;cases hE';exact ⟨hO,hE,hg⟩
   ·exact r.locs 1999 _ hM b' E' hE'
  ·exact r.locs k L h3
 ·rcases old k L hk with ⟨rfl,rfl⟩ | ⟨n1,n2,h3⟩ <;> rcases old k' L' hk' with ⟨rfl,rfl⟩ | ⟨n1',n2',h3'⟩
  ·exact hkk rfl
  ·rcases hin b' hb1 with rfl | hb1
   ·exact r.sep l k' X L' b' (fun e => n2' e.symm) hl h3' hb hb2
   ·exact r.sep 1999 k' _ L' b' (fun e => n1' e.symm) hM h3' hb1 hb2
  ·rcases hin b' hb2 with rfl | hb2
   ·exact r.sep l k X L b' (fun e => n2 e.symm) hl h3 hb hb1
   ·exact r.sep 1999 k _ L b' (fun e => n1 e.symm) hM h3 hb2 hb1
  ·exact r.sep k k' L L' b' hkk h3 h3' hb1 hb2
end Go.Proofs.Ytbamjcnhmmgnlaa.AL
namespace Go.Proofs.Ytbamjcnhmmgnlaa.AL
open Go.RowKit
variable {P : Program}
inductive XAV : AV → Prop
 | is (u : Value) : XAV (.is (· = u))
 | mp (l : Nat) : XAV (.mp l)
theorem XAV.same {x : AV} (hx : XAV x) {w w' : World} {h h' : Gh} (hρ : ∀ l ∈ x.mentions,h'.ρ l = h.ρ l) {v v' : Value} (r : RelA w h v x) (r' : RelA w' h' v' x) : v' = v := by
 cases hx with
 | is u => exact (show v' = u from r').trans (show v = u from r).symm
 |mp l =>
  have e1 : v = .map (some (h.ρ l)) := r
  have e2 : v' = .map (some (h'.ρ l)) := r'
  rw [e1,e2,hρ l (by simp [AV.mentions])]
inductive XLV : LV → Prop
 | cells (e : TypeId) (cs : List AV) (h : ∀ c ∈ cs,XAV c) : XLV (.cells e cs)
 | obj (o : Obj) : XLV (.obj o)
theorem XLV.same {X : LV} (hx : XLV X) {O : Nat → Prop} {w w' : World} {h h' : Gh} {l : Nat} (hρl : h'.ρ l = h.ρ l) (hρ : ∀ k ∈ X.mentions,h'.ρ k = h.ρ k) (r : LocOK O w h l X) (r' : LocOK O w' h' l X) {b : Nat} (hb : inB h l X b) :
  w'.heap[b]? = w.heap[b]? ∧ h'.g b = h.g b := by
 cases hx with
 |cells e cs hcs =>
  obtain ⟨arr,_,h2,h3,h4,h5⟩ := r
  obtain ⟨arr',_,k2,k3,k4,k5⟩ := r'
  simp [inB] at hb
  subst hb
  rw [hρl] at k2 k4
  refine ⟨?_,by rw [h4,k4]⟩
  rw [h2,k2]
  congr 2
  apply Array.ext
  ·rw [h3,k3]
  ·intro i hi1 hi2
   have hic : i < cs.length := by omega
   have e1 := (h5 i arr[i] cs[i] (by simp [hi2]) (List.getElem?_eq_getElem hic)).1
   have e2 := (k5 i arr'[i] cs[i] (by simp [hi1]) (List.getElem?_eq_getElem hic)).1
   exact (hcs _ (List.getElem_mem hic)).same (fun k hk => hρ k (List.mem_flatMap.2 ⟨_,List.getElem_mem hic,hk⟩)) e1 e2
 |obj o =>
  obtain ⟨_,h2,h4⟩ := r
  obtain ⟨_,k2,k4⟩ := r'
  simp [inB] at hb
  subst hb
  rw [hρl] at k2 k4
  exact ⟨by rw [h2,k2],by rw [h4,k4]⟩
end Go.Proofs.Ytbamjcnhmmgnlaa.AL
