/- Part 4 of a proof: lemmas beneath the theorem that the last text bears. Conditions: none. -/
import Derived.Test.YtjfammnjpeeahaaKConfigClonesc
set_option maxHeartbeats 64000000
set_option linter.unusedSimpArgs false
set_option linter.unusedVariables false
namespace Go.Proofs.Ytjfammnjpeeahaa
open Go.Proofs.Ytjfammnjpeeahaa.AL
def eqBy {α : Type} (e : α → α → Bool) (d : α) (a b : List α) : Bool := if a.length = b.length then allF (fun i => e (a.getD i d) (b.getD i d)) a.length 0 else false
theorem q87 (a b : Int × Int) : eqI [a.1,a.2] [b.1,b.2] = (a == b) := by
 obtain ⟨a1,a2⟩ := a;obtain ⟨b1,b2⟩ := b
 rw [Bool.eq_iff_iff];simp [eqI]
theorem z87 (a b : Way) : eqI [a.fr,a.to,a.via] [b.fr,b.to,b.via] = (a == b) := by
 obtain ⟨a1,a2,a3⟩ := a;obtain ⟨b1,b2,b3⟩ := b
 rw [Bool.eq_iff_iff];simp [eqI,and_assoc]
theorem x87 (a b : Port) : eqI [a.kd,a.tn,a.pe,a.at',a.co] [b.kd,b.tn,b.pe,b.at',b.co] = (a == b) := by
 obtain ⟨a1,a2,a3,a4,a5⟩ := a;obtain ⟨b1,b2,b3,b4,b5⟩ := b
 rw [Bool.eq_iff_iff];simp [eqI,and_assoc]
def eqAI (a b : List (Int × Int)) (R : Bool) (s : {i : Nat // i ≤ a.length ∧ allF (fun i => a.getD i (0,0) == b.getD i (0,0)) a.length i = R}) : ASt :=
 ⟨[(13,.p (.d (.v (.int .i64 (s.val : Int))))),(12,.p (.d (.v (.int .i64 (a.length : Int))))),(1,.p (.d (.sl 2 a.length (rowA b)))),(0,.p (.d (.sl 2 a.length (rowA a))))],[]⟩
set_option maxRecDepth 100000 in
theorem q132 (a b : List (Int × Int)) (ha : a.length ≤ 1099511627776) (hb : b.length ≤ 1099511627776) : ACalls Try.prog 31 [.d (.sl 2 a.length (rowA a)),.d (.sl 2 b.length (rowA b))] (· = [.d (.v (.bool (eqBy (· == ·) (0,0) a b)))]) := by
 unfold eqBy
 by_cases hn : a.length = b.length
 ·rw [if_pos hn,← hn]
  generalize hR : allF (fun i => a.getD i (0,0) == b.getD i (0,0)) a.length 0 = R
  have q0 : ((a.length : Int) != (a.length : Int)) = false := bne_self_eq_false _
  refine x9 Try.func31 rfl (by decide +kernel) (by rw [Try.ntmps31];simp) ?_;rw [Try.ntmps31];simp only [frOf]
  (repeat (first | apply j0 | refine q8 rfl ?_ | refine z8 rfl ?_ | apply z7 | (refine x4 fun K hK => ?_) | (refine j4 fun K hK => ?_) | ((first | apply j6 | apply x7 | ((first | refine j5 (hK _ ?_) | refine x6 (hK _ _ x5 ?_));clear hK K));(first | show AWP _ _ _ _ _ | ((try simp only [j7]);first | show loopQ _ _ _ _ _ _ | show cutQ _ _ _ _ | show AWP _ _ _ _ _))) | ((first | refine x8 [] rfl ?_ | refine j8 [] rfl ?_);simp (disch:=omega) only [go_sem,seval,pairD,eqA2,q0];(repeat (first | refine ⟨by omega,?_⟩ | refine ⟨True.intro,?_⟩)))))
  refine x12 (eqAI a b R) (fun s => a.length - s.val) ⟨0,Nat.zero_le _,hR⟩ ?_ (fun s => ?_)
  ·unfold eqAI
   refine Weak.list ?_ ?_;(all_goals simp (disch:=omega) only [AllF,AllL,j10,q11,x10,exists_eq_left',go_sem,seval,pairD,eqA2]);(all_goals (repeat' (with_reducible apply And.intro)));(all_goals try (first | exact q9 rfl | (refine z11 ?_;omega) | (refine q9 ?_;simp;done)))
  obtain ⟨i,h1,h2⟩ := s
  unfold eqAI
  simp only [] at h1 h2 ⊢
  by_cases h : i < a.length
  ·rw [j14 h] at h2
   have r1 := q33 a i
   have r2 := q33 b i
   try simp only [] at h2
   generalize a.getD i (0,0) = x at h2 r1
   generalize b.getD i (0,0) = y at h2 r2
   have e := q87 x y
   generalize (x == y) = c at h2 e
   cases c
   ·rw [Bool.false_and] at h2
    subst h2
    (repeat (first | apply j0 | refine q8 rfl ?_ | refine z8 rfl ?_ | apply z7 | (refine x4 fun K hK => ?_) | (refine j4 fun K hK => ?_) | ((first | apply j6 | apply x7 | ((first | refine j5 (hK _ ?_) | refine x6 (hK _ _ x5 ?_));clear hK K));(first | show AWP _ _ _ _ _ | ((try simp only [j7]);first | show loopQ _ _ _ _ _ _ | show cutQ _ _ _ _ | show AWP _ _ _ _ _))) | ((first | refine x8 [] rfl ?_ | refine j8 [] rfl ?_);simp (disch:=omega) only [go_sem,seval,pairD,eqA2,r1,r2,e];(repeat (first | refine ⟨by omega,?_⟩ | refine ⟨True.intro,?_⟩)))))
    refine z9 ⟨_,?_,rfl⟩;rw [Try.results31];simp (disch:=omega) only [ResVars,ResVar,ptrLoc,go_sem,seval,pairD,eqA2,r1,r2,e]
   ·rw [Bool.true_and] at h2
    (repeat (first | apply j0 | refine q8 rfl ?_ | refine z8 rfl ?_ | apply z7 | (refine x4 fun K hK => ?_) | (refine j4 fun K hK => ?_) | ((first | apply j6 | apply x7 | ((first | refine j5 (hK _ ?_) | refine x6 (hK _ _ x5 ?_));clear hK K));(first | show AWP _ _ _ _ _ | ((try simp only [j7]);first | show loopQ _ _ _ _ _ _ | show cutQ _ _ _ _ | show AWP _ _ _ _ _))) | ((first | refine x8 [] rfl ?_ | refine j8 [] rfl ?_);simp (disch:=omega) only [go_sem,seval,pairD,eqA2,r1,r2,e];(repeat (first | refine ⟨by omega,?_⟩ | refine ⟨True.intro,?_⟩)))))
    refine ⟨⟨i + 1,by omega,h2⟩,by simp only [];omega,?_⟩
    refine Weak.list ?_ ?_;(all_goals simp (disch:=omega) only [AllF,AllL,j10,q11,x10,exists_eq_left',go_sem,seval,pairD,eqA2,r1,r2,e]);(all_goals (repeat' (with_reducible apply And.intro)));(all_goals try (first | exact q9 rfl | (refine z11 ?_;omega) | (refine q9 ?_;simp;done)))
  ·rw [q15 (by omega)] at h2
   subst h2
   (repeat (first | apply j0 | refine q8 rfl ?_ | refine z8 rfl ?_ | apply z7 | (refine x4 fun K hK => ?_) | (refine j4 fun K hK => ?_) | ((first | apply j6 | apply x7 | ((first | refine j5 (hK _ ?_) | refine x6 (hK _ _ x5 ?_));clear hK K));(first | show AWP _ _ _ _ _ | ((try simp only [j7]);first | show loopQ _ _ _ _ _ _ | show cutQ _ _ _ _ | show AWP _ _ _ _ _))) | ((first | refine x8 [] rfl ?_ | refine j8 [] rfl ?_);simp (disch:=omega) only [go_sem,seval,pairD,eqA2];(repeat (first | refine ⟨by omega,?_⟩ | refine ⟨True.intro,?_⟩)))))
   refine z9 ⟨_,?_,rfl⟩;rw [Try.results31];simp (disch:=omega) only [ResVars,ResVar,ptrLoc,go_sem,seval,pairD,eqA2]
 ·rw [if_neg hn]
  have q : ((a.length : Int) != (b.length : Int)) = true := x13 (by omega)
  refine x9 Try.func31 rfl (by decide +kernel) (by rw [Try.ntmps31];simp) ?_;rw [Try.ntmps31];simp only [frOf]
  (repeat (first | apply j0 | refine q8 rfl ?_ | refine z8 rfl ?_ | apply z7 | (refine x4 fun K hK => ?_) | (refine j4 fun K hK => ?_) | ((first | apply j6 | apply x7 | ((first | refine j5 (hK _ ?_) | refine x6 (hK _ _ x5 ?_));clear hK K));(first | show AWP _ _ _ _ _ | ((try simp only [j7]);first | show loopQ _ _ _ _ _ _ | show cutQ _ _ _ _ | show AWP _ _ _ _ _))) | ((first | refine x8 [] rfl ?_ | refine j8 [] rfl ?_);simp (disch:=omega) only [go_sem,seval,pairD,eqA2,q];(repeat (first | refine ⟨by omega,?_⟩ | refine ⟨True.intro,?_⟩)))))
  refine z9 ⟨_,?_,rfl⟩;rw [Try.results31];simp (disch:=omega) only [ResVars,ResVar,ptrLoc,go_sem,seval,pairD,eqA2,q]
def eqWI (a b : List (Way)) (R : Bool) (s : {i : Nat // i ≤ a.length ∧ allF (fun i => a.getD i w0 == b.getD i w0) a.length i = R}) : ASt :=
 ⟨[(13,.p (.d (.v (.int .i64 (s.val : Int))))),(12,.p (.d (.v (.int .i64 (a.length : Int))))),(1,.p (.d (.sl 3 a.length (rowW b)))),(0,.p (.d (.sl 3 a.length (rowW a))))],[]⟩
set_option maxRecDepth 100000 in
theorem z132 (a b : List (Way)) (ha : a.length ≤ 1099511627776) (hb : b.length ≤ 1099511627776) : ACalls Try.prog 32 [.d (.sl 3 a.length (rowW a)),.d (.sl 3 b.length (rowW b))] (· = [.d (.v (.bool (eqBy (· == ·) w0 a b)))]) := by
 unfold eqBy
 by_cases hn : a.length = b.length
 ·rw [if_pos hn,← hn]
  generalize hR : allF (fun i => a.getD i w0 == b.getD i w0) a.length 0 = R
  have q0 : ((a.length : Int) != (a.length : Int)) = false := bne_self_eq_false _
  refine x9 Try.func32 rfl (by decide +kernel) (by rw [Try.ntmps32];simp) ?_;rw [Try.ntmps32];simp only [frOf]
  (repeat (first | apply j0 | refine q8 rfl ?_ | refine z8 rfl ?_ | apply z7 | (refine x4 fun K hK => ?_) | (refine j4 fun K hK => ?_) | ((first | apply j6 | apply x7 | ((first | refine j5 (hK _ ?_) | refine x6 (hK _ _ x5 ?_));clear hK K));(first | show AWP _ _ _ _ _ | ((try simp only [j7]);first | show loopQ _ _ _ _ _ _ | show cutQ _ _ _ _ | show AWP _ _ _ _ _))) | ((first | refine x8 [] rfl ?_ | refine j8 [] rfl ?_);simp (disch:=omega) only [go_sem,seval,wayD,j18,q0];(repeat (first | refine ⟨by omega,?_⟩ | refine ⟨True.intro,?_⟩)))))
  refine x12 (eqWI a b R) (fun s => a.length - s.val) ⟨0,Nat.zero_le _,hR⟩ ?_ (fun s => ?_)
  ·unfold eqWI
   refine Weak.list ?_ ?_;(all_goals simp (disch:=omega) only [AllF,AllL,j10,q11,x10,exists_eq_left',go_sem,seval,wayD,j18]);(all_goals (repeat' (with_reducible apply And.intro)));(all_goals try (first | exact q9 rfl | (refine z11 ?_;omega) | (refine q9 ?_;simp;done)))
  obtain ⟨i,h1,h2⟩ := s
  unfold eqWI
  simp only [] at h1 h2 ⊢
  by_cases h : i < a.length
  ·rw [j14 h] at h2
   have r1 := j38 a i
   have r2 := j38 b i
   try simp only [] at h2
   generalize a.getD i w0 = x at h2 r1
   generalize b.getD i w0 = y at h2 r2
   have e := z87 x y
   generalize (x == y) = c at h2 e
   cases c
   ·rw [Bool.false_and] at h2
    subst h2
    (repeat (first | apply j0 | refine q8 rfl ?_ | refine z8 rfl ?_ | apply z7 | (refine x4 fun K hK => ?_) | (refine j4 fun K hK => ?_) | ((first | apply j6 | apply x7 | ((first | refine j5 (hK _ ?_) | refine x6 (hK _ _ x5 ?_));clear hK K));(first | show AWP _ _ _ _ _ | ((try simp only [j7]);first | show loopQ _ _ _ _ _ _ | show cutQ _ _ _ _ | show AWP _ _ _ _ _))) | ((first | refine x8 [] rfl ?_ | refine j8 [] rfl ?_);simp (disch:=omega) only [go_sem,seval,wayD,j18,r1,r2,e];(repeat (first | refine ⟨by omega,?_⟩ | refine ⟨True.intro,?_⟩)))))
    refine z9 ⟨_,?_,rfl⟩;rw [Try.results32];simp (disch:=omega) only [ResVars,ResVar,ptrLoc,go_sem,seval,wayD,j18,r1,r2,e]
   ·rw [Bool.true_and] at h2
    (repeat (first | apply j0 | refine q8 rfl ?_ | refine z8 rfl ?_ | apply z7 | (refine x4 fun K hK => ?_) | (refine j4 fun K hK => ?_) | ((first | apply j6 | apply x7 | ((first | refine j5 (hK _ ?_) | refine x6 (hK _ _ x5 ?_));clear hK K));(first | show AWP _ _ _ _ _ | ((try simp only [j7]);first | show loopQ _ _ _ _ _ _ | show cutQ _ _ _ _ | show AWP _ _ _ _ _))) | ((first | refine x8 [] rfl ?_ | refine j8 [] rfl ?_);simp (disch:=omega) only [go_sem,seval,wayD,j18,r1,r2,e];(repeat (first | refine ⟨by omega,?_⟩ | refine ⟨True.intro,?_⟩)))))
    refine ⟨⟨i + 1,by omega,h2⟩,by simp only [];omega,?_⟩
    refine Weak.list ?_ ?_;(all_goals simp (disch:=omega) only [AllF,AllL,j10,q11,x10,exists_eq_left',go_sem,seval,wayD,j18,r1,r2,e]);(all_goals (repeat' (with_reducible apply And.intro)));(all_goals try (first | exact q9 rfl | (refine z11 ?_;omega) | (refine q9 ?_;simp;done)))
  ·rw [q15 (by omega)] at h2
   subst h2
   (repeat (first | apply j0 | refine q8 rfl ?_ | refine z8 rfl ?_ | apply z7 | (refine x4 fun K hK => ?_) | (refine j4 fun K hK => ?_) | ((first | apply j6 | apply x7 | ((first | refine j5 (hK _ ?_) | refine x6 (hK _ _ x5 ?_));clear hK K));(first | show AWP _ _ _ _ _ | ((try simp only [j7]);first | show loopQ _ _ _ _ _ _ | show cutQ _ _ _ _ | show AWP _ _ _ _ _))) | ((first | refine x8 [] rfl ?_ | refine j8 [] rfl ?_);simp (disch:=omega) only [go_sem,seval,wayD,j18];(repeat (first | refine ⟨by omega,?_⟩ | refine ⟨True.intro,?_⟩)))))
   refine z9 ⟨_,?_,rfl⟩;rw [Try.results32];simp (disch:=omega) only [ResVars,ResVar,ptrLoc,go_sem,seval,wayD,j18]
 ·rw [if_neg hn]
  have q : ((a.length : Int) != (b.length : Int)) = true := x13 (by omega)
  refine x9 Try.func32 rfl (by decide +kernel) (by rw [Try.ntmps32];simp) ?_;rw [Try.ntmps32];simp only [frOf]
  (repeat (first | apply j0 | refine q8 rfl ?_ | refine z8 rfl ?_ | apply z7 | (refine x4 fun K hK => ?_) | (refine j4 fun K hK => ?_) | ((first | apply j6 | apply x7 | ((first | refine j5 (hK _ ?_) | refine x6 (hK _ _ x5 ?_));clear hK K));(first | show AWP _ _ _ _ _ | ((try simp only [j7]);first | show loopQ _ _ _ _ _ _ | show cutQ _ _ _ _ | show AWP _ _ _ _ _))) | ((first | refine x8 [] rfl ?_ | refine j8 [] rfl ?_);simp (disch:=omega) only [go_sem,seval,wayD,j18,q];(repeat (first | refine ⟨by omega,?_⟩ | refine ⟨True.intro,?_⟩)))))
  refine z9 ⟨_,?_,rfl⟩;rw [Try.results32];simp (disch:=omega) only [ResVars,ResVar,ptrLoc,go_sem,seval,wayD,j18,q]
def eqPI (a b : List (Port)) (R : Bool) (s : {i : Nat // i ≤ a.length ∧ allF (fun i => a.getD i p0 == b.getD i p0) a.length i = R}) : ASt :=
 ⟨[(13,.p (.d (.v (.int .i64 (s.val : Int))))),(12,.p (.d (.v (.int .i64 (a.length : Int))))),(1,.p (.d (.sl 5 a.length (rowP b)))),(0,.p (.d (.sl 5 a.length (rowP a))))],[]⟩
set_option maxRecDepth 100000 in
theorem x132 (a b : List (Port)) (ha : a.length ≤ 1099511627776) (hb : b.length ≤ 1099511627776) : ACalls Try.prog 51 [.d (.sl 5 a.length (rowP a)),.d (.sl 5 b.length (rowP b))] (· = [.d (.v (.bool (eqBy (· == ·) p0 a b)))]) := by
 unfold eqBy
 by_cases hn : a.length = b.length
 ·rw [if_pos hn,← hn]
  generalize hR : allF (fun i => a.getD i p0 == b.getD i p0) a.length 0 = R
  have q0 : ((a.length : Int) != (a.length : Int)) = false := bne_self_eq_false _
  refine x9 Try.func51 rfl (by decide +kernel) (by rw [Try.ntmps51];simp) ?_;rw [Try.ntmps51];simp only [frOf]
  (repeat (first | apply j0 | refine q8 rfl ?_ | refine z8 rfl ?_ | apply z7 | (refine x4 fun K hK => ?_) | (refine j4 fun K hK => ?_) | ((first | apply j6 | apply x7 | ((first | refine j5 (hK _ ?_) | refine x6 (hK _ _ x5 ?_));clear hK K));(first | show AWP _ _ _ _ _ | ((try simp only [j7]);first | show loopQ _ _ _ _ _ _ | show cutQ _ _ _ _ | show AWP _ _ _ _ _))) | ((first | refine x8 [] rfl ?_ | refine j8 [] rfl ?_);simp (disch:=omega) only [go_sem,seval,portD,z13,q0];(repeat (first | refine ⟨by omega,?_⟩ | refine ⟨True.intro,?_⟩)))))
  refine x12 (eqPI a b R) (fun s => a.length - s.val) ⟨0,Nat.zero_le _,hR⟩ ?_ (fun s => ?_)
  ·unfold eqPI
   refine Weak.list ?_ ?_;(all_goals simp (disch:=omega) only [AllF,AllL,j10,q11,x10,exists_eq_left',go_sem,seval,portD,z13]);(all_goals (repeat' (with_reducible apply And.intro)));(all_goals try (first | exact q9 rfl | (refine z11 ?_;omega) | (refine q9 ?_;simp;done)))
  obtain ⟨i,h1,h2⟩ := s
  unfold eqPI
  simp only [] at h1 h2 ⊢
  by_cases h : i < a.length
  ·rw [j14 h] at h2
   have r1 := j22 a i
   have r2 := j22 b i
   try simp only [] at h2
   generalize a.getD i p0 = x at h2 r1
   generalize b.getD i p0 = y at h2 r2
   have e := x87 x y
   generalize (x == y) = c at h2 e
   cases c
   ·rw [Bool.false_and] at h2
    subst h2
    (repeat (first | apply j0 | refine q8 rfl ?_ | refine z8 rfl ?_ | apply z7 | (refine x4 fun K hK => ?_) | (refine j4 fun K hK => ?_) | ((first | apply j6 | apply x7 | ((first | refine j5 (hK _ ?_) | refine x6 (hK _ _ x5 ?_));clear hK K));(first | show AWP _ _ _ _ _ | ((try simp only [j7]);first | show loopQ _ _ _ _ _ _ | show cutQ _ _ _ _ | show AWP _ _ _ _ _))) | ((first | refine x8 [] rfl ?_ | refine j8 [] rfl ?_);simp (disch:=omega) only [go_sem,seval,portD,z13,r1,r2,e];(repeat (first | refine ⟨by omega,?_⟩ | refine ⟨True.intro,?_⟩)))))
    refine z9 ⟨_,?_,rfl⟩;rw [Try.results51];simp (disch:=omega) only [ResVars,ResVar,ptrLoc,go_sem,seval,portD,z13,r1,r2,e]
   ·rw [Bool.true_and] at h2
    (repeat (first | apply j0 | refine q8 rfl ?_ | refine z8 rfl ?_ | apply z7 | (refine x4 fun K hK => ?_) | (refine j4 fun K hK => ?_) | ((first | apply j6 | apply x7 | ((first | refine j5 (hK _ ?_) | refine x6 (hK _ _ x5 ?_));clear hK K));(first | show AWP _ _ _ _ _ | ((try simp only [j7]);first | show loopQ _ _ _ _ _ _ | show cutQ _ _ _ _ | show AWP _ _ _ _ _))) | ((first | refine x8 [] rfl ?_ | refine j8 [] rfl ?_);simp (disch:=omega) only [go_sem,seval,portD,z13,r1,r2,e];(repeat (first | refine ⟨by omega,?_⟩ | refine ⟨True.intro,?_⟩)))))
    refine ⟨⟨i + 1,by omega,h2⟩,by simp only [];omega,?_⟩
    refine Weak.list ?_ ?_;(all_goals simp (disch:=omega) only [AllF,AllL,j10,q11,x10,exists_eq_left',go_sem,seval,portD,z13,r1,r2,e]);(all_goals (repeat' (with_reducible apply And.intro)));(all_goals try (first | exact q9 rfl | (refine z11 ?_;omega) | (refine q9 ?_;simp;done)))
  ·rw [q15 (by omega)] at h2
   subst h2
   (repeat (first | apply j0 | refine q8 rfl ?_ | refine z8 rfl ?_ | apply z7 | (refine x4 fun K hK => ?_) | (refine j4 fun K hK => ?_) | ((first | apply j6 | apply x7 | ((first | refine j5 (hK _ ?_) | refine x6 (hK _ _ x5 ?_));clear hK K));(first | show AWP _ _ _ _ _ | ((try simp only [j7]);first | show loopQ _ _ _ _ _ _ | show cutQ _ _ _ _ | show AWP _ _ _ _ _))) | ((first | refine x8 [] rfl ?_ | refine j8 [] rfl ?_);simp (disch:=omega) only [go_sem,seval,portD,z13];(repeat (first | refine ⟨by omega,?_⟩ | refine ⟨True.intro,?_⟩)))))
   refine z9 ⟨_,?_,rfl⟩;rw [Try.results51];simp (disch:=omega) only [ResVars,ResVar,ptrLoc,go_sem,seval,portD,z13]
 ·rw [if_neg hn]
  have q : ((a.length : Int) != (b.length : Int)) = true := x13 (by omega)
  refine x9 Try.func51 rfl (by decide +kernel) (by rw [Try.ntmps51];simp) ?_;rw [Try.ntmps51];simp only [frOf]
  (repeat (first | apply j0 | refine q8 rfl ?_ | refine z8 rfl ?_ | apply z7 | (refine x4 fun K hK => ?_) | (refine j4 fun K hK => ?_) | ((first | apply j6 | apply x7 | ((first | refine j5 (hK _ ?_) | refine x6 (hK _ _ x5 ?_));clear hK K));(first | show AWP _ _ _ _ _ | ((try simp only [j7]);first | show loopQ _ _ _ _ _ _ | show cutQ _ _ _ _ | show AWP _ _ _ _ _))) | ((first | refine x8 [] rfl ?_ | refine j8 [] rfl ?_);simp (disch:=omega) only [go_sem,seval,portD,z13,q];(repeat (first | refine ⟨by omega,?_⟩ | refine ⟨True.intro,?_⟩)))))
  refine z9 ⟨_,?_,rfl⟩;rw [Try.results51];simp (disch:=omega) only [ResVars,ResVar,ptrLoc,go_sem,seval,portD,z13,q]
def eqRI (a b : List (Rule)) (R : Bool) (s : {i : Nat // i ≤ a.length ∧ allF (fun i => a.getD i r0 == b.getD i r0) a.length i = R}) : ASt :=
 ⟨[(13,.p (.d (.v (.int .i64 (s.val : Int))))),(12,.p (.d (.v (.int .i64 (a.length : Int))))),(1,.p (.d (.sl 12 a.length (rowR b)))),(0,.p (.d (.sl 12 a.length (rowR a))))],[]⟩
set_option maxRecDepth 100000 in
theorem j132 (a b : List (Rule)) (ha : a.length ≤ 1099511627776) (hb : b.length ≤ 1099511627776) : ACalls Try.prog 53 [.d (.sl 12 a.length (rowR a)),.d (.sl 12 b.length (rowR b))] (· = [.d (.v (.bool (eqBy (· == ·) r0 a b)))]) := by
 unfold eqBy
 by_cases hn : a.length = b.length
 ·rw [if_pos hn,← hn]
  generalize hR : allF (fun i => a.getD i r0 == b.getD i r0) a.length 0 = R
  have q0 : ((a.length : Int) != (a.length : Int)) = false := bne_self_eq_false _
  refine x9 Try.func53 rfl (by decide +kernel) (by rw [Try.ntmps53];simp) ?_;rw [Try.ntmps53];simp only [frOf]
  (repeat (first | apply j0 | refine q8 rfl ?_ | refine z8 rfl ?_ | apply z7 | (refine x4 fun K hK => ?_) | (refine j4 fun K hK => ?_) | ((first | apply j6 | apply x7 | ((first | refine j5 (hK _ ?_) | refine x6 (hK _ _ x5 ?_));clear hK K));(first | show AWP _ _ _ _ _ | ((try simp only [j7]);first | show loopQ _ _ _ _ _ _ | show cutQ _ _ _ _ | show AWP _ _ _ _ _))) | ((first | refine x8 [] rfl ?_ | refine j8 [] rfl ?_);simp (disch:=omega) only [go_sem,seval,ruleD,q12,q0];(repeat (first | refine ⟨by omega,?_⟩ | refine ⟨True.intro,?_⟩)))))
  refine x12 (eqRI a b R) (fun s => a.length - s.val) ⟨0,Nat.zero_le _,hR⟩ ?_ (fun s => ?_)
  ·unfold eqRI
   refine Weak.list ?_ ?_;(all_goals simp (disch:=omega) only [AllF,AllL,j10,q11,x10,exists_eq_left',go_sem,seval,ruleD,q12]);(all_goals (repeat' (with_reducible apply And.intro)));(all_goals try (first | exact q9 rfl | (refine z11 ?_;omega) | (refine q9 ?_;simp;done)))
  obtain ⟨i,h1,h2⟩ := s
  unfold eqRI
  simp only [] at h1 h2 ⊢
  by_cases h : i < a.length
  ·rw [j14 h] at h2
   have r1 := z38 a i
   have r2 := z38 b i
   try simp only [] at h2
   generalize a.getD i r0 = x at h2 r1
   generalize b.getD i r0 = y at h2 r2
   have e := x81 x y
   generalize (x == y) = c at h2 e
   cases c
   ·rw [Bool.false_and] at h2
    subst h2
    (repeat (first | apply j0 | refine q8 rfl ?_ | refine z8 rfl ?_ | apply z7 | (refine x4 fun K hK => ?_) | (refine j4 fun K hK => ?_) | ((first | apply j6 | apply x7 | ((first | refine j5 (hK _ ?_) | refine x6 (hK _ _ x5 ?_));clear hK K));(first | show AWP _ _ _ _ _ | ((try simp only [j7]);first | show loopQ _ _ _ _ _ _ | show cutQ _ _ _ _ | show AWP _ _ _ _ _))) | ((first | refine x8 [] rfl ?_ | refine j8 [] rfl ?_);simp (disch:=omega) only [go_sem,seval,ruleD,q12,r1,r2,e];(repeat (first | refine ⟨by omega,?_⟩ | refine ⟨True.intro,?_⟩)))))
    refine z9 ⟨_,?_,rfl⟩;rw [Try.results53];simp (disch:=omega) only [ResVars,ResVar,ptrLoc,go_sem,seval,ruleD,q12,r1,r2,e]
   ·rw [Bool.true_and] at h2
    (repeat (first | apply j0 | refine q8 rfl ?_ | refine z8 rfl ?_ | apply z7 | (refine x4 fun K hK => ?_) | (refine j4 fun K hK => ?_) | ((first | apply j6 | apply x7 | ((first | refine j5 (hK _ ?_) | refine x6 (hK _ _ x5 ?_));clear hK K));(first | show AWP _ _ _ _ _ | ((try simp only [j7]);first | show loopQ _ _ _ _ _ _ | show cutQ _ _ _ _ | show AWP _ _ _ _ _))) | ((first | refine x8 [] rfl ?_ | refine j8 [] rfl ?_);simp (disch:=omega) only [go_sem,seval,ruleD,q12,r1,r2,e];(repeat (first | refine ⟨by omega,?_⟩ | refine ⟨True.intro,?_⟩)))))
    refine ⟨⟨i + 1,by omega,h2⟩,by simp only [];omega,?_⟩
    refine Weak.list ?_ ?_;(all_goals simp (disch:=omega) only [AllF,AllL,j10,q11,x10,exists_eq_left',go_sem,seval,ruleD,q12,r1,r2,e]);(all_goals (repeat' (with_reducible apply And.intro)));(all_goals try (first | exact q9 rfl | (refine z11 ?_;omega) | (refine q9 ?_;simp;done)))
  ·rw [q15 (by omega)] at h2
   subst h2
   (repeat (first | apply j0 | refine q8 rfl ?_ | refine z8 rfl ?_ | apply z7 | (refine x4 fun K hK => ?_) | (refine j4 fun K hK => ?_) | ((first | apply j6 | apply x7 | ((first | refine j5 (hK _ ?_) | refine x6 (hK _ _ x5 ?_));clear hK K));(first | show AWP _ _ _ _ _ | ((try simp only [j7]);first | show loopQ _ _ _ _ _ _ | show cutQ _ _ _ _ | show AWP _ _ _ _ _))) | ((first | refine x8 [] rfl ?_ | refine j8 [] rfl ?_);simp (disch:=omega) only [go_sem,seval,ruleD,q12];(repeat (first | refine ⟨by omega,?_⟩ | refine ⟨True.intro,?_⟩)))))
   refine z9 ⟨_,?_,rfl⟩;rw [Try.results53];simp (disch:=omega) only [ResVars,ResVar,ptrLoc,go_sem,seval,ruleD,q12]
 ·rw [if_neg hn]
  have q : ((a.length : Int) != (b.length : Int)) = true := x13 (by omega)
  refine x9 Try.func53 rfl (by decide +kernel) (by rw [Try.ntmps53];simp) ?_;rw [Try.ntmps53];simp only [frOf]
  (repeat (first | apply j0 | refine q8 rfl ?_ | refine z8 rfl ?_ | apply z7 | (refine x4 fun K hK => ?_) | (refine j4 fun K hK => ?_) | ((first | apply j6 | apply x7 | ((first | refine j5 (hK _ ?_) | refine x6 (hK _ _ x5 ?_));clear hK K));(first | show AWP _ _ _ _ _ | ((try simp only [j7]);first | show loopQ _ _ _ _ _ _ | show cutQ _ _ _ _ | show AWP _ _ _ _ _))) | ((first | refine x8 [] rfl ?_ | refine j8 [] rfl ?_);simp (disch:=omega) only [go_sem,seval,ruleD,q12,q];(repeat (first | refine ⟨by omega,?_⟩ | refine ⟨True.intro,?_⟩)))))
  refine z9 ⟨_,?_,rfl⟩;rw [Try.results53];simp (disch:=omega) only [ResVars,ResVar,ptrLoc,go_sem,seval,ruleD,q12,q]
def eqfPI (a b : List (List Port)) (g : FuncId) (e : List Port → List Port → Bool) (R : Bool) (s : {i : Nat // i ≤ a.length ∧ allF (fun i => e (a.getD i []) (b.getD i [])) a.length i = R}) : ASt :=
 ⟨[(17,.p (.d (.v (.int .i64 (s.val : Int))))),(16,.p (.d (.v (.int .i64 (a.length : Int))))),(15,.p (.d (.sl 1 a.length (rowPP a)))),(2,.p (.fn (.func g) [] [])),(1,.p (.d (.sl 1 a.length (rowPP b))))],[]⟩
set_option maxRecDepth 100000 in
theorem q133 (a b : List (List Port)) (g : FuncId) (e : List Port → List Port → Bool) (ha : a.length ≤ 1099511627776) (hb : b.length ≤ 1099511627776) (hl : ∀ i,(a.getD i []).length ≤ 1099511627776 ∧ (b.getD i []).length ≤ 1099511627776)
  (hg : ∀ i,ACalls Try.prog g [.d (.sl 5 (a.getD i []).length (rowP (a.getD i []))),.d (.sl 5 (b.getD i []).length (rowP (b.getD i [])))] (· = [.d (.v (.bool (e (a.getD i []) (b.getD i []))))])) :
  ACalls Try.prog 50 [.d (.sl 1 a.length (rowPP a)),.d (.sl 1 b.length (rowPP b)),.fn (.func g) [] []] (· = [.d (.v (.bool (eqBy e [] a b)))]) := by
 unfold eqBy
 by_cases hn : a.length = b.length
 ·rw [if_pos hn,← hn]
  generalize hR : allF (fun i => e (a.getD i []) (b.getD i [])) a.length 0 = R
  have q0 : ((a.length : Int) != (a.length : Int)) = false := bne_self_eq_false _
  refine x9 Try.func50 rfl (by decide +kernel) (by rw [Try.ntmps50];simp) ?_;rw [Try.ntmps50];simp only [frOf]
  (repeat (first | apply j0 | refine q8 rfl ?_ | refine z8 rfl ?_ | apply z7 | (refine x4 fun K hK => ?_) | (refine j4 fun K hK => ?_) | ((first | apply j6 | apply x7 | ((first | refine j5 (hK _ ?_) | refine x6 (hK _ _ x5 ?_));clear hK K));(first | show AWP _ _ _ _ _ | ((try simp only [j7]);first | show loopQ _ _ _ _ _ _ | show cutQ _ _ _ _ | show AWP _ _ _ _ _))) | ((first | refine x8 [] rfl ?_ | refine j8 [] rfl ?_);simp (disch:=omega) only [go_sem,seval,q0];(repeat (first | refine ⟨by omega,?_⟩ | refine ⟨True.intro,?_⟩)))))
  refine x12 (eqfPI a b g e R) (fun s => a.length - s.val) ⟨0,Nat.zero_le _,hR⟩ ?_ (fun s => ?_)
  ·unfold eqfPI
   refine Weak.list ?_ ?_;(all_goals simp (disch:=omega) only [AllF,AllL,j10,q11,x10,exists_eq_left',go_sem,seval]);(all_goals (repeat' (with_reducible apply And.intro)));(all_goals try (first | exact q9 rfl | (refine z11 ?_;omega) | (refine q9 ?_;simp;done)))
  obtain ⟨i,h1,h2⟩ := s
  unfold eqfPI
  simp only [] at h1 h2 ⊢
  by_cases h : i < a.length
  ·rw [j14 h] at h2
   have r1 := q18 a i
   have r2 := q18 b i
   have c := hg i
   obtain ⟨l1,l2⟩ := hl i
   try simp only [] at h2
   generalize a.getD i [] = x at h2 r1 c l1
   generalize b.getD i [] = y at h2 r2 c l2
   generalize e x y = q at h2 c
   cases q
   ·rw [Bool.false_and] at h2
    subst h2
    (repeat (first | apply j0 | refine q8 rfl ?_ | refine z8 rfl ?_ | apply z7 | (refine x4 fun K hK => ?_) | (refine j4 fun K hK => ?_) | ((first | apply j6 | apply x7 | ((first | refine j5 (hK _ ?_) | refine x6 (hK _ _ x5 ?_));clear hK K));(first | show AWP _ _ _ _ _ | ((try simp only [j7]);first | show loopQ _ _ _ _ _ _ | show cutQ _ _ _ _ | show AWP _ _ _ _ _))) | ((first | refine q10 rfl rfl rfl ?_ | refine z10 rfl rfl rfl ?_);simp (disch:=omega) only [go_sem,seval,r1,r2];(first | refine ⟨_,c,?_⟩)) | ((first | refine x8 [] rfl ?_ | refine j8 [] rfl ?_);simp (disch:=omega) only [go_sem,seval,r1,r2];(repeat (first | refine ⟨by omega,?_⟩ | refine ⟨True.intro,?_⟩)))))
    refine z9 ⟨_,?_,rfl⟩;rw [Try.results50];simp (disch:=omega) only [ResVars,ResVar,ptrLoc,go_sem,seval,r1,r2]
   ·rw [Bool.true_and] at h2
    (repeat (first | apply j0 | refine q8 rfl ?_ | refine z8 rfl ?_ | apply z7 | (refine x4 fun K hK => ?_) | (refine j4 fun K hK => ?_) | ((first | apply j6 | apply x7 | ((first | refine j5 (hK _ ?_) | refine x6 (hK _ _ x5 ?_));clear hK K));(first | show AWP _ _ _ _ _ | ((try simp only [j7]);first | show loopQ _ _ _ _ _ _ | show cutQ _ _ _ _ | show AWP _ _ _ _ _))) | ((first | refine q10 rfl rfl rfl ?_ | refine z10 rfl rfl rfl ?_);simp (disch:=omega) only [go_sem,seval,r1,r2];(first | refine ⟨_,c,?_⟩)) | ((first | refine x8 [] rfl ?_ | refine j8 [] rfl ?_);simp (disch:=omega) only [go_sem,seval,r1,r2];(repeat (first | refine ⟨by omega,?_⟩ | refine ⟨True.intro,?_⟩)))))
    refine ⟨⟨i + 1,by omega,h2⟩,by simp only [];omega,?_⟩
    refine Weak.list ?_ ?_;(all_goals simp (disch:=omega) only [AllF,AllL,j10,q11,x10,exists_eq_left',go_sem,seval,r1,r2]);(all_goals (repeat' (with_reducible apply And.intro)));(all_goals try (first | exact q9 rfl | (refine z11 ?_;omega) | (refine q9 ?_;simp;done)))
  ·rw [q15 (by omega)] at h2
   subst h2
   (repeat (first | apply j0 | refine q8 rfl ?_ | refine z8 rfl ?_ | apply z7 | (refine x4 fun K hK => ?_) | (refine j4 fun K hK => ?_) | ((first | apply j6 | apply x7 | ((first | refine j5 (hK _ ?_) | refine x6 (hK _ _ x5 ?_));clear hK K));(first | show AWP _ _ _ _ _ | ((try simp only [j7]);first | show loopQ _ _ _ _ _ _ | show cutQ _ _ _ _ | show AWP _ _ _ _ _))) | ((first | refine x8 [] rfl ?_ | refine j8 [] rfl ?_);simp (disch:=omega) only [go_sem,seval];(repeat (first | refine ⟨by omega,?_⟩ | refine ⟨True.intro,?_⟩)))))
   refine z9 ⟨_,?_,rfl⟩;rw [Try.results50];simp (disch:=omega) only [ResVars,ResVar,ptrLoc,go_sem,seval]
 ·rw [if_neg hn]
  have q : ((a.length : Int) != (b.length : Int)) = true := x13 (by omega)
  refine x9 Try.func50 rfl (by decide +kernel) (by rw [Try.ntmps50];simp) ?_;rw [Try.ntmps50];simp only [frOf]
  (repeat (first | apply j0 | refine q8 rfl ?_ | refine z8 rfl ?_ | apply z7 | (refine x4 fun K hK => ?_) | (refine j4 fun K hK => ?_) | ((first | apply j6 | apply x7 | ((first | refine j5 (hK _ ?_) | refine x6 (hK _ _ x5 ?_));clear hK K));(first | show AWP _ _ _ _ _ | ((try simp only [j7]);first | show loopQ _ _ _ _ _ _ | show cutQ _ _ _ _ | show AWP _ _ _ _ _))) | ((first | refine x8 [] rfl ?_ | refine j8 [] rfl ?_);simp (disch:=omega) only [go_sem,seval,q];(repeat (first | refine ⟨by omega,?_⟩ | refine ⟨True.intro,?_⟩)))))
  refine z9 ⟨_,?_,rfl⟩;rw [Try.results50];simp (disch:=omega) only [ResVars,ResVar,ptrLoc,go_sem,seval,q]
def eqfRI (a b : List (List Rule)) (g : FuncId) (e : List Rule → List Rule → Bool) (R : Bool) (s : {i : Nat // i ≤ a.length ∧ allF (fun i => e (a.getD i []) (b.getD i [])) a.length i = R}) : ASt :=
 ⟨[(17,.p (.d (.v (.int .i64 (s.val : Int))))),(16,.p (.d (.v (.int .i64 (a.length : Int))))),(15,.p (.d (.sl 1 a.length (rowRR a)))),(2,.p (.fn (.func g) [] [])),(1,.p (.d (.sl 1 a.length (rowRR b))))],[]⟩
set_option maxRecDepth 100000 in
theorem z133 (a b : List (List Rule)) (g : FuncId) (e : List Rule → List Rule → Bool) (ha : a.length ≤ 1099511627776) (hb : b.length ≤ 1099511627776) (hl : ∀ i,(a.getD i []).length ≤ 1099511627776 ∧ (b.getD i []).length ≤ 1099511627776)
  (hg : ∀ i,ACalls Try.prog g [.d (.sl 12 (a.getD i []).length (rowR (a.getD i []))),.d (.sl 12 (b.getD i []).length (rowR (b.getD i [])))] (· = [.d (.v (.bool (e (a.getD i []) (b.getD i []))))])) :
  ACalls Try.prog 52 [.d (.sl 1 a.length (rowRR a)),.d (.sl 1 b.length (rowRR b)),.fn (.func g) [] []] (· = [.d (.v (.bool (eqBy e [] a b)))]) := by
 unfold eqBy
 by_cases hn : a.length = b.length
 ·rw [if_pos hn,← hn]
  generalize hR : allF (fun i => e (a.getD i []) (b.getD i [])) a.length 0 = R
  have q0 : ((a.length : Int) != (a.length : Int)) = false := bne_self_eq_false _
  refine x9 Try.func52 rfl (by decide +kernel) (by rw [Try.ntmps52];simp) ?_;rw [Try.ntmps52];simp only [frOf]
  (repeat (first | apply j0 | refine q8 rfl ?_ | refine z8 rfl ?_ | apply z7 | (refine x4 fun K hK => ?_) | (refine j4 fun K hK => ?_) | ((first | apply j6 | apply x7 | ((first | refine j5 (hK _ ?_) | refine x6 (hK _ _ x5 ?_));clear hK K));(first | show AWP _ _ _ _ _ | ((try simp only [j7]);first | show loopQ _ _ _ _ _ _ | show cutQ _ _ _ _ | show AWP _ _ _ _ _))) | ((first | refine x8 [] rfl ?_ | refine j8 [] rfl ?_);simp (disch:=omega) only [go_sem,seval,q0];(repeat (first | refine ⟨by omega,?_⟩ | refine ⟨True.intro,?_⟩)))))
  refine x12 (eqfRI a b g e R) (fun s => a.length - s.val) ⟨0,Nat.zero_le _,hR⟩ ?_ (fun s => ?_)
  ·unfold eqfRI
   refine Weak.list ?_ ?_;(all_goals simp (disch:=omega) only [AllF,AllL,j10,q11,x10,exists_eq_left',go_sem,seval]);(all_goals (repeat' (with_reducible apply And.intro)));(all_goals try (first | exact q9 rfl | (refine z11 ?_;omega) | (refine q9 ?_;simp;done)))
  obtain ⟨i,h1,h2⟩ := s
  unfold eqfRI
  simp only [] at h1 h2 ⊢
  by_cases h : i < a.length
  ·rw [j14 h] at h2
   have r1 := q24 a i
   have r2 := q24 b i
   have c := hg i
   obtain ⟨l1,l2⟩ := hl i
   try simp only [] at h2
   generalize a.getD i [] = x at h2 r1 c l1
   generalize b.getD i [] = y at h2 r2 c l2
   generalize e x y = q at h2 c
   cases q
   ·rw [Bool.false_and] at h2
    subst h2
    (repeat (first | apply j0 | refine q8 rfl ?_ | refine z8 rfl ?_ | apply z7 | (refine x4 fun K hK => ?_) | (refine j4 fun K hK => ?_) | ((first | apply j6 | apply x7 | ((first | refine j5 (hK _ ?_) | refine x6 (hK _ _ x5 ?_));clear hK K));(first | show AWP _ _ _ _ _ | ((try simp only [j7]);first | show loopQ _ _ _ _ _ _ | show cutQ _ _ _ _ | show AWP _ _ _ _ _))) | ((first | refine q10 rfl rfl rfl ?_ | refine z10 rfl rfl rfl ?_);simp (disch:=omega) only [go_sem,seval,r1,r2];(first | refine ⟨_,c,?_⟩)) | ((first | refine x8 [] rfl ?_ | refine j8 [] rfl ?_);simp (disch:=omega) only [go_sem,seval,r1,r2];(repeat (first | refine ⟨by omega,?_⟩ | refine ⟨True.intro,?_⟩)))))
    refine z9 ⟨_,?_,rfl⟩;rw [Try.results52];simp (disch:=omega) only [ResVars,ResVar,ptrLoc,go_sem,seval,r1,r2]
   ·rw [Bool.true_and] at h2
    (repeat (first | apply j0 | refine q8 rfl ?_ | refine z8 rfl ?_ | apply z7 | (refine x4 fun K hK => ?_) | (refine j4 fun K hK => ?_) | ((first | apply j6 | apply x7 | ((first | refine j5 (hK _ ?_) | refine x6 (hK _ _ x5 ?_));clear hK K));(first | show AWP _ _ _ _ _ | ((try simp only [j7]);first | show loopQ _ _ _ _ _ _ | show cutQ _ _ _ _ | show AWP _ _ _ _ _))) | ((first | refine q10 rfl rfl rfl ?_ | refine z10 rfl rfl rfl ?_);simp (disch:=omega) only [go_sem,seval,r1,r2];(first | refine ⟨_,c,?_⟩)) | ((first | refine x8 [] rfl ?_ | refine j8 [] rfl ?_);simp (disch:=omega) only [go_sem,seval,r1,r2];(repeat (first | refine ⟨by omega,?_⟩ | refine ⟨True.intro,?_⟩)))))
    refine ⟨⟨i + 1,by omega,h2⟩,by simp only [];omega,?_⟩
    refine Weak.list ?_ ?_;(all_goals simp (disch:=omega) only [AllF,AllL,j10,q11,x10,exists_eq_left',go_sem,seval,r1,r2]);(all_goals (repeat' (with_reducible apply And.intro)));(all_goals try (first | exact q9 rfl | (refine z11 ?_;omega) | (refine q9 ?_;simp;done)))
  ·rw [q15 (by omega)] at h2
   subst h2
   (repeat (first | apply j0 | refine q8 rfl ?_ | refine z8 rfl ?_ | apply z7 | (refine x4 fun K hK => ?_) | (refine j4 fun K hK => ?_) | ((first | apply j6 | apply x7 | ((first | refine j5 (hK _ ?_) | refine x6 (hK _ _ x5 ?_));clear hK K));(first | show AWP _ _ _ _ _ | ((try simp only [j7]);first | show loopQ _ _ _ _ _ _ | show cutQ _ _ _ _ | show AWP _ _ _ _ _))) | ((first | refine x8 [] rfl ?_ | refine j8 [] rfl ?_);simp (disch:=omega) only [go_sem,seval];(repeat (first | refine ⟨by omega,?_⟩ | refine ⟨True.intro,?_⟩)))))
   refine z9 ⟨_,?_,rfl⟩;rw [Try.results52];simp (disch:=omega) only [ResVars,ResVar,ptrLoc,go_sem,seval]
 ·rw [if_neg hn]
  have q : ((a.length : Int) != (b.length : Int)) = true := x13 (by omega)
  refine x9 Try.func52 rfl (by decide +kernel) (by rw [Try.ntmps52];simp) ?_;rw [Try.ntmps52];simp only [frOf]
  (repeat (first | apply j0 | refine q8 rfl ?_ | refine z8 rfl ?_ | apply z7 | (refine x4 fun K hK => ?_) | (refine j4 fun K hK => ?_) | ((first | apply j6 | apply x7 | ((first | refine j5 (hK _ ?_) | refine x6 (hK _ _ x5 ?_));clear hK K));(first | show AWP _ _ _ _ _ | ((try simp only [j7]);first | show loopQ _ _ _ _ _ _ | show cutQ _ _ _ _ | show AWP _ _ _ _ _))) | ((first | refine x8 [] rfl ?_ | refine j8 [] rfl ?_);simp (disch:=omega) only [go_sem,seval,q];(repeat (first | refine ⟨by omega,?_⟩ | refine ⟨True.intro,?_⟩)))))
  refine z9 ⟨_,?_,rfl⟩;rw [Try.results52];simp (disch:=omega) only [ResVars,ResVar,ptrLoc,go_sem,seval,q]
def eqfTI (a b : List (List (List Rule))) (g : FuncId) (e : List (List Rule) → List (List Rule) → Bool) (R : Bool) (s : {i : Nat // i ≤ a.length ∧ allF (fun i => e (a.getD i []) (b.getD i [])) a.length i = R}) : ASt :=
 ⟨[(17,.p (.d (.v (.int .i64 (s.val : Int))))),(16,.p (.d (.v (.int .i64 (a.length : Int))))),(15,.p (.d (.sl 1 a.length (rowTT a)))),(2,.p (.fn (.func g) [] [])),(1,.p (.d (.sl 1 a.length (rowTT b))))],[]⟩
set_option maxRecDepth 100000 in
theorem x133 (a b : List (List (List Rule))) (g : FuncId) (e : List (List Rule) → List (List Rule) → Bool) (ha : a.length ≤ 1099511627776) (hb : b.length ≤ 1099511627776) (hl : ∀ i,(a.getD i []).length ≤ 1099511627776 ∧ (b.getD i []).length ≤ 1099511627776)
  (hg : ∀ i,ACalls Try.prog g [.d (.sl 1 (a.getD i []).length (rowRR (a.getD i []))),.d (.sl 1 (b.getD i []).length (rowRR (b.getD i [])))] (· = [.d (.v (.bool (e (a.getD i []) (b.getD i []))))])) :
  ACalls Try.prog 33 [.d (.sl 1 a.length (rowTT a)),.d (.sl 1 b.length (rowTT b)),.fn (.func g) [] []] (· = [.d (.v (.bool (eqBy e [] a b)))]) := by
 unfold eqBy
 by_cases hn : a.length = b.length
 ·rw [if_pos hn,← hn]
  generalize hR : allF (fun i => e (a.getD i []) (b.getD i [])) a.length 0 = R
  have q0 : ((a.length : Int) != (a.length : Int)) = false := bne_self_eq_false _
  refine x9 Try.func33 rfl (by decide +kernel) (by rw [Try.ntmps33];simp) ?_;rw [Try.ntmps33];simp only [frOf]
  (repeat (first | apply j0 | refine q8 rfl ?_ | refine z8 rfl ?_ | apply z7 | (refine x4 fun K hK => ?_) | (refine j4 fun K hK => ?_) | ((first | apply j6 | apply x7 | ((first | refine j5 (hK _ ?_) | refine x6 (hK _ _ x5 ?_));clear hK K));(first | show AWP _ _ _ _ _ | ((try simp only [j7]);first | show loopQ _ _ _ _ _ _ | show cutQ _ _ _ _ | show AWP _ _ _ _ _))) | ((first | refine x8 [] rfl ?_ | refine j8 [] rfl ?_);simp (disch:=omega) only [go_sem,seval,q0];(repeat (first | refine ⟨by omega,?_⟩ | refine ⟨True.intro,?_⟩)))))
  refine x12 (eqfTI a b g e R) (fun s => a.length - s.val) ⟨0,Nat.zero_le _,hR⟩ ?_ (fun s => ?_)
  ·unfold eqfTI
   refine Weak.list ?_ ?_;(all_goals simp (disch:=omega) only [AllF,AllL,j10,q11,x10,exists_eq_left',go_sem,seval]);(all_goals (repeat' (with_reducible apply And.intro)));(all_goals try (first | exact q9 rfl | (refine z11 ?_;omega) | (refine q9 ?_;simp;done)))
  obtain ⟨i,h1,h2⟩ := s
  unfold eqfTI
  simp only [] at h1 h2 ⊢
  by_cases h : i < a.length
  ·rw [j14 h] at h2
   have r1 := z24 a i
   have r2 := z24 b i
   have c := hg i
   obtain ⟨l1,l2⟩ := hl i
   try simp only [] at h2
   generalize a.getD i [] = x at h2 r1 c l1
   generalize b.getD i [] = y at h2 r2 c l2
   generalize e x y = q at h2 c
   cases q
   ·rw [Bool.false_and] at h2
    subst h2
    (repeat (first | apply j0 | refine q8 rfl ?_ | refine z8 rfl ?_ | apply z7 | (refine x4 fun K hK => ?_) | (refine j4 fun K hK => ?_) | ((first | apply j6 | apply x7 | ((first | refine j5 (hK _ ?_) | refine x6 (hK _ _ x5 ?_));clear hK K));(first | show AWP _ _ _ _ _ | ((try simp only [j7]);first | show loopQ _ _ _ _ _ _ | show cutQ _ _ _ _ | show AWP _ _ _ _ _))) | ((first | refine q10 rfl rfl rfl ?_ | refine z10 rfl rfl rfl ?_);simp (disch:=omega) only [go_sem,seval,r1,r2];(first | refine ⟨_,c,?_⟩)) | ((first | refine x8 [] rfl ?_ | refine j8 [] rfl ?_);simp (disch:=omega) only [go_sem,seval,r1,r2];(repeat (first | refine ⟨by omega,?_⟩ | refine ⟨True.intro,?_⟩)))))
    refine z9 ⟨_,?_,rfl⟩;rw [Try.results33];simp (disch:=omega) only [ResVars,ResVar,ptrLoc,go_sem,seval,r1,r2]
   ·rw [Bool.true_and] at h2
    (repeat (first | apply j0 | refine q8 rfl ?_ | refine z8 rfl ?_ | apply z7 | (refine x4 fun K hK => ?_) | (refine j4 fun K hK => ?_) | ((first | apply j6 | apply x7 | ((first | refine j5 (hK _ ?_) | refine x6 (hK _ _ x5 ?_));clear hK K));(first | show AWP _ _ _ _ _ | ((try simp only [j7]);first | show loopQ _ _ _ _ _ _ | show cutQ _ _ _ _ | show AWP _ _ _ _ _))) | ((first | refine q10 rfl rfl rfl ?_ | refine z10 rfl rfl rfl ?_);simp (disch:=omega) only [go_sem,seval,r1,r2];(first | refine ⟨_,c,?_⟩)) | ((first | refine x8 [] rfl ?_ | refine j8 [] rfl ?_);simp (disch:=omega) only [go_sem,seval,r1,r2];(repeat (first | refine ⟨by omega,?_⟩ | refine ⟨True.intro,?_⟩)))))
    refine ⟨⟨i + 1,by omega,h2⟩,by simp only [];omega,?_⟩
    refine Weak.list ?_ ?_;(all_goals simp (disch:=omega) only [AllF,AllL,j10,q11,x10,exists_eq_left',go_sem,seval,r1,r2]);(all_goals (repeat' (with_reducible apply And.intro)));(all_goals try (first | exact q9 rfl | (refine z11 ?_;omega) | (refine q9 ?_;simp;done)))
  ·rw [q15 (by omega)] at h2
   subst h2
   (repeat (first | apply j0 | refine q8 rfl ?_ | refine z8 rfl ?_ | apply z7 | (refine x4 fun K hK => ?_) | (refine j4 fun K hK => ?_) | ((first | apply j6 | apply x7 | ((first | refine j5 (hK _ ?_) | refine x6 (hK _ _ x5 ?_));clear hK K));(first | show AWP _ _ _ _ _ | ((try simp only [j7]);first | show loopQ _ _ _ _ _ _ | show cutQ _ _ _ _ | show AWP _ _ _ _ _))) | ((first | refine x8 [] rfl ?_ | refine j8 [] rfl ?_);simp (disch:=omega) only [go_sem,seval];(repeat (first | refine ⟨by omega,?_⟩ | refine ⟨True.intro,?_⟩)))))
   refine z9 ⟨_,?_,rfl⟩;rw [Try.results33];simp (disch:=omega) only [ResVars,ResVar,ptrLoc,go_sem,seval]
 ·rw [if_neg hn]
  have q : ((a.length : Int) != (b.length : Int)) = true := x13 (by omega)
  refine x9 Try.func33 rfl (by decide +kernel) (by rw [Try.ntmps33];simp) ?_;rw [Try.ntmps33];simp only [frOf]
  (repeat (first | apply j0 | refine q8 rfl ?_ | refine z8 rfl ?_ | apply z7 | (refine x4 fun K hK => ?_) | (refine j4 fun K hK => ?_) | ((first | apply j6 | apply x7 | ((first | refine j5 (hK _ ?_) | refine x6 (hK _ _ x5 ?_));clear hK K));(first | show AWP _ _ _ _ _ | ((try simp only [j7]);first | show loopQ _ _ _ _ _ _ | show cutQ _ _ _ _ | show AWP _ _ _ _ _))) | ((first | refine x8 [] rfl ?_ | refine j8 [] rfl ?_);simp (disch:=omega) only [go_sem,seval,q];(repeat (first | refine ⟨by omega,?_⟩ | refine ⟨True.intro,?_⟩)))))
  refine z9 ⟨_,?_,rfl⟩;rw [Try.results33];simp (disch:=omega) only [ResVars,ResVar,ptrLoc,go_sem,seval,q]
def eqPP : List Port → List Port → Bool := eqBy (· == ·) p0
def eqRR : List Rule → List Rule → Bool := eqBy (· == ·) r0
def eqTT : List (List Rule) → List (List Rule) → Bool := eqBy eqRR []
theorem j133 (a b : List (List Port)) (ha : small a) (hb : small b) : ACalls Try.prog 30 [.d (.sl 1 a.length (rowPP a)),.d (.sl 1 b.length (rowPP b))] (· = [.d (.v (.bool (eqBy eqPP [] a b)))]) := by
 have h1 := ha.1
 have h2 := hb.1
 have l1 := j16 ha
 have l2 := j16 hb
 have c := q133 a b 51 eqPP (by omega) (by omega) (fun i => by have := l1 i;have := l2 i;omega) (fun i => x132 _ _ (by have := l1 i;omega) (by have := l2 i;omega))
 generalize eqBy eqPP [] a b = q at c
 refine x9 Try.func30 rfl (by decide +kernel) (by rw [Try.ntmps30];simp) ?_;rw [Try.ntmps30];simp only [frOf]
 (repeat (first | apply j0 | refine q8 rfl ?_ | refine z8 rfl ?_ | apply z7 | (refine x4 fun K hK => ?_) | (refine j4 fun K hK => ?_) | ((first | apply j6 | apply x7 | ((first | refine j5 (hK _ ?_) | refine x6 (hK _ _ x5 ?_));clear hK K));(first | show AWP _ _ _ _ _ | ((try simp only [j7]);first | show loopQ _ _ _ _ _ _ | show cutQ _ _ _ _ | show AWP _ _ _ _ _))) | ((first | refine q10 rfl rfl rfl ?_ | refine z10 rfl rfl rfl ?_);simp (disch:=omega) only [go_sem,seval,policyD,topoD,configD];(first | refine ⟨_,c,?_⟩)) | ((first | refine x8 [] rfl ?_ | refine j8 [] rfl ?_);simp (disch:=omega) only [go_sem,seval,policyD,topoD,configD];(repeat (first | refine ⟨by omega,?_⟩ | refine ⟨True.intro,?_⟩)))))
 refine z9 ⟨_,?_,rfl⟩;rw [Try.results30];simp (disch:=omega) only [ResVars,ResVar,ptrLoc,go_sem,seval,policyD,topoD,configD]
theorem q134 (a b : List (List Rule)) (ha : smallR a) (hb : smallR b) : ACalls Try.prog 34 [.d (.sl 1 a.length (rowRR a)),.d (.sl 1 b.length (rowRR b))] (· = [.d (.v (.bool (eqTT a b)))]) := by
 have h1 := ha.1
 have h2 := hb.1
 have l1 := q23 ha
 have l2 := q23 hb
 have c := z133 a b 53 eqRR (by omega) (by omega) (fun i => by have := l1 i;have := l2 i;omega) (fun i => j132 _ _ (by have := l1 i;omega) (by have := l2 i;omega))
 rw [show eqBy eqRR [] a b = eqTT a b from rfl] at c
 generalize eqTT a b = q at c
 refine x9 Try.func34 rfl (by decide +kernel) (by rw [Try.ntmps34];simp) ?_;rw [Try.ntmps34];simp only [frOf]
 (repeat (first | apply j0 | refine q8 rfl ?_ | refine z8 rfl ?_ | apply z7 | (refine x4 fun K hK => ?_) | (refine j4 fun K hK => ?_) | ((first | apply j6 | apply x7 | ((first | refine j5 (hK _ ?_) | refine x6 (hK _ _ x5 ?_));clear hK K));(first | show AWP _ _ _ _ _ | ((try simp only [j7]);first | show loopQ _ _ _ _ _ _ | show cutQ _ _ _ _ | show AWP _ _ _ _ _))) | ((first | refine q10 rfl rfl rfl ?_ | refine z10 rfl rfl rfl ?_);simp (disch:=omega) only [go_sem,seval,policyD,topoD,configD];(first | refine ⟨_,c,?_⟩)) | ((first | refine x8 [] rfl ?_ | refine j8 [] rfl ?_);simp (disch:=omega) only [go_sem,seval,policyD,topoD,configD];(repeat (first | refine ⟨by omega,?_⟩ | refine ⟨True.intro,?_⟩)))))
 refine z9 ⟨_,?_,rfl⟩;rw [Try.results34];simp (disch:=omega) only [ResVars,ResVar,ptrLoc,go_sem,seval,policyD,topoD,configD]
def sameC (a b : Config) : Bool := eqBy eqPP [] a.tp b.tp && a.po.tn == b.po.tn && eqBy (· == ·) (0,0) a.po.peers b.po.peers && eqBy (· == ·) w0 a.po.ways b.po.ways && eqBy eqTT [] a.tb b.tb
set_option maxRecDepth 100000 in
theorem j60 (a b : Config) (ha : a.small) (hb : b.small) : ACalls Try.prog 9 [.agg (configD a),.agg (configD b)] (· = [.d (.v (.bool (sameC a b)))]) := by
 have c1 := j133 a.tp b.tp ha.tp hb.tp
 have c2 := q132 a.po.peers b.po.peers ha.po.1 hb.po.1
 have c3 := z132 a.po.ways b.po.ways ha.po.2 hb.po.2
 have t1 := ha.tb
 have t2 := hb.tb
 have c4 := x133 a.tb b.tb 34 eqTT (by omega) (by omega) (fun i => by have := (ha.at i).1;have := (hb.at i).1;omega) (fun i => q134 _ _ (ha.at i) (hb.at i))
 unfold sameC
 generalize eqBy eqPP [] a.tp b.tp = q1 at c1
 generalize hq2 : (a.po.tn == b.po.tn) = q2
 generalize eqBy (· == ·) (0,0) a.po.peers b.po.peers = q3 at c2
 generalize eqBy (· == ·) w0 a.po.ways b.po.ways = q4 at c3
 generalize eqBy eqTT [] a.tb b.tb = q5 at c4
 rcases q126 q1 q2 q3 q4 with rfl | ⟨rfl,rfl⟩ | ⟨rfl,rfl,rfl⟩ | ⟨rfl,rfl,rfl,rfl⟩ | ⟨rfl,rfl,rfl,rfl⟩
 all_goals
  simp only [Bool.false_and,Bool.true_and,Bool.and_false]
  refine x9 Try.func9 rfl (by decide +kernel) (by rw [Try.ntmps9];simp) ?_;rw [Try.ntmps9];simp only [frOf]
  (repeat (first | apply j0 | refine q8 rfl ?_ | refine z8 rfl ?_ | apply z7 | (refine x4 fun K hK => ?_) | (refine j4 fun K hK => ?_) | ((first | apply j6 | apply x7 | ((first | refine j5 (hK _ ?_) | refine x6 (hK _ _ x5 ?_));clear hK K));(first | show AWP _ _ _ _ _ | ((try simp only [j7]);first | show loopQ _ _ _ _ _ _ | show cutQ _ _ _ _ | show AWP _ _ _ _ _))) | ((first | refine q10 rfl rfl rfl ?_ | refine z10 rfl rfl rfl ?_);simp (disch:=omega) only [go_sem,seval,policyD,topoD,configD,hq2];(first | refine ⟨_,c1,?_⟩ | refine ⟨_,c2,?_⟩ | refine ⟨_,c3,?_⟩ | refine ⟨_,c4,?_⟩)) | ((first | refine x8 [] rfl ?_ | refine j8 [] rfl ?_);simp (disch:=omega) only [go_sem,seval,policyD,topoD,configD,hq2];(repeat (first | refine ⟨by omega,?_⟩ | refine ⟨True.intro,?_⟩)))))
  refine z9 ⟨_,?_,rfl⟩;rw [Try.results9];simp (disch:=omega) only [ResVars,ResVar,ptrLoc,go_sem,seval,policyD,topoD,configD,hq2]
theorem j87 (l : List (List (List Rule))) (i : Nat) (hi : i < l.length) (k : Nat) (hk : k < i + 1) : catF i (rowTT l) (fun j => [[Dat.sl 1 (l.getD i []).length (rowRR (l.getD i []))]].getD j []) k = rowTT l k := by
 unfold catF
 split
 ·rfl
 ·have : k = i := by omega
  subst this
  rw [Nat.sub_self];rfl
def cloneI (c : Config) (i : Fin (c.tb.length + 1)) : ASt :=
 ⟨[(29,.p (.d (.v (.int .i64 (i.val : Int))))),(28,.p (.d (.v (.int .i64 (c.tb.length : Int))))),(27,.p (.d (.sl 1 c.tb.length (rowTT c.tb)))),(3,.gr 3 i.val 1 i.val (rowTT c.tb)),(2,.loc 2 0),(1,.loc 1 0)],
  [(3,.grow 34 1 i.val i.val),(2,.cells 31 [.p (.d (.v (.slice none 0 0))),.p (.d (.v (.int .i64 0))),.p (.d (.v (.slice none 0 0))),.p (.d (.v (.slice none 0 0))),.p (.d (.v (.slice none 0 0)))]),(1,.cells 31 [.p (.d (.sl 1 c.tp.length (rowPP c.tp))),.p (.d (.v (.int .i64 c.po.tn))),.p (.d (.sl 2 c.po.peers.length (rowA c.po.peers))),.p (.d (.sl 3 c.po.ways.length (rowW c.po.ways))),.p (.d (.sl 1 c.tb.length (rowTT c.tb)))])]⟩
set_option maxRecDepth 100000 in
theorem z134 (c : Config) (hc : c.small) : ACalls Try.prog 7 [.agg (configD c)] (· = [.agg (configD c)]) := by
 have c1 := deepP_c c.tp hc.tp
 have c2 := q60 c.po.peers.length (rowA c.po.peers) hc.po.1
 have c3 := j59 c.po.peers.length (rowA c.po.peers) hc.po.1
 have c4 := x60 c.po.ways.length (rowW c.po.ways) hc.po.2
 have c5 := z60 c.po.ways.length (rowW c.po.ways) hc.po.2
 have t1 := hc.tb
 have c6 := z86 c.tb.length (rowTT c.tb) (by omega)
 have hat := hc.at
 refine x9 Try.func7 rfl (by decide +kernel) (by rw [Try.ntmps7];simp) ?_;rw [Try.ntmps7];simp only [frOf]
 (repeat ((fail_if_success (show AWP _ _ (.region 4 _ _) _ _));first | apply j0 | refine q8 rfl ?_ | refine z8 rfl ?_ | apply z7 | (refine x4 fun K hK => ?_) | (refine j4 fun K hK => ?_) | ((first | apply j6 | apply x7 | ((first | refine j5 (hK _ ?_) | refine x6 (hK _ _ x5 ?_));clear hK K));(first | show AWP _ _ _ _ _ | ((try simp only [j7]);first | show loopQ _ _ _ _ _ _ | show cutQ _ _ _ _ | show AWP _ _ _ _ _))) | ((first | refine q10 rfl rfl rfl ?_ | refine z10 rfl rfl rfl ?_);simp (disch:=omega) only [go_sem,seval,policyD,topoD,configD];(first | refine ⟨_,c1,?_⟩ | refine ⟨_,c2,?_⟩ | refine ⟨_,c3,?_⟩ | refine ⟨_,c4,?_⟩ | refine ⟨_,c5,?_⟩)) | ((first | refine x8 [1] rfl ?_ | refine j8 [1] rfl ?_);simp (disch:=omega) only [go_sem,seval,policyD,topoD,configD];(repeat (first | refine ⟨by omega,?_⟩ | refine ⟨True.intro,?_⟩)))))
 refine q28 3 3 1 34 (rowTT c.tb) rfl (by kernel_rfl) rfl ?_
 (repeat (first | apply j0 | refine q8 rfl ?_ | refine z8 rfl ?_ | apply z7 | (refine x4 fun K hK => ?_) | (refine j4 fun K hK => ?_) | ((first | apply j6 | apply x7 | ((first | refine j5 (hK _ ?_) | refine x6 (hK _ _ x5 ?_));clear hK K));(first | show AWP _ _ _ _ _ | ((try simp only [j7]);first | show loopQ _ _ _ _ _ _ | show cutQ _ _ _ _ | show AWP _ _ _ _ _))) | ((first | refine x8 [1] rfl ?_ | refine j8 [1] rfl ?_);simp (disch:=omega) only [go_sem,seval,policyD,topoD,configD];(repeat (first | refine ⟨by omega,?_⟩ | refine ⟨True.intro,?_⟩)))))
 refine x12 (cloneI c) (fun s => c.tb.length - s.val) ⟨0,by omega⟩ ?_ (fun s => ?_)
 ·unfold cloneI
  refine Weak.list ?_ ?_;(all_goals simp (disch:=omega) only [AllF,AllL,j10,q11,x10,exists_eq_left',go_sem,seval,policyD,topoD,configD]);(all_goals (repeat' (with_reducible apply And.intro)));(all_goals try (first | exact q9 rfl | (refine z11 ?_;omega) | (refine q9 ?_;simp;done)))
 obtain ⟨i,hi⟩ := s
 unfold cloneI
 by_cases h : i < c.tb.length
 ·have r1 := z24 c.tb i
  have hb := hat i
  have pt := j87 c.tb i h
  generalize c.tb.getD i [] = x at r1 hb pt
  have d1 := deepR_c x hb
  have hx := hb.1
  (repeat (first | apply j0 | refine q8 rfl ?_ | refine z8 rfl ?_ | apply z7 | (refine x4 fun K hK => ?_) | (refine j4 fun K hK => ?_) | ((first | apply j6 | apply x7 | ((first | refine j5 (hK _ ?_) | refine x6 (hK _ _ x5 ?_));clear hK K));(first | show AWP _ _ _ _ _ | ((try simp only [j7]);first | show loopQ _ _ _ _ _ _ | show cutQ _ _ _ _ | show AWP _ _ _ _ _))) | ((first | refine q10 rfl rfl rfl ?_ | refine z10 rfl rfl rfl ?_);simp (disch:=omega) only [go_sem,seval,policyD,topoD,configD,r1];(first | refine ⟨_,d1,?_⟩)) | ((first | refine x8 [1] rfl ?_ | refine j8 [1] rfl ?_);simp (disch:=omega) only [go_sem,seval,policyD,topoD,configD,r1];(repeat (first | refine ⟨by omega,?_⟩ | refine ⟨True.intro,?_⟩)))))
  refine ⟨⟨i + 1,by omega⟩,by simp only [];omega,?_⟩
  refine Weak.list ?_ ?_;(all_goals simp (disch:=omega) only [AllF,AllL,j10,q11,x10,exists_eq_left',go_sem,seval,policyD,topoD,configD,r1]);(all_goals (repeat' (with_reducible apply And.intro)));(all_goals try (first | exact q9 rfl | (refine z11 ?_;omega) | (refine q9 ?_;simp;done)))
  exact j19 rfl rfl (fun k hk => pt k hk)
 ·have : i = c.tb.length := by omega
  subst this
  (repeat (first | apply j0 | refine q8 rfl ?_ | refine z8 rfl ?_ | apply z7 | (refine x4 fun K hK => ?_) | (refine j4 fun K hK => ?_) | ((first | apply j6 | apply x7 | ((first | refine j5 (hK _ ?_) | refine x6 (hK _ _ x5 ?_));clear hK K));(first | show AWP _ _ _ _ _ | ((try simp only [j7]);first | show loopQ _ _ _ _ _ _ | show cutQ _ _ _ _ | show AWP _ _ _ _ _))) | ((first | refine q10 rfl rfl rfl ?_ | refine z10 rfl rfl rfl ?_);simp (disch:=omega) only [go_sem,seval,policyD,topoD,configD];(first | refine ⟨_,c6,?_⟩)) | ((first | refine x8 [1] rfl ?_ | refine j8 [1] rfl ?_);simp (disch:=omega) only [go_sem,seval,policyD,topoD,configD];(repeat (first | refine ⟨by omega,?_⟩ | refine ⟨True.intro,?_⟩)))))
  refine z9 ⟨_,?_,rfl⟩;rw [Try.results7];simp (disch:=omega) only [ResVars,ResVar,ptrLoc,go_sem,seval,policyD,topoD,configD]
end Go.Proofs.Ytjfammnjpeeahaa
namespace Go.Proofs.Ytjfammnjpeeahaa.AL
open Go
def LLes (M M2 : List (Nat × LV)) : Prop := ∀ l X2,look M2 l = some X2 → ∃ X,look M l = some X ∧ LLe X X2
theorem LLes.nil (M : List (Nat × LV)) : LLes M [] := fun l X2 h => by simp [look] at h
theorem LLes.cons {M M2 : List (Nat × LV)} {l : Nat} {X X2 : LV} (h : look M l = some X) (hl : LLe X X2) (t : LLes M M2) : LLes M ((l,X2) :: M2) := fun k Y hk => by
 simp only [look] at hk
 split at hk
 ·rename_i e;subst e;cases hk;exact ⟨X,h,hl⟩
 ·exact t k Y hk
theorem LLe.refl (X : LV) : LLe X X := of_eq_true (x10 X)
theorem MCalls.out {P : Program} {f : FuncId} {xs : List AV} {L M M2 : List (Nat × LV)} {rs : List AV} (h : MCalls P f xs L (fun r M' => r = rs ∧ M' = M)) (hM : LLes M M2) : MCalls P f xs L (fun r M' => r = rs ∧ M' = M2) := by
 intro w g vs hz hr hl
 have key := h w g vs hz hr hl
 have fin : ∀ v w',(∃ h' r M',(r = rs ∧ M' = M) ∧ RelRA w' h' v r ∧ LocsOK (fun _ => True) w' h' M' ∧ Chg L M' w g w' h') → ∃ h' r M',(r = rs ∧ M' = M2) ∧ RelRA w' h' v r ∧ LocsOK (fun _ => True) w' h' M' ∧ Chg L M' w g w' h' := by
  rintro v w' ⟨h',r,M',⟨rfl,rfl⟩,h1,h2,h3⟩
  refine ⟨h',_,M2,⟨rfl,rfl⟩,h1,⟨fun l X2 hX => ?_,fun l l' X X' b hne e1 e2 hb hb' => ?_⟩,⟨h3.below,h3.gam,h3.gz,h3.keep,h3.ρ,h3.up,fun b hb => ?_⟩⟩
  ·obtain ⟨X,e1,e2⟩ := hM l X2 hX
   exact (j27 e2 (h2.1 l X e1)).1
  ·obtain ⟨Y,y1,y2⟩ := hM l X e1
   obtain ⟨Y',z1,z2⟩ := hM l' X' e2
   rw [(j27 y2 (h2.1 l Y y1)).2] at hb
   rw [(j27 z2 (h2.1 l' Y' z1)).2] at hb'
   exact h2.2 l l' Y Y' b hne y1 z1 hb hb'
  ·obtain ⟨l,X2,e1,e2⟩ := hb
   obtain ⟨Y,y1,y2⟩ := hM l X2 e1
   rw [(j27 y2 (h2.1 l Y y1)).2] at e2
   exact h3.own b ⟨l,Y,y1,e2⟩
 unfold CallRes at *
 split at key
 ·exact key.mono fun e w' ⟨v,he,hh⟩ => ⟨v,he,fin v w' hh⟩
 ·exact fin _ _ key
 ·exact key.elim
end Go.Proofs.Ytjfammnjpeeahaa.AL
namespace Go.Proofs.Ytjfammnjpeeahaa.AL
variable {P : Program} {nt : Nat} {Q : Exit → ASt → Prop} {A : ASt}
def cutQ {ι : Type} (I : ι → ASt) (Q : Exit → ASt → Prop) : Exit → ASt → Prop
 | .normal,A => ∃ i,Weak A (I i)
 | e,A => Q e A
theorem q39 {ι : Type} {I : ι → ASt} {Q : Exit → ASt → Prop} {A : ASt} (i : ι) (h : Weak A (I i)) : cutQ I Q .normal A := ⟨i,h⟩
theorem awp_cut {ι : Type} (I : ι → ASt) {x y : Code} (hx : AWP P nt x (cutQ I Q) A) (hy : ∀ i,AWP P nt y Q (I i)) : AWP P nt (.seq x y) Q A := by
 refine j0 (x54 hx fun e A' h => ?_)
 cases e with
 | normal => obtain ⟨i,hw⟩ := h;exact j21 hw (hy i)
 | _ => exact h
theorem awp_to {ι : Type} (I : ι → ASt) {x z : Code} (h1 : AWP P nt x (cutQ I Q) A) (h2 : ∀ i,AWP P nt z Q (I i)) : AWP P nt x (seqQ P nt z Q) A := by
 refine x54 h1 fun e A' h => ?_
 cases e with
 | normal => obtain ⟨i,hw⟩ := h;exact j21 hw (h2 i)
 | _ => exact h
attribute [irreducible] cutQ
theorem q61 {α : Type} {M : List (Nat × α)} : ∀ {L : List (Nat × α)},(∀ p ∈ L,look M p.1 = some p.2) → ∀ l X,look L l = some X → look M l = some X
 | [],_,l,X,h => by cases h
 |p :: r,hl,l,X,h => by
  simp only [look] at h
  split at h
  ·rename_i e;subst e;cases h;exact hl p (by simp)
  ·exact q61 (fun q hq => hl q (by simp [hq])) l X h
theorem retM_of {fn : Func} {Q : List AV → List (Nat × LV) → Prop} (rs : List AV) (L : List (Nat × LV)) (hr : ResVarsA P A fn.results.toList rs) (hl : ∀ p ∈ L,look A.locs p.1 = some p.2) (hq : Q rs L) : retM P fn Q .ret A :=
 ⟨rs,L,hr,q61 hl,hq⟩
theorem x134 {fn : Func} {Q : List AV → List (Nat × LV) → Prop} (rs : List AV) (L : List (Nat × LV)) (hr : ResVarsA P A fn.results.toList rs) (hl : ∀ p ∈ L,look A.locs p.1 = some p.2) (hq : Q rs L) : retM P fn Q .normal A :=
 ⟨rs,L,hr,q61 hl,hq⟩
inductive LesD : List AV → List AV → Prop
 | nil : LesD [] []
 | cons {x y : AV} {xs ys : List AV} (h : Le x y) (t : LesD xs ys) : LesD (x :: xs) (y :: ys)
theorem q47 {e : TypeId} {cs cs' : List AV} (h : LesD cs cs') : LLe (.cells e cs) (.cells e cs') := by
 refine ⟨rfl,?_,?_⟩
 ·induction h with
  | nil => rfl
  | cons _ _ ih => simp [ih]
 ·induction h with
  | nil => intro i x y h1;simp at h1
  |cons h t ih =>
   intro i x y h1 h2
   cases i with
   | zero => simp at h1 h2;subst h1;subst h2;exact h
   | succ i => exact ih i x y (by simpa using h1) (by simpa using h2)
end Go.Proofs.Ytjfammnjpeeahaa.AL
namespace Go.Proofs.Ytjfammnjpeeahaa.AL
open Go.RowKit
variable {P : Program}
def WeakX (A : ASt) (S : ASt → Prop) : Prop := ∀ (w0 : Base) (g0 : Nat → Nat) (nt : Nat) (h : Gh) (a : Act) (w : World),Rel w0 g0 nt A h a w → ∃ A' h',S A' ∧ Rel w0 g0 nt A' h' a w
theorem q26 {nt : Nat} {c : Code} {Q : Exit → ASt → Prop} {A : ASt} {S : ASt → Prop} (hw : WeakX A S) (h : ∀ A',S A' → AWP P nt c Q A') : AWP P nt c Q A := by
 rw [q55]
 intro w0 g0 h' a w r
 obtain ⟨A',h2,hs,r'⟩ := hw w0 g0 nt h' a w r
 exact q55.1 (h A' hs) w0 g0 h2 a w r'
theorem z47 {nt : Nat} {ops : Array Oper} {o : Oper} {rest : List Oper} {A : ASt} {K : ASt → Prop} {S : ASt → Prop} (hw : WeakX A S) (h : ∀ A',S A' → walkS P nt ops (o :: rest) A' K) : walkS P nt ops (o :: rest) A K := by
 rw [q75]
 refine ⟨fun B => walkS P nt ops rest B K,fun w0 g0 h' a w r K' Q hn => ?_,fun _ hk => hk⟩
 obtain ⟨A',h2,hs,r'⟩ := hw w0 g0 nt h' a w r
 obtain ⟨S1,hd,hk⟩ := q75.1 (h A' hs)
 exact hd w0 g0 h2 a w r' K' Q fun A1 a' w' h3 e hr => hn A1 a' w' h3 (hk A1 e) hr
def noM : Nat → Option Ent := fun _ => none
theorem Weak.arena (A : ASt) (hn : look A.locs 1999 = none) : Weak A ⟨A.fr,(1999,.raw noM) :: A.locs⟩ := by
 intro w0 g0 nt h a w r
 have hin : ∀ b,¬ inB h 1999 (.raw noM) b := fun b hb => hb rfl
 refine ⟨h,r.size,r.defers,r.fr,fun l L hL => ?_,fun l l' L L' b hne hL hL' hb hb' => ?_,r.ext,r.pin⟩
 ·simp only [look] at hL
  split at hL
  ·rename_i e;subst e;cases hL;intro b E hb;cases hb
  ·exact r.locs l L hL
 ·simp only [look] at hL hL'
  split at hL
  ·rename_i e;subst e;cases hL;exact hin b hb
  ·split at hL'
   ·rename_i e;subst e;cases hL';exact hin b hb'
   ·exact r.sep l l' L L' b hne hL hL' hb hb'
theorem j134 {nt : Nat} {c : Code} {Q : Exit → ASt → Prop} {A : ASt} (hn : look A.locs 1999 = none) (h : AWP P nt c Q ⟨A.fr,(1999,.raw noM) :: A.locs⟩) : AWP P nt c Q A := j21 (Weak.arena A hn) h
def PackR (M : Nat → Option Ent) (e : TypeId) (sz n : Nat) (f : Nat → List Dat) (v : Value) (M' : Nat → Option Ent) : Prop :=
 (n = 0 ∧ v = .slice none 0 0 ∧ M' = M) ∨ ∃ b c,n ≤ c ∧ M b = none ∧ v = .slice (some ⟨b,0,none⟩) n c ∧ M' = setM M b (some ⟨e,sz,c,n,f⟩)
theorem x47 {l : Nat} {L : List (Nat × LV)} {k : Nat} {X : LV} (h : look (dropL l L) k = some X) : k ≠ l ∧ look L k = some X := by
 rw [x15] at h
 split at h
 ·cases h
 ·exact ⟨‹_›,h⟩
theorem Rel.into {w0 : Base} {g0 : Nat → Nat} {nt : Nat} {A : ASt} {h : Gh} {a : Act} {w : World} (r : Rel w0 g0 nt A h a w) {l b : Nat} {X : LV} {M : Nat → Option Ent} {E : Ent} {fr : List (Nat × AV)}
  (hl : look A.locs l = some X) (hM : look A.locs 1999 = some (.raw M)) (hne : l ≠ 1999) (hb : inB h l X b) (hO : w0.O b) (hE : EntOK w h.g b E) (hg : h.g b = 0)
  (hfr : ∀ t x,look fr t = some x → RelA w h (a.tmps.getD t undef) x) : M b = none ∧ Rel w0 g0 nt ⟨fr,(1999,.raw (setM M b (some E))) :: dropL l A.locs⟩ h a w := by
 have hMb : M b = none := by
  have := r.sep l 1999 X _ b hne hl hM hb
  simp only [inB] at this
  exact Classical.byContradiction fun e => this e
 have old : ∀ k L,look ((1999,LV.raw (setM M b (some E))) :: dropL l A.locs) k = some L → (k = 1999 ∧ L = .raw (setM M b (some E))) ∨ (k ≠ 1999 ∧ k ≠ l ∧ look A.locs k = some L) := by
  intro k L hk
  simp only [look] at hk
  split at hk
  ·rename_i e;cases hk;exact .inl ⟨e.symm,rfl⟩
  ·rename_i e
   obtain ⟨k1,k2⟩ := x47 hk
   exact .inr ⟨fun e' => e e'.symm,k1,k2⟩
 have hin : ∀ b',inB h 1999 (.raw (setM M b (some E))) b' → b' = b ∨ inB h 1999 (.raw M) b' := by
  intro b' hb'
  simp only [inB,setM] at hb' ⊢
  split at hb'
  ·exact .inl ‹_›
  ·exact .inr hb'
 refine ⟨hMb,r.size,r.defers,hfr,fun k L hk => ?_,fun k k' L L' b' hkk hk hk' hb1 hb2 => ?_,r.ext,r.pin⟩
 ·rcases old k L hk with ⟨rfl,rfl⟩ | ⟨_,_,h3⟩
  ·intro b' E' hE'
   simp only [setM] at hE'
   split at hE'
   ·rename_i e;subst e;cases hE';exact ⟨hO,hE,hg⟩
   ·exact r.locs 1999 _ hM b' E' hE'
  ·exact r.locs k L h3
 ·rcases old k L hk with ⟨rfl,rfl⟩ | ⟨n1,n2,h3⟩ <;> rcases old k' L' hk' with ⟨rfl,rfl⟩ | ⟨n1',n2',h3'⟩
  ·exact hkk rfl
  ·rcases hin b' hb1 with rfl | hb1
   ·exact r.sep l k' X L' b' (fun e => n2' e.symm) hl h3' hb hb2
   ·exact r.sep 1999 k' _ L' b' (fun e => n1' e.symm) hM h3' hb1 hb2
  ·rcases hin b' hb2 with rfl | hb2
   ·exact r.sep l k X L b' (fun e => n2 e.symm) hl h3 hb hb1
   ·exact r.sep 1999 k _ L b' (fun e => n1 e.symm) hM h3 hb2 hb1
  ·exact r.sep k k' L L' b' hkk h3 h3' hb1 hb2
theorem WeakX.packRow (A : ASt) (t l gen sz n : Nat) (e : TypeId) (f : Nat → List Dat) (M : Nat → Option Ent) (ht : look A.fr t = some (.ow l gen sz n)) (hl : look A.locs l = some (.own e sz n gen f)) (hM : look A.locs 1999 = some (.raw M)) (hne : l ≠ 1999) :
  WeakX A (fun A' => ∃ v M',PackR M e sz n f v M' ∧ A' = ⟨(t,.p (.d (.v v))) :: A.fr,(1999,.raw M') :: dropL l A.locs⟩) := by
 intro w0 g0 nt h a w r
 have hL := r.locs l _ hl
 obtain ⟨q1,⟨va,vc,q2,q2'⟩,q3⟩ := r.fr t _ ht
 have hv := q3 hL.1
 have hfr : ∀ v,a.tmps.getD t undef = v → v.oneCell' = true → ∀ u y,look ((t,AV.p (.d (.v v))) :: A.fr) u = some y → RelA w h (a.tmps.getD u undef) y := by
  intro v hv h1 u y hy
  simp only [look] at hy
  split at hy
  ·rename_i e;subst e;cases hy;rw [hv];exact q14 h1
  ·exact r.fr u y hy
 by_cases hn : (h.κ l).ownBlock = none
 ·obtain ⟨n0,hk⟩ : n = 0 ∧ h.κ l = .slice none 0 0 := by
   obtain ⟨_,⟨xs,⟨_,⟨h0,h1⟩ | ⟨gb,cap,cur,h0,_⟩⟩,_⟩,_⟩ := hL
   ·exact ⟨h1,h0⟩
   ·rw [h0] at hn;simp [Value.ownBlock] at hn
  subst n0
  refine ⟨_,h,⟨.slice none 0 0,M,.inl ⟨rfl,rfl,rfl⟩,rfl⟩,r.size,r.defers,hfr _ (hv.trans hk) rfl,fun k L hk => ?_,fun k k' L L' b' hkk hk hk' => ?_,r.ext,r.pin⟩
  ·simp only [look] at hk
   split at hk
   ·rename_i e;subst e;cases hk;exact r.locs 1999 _ hM
   ·exact r.locs k L (x47 hk).2
  ·have old : ∀ k L,look ((1999,LV.raw M) :: dropL l A.locs) k = some L → look A.locs k = some L := by
    intro k L hk
    simp only [look] at hk
    split at hk
    ·rename_i e;subst e;cases hk;exact hM
    ·exact (x47 hk).2
   exact r.sep k k' L L' b' hkk (old k L hk) (old k' L' hk')
 ·obtain ⟨b,hb⟩ := Option.ne_none_iff_exists'.1 hn
  obtain ⟨cap,cur,c1,c2,c3,c4,c5,c6,c7,c8⟩ := x36 hL hb
  obtain ⟨m1,m2⟩ := r.into hl hM hne (E := ⟨e,sz,cap,n,f⟩) (b := b) (by simp [inB,hb]) c7 ⟨cur,c2,c5,c3,c4,c8⟩ c6 (hfr _ (hv.trans c1) rfl)
  exact ⟨_,h,⟨_,_,.inr ⟨b,cap,c3,m1,rfl,rfl⟩,rfl⟩,m2⟩
end Go.Proofs.Ytjfammnjpeeahaa.AL
namespace Go.Proofs.Ytjfammnjpeeahaa.AL
open Go.RowKit
variable {P : Program}
def RCalls (P : Program) (f : FuncId) (xs : List AV) (L : List (Nat × LV)) (x : AV) : Prop :=
 ∀ (w : World) (h : Gh) (vs : List Value),GZ w h.g → RelAs w h vs xs → LocsOK (fun _ => True) w h L →
  CallRes P (fun v w' => ∃ g',Ext w h.g w' g' ∧ RelA w' { h with g := g' } v x) ((callFunc f vs.toArray).run P w)
theorem q135 {w w' : World} {h : Gh} {g' : Nat → Nat} {B : Nat → Prop} (hz : GZ w h.g) (hB : NewIn B w) (he : Ext w h.g w' g') (own : Nat → Prop) : Trans B w h w' { h with g := g' } own none false :=
 Trans.same he.belowS (fun b hb => ⟨he.below.block b hb,he.gam b hb⟩) hz he.gz hB _
def rdOK (sg : List (Nat × Nat)) (rd : List Nat) (LA : List (Nat × LV)) : List (Nat × LV) → Prop
 | [] => True
 | p :: r => rd.contains (sub sg p.1) = true ∧ look LA (sub sg p.1) = some (p.2.ren (sub sg)) ∧ back sg (sub sg p.1) = some p.1 ∧ rdOK sg rd LA r
theorem j47 {sg : List (Nat × Nat)} {rd : List Nat} {LA : List (Nat × LV)} : ∀ {L : List (Nat × LV)},rdOK sg rd LA L → ∀ l X,look L l = some X → rd.contains (sub sg l) = true ∧ look LA (sub sg l) = some (X.ren (sub sg)) ∧ back sg (sub sg l) = some l
 |p :: r,h,l,X,hX => by
  simp only [look] at hX
  split at hX
  ·rename_i e;subst e;cases hX;exact ⟨h.1,h.2.1,h.2.2.1⟩
  ·exact j47 h.2.2.2 l X hX
theorem z135 {o : Oper} {c : Call} {f : Operand} (ho : o.op = .call c) (hc : c.callee = .value f) {x0 x : AV} {g : FuncId} {pre post : List CV} (hx : calleeC x0 = some (g,pre,post)) {zs xs : List AV} (sg : List (Nat × Nat))
  (hargs : pre.map CV.av ++ zs ++ post.map CV.av = xs.map (AV.ren (sub sg))) {L : List (Nat × LV)} (hcall : RCalls P g xs L x) {rd : List Nat} {LA : List (Nat × LV)} (hrd : rdOK sg rd LA L) : OpR P o (x0 :: zs) rd LA (x.ren (sub sg)) := by
 intro B w h a next Q hB hz hr hL hS hn
 have hops : o.op.operands.toList.map a.eval = a.eval f :: c.args.toList.map a.eval := by simp [ho,Op.operands,Call.operands,hc]
 rw [hops] at hr
 have hf := hr.2 0 (a.eval f) x0 rfl rfl
 have hev : RelAs w h (c.args.toList.map a.eval) zs := hr.tail
 obtain ⟨vs,hvs,hrun⟩ := q58 (P := P) ho hc hx hf hev
 rw [hargs] at hvs
 let hσ := h.ren (sub sg)
 have hvs' : RelAs w hσ vs xs := by
  refine ⟨by have := hvs.1;simpa using this,fun j v y hv hyj => ?_⟩
  exact j23.1 (hvs.2 j v _ hv (by rw [List.getElem?_map,hyj];rfl))
 have hlocs : LocsOK (fun _ => True) w hσ L := by
  refine ⟨fun l X hX => ?_,fun l l' X X' b hne h1 h2 hb hb' => ?_⟩
  ·obtain ⟨k1,k2,_⟩ := j47 hrd l X hX
   exact z32 (z45.1 (hL _ k1 _ k2)) fun _ _ => trivial
  ·obtain ⟨k1,k2,k3⟩ := j47 hrd l X h1
   obtain ⟨m1,m2,m3⟩ := j47 hrd l' X' h2
   rw [← x32] at hb hb'
   exact hS _ _ k1 m1 (fun e => hne (by rw [e,m3] at k3;cases k3;rfl)) _ _ b k2 m2 hb hb'
 have key := hcall w hσ vs hz hvs' hlocs
 have fin : ∀ v w',(∃ g',Ext w hσ.g w' g' ∧ RelA w' { hσ with g := g' } v x) → next (a.put o.dst v) w' := by
  rintro v w' ⟨g',he,hR⟩
  exact hn v w' { h with g := g' } (j23.2 hR) (q135 hz hB he _)
 unfold Oper.wp
 rw [hrun]
 unfold CallRes at key
 split at key
 ·rename_i f' args w1 hrr
  rw [hrr]
  show Calls P f' args w1 _
  refine key.mono fun e w' ⟨v,he,hR⟩ => ?_
  subst he
  exact fin v w' hR
 ·rename_i v w1 hrr
  rw [hrr]
  exact fin v w1 key
 ·exact key.elim
theorem z33 {nt : Nat} {ops : Array Oper} {K : ASt → List Done → Prop} {o : Oper} {rest : List Oper} {A : ASt} {tr : List Done} {c : Call} {f : Operand} {g : FuncId} {pre post : List CV} {xs : List AV} {L : List (Nat × LV)} {x : AV}
  (sg : List (Nat × Nat)) (rd : List Nat) (hd : dstOK nt o = true) (hw : wantedA ops o A = some true) (ho : o.op = .call c) (hc : c.callee = .value f) (hx : calleeC (A.eval f) = some (g,pre,post))
  (hargs : pre.map CV.av ++ c.args.toList.map A.eval ++ post.map CV.av = xs.map (AV.ren (sub sg))) (hcall : RCalls P g xs L x) (hrd : rdOK sg rd A.locs L)
  (hk : walkD P nt ops K rest (A.apply o.dst { val := x.ren (sub sg) }) (⟨o,none,{ val := x.ren (sub sg) },rd⟩ :: tr)) : walkD P nt ops K (o :: rest) A tr := by
 refine j116 hd hw ?_ hk
 have hops : o.op.operands.toList.map A.eval = A.eval f :: c.args.toList.map A.eval := by simp [ho,Op.operands,Call.operands,hc]
 rw [hops]
 exact z135 ho hc hx sg hargs hcall hrd
inductive XAV : AV → Prop
 | is (u : Value) : XAV (.is (· = u))
 | mp (l : Nat) : XAV (.mp l)
theorem XAV.same {x : AV} (hx : XAV x) {w w' : World} {h h' : Gh} (hρ : ∀ l ∈ x.mentions,h'.ρ l = h.ρ l) {v v' : Value} (r : RelA w h v x) (r' : RelA w' h' v' x) : v' = v := by
 cases hx with
 | is u => exact (show v' = u from r').trans (show v = u from r).symm
 |mp l =>
  have e1 : v = .map (some (h.ρ l)) := r
  have e2 : v' = .map (some (h'.ρ l)) := r'
  rw [e1,e2,hρ l (by simp [AV.mentions])]
inductive XLV : LV → Prop
 | cells (e : TypeId) (cs : List AV) (h : ∀ c ∈ cs,XAV c) : XLV (.cells e cs)
 | obj (o : Obj) : XLV (.obj o)
theorem XLV.same {X : LV} (hx : XLV X) {O : Nat → Prop} {w w' : World} {h h' : Gh} {l : Nat} (hρl : h'.ρ l = h.ρ l) (hρ : ∀ k ∈ X.mentions,h'.ρ k = h.ρ k) (r : LocOK O w h l X) (r' : LocOK O w' h' l X) {b : Nat} (hb : inB h l X b) :
  w'.heap[b]? = w.heap[b]? ∧ h'.g b = h.g b := by
 cases hx with
 |cells e cs hcs =>
  obtain ⟨arr,_,h2,h3,h4,h5⟩ := r
  obtain ⟨arr',_,k2,k3,k4,k5⟩ := r'
  simp [inB] at hb
  subst hb
  rw [hρl] at k2 k4
  refine ⟨?_,by rw [h4,k4]⟩
  rw [h2,k2]
  congr 2
  apply Array.ext
  ·rw [h3,k3]
  ·intro i hi1 hi2
   have hic : i < cs.length := by omega
   have e1 := (h5 i arr[i] cs[i] (by simp [hi2]) (List.getElem?_eq_getElem hic)).1
   have e2 := (k5 i arr'[i] cs[i] (by simp [hi1]) (List.getElem?_eq_getElem hic)).1
   exact (hcs _ (List.getElem_mem hic)).same (fun k hk => hρ k (List.mem_flatMap.2 ⟨_,List.getElem_mem hic,hk⟩)) e1 e2
 |obj o =>
  obtain ⟨_,h2,h4⟩ := r
  obtain ⟨_,k2,k4⟩ := r'
  simp [inB] at hb
  subst hb
  rw [hρl] at k2 k4
  exact ⟨by rw [h2,k2],by rw [h4,k4]⟩
end Go.Proofs.Ytjfammnjpeeahaa.AL
namespace Go.Proofs.Ytjfammnjpeeahaa.AL
open Go.RowKit
variable {P : Program}
inductive RdD (M : Nat → Option Ent) : Dat → Dat → Prop
 | refl (d : Dat) : RdD M d d
 | sl (sz n : Nat) (f f' : Nat → List Dat) (hl : ∀ i,i < n → (f' i).length = (f i).length) (hr : ∀ (i j : Nat) (x y : Dat),i < n → (f i)[j]? = some x → (f' i)[j]? = some y → RdD M x y) : RdD M (.sl sz n f) (.sl sz n f')
 | row (b n c : Nat) (E : Ent) (f' : Nat → List Dat) (hM : M b = some E) (hn : n ≤ E.n) (hc : n ≤ c) (hl : ∀ i,i < n → (f' i).length = (E.f i).length)
   (hr : ∀ (i j : Nat) (x y : Dat),i < n → (E.f i)[j]? = some x → (f' i)[j]? = some y → RdD M x y) : RdD M (.v (.slice (some ⟨b,0,none⟩) n c)) (.sl E.sz n f')
 | nil (a : Option Addr) (c sz : Nat) (f : Nat → List Dat) : RdD M (.v (.slice a 0 c)) (.sl sz 0 f)
 | box (b : Nat) (E : Ent) (ds : List Dat) (hM : M b = some E) (hn : 0 < E.n) (hl : ds.length = E.sz)
   (hr : ∀ (j : Nat) (x y : Dat),(E.f 0)[j]? = some x → ds[j]? = some y → RdD M x y) : RdD M (.v (.pointer (some ⟨b,0,none⟩))) (.bx ds)
inductive RdP (M : Nat → Option Ent) : PV → PV → Prop
 | refl (x : PV) : RdP M x x
 | d {x y : Dat} (h : RdD M x y) : RdP M (.d x) (.d y)
 | agg (cs ds : List Dat) (hl : cs.length = ds.length) (hr : ∀ (j : Nat) x y,cs[j]? = some x → ds[j]? = some y → RdD M x y) : RdP M (.agg cs) (.agg ds)
def iced (g : Nat → Nat) (M : Nat → Option Ent) (b : Nat) : Nat := match M b with
 | some E => E.cap * E.sz
 | none => g b
def lowered (g : Nat → Nat) (M : Nat → Option Ent) (b : Nat) : Nat := match M b with
 | some _ => 0
 | none => g b
structure Arena (w : World) (g : Nat → Nat) (M : Nat → Option Ent) : Prop where
 ok : ∀ b E,M b = some E → EntOK w g b E
 g0 : ∀ b E,M b = some E → g b = 0
section
variable {w : World} {g : Nat → Nat} {M : Nat → Option Ent}
theorem z39 (hA : Arena w g M) : Keep w g w (iced g M) := by
 refine ⟨fun b => ?_,fun b o _ => rfl⟩
 unfold iced
 split
 ·rename_i E hE;rw [hA.g0 b E hE];exact Nat.zero_le _
 ·exact Nat.le_refl _
theorem Arena.lt (hA : Arena w g M) {b : Nat} {E : Ent} (h : M b = some E) : b < w.heap.size := by
 obtain ⟨cur,hh,_⟩ := hA.ok b E h;exact (Array.getElem?_eq_some_iff.1 hh).1
theorem z61 (hA : Arena w g M) (hz : GZ w g) : GZ w (iced g M) := by
 intro b hb
 unfold iced
 split
 ·rename_i E hE;have := hA.lt hE;omega
 ·exact hz b hb
theorem q88 (hA : Arena w g M) {x y : Dat} (h : RdD M x y) : ∀ {v : Value},RelD w g v x → RelD w (iced g M) v y := by
 induction h with
 | refl d => intro v r;exact r.keep (z39 hA)
 |sl sz n f f' hl hr ih =>
  intro v r
  cases r with
  | sl0 a c => exact .sl0 _ _ _ _
  |sl b off _ c _ _ u hn hl2 hc hg hr2 =>
   refine .sl b off n c sz f' u hn (fun i hi => (hl i hi).trans (hl2 i hi)) hc (Nat.le_trans hg ((z39 hA).gam b)) (fun i j y hi hy => ?_)
   have hj : j < (f i).length := by rw [← hl i hi];exact (List.getElem?_eq_some_iff.1 hy).1
   exact ih i j _ y hi (List.getElem?_eq_getElem hj) hy (hr2 i j _ hi (List.getElem?_eq_getElem hj))
 |row b n c E f' hM hn hc hl hr ih =>
  intro v r
  cases r
  obtain ⟨cur,q1,q2,q3,q4,q5⟩ := hA.ok b E hM
  have hnE : n * E.sz ≤ E.n * E.sz := Nat.mul_le_mul_right _ hn
  have hcE : E.n * E.sz ≤ E.cap * E.sz := Nat.mul_le_mul_right _ q3
  refine .sl b 0 n c E.sz f' (fun i j => (cur[i * E.sz + j]?).getD undef) hc (fun i hi => (hl i hi).trans (q5.1 i (by omega))) (fun i j hi hj => ?_) ?_ (fun i j y hi hy => ?_)
  ·obtain ⟨u,d,k1,k2,k3⟩ := q5.at (i := i) (j := j) (by omega) hj
   rw [Nat.zero_add,z15 q1,k2];rfl
  ·simp only [iced,hM];omega
  ·have hj : j < (E.f i).length := by rw [← hl i hi];exact (List.getElem?_eq_some_iff.1 hy).1
   obtain ⟨u,k1,k2⟩ := q5.cell (i := i) (j := j) (by omega) (by rw [← q5.1 i (by omega)];exact hj) (List.getElem?_eq_getElem hj)
   rw [k1]
   exact ih i j _ y hi (List.getElem?_eq_getElem hj) hy k2
 | nil a c sz f => intro v r;cases r;exact .sl0 _ _ _ _
 |box b E ds hM hn hl hr ih =>
  intro v r
  cases r
  obtain ⟨cur,q1,q2,q3,q4,q5⟩ := hA.ok b E hM
  have hcE : 1 * E.sz ≤ E.cap * E.sz := Nat.mul_le_mul_right _ (by omega)
  have hf := q5.1 0 hn
  refine .bx b 0 ds (fun j => (cur[j]?).getD undef) (fun j hj => ?_) ?_ (fun j y hy => ?_)
  ·obtain ⟨u,d,k1,k2,k3⟩ := q5.at (i := 0) (j := j) hn (by omega)
   rw [Nat.zero_mul,Nat.zero_add] at k2
   rw [Nat.zero_add,z15 q1,k2];rfl
  ·simp only [iced,hM];omega
  ·have hj : j < (E.f 0).length := by rw [hf,← hl];exact (List.getElem?_eq_some_iff.1 hy).1
   obtain ⟨u,k1,k2⟩ := q5.cell (i := 0) (j := j) hn (by rw [← hf];exact hj) (List.getElem?_eq_getElem hj)
   rw [Nat.zero_mul,Nat.zero_add] at k1
   rw [k1]
   exact ih j _ y (List.getElem?_eq_getElem hj) hy k2
theorem x135 (hA : Arena w g M) {x y : PV} (h : RdP M x y) {v : Value} (r : RelP w g v x) : RelP w (iced g M) v y := by
 cases h with
 | refl x => exact r.keep (z39 hA)
 | d h => cases r with | d _ _ r => exact .d _ _ (q88 hA h r)
 |agg cs ds hl hr =>
  cases r with
  |agg vs _ hl2 hr2 =>
   refine .agg vs ds (hl2.trans hl) fun j v y hv hy => ?_
   have hj : j < cs.length := by rw [hl];exact (List.getElem?_eq_some_iff.1 hy).1
   exact q88 hA (hr j _ y (List.getElem?_eq_getElem hj) hy) (hr2 j v _ hv (List.getElem?_eq_getElem hj))
end
def Dat.flat : Dat → Prop
 | .v _ => True
 | _ => False
def PV.flat : PV → Prop
 | .d x => x.flat
 | .agg cs => ∀ c ∈ cs,c.flat
 | _ => False
def AV.flat : AV → Prop
 | .p x => x.flat
 | .gr .. => False
 | .tup xs => ∀ x ∈ xs,x.flat
 | .cl .. => False
 | .ag _ => False
 | _ => True
def LV.flat : LV → Prop
 | .cells _ cs => ∀ c ∈ cs,c.flat
 | .own _ _ n _ f => ∀ i,i < n → ∀ d ∈ f i,d.flat
 | _ => False
theorem x61 {w w' : World} {g g' : Nat → Nat} {v : Value} {d : Dat} (hd : d.flat) (r : RelD w g v d) : RelD w' g' v d := by
 cases r with
 | v _ h => exact .v _ h
 | _ => exact hd.elim
theorem j61 {w w' : World} {g g' : Nat → Nat} {v : Value} {x : PV} (hx : x.flat) (r : RelP w g v x) : RelP w' g' v x := by
 cases r with
 | d _ _ r => exact .d _ _ (x61 hx r)
 | agg vs cs hl hr => exact .agg vs cs hl fun j v x hv hc => x61 ((show ∀ c ∈ cs,c.flat from hx) x (List.mem_of_getElem? hc)) (hr j v x hv hc)
 | _ => exact hx.elim
theorem z88 {w w' : World} {h h' : Gh} {v : Value} {x : AV} (hx : x.flat) (e1 : h'.ρ = h.ρ) (e2 : h'.κ = h.κ) (e3 : h'.μ = h.μ) (r : RelA w h v x) : RelA w' h' v x := by
 cases x with
 | p x => exact j61 hx r
 | gr => exact hx.elim
 | cl => exact hx.elim
 | ag => exact hx.elim
 |tup xs =>
  obtain ⟨vs,hv,hl,hr⟩ := r
  exact ⟨vs,hv,hl,fun j v x hv hc => j61 ((show ∀ x ∈ xs,x.flat from hx) x (List.mem_of_getElem? hc)) (hr j v x hv hc)⟩
 | _ => first | exact r | (simp only [RelA,RelOw,e1,e2,e3] at *;exact r)
theorem j135 {O : Nat → Prop} {w : World} {h h' : Gh} {l : Nat} {X : LV} (hX : X.flat) (e1 : h'.ρ = h.ρ) (e2 : h'.κ = h.κ) (e3 : h'.μ = h.μ) (hg : ∀ b,inB h l X b → h'.g b = h.g b) (r : LocOK O w h l X) : LocOK O w h' l X := by
 cases X with
 |cells e cs =>
  obtain ⟨arr,h1,h2,h3,h4,h5⟩ := r
  refine ⟨arr,by rw [e1];exact h1,by rw [e1];exact h2,h3,by rw [e1,hg _ rfl];exact h4,fun i v x hv hx => ⟨z88 ((show ∀ c ∈ cs,c.flat from hX) x (List.mem_of_getElem? hx)) e1 e2 e3 (h5 i v x hv hx).1,(h5 i v x hv hx).2⟩⟩
 |own e sz n gen f =>
  obtain ⟨h1,⟨xs,h2,h3⟩,h4⟩ := r
  refine ⟨by rw [e3];exact h1,⟨xs,by rw [e2];exact h2,h3.1,fun i j d hi hj hd => ?_⟩,fun b hb => ?_⟩
  ·obtain ⟨u,k1,k2⟩ := h3.2 i j d hi hj hd
   exact ⟨u,k1,x61 ((show ∀ i,i < n → ∀ d ∈ f i,d.flat from hX) i hi d (List.mem_of_getElem? hd)) k2⟩
  ·rw [e2] at hb
   rw [hg b (by simpa [inB] using hb)]
   exact h4 b hb
 | _ => exact hX.elim
def RdA (M : Nat → Option Ent) : AV → AV → Prop
 | .p x,.p y => RdP M x y
 | x,y => x = y
theorem RdA.refl (M : Nat → Option Ent) (x : AV) : RdA M x x := by cases x <;> first | rfl | exact RdP.refl _
theorem RdA.p {M : Nat → Option Ent} {x y : PV} (h : RdP M x y) : RdA M (.p x) (.p y) := h
inductive RdAs (M : Nat → Option Ent) : List AV → List AV → Prop
 | nil : RdAs M [] []
 | cons {x y : AV} {xs ys : List AV} (h : RdA M x y) (t : RdAs M xs ys) : RdAs M (x :: xs) (y :: ys)
theorem RdAs.refl (M : Nat → Option Ent) : ∀ xs,RdAs M xs xs
 | [] => .nil
 | x :: xs => .cons (RdA.refl M x) (RdAs.refl M xs)
theorem q136 {w : World} {h : Gh} {M : Nat → Option Ent} (hA : Arena w h.g M) {v : Value} {x : AV} (r : RelA w h v x) : RelA w { h with g := iced h.g M } v x := by
 have k := z39 hA
 have kc : ∀ (vs : List Value) (cs : List CV),RelCs w h vs cs → RelCs w { h with g := iced h.g M } vs cs := by
  intro vs cs r
  refine ⟨r.1,fun j v c hv hc => ?_⟩
  have r := r.2 j v c hv hc
  cases c with
  | p x => exact RelP.keep k r
  | _ => exact r
 cases x with
 | p x => exact RelP.keep k r
 | gr l gen sz n f => exact ⟨r.1.keep k,r.2⟩
 | cl f a b => obtain ⟨vs,us,e,h1,h2⟩ := r;exact ⟨vs,us,e,kc _ _ h1,kc _ _ h2⟩
 | ag cs => obtain ⟨vs,h1,h2,h3⟩ := r;exact ⟨vs,h1,kc _ _ h2,h3⟩
 | tup xs => obtain ⟨vs,hv,hr⟩ := r;exact ⟨vs,hv,hr.keep k⟩
 | _ => exact r
theorem z136 {w : World} {h : Gh} {M : Nat → Option Ent} (hA : Arena w h.g M) {x y : AV} (hx : RdA M x y) {v : Value} (r : RelA w h v x) : RelA w { h with g := iced h.g M } v y := by
 cases x with
 |p x =>
  cases y with
  | p y => exact x135 hA hx r
  | _ => cases hx
 |_ =>
  unfold RdA at hx
  subst hx
  exact q136 hA r
theorem x88 {w : World} {h : Gh} {M : Nat → Option Ent} (hA : Arena w h.g M) {xs ys : List AV} (hx : RdAs M xs ys) : ∀ {vs : List Value},RelAs w h vs xs → RelAs w { h with g := iced h.g M } vs ys := by
 induction hx with
 | nil => intro vs r;exact ⟨r.1,fun j v x hv hx => by simp at hx⟩
 |cons hx t ih =>
  intro vs r
  cases vs with
  | nil => simp [RelAs] at r
  |cons v vs =>
   have r2 := ih r.tail
   refine ⟨by simpa using r2.1,fun j u z hu hz => ?_⟩
   cases j with
   | zero => simp at hu hz;subst hu;subst hz;exact z136 hA hx (r.2 0 v _ rfl rfl)
   | succ j => exact r2.2 j u z (by simpa using hu) (by simpa using hz)
theorem j88 {O : Nat → Prop} {w : World} {h : Gh} {l : Nat} {M : Nat → Option Ent} (k : LocOK O w h l (.raw M)) : Arena w h.g M := ⟨fun b E hb => (k b E hb).2.1,fun b E hb => (k b E hb).2.2⟩
theorem x136 {B : Nat → Prop} {w : World} {h : Gh} {M : Nat → Option Ent} (hA : Arena w h.g M) (hz : GZ w h.g) (hO : ∀ b E,M b = some E → B b) : Trans B w h w { h with g := iced h.g M } (fun b => M b ≠ none) none false := by
 refine ⟨BelowS.refl _ _,fun b _ hb => ⟨rfl,?_⟩,z39 hA,z61 hA hz,fun b hb => ?_,fun _ _ => rfl,fun _ _ => ⟨rfl,rfl⟩,fun l hl => by cases hl⟩
 ·have : M b = none := Classical.byContradiction hb
  simp [iced,this]
 ·have : M b = none := by
   cases hM : M b with
   | none => rfl
   | some E => exact absurd (hO b E hM) hb
  simp [iced,this]
theorem LocOK.iced {B : Nat → Prop} {w : World} {h : Gh} {M : Nat → Option Ent} (hA : Arena w h.g M) (hz : GZ w h.g) (hO : ∀ b E,M b = some E → B b) {l : Nat} {X : LV} (hX : ∀ b,inB h l X b → M b = none) (k : LocOK B w h l X) : LocOK B w { h with g := iced h.g M } l X :=
 (LocOK.trans (x136 hA hz hO) (by simp) (fun hf => by cases hf) (fun b hb => by simp [hX b hb]) k).1
theorem x39 {g : Nat → Nat} {M : Nat → Option Ent} {b : Nat} (h : M b = none) : lowered g M b = g b := by simp [lowered,h]
theorem q48 {h : Gh} {g : Nat → Nat} {l : Nat} {X : LV} : inB { h with g := g } l X = inB h l X := by cases X <;> rfl
theorem MCalls.borrow {f : FuncId} {xs ys : List AV} {L : List (Nat × LV)} {Q : List AV → List (Nat × LV) → Prop} {M : Nat → Option Ent} (hc : MCalls P f ys L Q) (hx : RdAs M xs ys) (hL9 : look L 1999 = none)
  (hQ : ∀ rs L',Q rs L' → (∀ x ∈ rs,x.flat ∧ 1999 ∉ x.mentions) ∧ look L' 1999 = none ∧ ∀ l X,look L' l = some X → X.flat ∧ 1999 ∉ X.mentions) :
  MCalls P f xs ((1999,.raw M) :: L) (fun rs L2 => ∃ L',Q rs L' ∧ L2 = (1999,.raw M) :: L') := by
 intro w h vs hz hr hl
 have hA := j88 (hl.1 1999 (.raw M) (by simp [look]))
 let h2 : Gh := { h with g := iced h.g M }
 have hsub : ∀ l X,look L l = some X → look ((1999,LV.raw M) :: L) l = some X ∧ l ≠ 1999 := by
  intro l X hX
  have : l ≠ 1999 := fun e => by subst e;rw [hL9] at hX;cases hX
  exact ⟨by simp only [look];rw [if_neg (fun e => this e.symm)];exact hX,this⟩
 have hfree : ∀ l X,look L l = some X → ∀ b,inB h l X b → M b = none := by
  intro l X hX b hb
  obtain ⟨k1,k2⟩ := hsub l X hX
  have := hl.2 l 1999 X (.raw M) b k2 k1 (by simp [look]) hb
  simp only [inB] at this
  exact Classical.byContradiction fun e => this e
 have key := hc w h2 vs (z61 hA hz) (x88 hA hx hr) ⟨fun l X hX => LocOK.iced hA hz (fun _ _ _ => trivial) (hfree l X hX) (hl.1 l X (hsub l X hX).1),fun l l' X X' b hne e1 e2 hb hb' => by
  rw [q48] at hb hb'
  exact hl.2 l l' X X' b hne (hsub l X e1).1 (hsub l' X' e2).1 hb hb'⟩
 have hown2 : ∀ b,ownB h2 L b → ownB h ((1999,.raw M) :: L) b := by
  rintro b ⟨l,X,hX,hb⟩
  rw [q48] at hb
  exact ⟨l,X,(hsub l X hX).1,hb⟩
 have hownM : ∀ b,M b ≠ none → ownB h ((1999,.raw M) :: L) b := fun b hb => ⟨1999,.raw M,by simp [look],hb⟩
 have hnoM : ∀ b,M b ≠ none → b < w.heap.size ∧ ¬ ownB h2 L b := by
  intro b hb
  cases hE : M b with
  | none => exact absurd hE hb
  |some E =>
   refine ⟨hA.lt hE,?_⟩
   rintro ⟨l,X,hX,hb2⟩
   rw [q48] at hb2
   rw [hfree l X hX b hb2] at hE;cases hE
 have fin : ∀ v w',(∃ h' rs L',Q rs L' ∧ RelRA w' h' v rs ∧ LocsOK (fun _ => True) w' h' L' ∧ Chg L L' w h2 w' h') →
   ∃ h' rs L2,(∃ L',Q rs L' ∧ L2 = (1999,LV.raw M) :: L') ∧ RelRA w' h' v rs ∧ LocsOK (fun _ => True) w' h' L2 ∧ Chg ((1999,.raw M) :: L) L2 w h w' h' := by
  rintro v w' ⟨h',rs,L',hq,h1,h3,h4⟩
  obtain ⟨f1,f2,f3⟩ := hQ rs L' hq
  let h4' : Gh := { h' with g := lowered h'.g M }
  let h5 : Gh := ⟨lowered h'.g M,fun l => if l = 1999 then h.ρ l else h'.ρ l,fun l => if l = 1999 then h.κ l else h'.κ l,fun l => if l = 1999 then h.μ l else h'.μ l⟩
  have h45 : ∀ l,l ≠ 1999 → h4'.ρ l = h5.ρ l ∧ h4'.κ l = h5.κ l ∧ h4'.μ l = h5.μ l := fun l hl => by simp [h4',h5,hl]
  have h45m : ∀ (ms : List Nat),1999 ∉ ms → ∀ l ∈ ms,h4'.ρ l = h5.ρ l ∧ h4'.κ l = h5.κ l ∧ h4'.μ l = h5.μ l := fun ms hms l hl => h45 l fun e => hms (e ▸ hl)
  have hkeep : Keep w h.g w' h5.g := by
   refine ⟨fun b => ?_,fun b o ho => ?_⟩
   ·show h.g b ≤ lowered h'.g M b
    unfold lowered
    cases hE : M b with
    | none => have := h4.keep.gam b;simpa [h2,iced,hE] using this
    | some E => simp [hA.g0 b E hE]
   ·cases hE : M b with
    | none => exact h4.keep.cell b o (by simpa [h2,iced,hE] using ho)
    | some E => rw [hA.g0 b E hE] at ho;omega
  have hL'M : ∀ l X,look L' l = some X → ∀ b,inB h' l X b → M b = none := by
   intro l X hX b hb
   rcases h4.own b ⟨l,X,hX,hb⟩ with hge | ho
   ·cases hE : M b with
    | none => rfl
    | some E => have := hA.lt hE;omega
   ·exact Classical.byContradiction fun e => (hnoM b e).2 ho
  have hsub' : ∀ l X,look ((1999,LV.raw M) :: L') l = some X → (l = 1999 ∧ X = .raw M) ∨ (l ≠ 1999 ∧ look L' l = some X) := by
   intro l X hX
   simp only [look] at hX
   split at hX
   ·rename_i e;cases hX;exact .inl ⟨e.symm,rfl⟩
   ·rename_i e;exact .inr ⟨fun e' => e e'.symm,hX⟩
  have hlo : ∀ l X,look L' l = some X → LocOK (fun _ => True) w' h5 l X ∧ inB h5 l X = inB h' l X := fun l X hX =>
   have hl9 : l ≠ 1999 := fun e => by subst e;rw [f2] at hX;cases hX
   ⟨z57 (h := h4') (k := h5) rfl (h45 l hl9) (h45m _ (f3 l X hX).2) (j135 (h := h') (f3 l X hX).1 rfl rfl rfl (fun b hb => x39 (hL'M l X hX b hb)) (h3.1 l X hX)),(x57 (h45 l hl9)).symm.trans q48⟩
  refine ⟨h5,rs,_,⟨L',hq,rfl⟩,?_,⟨fun l X hX => ?_,fun l l' X X' b hne e1 e2 hb hb' => ?_⟩,?_⟩
  ·have one : ∀ u x,x ∈ rs → RelA w' h' u x → RelA w' h5 u x := fun u x hx r => q38 (h := h4') (k := h5) rfl (h45m _ (f1 x hx).2) (z88 (h := h') (f1 x hx).1 rfl rfl rfl r)
   have many : ∀ us,RelAs w' h' us rs → RelAs w' h5 us rs := fun us r => ⟨r.1,fun j u x hu hx => one u x (List.mem_of_getElem? hx) (r.2 j u x hu hx)⟩
   match rs,h1,one,many with
   | [x],h1,one,_ => exact one v x (by simp) h1
   | [],⟨us,e,r⟩,_,many => exact ⟨us,e,many us r⟩
   | _ :: _ :: _,⟨us,e,r⟩,_,many => exact ⟨us,e,many us r⟩
  ·rcases hsub' l X hX with ⟨rfl,rfl⟩ | ⟨_,hX'⟩
   ·intro b E hE
    have hb := hnoM b (by simp [hE])
    refine ⟨trivial,EntOK.keep hkeep (h4.below.block b hb.1 hb.2) (hA.ok b E hE),?_⟩
    show lowered h'.g M b = 0
    simp [lowered,hE]
   ·exact (hlo l X hX').1
  ·rcases hsub' l X e1 with ⟨rfl,rfl⟩ | ⟨_,hX'⟩ <;> rcases hsub' l' X' e2 with ⟨e',rfl⟩ | ⟨_,hX2⟩
   ·exact hne e'.symm
   ·rw [(hlo l' X' hX2).2] at hb'
    exact hb (hL'M l' X' hX2 b hb')
   ·rw [(hlo l X hX').2] at hb
    exact hb' (hL'M l X hX' b hb)
   ·rw [(hlo l X hX').2] at hb
    rw [(hlo l' X' hX2).2] at hb'
    exact h3.2 l l' X X' b hne hX' hX2 hb hb'
  ·refine ⟨⟨h4.below.os,h4.below.tape,h4.below.output,h4.below.size,fun k hk hno => h4.below.block k hk fun ho => hno (hown2 k ho)⟩,fun b hb hno => ?_,fun b hb => ?_,hkeep,fun l X hX => ?_,fun l X hX => ?_,fun b ⟨l,X,hX,hb⟩ => ?_⟩
   ·have hM : M b = none := Classical.byContradiction fun e => hno (hownM b e)
    show lowered h'.g M b = h.g b
    rw [x39 hM,h4.gam b hb fun ho => hno (hown2 b ho)]
    simp [h2,iced,hM]
   ·have hM : M b = none := by
     cases hE : M b with
     | none => rfl
     | some E => have := hA.lt hE;have := h4.below.size;omega
    show lowered h'.g M b = 0
    rw [x39 hM];exact h4.gz b hb
   ·simp only [look] at hX
    split at hX
    ·rename_i e;subst e;simp [h5]
    ·rename_i e
     have := h4.ρ l X hX
     simp only [h5,if_neg (fun e' => e (Eq.symm e'))];exact this
   ·simp only [look] at hX
    split at hX
    ·rename_i e;subst e;exact .inr (by simp [h5])
    ·rename_i e
     have := h4.up l X hX
     simp only [h5,if_neg (fun e' => e (Eq.symm e'))];exact this
   ·rcases hsub' l X hX with ⟨rfl,rfl⟩ | ⟨_,hX'⟩
    ·exact .inr (hownM b hb)
    ·rw [(hlo l X hX').2] at hb
     rcases h4.own b ⟨l,X,hX',hb⟩ with hge | ho
     ·exact .inl hge
     ·exact .inr (hown2 b ho)
 unfold CallRes at *
 split at key
 ·exact key.mono fun e w' ⟨v,he,hh⟩ => ⟨v,he,fin v w' hh⟩
 ·exact fin _ _ key
 ·exact key.elim
theorem q89 {w : World} {h : Gh} {vs : List Value} {xs : List PV} (r : RelAs w h vs (xs.map .p)) : RelPs w h.g vs xs :=
 ⟨by simpa using r.1,fun j v x hv hx => r.2 j v (.p x) hv (by rw [List.getElem?_map,hx];rfl)⟩
theorem j136 {w : World} {h : Gh} {v : Value} {rs : List PV} (r : RelR w h.g v rs) : RelRA w h v (rs.map .p) := by
 have many : ∀ us,RelPs w h.g us rs → RelAs w h us (rs.map .p) := fun us r => ⟨by simpa using r.1,fun j u x hu hx => by
  rw [List.getElem?_map] at hx
  cases hj : rs[j]? with
  | none => rw [hj] at hx;cases hx
  | some y => rw [hj] at hx;cases hx;exact r.2 j u y hu hj⟩
 match rs,r,many with
 | [x],r,_ => exact r
 | [],⟨us,e,r⟩,many => exact ⟨us,e,many us r⟩
 | _ :: _ :: _,⟨us,e,r⟩,many => exact ⟨us,e,many us r⟩
theorem q137 {f : FuncId} {xs rs : List PV} (hc : ACalls P f xs (· = rs)) : MCalls P f (xs.map .p) [] (fun r L => r = rs.map .p ∧ L = []) := by
 intro w h vs hz hr hl
 have key := x23.1 hc w h.g vs hz (q89 hr)
 have fin : ∀ v w',(∃ g' rs',Ext w h.g w' g' ∧ rs' = rs ∧ RelR w' g' v rs') → ∃ h' r L',(r = rs.map .p ∧ L' = []) ∧ RelRA w' h' v r ∧ LocsOK (fun _ => True) w' h' L' ∧ Chg [] L' w h w' h' := by
  rintro v w' ⟨g',_,he,rfl,hR⟩
  refine ⟨{ h with g := g' },_,[],⟨rfl,rfl⟩,j136 hR,⟨fun l X hX => (by cases hX),fun l l' X X' b _ hX => (by cases hX)⟩,?_⟩
  exact ⟨he.belowS,fun b hb _ => he.gam b hb,he.gz,he.keep hz,fun l X hX => (by cases hX),fun l X hX => (by cases hX),fun b ⟨l,X,hX,_⟩ => (by cases hX)⟩
 unfold CallRes at *
 split at key
 ·exact key.mono fun e w' ⟨v,he,hh⟩ => ⟨v,he,fin v w' hh⟩
 ·exact fin _ _ key
 ·exact key.elim
inductive RdPs (M : Nat → Option Ent) : List PV → List PV → Prop
 | nil : RdPs M [] []
 | cons {x y : PV} {xs ys : List PV} (h : RdP M x y) (t : RdPs M xs ys) : RdPs M (x :: xs) (y :: ys)
theorem RdPs.as {M : Nat → Option Ent} {xs ys : List PV} (h : RdPs M xs ys) : RdAs M (xs.map .p) (ys.map .p) := by
 induction h with
 | nil => exact .nil
 | cons h t ih => exact .cons (RdA.p h) ih
theorem ACalls.borrow {f : FuncId} {xs ys rs : List PV} {M : Nat → Option Ent} (hc : ACalls P f ys (· = rs)) (hx : RdPs M xs ys) (hr : ∀ r ∈ rs,r.flat) :
  MCalls P f (xs.map .p) [(1999,.raw M)] (fun r L => r = rs.map .p ∧ L = [(1999,.raw M)]) := by
 refine (MCalls.borrow (q137 hc) hx.as rfl ?_).mono ?_
 ·rintro r L ⟨rfl,rfl⟩
  refine ⟨fun x hx => ?_,rfl,fun l X hX => by cases hX⟩
  obtain ⟨y,hy,rfl⟩ := List.mem_map.1 hx
  exact ⟨hr y hy,by simp [AV.mentions]⟩
 ·rintro r L ⟨L',⟨rfl,rfl⟩,rfl⟩;exact ⟨rfl,rfl⟩
theorem RCalls.borrow {f : FuncId} {xs ys : List PV} {y : PV} {M : Nat → Option Ent} (hc : ACalls P f ys (· = [y])) (hx : RdPs M xs ys) (hy : y.flat) : RCalls P f (xs.map .p) [(1999,.raw M)] (.p y) := by
 intro w h vs hz hr hl
 have hA := j88 (hl.1 1999 (.raw M) (by simp [look]))
 have hr2 := x88 hA hx.as hr
 have key := x23.1 hc w (iced h.g M) vs (z61 hA hz) (q89 hr2)
 have fin : ∀ v w',(∃ g' rs',Ext w (iced h.g M) w' g' ∧ rs' = [y] ∧ RelR w' g' v rs') → ∃ g',Ext w h.g w' g' ∧ RelA w' { h with g := g' } v (.p y) := by
  rintro v w' ⟨g',_,he,rfl,hR⟩
  refine ⟨lowered g' M,⟨he.below,fun b hb => ?_,fun b hb => ?_⟩,j61 hy hR⟩
  ·cases hE : M b with
   | none => rw [x39 hE,he.gam b hb];simp [iced,hE]
   | some E => simp [lowered,hE,hA.g0 b E hE]
  ·cases hE : M b with
   | none => rw [x39 hE];exact he.gz b hb
   | some E => simp [lowered,hE]
 unfold CallRes at *
 split at key
 ·exact key.mono fun e w' ⟨v,he,hh⟩ => ⟨v,he,fin v w' hh⟩
 ·exact fin _ _ key
 ·exact key.elim
end Go.Proofs.Ytjfammnjpeeahaa.AL
namespace Go.Proofs.Ytjfammnjpeeahaa.AL
open Go.RowKit
def GrowsM (M M2 : Nat → Option Ent) : Prop := ∀ b E,M b = some E → M2 b = some E
theorem GrowsM.refl (M : Nat → Option Ent) : GrowsM M M := fun _ _ h => h
theorem GrowsM.trans {M M2 M3 : Nat → Option Ent} (h : GrowsM M M2) (k : GrowsM M2 M3) : GrowsM M M3 := fun b E e => k b E (h b E e)
def HoldR (M : Nat → Option Ent) (e : TypeId) (sz n : Nat) (f : Nat → List Dat) (v : Value) : Prop :=
 (n = 0 ∧ ∃ a c,v = .slice a 0 c) ∨ ∃ b c cap f',v = .slice (some ⟨b,0,none⟩) n c ∧ n ≤ c ∧ M b = some ⟨e,sz,cap,n,f'⟩ ∧ ∀ k,k < n → f' k = f k
theorem HoldR.mono {M M2 : Nat → Option Ent} {e : TypeId} {sz n : Nat} {f : Nat → List Dat} {v : Value} (hM : GrowsM M M2) (h : HoldR M e sz n f v) : HoldR M2 e sz n f v := by
 rcases h with h | ⟨b,c,cap,f',h1,h2,h3,h4⟩
 ·exact .inl h
 ·exact .inr ⟨b,c,cap,f',h1,h2,hM b _ h3,h4⟩
theorem PackR.grows {M M2 : Nat → Option Ent} {e : TypeId} {sz n : Nat} {f : Nat → List Dat} {v : Value} (h : PackR M e sz n f v M2) : GrowsM M M2 := by
 rcases h with ⟨_,_,rfl⟩ | ⟨b,c,_,h2,_,rfl⟩
 ·exact .refl _
 ·intro b' E hb'
  have : b' ≠ b := fun e => by rw [e,h2] at hb';cases hb'
  rw [j36 _ _ this];exact hb'
theorem PackR.holds {M M2 : Nat → Option Ent} {e : TypeId} {sz n : Nat} {f f0 : Nat → List Dat} {v : Value} (h : PackR M e sz n f0 v M2) (hf : ∀ k,k < n → f0 k = f k) : HoldR M2 e sz n f v := by
 rcases h with ⟨h1,h2,rfl⟩ | ⟨b,c,h1,h2,h3,rfl⟩
 ·exact .inl ⟨h1,_,_,h2⟩
 ·exact .inr ⟨b,c,c,f0,h3,h1,x21 _ _ _,hf⟩
theorem HoldR.rd {M : Nat → Option Ent} {e : TypeId} {sz n : Nat} {f : Nat → List Dat} {v : Value} (h : HoldR M e sz n f v) : RdD M (.v v) (.sl sz n f) := by
 rcases h with ⟨rfl,a,c,rfl⟩ | ⟨b,c,cap,f',rfl,h2,h3,h4⟩
 ·exact .nil _ _ _ _
 ·refine .row b n c ⟨e,sz,cap,n,f'⟩ f h3 (Nat.le_refl _) h2 (fun i hi => by show (f i).length = (f' i).length;rw [h4 i hi]) fun i j x y hi hx hy => ?_
  simp only [] at hx
  rw [h4 i hi,hy] at hx
  cases hx
  exact .refl _
theorem HoldR.slice {M : Nat → Option Ent} {e : TypeId} {sz n : Nat} {f : Nat → List Dat} {v : Value} (h : HoldR M e sz n f v) : ∃ a c,v = .slice a n c := by
 rcases h with ⟨rfl,a,c,rfl⟩ | ⟨b,c,cap,f',rfl,_⟩
 ·exact ⟨_,_,rfl⟩
 ·exact ⟨_,_,rfl⟩
def rowVal (s : Nat → Value) : Nat → List Dat := fun i => [.v (s i)]
theorem z89 (s : Nat → Value) (i : Nat) : rowVal s i = [.v (s i)] := rfl
def updS (s : Nat → Value) (n : Nat) (v : Value) : Nat → Value := fun i => if i = n then v else s i
theorem x33 (s : Nat → Value) (n : Nat) (v : Value) : updS s n v n = v := by simp [updS]
theorem z26 (s : Nat → Value) {n i : Nat} (v : Value) (h : i ≠ n) : updS s n v i = s i := by simp [updS,h]
theorem z48 (s : Nat → Value) (v : Value) (i : Nat) (k : Nat) (hk : k < i + 1) : catF i (rowVal s) (fun j => [[Dat.v v]].getD j []) k = rowVal (updS s i v) k := by
 unfold catF rowVal
 split
 ·rw [z26 _ _ (by omega)]
 ·have : k = i := by omega
  subst this
  rw [Nat.sub_self,x33];rfl
def RowsM (M : Nat → Option Ent) (e : TypeId) (sz : Nat) (len : Nat → Nat) (f : Nat → Nat → List Dat) (s : Nat → Value) (n : Nat) : Prop := ∀ i,i < n → HoldR M e sz (len i) (f i) (s i)
theorem RowsM.mono {M M2 : Nat → Option Ent} {e : TypeId} {sz : Nat} {len : Nat → Nat} {f : Nat → Nat → List Dat} {s : Nat → Value} {n : Nat} (hM : GrowsM M M2) (h : RowsM M e sz len f s n) : RowsM M2 e sz len f s n := fun i hi => (h i hi).mono hM
theorem RowsM.snoc {M M2 : Nat → Option Ent} {e : TypeId} {sz : Nat} {len : Nat → Nat} {f : Nat → Nat → List Dat} {s : Nat → Value} {n : Nat} {f0 : Nat → List Dat} {v : Value} (h : RowsM M e sz len f s n) (hp : PackR M e sz (len n) f0 v M2) (hf : ∀ k,k < len n → f0 k = f n k) :
  RowsM M2 e sz len f (updS s n v) (n + 1) := by
 intro i hi
 by_cases hin : i = n
 ·subst hin;rw [x33];exact hp.holds hf
 ·rw [z26 _ _ hin];exact (h i (by omega)).mono hp.grows
theorem RowsM.rd {M : Nat → Option Ent} {e : TypeId} {sz : Nat} {len : Nat → Nat} {f : Nat → Nat → List Dat} {s : Nat → Value} {n : Nat} (h : RowsM M e sz len f s n) {F : Nat → List Dat} (hF : ∀ i,i < n → F i = [.sl sz (len i) (f i)]) : RdD M (.sl 1 n (rowVal s)) (.sl 1 n F) := by
 refine .sl _ _ _ _ (fun i hi => by rw [hF i hi];rfl) fun i j x y hi hx hy => ?_
 rw [hF i hi] at hy
 unfold rowVal at hx
 cases j with
 | zero => simp at hx hy;subst hx;subst hy;exact (h i hi).rd
 | succ j => simp at hx
def Shape (sz : Nat) (js : List Nat) (ds : List Dat) : Prop := ds.length = sz ∧ ∀ j,j ∈ js → ∃ x,ds[j]? = some (.v (.int .i64 x))
def HoldS (M : Nat → Option Ent) (e : TypeId) (sz : Nat) (js : List Nat) (n : Nat) (v : Value) : Prop :=
 (n = 0 ∧ ∃ a c,v = .slice a 0 c) ∨ ∃ b c cap f',v = .slice (some ⟨b,0,none⟩) n c ∧ n ≤ c ∧ M b = some ⟨e,sz,cap,n,f'⟩ ∧ ∀ k,k < n → Shape sz js (f' k)
theorem HoldR.shape {M : Nat → Option Ent} {e : TypeId} {sz n : Nat} {js : List Nat} {f : Nat → List Dat} {v : Value} (h : HoldR M e sz n f v) (hs : ∀ k,k < n → Shape sz js (f k)) : HoldS M e sz js n v := by
 rcases h with h | ⟨b,c,cap,f',h1,h2,h3,h4⟩
 ·exact .inl h
 ·exact .inr ⟨b,c,cap,f',h1,h2,h3,fun k hk => by rw [h4 k hk];exact hs k hk⟩
theorem Shape.put {sz : Nat} {js : List Nat} {ds : List Dat} (h : Shape sz js ds) (j : Nat) (hj : j < sz) (x : Int) : Shape sz js (ds.take j ++ [.v (.int .i64 x)] ++ ds.drop (j + [Dat.v (.int .i64 x)].length)) := by
 have hl := h.1
 have hg := z20 ds [.v (.int .i64 x)] j (by simp;omega)
 refine ⟨by simp;omega,fun q hq => ?_⟩
 rw [hg q]
 split
 ·rename_i hh
  have : q = j := by simp at hh;omega
  subst this
  exact ⟨x,by simp⟩
 ·exact h.2 q hq
theorem HoldS.store {M : Nat → Option Ent} {e : TypeId} {sz n : Nat} {js : List Nat} {v : Value} (h : HoldS M e sz js n v) {b0 : Nat} {E : Ent} (hE : M b0 = some E) (i j : Nat) (x : Int) (hj : j < E.sz) : HoldS (setM M b0 (some { E with f := putEl E.f i j [.v (.int .i64 x)] })) e sz js n v := by
 rcases h with h | ⟨b,c,cap,f',h1,h2,h3,h4⟩
 ·exact .inl h
 ·by_cases hb : b = b0
  ·subst hb
   rw [h3] at hE
   cases hE
   refine .inr ⟨b,c,cap,_,h1,h2,x21 _ _ _,fun k hk => ?_⟩
   unfold putEl
   split
   ·rename_i e;subst e;exact (h4 k hk).put j hj x
   ·exact h4 k hk
  ·exact .inr ⟨b,c,cap,f',h1,h2,by rw [j36 _ _ hb];exact h3,h4⟩
def BorrowOK (lo : Option Nat) (E : Eff) : Prop := E.val.flat ∧ E.fresh = false ∧ lo ≠ some 1999 ∧ ∀ l L,E.upd = some (l,L) → L.flat ∧ lo = some l
theorem BorrowOK.own {l : Nat} {v : AV} {obl : Prop} {e : TypeId} {sz n g : Nat} {f : Nat → List Dat} (hv : v.flat) (hl : l ≠ 1999) (hf : ∀ i,i < n → ∀ d ∈ f i,d.flat) : BorrowOK (some l) ⟨v,obl,some (l,.own e sz n g f),false⟩ := by
 refine ⟨hv,rfl,fun e => hl (by cases e;rfl),fun l' L hu => ?_⟩
 cases hu
 exact ⟨hf,rfl⟩
section
variable (P : Program) (o : Oper) (A : ASt)
def stepB (ys : List AV) (K : Eff → Prop) : Prop :=
 match opEff P [] o ys (A.locAt (locNeed o ys)) with
 | some E => E.obl ∧ BorrowOK (locNeed o ys) E ∧ K E
 | none => False
end
attribute [go_sem] stepB
end Go.Proofs.Ytjfammnjpeeahaa.AL
namespace Go.Proofs.Ytjfammnjpeeahaa.AL
open Go.RowKit
variable {P : Program}
theorem Weak.ownBlk (A : ASt) (t l l2 gen sz n : Nat) (e : TypeId) (f : Nat → List Dat) (ht : look A.fr t = some (.ow l gen sz n)) (hl : look A.locs l = some (.own e sz n gen f)) (hn : 0 < n) (hu : unusedB A l2 = true) (hno : look A.locs l2 = none) :
  Weak A ⟨(t,.row l2 sz 0 n) :: A.fr,(l2,.blk e sz n f) :: dropL l A.locs⟩ := by
 intro w0 g0 nt h a w r
 have hL := r.locs l _ hl
 obtain ⟨q1,⟨va,vc,q2,q2'⟩,q3⟩ := r.fr t _ ht
 have hv := q3 hL.1
 obtain ⟨b,rfl⟩ := q2' hn
 have hb : (h.κ l).ownBlock = some b := by rw [← hv,q2];rfl
 obtain ⟨cap,cur,c1,c2,c3,c4,c5,c6,c7,c8⟩ := x36 hL hb
 let h' : Gh := { h with ρ := setG h.ρ l2 b }
 have un := x27 hu
 have tr : Trans w0.O w h w h' (fun _ => False) (some l2) true := by
  refine ⟨BelowS.refl _ _,fun b _ _ => ⟨rfl,rfl⟩,⟨fun b => Nat.le_refl _,fun b o _ => rfl⟩,r.gz,fun b _ => rfl,fun k hk => ?_,fun k hk => ⟨rfl,rfl⟩,fun k _ hf => by cases hf⟩
  have : k ≠ l2 := fun e => hk rfl (by rw [e])
  simp [h',setG,this]
 have nl : h'.ρ l2 = b := by simp [h',setG]
 have oldk : ∀ k L,k ≠ l2 → look A.locs k = some L → LocOK w0.O w h' k L ∧ inB h' k L = inB h k L := fun k L hne hk =>
  LocOK.trans tr (fun e => hne (by cases e;rfl)) (fun _ l' hl' hm => by cases hl';exact un.2.1 k L hk hm) (fun b _ => by simp) (r.locs k L hk)
 have old : ∀ k L,look ((l2,LV.blk e sz n f) :: dropL l A.locs) k = some L → (k = l2 ∧ L = .blk e sz n f) ∨ (k ≠ l2 ∧ k ≠ l ∧ look A.locs k = some L) := by
  intro k L hk
  simp only [look] at hk
  split at hk
  ·rename_i e;cases hk;exact .inl ⟨e.symm,rfl⟩
  ·rename_i e1
   obtain ⟨k1,k2⟩ := x47 hk
   exact .inr ⟨fun e => e1 e.symm,k1,k2⟩
 have hin2 : ∀ b',inB h' l2 (.blk e sz n f) b' → inB h l (.own e sz n gen f) b' := by
  intro b' hb'
  simp only [inB,nl] at hb' ⊢
  rw [hb,hb']
 refine ⟨h',r.size,r.defers,fun u y hy => ?_,fun k L hk => ?_,fun k k' L L' b' hkk hk hk' hb1 hb2 => ?_,r.ext,fun k hk => ?_⟩
 ·simp only [look] at hy
  split at hy
  ·rename_i e;subst e;cases hy
   exact ⟨cap,by rw [hv,c1,nl,Nat.zero_mul],c3⟩
  ·exact RelA.trans tr (fun _ l' hl' hm => by cases hl';exact un.1 u y hy hm) (r.fr u y hy)
 ·rcases old k L hk with ⟨rfl,rfl⟩ | ⟨n1,n2,h3⟩
  ·exact ⟨cap,by rw [nl];exact c7,by rw [nl];exact ⟨cur,c2,c5,c3,c4,c8⟩,by rw [nl];exact c6⟩
  ·exact (oldk k L n1 h3).1
 ·rcases old k L hk with ⟨rfl,rfl⟩ | ⟨n1,n2,h3⟩ <;> rcases old k' L' hk' with ⟨e',rfl⟩ | ⟨n1',n2',h3'⟩
  ·exact hkk e'.symm
  ·rw [(oldk k' L' n1' h3').2] at hb2
   exact r.sep l k' _ L' b' (fun e => n2' e.symm) hl h3' (hin2 b' hb1) hb2
  ·subst e'
   rw [(oldk k L n1 h3).2] at hb1
   exact r.sep l k _ L b' (fun e => n2 e.symm) hl h3 (hin2 b' hb2) hb1
  ·rw [(oldk k L n1 h3).2] at hb1
   rw [(oldk k' L' n1' h3').2] at hb2
   exact r.sep k k' L L' b' hkk h3 h3' hb1 hb2
 ·have : k ≠ l2 := by have := un.2.2;omega
  have e : h'.ρ k = h.ρ k := by simp [h',setG,this]
  rw [e]
  exact r.pin k hk
theorem z137 {o : Oper} {c : Call} {f : Operand} (ho : o.op = .call c) (hc : c.callee = .value f) {x0 x : AV} {g : FuncId} {pre post : List CV} (hx : calleeC x0 = some (g,pre,post)) {zs xs : List AV} (hargs : pre.map CV.av ++ zs ++ post.map CV.av = xs)
  {l0 d : Nat} {X : LV} (hcall : MCalls P g xs [] (fun r L => r = [x] ∧ L = [(l0,X)])) (hX : X.mentions = []) (hXr : X.ren (fun _ => d) = X) (hm : ∀ l ∈ x.mentions,l = l0) :
  OpT P o (x0 :: zs) none { val := x.ren (fun _ => d),upd := some (d,X),fresh := true } := by
 intro B w h a next Q hB hz hr hL hn
 have hops : o.op.operands.toList.map a.eval = a.eval f :: c.args.toList.map a.eval := by simp [ho,Op.operands,Call.operands,hc]
 rw [hops] at hr
 have hf := hr.2 0 (a.eval f) x0 rfl rfl
 have hev : RelAs w h (c.args.toList.map a.eval) zs := hr.tail
 obtain ⟨vs,hvs,hrun⟩ := q58 (P := P) ho hc hx hf hev
 rw [hargs] at hvs
 have key := hcall w h vs hz hvs ⟨fun l X hX => (by cases hX),fun l l' X X' b _ hX => (by cases hX)⟩
 have none0 : ∀ b,¬ ownB h [] b := fun b ⟨l,X,hX,_⟩ => by cases hX
 have fin : ∀ v w',(∃ h1 rs L',(rs = [x] ∧ L' = [(l0,X)]) ∧ RelRA w' h1 v rs ∧ LocsOK (fun _ => True) w' h1 L' ∧ Chg [] L' w h w' h1) → next (a.put o.dst v) w' := by
  rintro v w' ⟨h1,_,_,⟨rfl,rfl⟩,hR,hLoc,hC⟩
  let h' : Gh := ⟨h1.g,fun l => if l = d then h1.ρ l0 else h.ρ l,fun l => if l = d then h1.κ l0 else h.κ l,fun l => if l = d then h1.μ l0 else h.μ l⟩
  have hd0 : h'.ρ d = h1.ρ l0 ∧ h'.κ d = h1.κ l0 ∧ h'.μ d = h1.μ l0 := by simp [h']
  have hX0 : LocOK (fun _ => True) w' h1 l0 X := hLoc.1 l0 X (by simp [look])
  have hXd : LocOK (fun _ => True) w' h' d X := by
   have k : LocOK (fun _ => True) w' (h'.ren fun _ => d) l0 X := z57 (h := h1) rfl ⟨hd0.1.symm,hd0.2.1.symm,hd0.2.2.symm⟩ (fun l hl => by rw [hX] at hl;cases hl) hX0
   have k2 := (z45 (s := fun _ => d) (l := l0) (X := X)).2 k
   rwa [hXr] at k2
  have hin : inB h' d X = inB h1 l0 X := by
   have k : inB h' d (X.ren fun _ => d) = inB (h'.ren fun _ => d) l0 X := x32 (s := fun _ => d)
   rw [hXr] at k
   rw [k]
   exact (x57 ⟨hd0.1.symm,hd0.2.1.symm,hd0.2.2.symm⟩).symm
  have hnew : ∀ b,inB h' d X b → w.heap.size ≤ b := by
   intro b hb
   rw [hin] at hb
   rcases hC.own b ⟨l0,X,by simp [look],hb⟩ with h | h
   ·exact h
   ·exact absurd h (none0 b)
  refine hn v w' h' ?_ ?_ (fun l L' hl => ?_)
  ·exact j23.2 (q38 (h := h1) rfl (fun l hl => by rw [hm l hl];exact ⟨hd0.1.symm,hd0.2.1.symm,hd0.2.2.symm⟩) hR)
  ·refine ⟨⟨hC.below.os,hC.below.tape,hC.below.output,hC.below.size,fun k hk _ => hC.below.block k hk (none0 k)⟩,fun b hb _ => ⟨hC.below.block b hb (none0 b),hC.gam b hb (none0 b)⟩,hC.keep,hC.gz,fun b hb => hC.gam b (hB.lt hb) (none0 b),fun l hl => ?_,fun l hl => ?_,fun l _ hf => by cases hf⟩
   ·have : l ≠ d := fun e => hl rfl (by rw [e];rfl)
    simp [h',this]
   ·have : l ≠ d := fun e => hl (by rw [e];rfl)
    simp [h',this]
  ·cases hl
   exact ⟨z32 hXd fun b hb => hB b (hnew b hb),fun b hb => .inl (hnew b hb)⟩
 unfold Oper.wp
 rw [hrun]
 unfold CallRes at key
 split at key
 ·rename_i f' args w1 hrr
  rw [hrr]
  show Calls P f' args w1 _
  refine key.mono fun e w' ⟨v,he,hR⟩ => ?_
  subst he
  exact fin v w' hR
 ·rename_i v w1 hrr
  rw [hrr]
  exact fin v w1 key
 ·exact key.elim
end Go.Proofs.Ytjfammnjpeeahaa.AL
namespace Go.Proofs.Ytjfammnjpeeahaa.AL
open Go.RowKit
theorem x29 {P : Program} {fn : Func} {Q : List AV → List (Nat × LV) → Prop} {A : ASt} {rs : List AV} {L : List (Nat × LV)} (hq : Q rs L) (hr : ResVarsA P A fn.results.toList rs) (hl : ∀ p ∈ L,look A.locs p.1 = some p.2) : retM P fn Q .ret A ∧ retM P fn Q .normal A :=
 ⟨retM_of rs L hr hl hq,x134 rs L hr hl hq⟩
def arrV (n : Nat) (s : Nat → Value) : List AV := (List.range n).map fun j => .p (.d (.v (s j)))
attribute [irreducible] arrV
def RowA (M : Nat → Option Ent) (e : TypeId) (sz n : Nat) (f : Nat → List Dat) (v : Value) : Prop :=
 (n = 0 ∧ v = .slice none 0 0) ∨ ∃ b c f',v = .slice (some ⟨b,0,none⟩) n c ∧ n ≤ c ∧ M b = some ⟨e,sz,c,n,f'⟩ ∧ ∀ k,k < n → f' k = f k
theorem RowA.holds {M : Nat → Option Ent} {e : TypeId} {sz n : Nat} {f : Nat → List Dat} {v : Value} (h : RowA M e sz n f v) : HoldR M e sz n f v := by
 rcases h with ⟨h1,h2⟩ | ⟨b,c,f',h1,h2,h3,h4⟩
 ·exact .inl ⟨h1,_,_,h2⟩
 ·exact .inr ⟨b,c,c,f',h1,h2,h3,h4⟩
def takeM (M : Nat → Option Ent) : Value → Nat → Option Ent
 | .slice (some p) _ _ => setM M p.block none
 | _ => M
theorem x137 {M : Nat → Option Ent} {v : Value} {b : Nat} {E : Ent} (h : takeM M v b = some E) : M b = some E := by
 unfold takeM at h
 split at h
 ·unfold setM at h
  split at h
  ·cases h
  ·exact h
 ·exact h
theorem j137 {M : Nat → Option Ent} {v : Value} {b : Nat} (h : takeM M v b = none) (hb : M b ≠ none) : ∃ p n c,v = .slice (some p) n c ∧ p.block = b := by
 unfold takeM at h
 split at h
 ·unfold setM at h
  split at h
  ·rename_i p n c e
   exact ⟨p,n,c,rfl,e.symm⟩
  ·exact absurd h hb
 ·exact absurd h hb
structure RowsA (M : Nat → Option Ent) (e : TypeId) (sz : Nat) (len : Nat → Nat) (f : Nat → Nat → List Dat) (s : Nat → Value) (n : Nat) : Prop where
 at' : ∀ i,i < n → RowA M e sz (len i) (f i) (s i)
 sep : ∀ i j b m c m' c',i < n → j < n → s i = .slice (some ⟨b,0,none⟩) m c → s j = .slice (some ⟨b,0,none⟩) m' c' → i = j
theorem RowsA.nil (M : Nat → Option Ent) (e : TypeId) (sz : Nat) (f : Nat → Nat → List Dat) (n : Nat) : RowsA M e sz (fun _ => 0) f (fun _ => .slice none 0 0) n :=
 ⟨fun i hi => .inl ⟨rfl,rfl⟩,fun i j b m c m' c' _ _ h => by cases h⟩
theorem RowsA.put {M M2 : Nat → Option Ent} {e : TypeId} {sz : Nat} {len len' : Nat → Nat} {f f' : Nat → Nat → List Dat} {s : Nat → Value} {n k : Nat} {f0 : Nat → List Dat} {v : Value} (h : RowsA M e sz len f s n) (hk : k < n)
  (hp : PackR (takeM M (s k)) e sz (len' k) f0 v M2) (hf : ∀ j,j < len' k → f0 j = f' k j) (ho : ∀ i,i < n → i ≠ k → len' i = len i ∧ f' i = f i) : RowsA M2 e sz len' f' (updS s k v) n := by
 have grow : GrowsM (takeM M (s k)) M2 := hp.grows
 have keepM : ∀ i,i < n → i ≠ k → ∀ b m c,s i = .slice (some ⟨b,0,none⟩) m c → M b ≠ none → takeM M (s k) b = M b := by
  intro i hi hik b m c hs hb
  cases ht : takeM M (s k) b with
  | some E => exact (x137 ht).symm
  |none =>
   exfalso
   obtain ⟨p,m',c',hv,hp⟩ := j137 ht hb
   rcases h.at' k hk with ⟨_,h2⟩ | ⟨b2,c2,f2,h1,_⟩
   ·rw [h2] at hv;cases hv
   ·rw [h1] at hv;cases hv
    simp only [] at hp
    subst hp
    exact hik (h.sep i k _ _ _ _ _ hi hk hs h1)
 have other : ∀ i,i < n → i ≠ k → RowA (takeM M (s k)) e sz (len' i) (f' i) (s i) := by
  intro i hi hik
  obtain ⟨e1,e2⟩ := ho i hi hik
  rw [e1,e2]
  rcases h.at' i hi with h1 | ⟨b,c,f2,h1,h2,h3,h4⟩
  ·exact .inl h1
  ·exact .inr ⟨b,c,f2,h1,h2,by rw [keepM i hi hik b _ _ h1 (by rw [h3];simp)];exact h3,h4⟩
 constructor
 ·intro i hi
  by_cases hik : i = k
  ·subst hik
   rw [x33]
   rcases hp with ⟨h1,h2,rfl⟩ | ⟨b,c,h1,h2,h3,rfl⟩
   ·exact .inl ⟨h1,h2⟩
   ·exact .inr ⟨b,c,f0,h3,h1,x21 _ _ _,hf⟩
  ·rw [z26 _ _ hik]
   rcases other i hi hik with h1 | ⟨b,c,f2,h1,h2,h3,h4⟩
   ·exact .inl h1
   ·exact .inr ⟨b,c,f2,h1,h2,grow b _ h3,h4⟩
 ·have one : ∀ i,i < n → i ≠ k → ∀ b m c m' c',s i = .slice (some ⟨b,0,none⟩) m c → v = .slice (some ⟨b,0,none⟩) m' c' → False := by
   intro i hi hik b m c m' c' h1 h2
   rcases hp with ⟨_,h3,_⟩ | ⟨b2,c2,_,h3,h4,_⟩
   ·rw [h3] at h2;cases h2
   ·rw [h4] at h2;cases h2
    rcases other i hi hik with ⟨_,h5⟩ | ⟨b3,c3,f3,h5,_,h6,_⟩
    ·rw [h5] at h1;cases h1
    ·rw [h5] at h1;cases h1
     rw [h3] at h6;cases h6
  intro i j b m c m' c' hi hj h1 h2
  by_cases hik : i = k
  ·by_cases hjk : j = k
   ·rw [hik,hjk]
   ·subst hik
    rw [x33] at h1
    rw [z26 _ _ hjk] at h2
    exact (one j hj hjk b _ _ _ _ h2 h1).elim
  ·by_cases hjk : j = k
   ·subst hjk
    rw [x33] at h2
    rw [z26 _ _ hik] at h1
    exact (one i hi hik b _ _ _ _ h1 h2).elim
   ·rw [z26 _ _ hik] at h1
    rw [z26 _ _ hjk] at h2
    exact h.sep i j b m c m' c' hi hj h1 h2
theorem x89 {L : List (Nat × LV)} {l0 : Nat} {X : LV} {j : Nat} {Y : LV} (h : look ((l0,X) :: L) j = some Y) : (j = l0 ∧ Y = X) ∨ (j ≠ l0 ∧ look L j = some Y) := by
 simp only [look] at h
 split at h
 ·rename_i e;cases h;exact .inl ⟨e.symm,rfl⟩
 ·rename_i e;exact .inr ⟨fun e' => e e'.symm,h⟩
variable {P : Program}
theorem q138 {w : World} {g : Nat → Nat} {v : Value} {sz : Nat} {f : Nat → List Dat} (h : RelD w g v (.sl sz 0 f)) : ∃ a c,v = .slice a 0 c := by
 cases h with
 | sl0 a c => exact ⟨_,_,rfl⟩
 | sl => exact ⟨_,_,rfl⟩
theorem j89 {w : World} {h : Gh} {v : Value} {sz : Nat} {f : Nat → List Dat} (r : RelA w h v (.p (.d (.sl sz 0 f)))) : ∃ a c,v = .slice a 0 c := by
 cases (show RelP w h.g v (.d (.sl sz 0 f)) from r) with
 | d _ _ hr => exact q138 hr
theorem WeakX.exact0 (A : ASt) (t sz : Nat) (f : Nat → List Dat) (ht : look A.fr t = some (.p (.d (.sl sz 0 f)))) : WeakX A (fun A' => ∃ a c,A' = ⟨(t,.p (.d (.v (.slice a 0 c)))) :: A.fr,A.locs⟩) := by
 intro w0 g0 nt h a w r
 obtain ⟨va,c,hv⟩ := j89 (r.fr t _ ht)
 refine ⟨_,h,⟨va,c,rfl⟩,r.size,r.defers,fun u y hy => ?_,r.locs,r.sep,r.ext,r.pin⟩
 simp only [look] at hy
 split at hy
 ·rename_i e;subst e;cases hy;rw [hv];exact q14 rfl
 ·exact r.fr u y hy
theorem Rel.cellV {w0 : Base} {g0 : Nat → Nat} {nt : Nat} {A : ASt} {h : Gh} {a : Act} {w : World} (r : Rel w0 g0 nt A h a w) {l0 k : Nat} {e : TypeId} {cs : List AV} {x : AV} (hl0 : look A.locs l0 = some (.cells e cs)) (hk : cs[k]? = some x) :
  ∃ v,RelA w h v x ∧ v.oneCell' = true ∧ ∀ y,(RelA w h v y) → Rel w0 g0 nt ⟨A.fr,(l0,.cells e (cs.set k y)) :: A.locs⟩ h a w := by
 obtain ⟨arr,c1,c2,c3,c4,c5⟩ := r.locs l0 _ hl0
 have hlt := (List.getElem?_eq_some_iff.1 hk).1
 have hlt' : k < arr.size := by omega
 obtain ⟨k1,k2⟩ := c5 k arr[k] _ (by simp [hlt']) hk
 refine ⟨arr[k],k1,k2,fun y hy => ?_⟩
 refine ⟨r.size,r.defers,r.fr,fun j L hj => ?_,fun j j' L L' b hjj hj hj' hb hb' => ?_,r.ext,r.pin⟩
 ·rcases x89 hj with ⟨rfl,rfl⟩ | ⟨_,hj⟩
  ·refine ⟨arr,c1,c2,by simpa using c3,c4,fun i u z hu hz => ?_⟩
   by_cases hi : i = k
   ·subst hi
    rw [List.getElem?_set_self hlt] at hz
    cases hz
    have : arr[i] = u := by rw [Array.getElem?_eq_getElem hlt'] at hu;exact Option.some.inj hu
    rw [← this]
    exact ⟨hy,k2⟩
   ·rw [List.getElem?_set_ne (fun e => hi e.symm)] at hz
    exact c5 i u z hu hz
  ·exact r.locs j L hj
 ·have old : ∀ {i : Nat} {Y : LV},look ((l0,LV.cells e (cs.set k y)) :: A.locs) i = some Y → inB h i Y b → ∃ Y0,look A.locs i = some Y0 ∧ inB h i Y0 b := by
   intro i Y hi hb
   rcases x89 hi with ⟨rfl,rfl⟩ | ⟨_,hi⟩
   ·exact ⟨_,hl0,hb⟩
   ·exact ⟨Y,hi,hb⟩
  obtain ⟨Y1,a1,a2⟩ := old hj hb
  obtain ⟨Y2,b1,b2⟩ := old hj' hb'
  exact r.sep j j' Y1 Y2 b hjj a1 b1 a2 b2
theorem WeakX.exact0C (A : ASt) (l0 k sz n : Nat) (e : TypeId) (cs : List AV) (f : Nat → List Dat) (hl0 : look A.locs l0 = some (.cells e cs)) (hk : cs[k]? = some (.p (.d (.sl sz n f)))) (hn : n = 0) : WeakX A (fun A' => ∃ a c,A' = ⟨A.fr,(l0,.cells e (cs.set k (.p (.d (.v (.slice a 0 c)))))) :: A.locs⟩) := by
 subst hn
 intro w0 g0 nt h a w r
 obtain ⟨v,k1,k2,k3⟩ := r.cellV hl0 hk
 obtain ⟨va,c,hv⟩ := j89 k1
 exact ⟨_,h,⟨va,c,rfl⟩,k3 _ (by rw [hv];exact q14 rfl)⟩
theorem WeakX.packBlkC (A : ASt) (l0 l k sz n : Nat) (e e' : TypeId) (cs : List AV) (f : Nat → List Dat) (M : Nat → Option Ent) (hl0 : look A.locs l0 = some (.cells e cs)) (hk : cs[k]? = some (.row l sz 0 n)) (hl : look A.locs l = some (.blk e' sz n f)) (hM : look A.locs 1999 = some (.raw M)) (hne : l0 ≠ l) :
  WeakX A (fun A' => ∃ b c cap,(n ≤ c ∧ M b = none) ∧ A' = ⟨A.fr,(l0,.cells e (cs.set k (.p (.d (.v (.slice (some ⟨b,0,none⟩) n c)))))) :: (1999,.raw (setM M b (some ⟨e',sz,cap,n,f⟩))) :: dropL l A.locs⟩) := by
 intro w0 g0 nt h a w r
 have hl9 : l ≠ 1999 := fun e => by rw [e,hM] at hl;cases hl
 have h09 : l0 ≠ 1999 := fun e => by rw [e,hM] at hl0;cases hl0
 obtain ⟨cap,h1,h2,h3⟩ := r.locs l _ hl
 obtain ⟨v,⟨c,hv,hc⟩,k2,k3⟩ := r.cellV hl0 hk
 rw [Nat.zero_mul] at hv
 obtain ⟨m1,m2⟩ := r.into hl hM hl9 (b := h.ρ l) (E := ⟨e',sz,cap,n,f⟩) (fr := A.fr) rfl h1 h2 h3 r.fr
 have hl0' : look ((1999,LV.raw (setM M (h.ρ l) (some ⟨e',sz,cap,n,f⟩))) :: dropL l A.locs) l0 = some (.cells e cs) := by
  simp only [look]
  rw [if_neg (fun e => h09 e.symm),x15,if_neg hne]
  exact hl0
 obtain ⟨v2,q1,q2,q3⟩ := m2.cellV hl0' hk
 obtain ⟨c2,hv2,hc2⟩ := q1
 rw [Nat.zero_mul] at hv2
 exact ⟨_,h,⟨h.ρ l,c2,cap,⟨hc2,m1⟩,rfl⟩,q3 _ (by rw [hv2];exact q14 rfl)⟩
theorem x48 {f : FuncId} {sz n : Nat} (hc : ∀ b c,n ≤ c → ACalls P f [.d (.v (.slice (some ⟨b,0,none⟩) n c))] (· = [.d (.v (.slice (some ⟨b,0,none⟩) n n))])) : RCalls P f [.row 1000 sz 0 n] [] (.row 1000 sz 0 n) := by
 intro w h vs hz hr hl
 obtain ⟨v,rfl⟩ : ∃ v,vs = [v] := by
  have := hr.1
  match vs,this with
  | [v],_ => exact ⟨v,rfl⟩
 obtain ⟨c,hv,hcc⟩ := hr.2 0 v _ rfl rfl
 have key := x23.1 (hc (h.ρ 1000) c hcc) w h.g [v] hz ⟨rfl,fun j u x hu hx => by
  match j with
  |0 =>
   simp only [List.getElem?_cons_zero,Option.some.injEq] at hu hx
   subst hu hx
   rw [hv,Nat.zero_mul]
   exact .d _ _ (.v _ rfl)
  | j + 1 => simp at hu⟩
 have fin : ∀ u w' g',RelR w' g' u [.d (.v (.slice (some ⟨h.ρ 1000,0,none⟩) n n))] → RelA w' { h with g := g' } u (.row 1000 sz 0 n) := by
  intro u w' g' hu
  have hu : RelP w' g' u (.d (.v (.slice (some ⟨h.ρ 1000,0,none⟩) n n))) := hu
  cases hu with
  |d _ _ hr =>
   cases hr
   exact ⟨n,by rw [Nat.zero_mul],Nat.le_refl _⟩
 unfold CallRes at *
 split at key
 ·exact key.mono fun e w' ⟨u,he,g',rs,h1,h2,h3⟩ => ⟨u,he,g',h1,fin u w' g' (h2 ▸ h3)⟩
 ·obtain ⟨g',rs,h1,h2,h3⟩ := key
  exact ⟨g',h1,fin _ _ g' (h2 ▸ h3)⟩
 ·exact key
theorem z138 {nt : Nat} {Q : Exit → ASt → Prop} {A : ASt} {ι : Type} (I : ι → ASt) {x y z : Code} (h1 : AWP P nt x (seqQ P nt y (cutQ I Q)) A) (h2 : ∀ i,AWP P nt z Q (I i)) : AWP P nt x (seqQ P nt (.seq y z) Q) A := by
 refine x54 h1 fun e A' h => ?_
 cases e with
 | normal => exact awp_cut I h h2
 | ret => have h : cutQ I Q .ret A' := h;unfold cutQ at h;exact h
 | exit n => have h : cutQ I Q (.exit n) A' := h;unfold cutQ at h;exact h
 | _ => have h : cutQ I Q _ A' := h;unfold cutQ at h;exact h
end Go.Proofs.Ytjfammnjpeeahaa.AL
namespace Go.Proofs.Ytjfammnjpeeahaa
open Go Go.Proofs.Ytjfammnjpeeahaa.AL
theorem q90 {M M2 : Nat → Option Ent} {e : TypeId} {sz : Nat} {len : Nat → Nat} {f : Nat → Nat → List Dat} {s : Nat → Value} {n : Nat} {v : Value} (h : RowsM M e sz len f s n) (hg : GrowsM M M2) (hv : HoldR M2 e sz (len n) (f n) v) : RowsM M2 e sz len f (updS s n v) (n + 1) := by
 intro i hi
 by_cases hin : i = n
 ·subst hin;rw [x33];exact hv
 ·rw [z26 _ _ hin];exact (h i (by omega)).mono hg
theorem x24 {M : Nat → Option Ent} {b : Nat} (E : Ent) (hb : M b = none) : GrowsM M (setM M b (some E)) := by
 intro b' E' h
 have : b' ≠ b := fun e => by rw [e,hb] at h;cases h
 rw [j36 _ _ this];exact h
theorem z90 {M : Nat → Option Ent} {e : TypeId} {sz n cap b : Nat} {f : Nat → List Dat} : HoldR (setM M b (some ⟨e,sz,cap,n,f⟩)) e sz n f (.slice (some ⟨b,0,none⟩) n n) := .inr ⟨b,n,cap,f,rfl,Nat.le_refl _,x21 _ _ _,fun _ _ => rfl⟩
set_option maxRecDepth 100000 in
theorem x138 (n : Nat) (f : Nat → List Dat) (h0 : 0 < n) (hl : n ≤ 1099511627776) : MCalls Try.prog 48 [.p (.d (.sl 12 n f))] [] (fun rs L => rs = [.ow 5 1 12 n] ∧ L = [(5,.own 44 12 n 1 f)]) := by
 refine q29 Try.func48 rfl (by decide +kernel) (by rw [Try.ntmps48];simp) (fun l X h => by simp only [AL.look] at h;(repeat' split at h);all_goals first | omega | cases h) ?_;rw [Try.ntmps48];simp only [frA]
 (repeat (first | apply j0 | refine q8 rfl ?_ | refine z8 rfl ?_ | apply z7 | (refine x4 fun K hK => ?_) | (refine j4 fun K hK => ?_) | ((first | apply j6 | apply x7 | ((first | refine j5 (hK _ ?_) | refine x6 (hK _ _ x5 ?_));clear hK K));(first | show AWP _ _ _ _ _ | ((try simp only [j7]);first | show loopQ _ _ _ _ _ _ | show cutQ _ _ _ _ | show AWP _ _ _ _ _))) | ((first | refine x8 [10005] rfl ?_ | refine j8 [10005] rfl ?_);simp (disch:=omega) only [go_sem,seval];(repeat (first | refine ⟨by omega,?_⟩ | refine ⟨True.intro,?_⟩)))))
 refine z46 5 f rfl (fun i hi => by unfold catF;rw [if_neg (by omega)];rfl) ?_
 refine z9 ?_
 refine (x29 ⟨rfl,rfl⟩ ?_ ?_).1
 ·exact ⟨rfl,trivial⟩
 ·simp [AL.look]
theorem j138 (b n c : Nat) (hc : n ≤ c) (hn : n ≤ 1099511627776) : ACalls Try.prog 47 [.d (.v (.slice (some ⟨b,0,none⟩) n c))] (· = [.d (.v (.slice (some ⟨b,0,none⟩) n n))]) := by
 refine x9 Try.func47 rfl (by decide +kernel) (by rw [Try.ntmps47];simp) ?_;rw [Try.ntmps47];simp only [frOf]
 (repeat (first | apply j0 | refine q8 rfl ?_ | refine z8 rfl ?_ | apply z7 | (refine x4 fun K hK => ?_) | (refine j4 fun K hK => ?_) | ((first | apply j6 | apply x7 | ((first | refine j5 (hK _ ?_) | refine x6 (hK _ _ x5 ?_));clear hK K));(first | show AWP _ _ _ _ _ | ((try simp only [j7]);first | show loopQ _ _ _ _ _ _ | show cutQ _ _ _ _ | show AWP _ _ _ _ _))) | ((first | refine x8 [] rfl ?_ | refine j8 [] rfl ?_);simp (disch:=omega) only [go_sem,seval];(repeat (first | refine ⟨by omega,?_⟩ | refine ⟨True.intro,?_⟩)))))
 refine z9 ⟨_,?_,rfl⟩;rw [Try.results47];simp (disch:=omega) only [ResVars,ResVar,ptrLoc,go_sem,seval]
def lenRX (l : List (List Rule)) (i : Nat) : Nat := (l.getD i []).length
def cellRX (l : List (List Rule)) (i : Nat) : Nat → List Dat := rowR (l.getD i [])
def RowsRX (M : Nat → Option Ent) (l : List (List Rule)) (s : Nat → Value) (n : Nat) : Prop := RowsM M 44 12 (lenRX l) (cellRX l) s n
structure DpRX (l : List (List Rule)) (M0 : Nat → Option Ent) where
 i : Nat
 s : Nat → Value
 M : Nat → Option Ent
 hi : i ≤ l.length
 h : RowsRX M l s i
 g : GrowsM M0 M
def deepRXI (l : List (List Rule)) (M0 : Nat → Option Ent) (x : DpRX l M0) : ASt :=
 ⟨[(8,.p (.d (.v (.int .i64 (x.i : Int))))),(7,.p (.d (.v (.int .i64 (l.length : Int))))),(6,.p (.d (.sl 1 l.length (rowRR l)))),(3,.gr 3 x.i 1 x.i (rowVal x.s))],[(3,.grow 35 1 x.i x.i),(1999,.raw x.M)]⟩
set_option maxRecDepth 100000 in
theorem q139 (l : List (List Rule)) (hs : smallR l) (M0 : Nat → Option Ent) : MCalls Try.prog 27 [.p (.d (.sl 1 l.length (rowRR l)))] [(1999,.raw M0)]
  (fun rs L => ∃ r : {r : (Nat → Value) × (Nat → Option Ent) // RowsRX r.2 l r.1 l.length ∧ GrowsM M0 r.2},rs = [.p (.d (.sl 1 l.length (rowVal r.val.1)))] ∧ L = [(1999,.raw r.val.2)]) := by
 have hs1 := hs.1
 refine q29 Try.func27 rfl (by decide +kernel) (by rw [Try.ntmps27];simp) (fun l X h => by simp only [AL.look] at h;(repeat' split at h);all_goals first | omega | cases h) ?_;rw [Try.ntmps27];simp only [frA]
 (repeat ((fail_if_success (show AWP _ _ (.region 2 _ _) _ _));first | apply j0 | refine q8 rfl ?_ | refine z8 rfl ?_ | apply z7 | (refine x4 fun K hK => ?_) | (refine j4 fun K hK => ?_) | ((first | apply j6 | apply x7 | ((first | refine j5 (hK _ ?_) | refine x6 (hK _ _ x5 ?_));clear hK K));(first | show AWP _ _ _ _ _ | ((try simp only [j7]);first | show loopQ _ _ _ _ _ _ | show cutQ _ _ _ _ | show AWP _ _ _ _ _))) | ((first | refine x8 [] rfl ?_ | refine j8 [] rfl ?_);simp (disch:=omega) only [go_sem,seval];(repeat (first | refine ⟨by omega,?_⟩ | refine ⟨True.intro,?_⟩)))))
 refine q28 3 3 1 35 (rowVal fun _ => .slice none 0 0) rfl (by kernel_rfl) rfl ?_
 (repeat (first | apply j0 | refine q8 rfl ?_ | refine z8 rfl ?_ | apply z7 | (refine x4 fun K hK => ?_) | (refine j4 fun K hK => ?_) | ((first | apply j6 | apply x7 | ((first | refine j5 (hK _ ?_) | refine x6 (hK _ _ x5 ?_));clear hK K));(first | show AWP _ _ _ _ _ | ((try simp only [j7]);first | show loopQ _ _ _ _ _ _ | show cutQ _ _ _ _ | show AWP _ _ _ _ _))) | ((first | refine x8 [] rfl ?_ | refine j8 [] rfl ?_);simp (disch:=omega) only [go_sem,seval];(repeat (first | refine ⟨by omega,?_⟩ | refine ⟨True.intro,?_⟩)))))
 refine x12 (deepRXI l M0) (fun x => l.length - x.i) ⟨0,fun _ => .slice none 0 0,M0,by omega,fun i hi => by omega,.refl _⟩ ?_ (fun x => ?_)
 ·unfold deepRXI
  refine Weak.list ?_ ?_;(all_goals simp (disch:=omega) only [AllF,AllL,j10,q11,x10,exists_eq_left',go_sem,seval]);(all_goals (repeat' (with_reducible apply And.intro)));(all_goals try (first | exact q9 rfl | (refine z11 ?_;omega) | (refine q9 ?_;simp;done)))
 obtain ⟨i,s,M,hi,hM,hg⟩ := x
 unfold deepRXI
 by_cases h : i < l.length
 ·have r1 := q24 l i
  have hb := q23 hs i
  have sn : ∀ {v M2},GrowsM M M2 → HoldR M2 44 12 (l.getD i []).length (rowR (l.getD i [])) v → RowsRX M2 l (updS s i v) (i + 1) := fun hg hv => q90 hM hg hv
  generalize l.getD i [] = x at r1 hb sn
  obtain ⟨n,hn⟩ : ∃ n,x.length = n := ⟨_,rfl⟩
  rw [hn] at r1 hb sn
  generalize rowR x = f at r1 sn
  by_cases h0 : n = 0
  ·subst h0
   have c1 := x85 0 f (by omega)
   have c2 := z85 0 f (by omega)
   (repeat ((fail_if_success (show AWP _ _ (.region 5 _ _) _ _));first | apply j0 | refine q8 rfl ?_ | refine z8 rfl ?_ | apply z7 | (refine x4 fun K hK => ?_) | (refine j4 fun K hK => ?_) | ((first | apply j6 | apply x7 | ((first | refine j5 (hK _ ?_) | refine x6 (hK _ _ x5 ?_));clear hK K));(first | show AWP _ _ _ _ _ | ((try simp only [j7]);first | show loopQ _ _ _ _ _ _ | show cutQ _ _ _ _ | show AWP _ _ _ _ _))) | ((first | refine x8 [] rfl ?_ | refine j8 [] rfl ?_);simp (disch:=omega) only [go_sem,seval,r1];(repeat (first | refine ⟨by omega,?_⟩ | refine ⟨True.intro,?_⟩)))))
   refine x4 fun K hK => ?_
   (first | refine x11 [] _ _ ?_ | refine j11 [] _ _ _ ?_);simp (disch:=omega) only [go_sem,seval,r1];(repeat refine ⟨by omega,?_⟩)
   (first | refine q10 rfl rfl rfl ?_ | refine z10 rfl rfl rfl ?_);simp (disch:=omega) only [go_sem,seval,r1]
   refine ⟨_,c1,?_⟩
   (first | refine x11 [] _ _ ?_ | refine j11 [] _ _ _ ?_);simp (disch:=omega) only [go_sem,seval,r1];(repeat refine ⟨by omega,?_⟩)
   (first | refine q10 rfl rfl rfl ?_ | refine z10 rfl rfl rfl ?_);simp (disch:=omega) only [go_sem,seval,r1]
   refine ⟨_,c2,?_⟩
   simp (disch:=omega) only [go_sem,seval,r1]
   refine z47 (WeakX.exact0 _ 15 12 _ rfl) ?_
   rintro _ ⟨a,c,rfl⟩
   (repeat (first | apply j0 | refine q8 rfl ?_ | refine z8 rfl ?_ | apply z7 | (refine x4 fun K hK => ?_) | (refine j4 fun K hK => ?_) | ((first | apply j6 | apply x7 | ((first | refine j5 (hK _ ?_) | refine x6 (hK _ _ x5 ?_));clear hK K));(first | show AWP _ _ _ _ _ | ((try simp only [j7]);first | show loopQ _ _ _ _ _ _ | show cutQ _ _ _ _ | show AWP _ _ _ _ _))) | ((first | refine x8 [] rfl ?_ | refine j8 [] rfl ?_);simp (disch:=omega) only [go_sem,seval,r1];(repeat (first | refine ⟨by omega,?_⟩ | refine ⟨True.intro,?_⟩)))))
   refine ⟨⟨i + 1,updS s i (.slice a 0 c),M,by omega,sn (.refl _) (.inl ⟨rfl,_,_,rfl⟩),hg⟩,by simp only [];omega,?_⟩
   refine Weak.list ?_ ?_;(all_goals simp (disch:=omega) only [AllF,AllL,j10,q11,x10,exists_eq_left',go_sem,seval,r1]);(all_goals (repeat' (with_reducible apply And.intro)));(all_goals try (first | exact q9 rfl | (refine z11 ?_;omega) | (refine q9 ?_;simp;done)))
   ·exact j19 rfl rfl (fun k hk => z48 s _ i k hk)
  ·(repeat ((fail_if_success (show AWP _ _ (.region 5 _ _) _ _));first | apply j0 | refine q8 rfl ?_ | refine z8 rfl ?_ | apply z7 | (refine x4 fun K hK => ?_) | (refine j4 fun K hK => ?_) | ((first | apply j6 | apply x7 | ((first | refine j5 (hK _ ?_) | refine x6 (hK _ _ x5 ?_));clear hK K));(first | show AWP _ _ _ _ _ | ((try simp only [j7]);first | show loopQ _ _ _ _ _ _ | show cutQ _ _ _ _ | show AWP _ _ _ _ _))) | ((first | refine x8 [] rfl ?_ | refine j8 [] rfl ?_);simp (disch:=omega) only [go_sem,seval,r1];(repeat (first | refine ⟨by omega,?_⟩ | refine ⟨True.intro,?_⟩)))))
   refine x4 fun K hK => ?_
   iterate 2 ((first | refine j20 [] rfl rfl ?_ | refine q21 [] rfl rfl ?_ | refine z19 rfl rfl ?_ | refine x19 rfl rfl ?_);simp (disch:=omega) only [go_sem,seval,r1];(repeat (first | refine ⟨by omega,?_⟩ | refine ⟨True.intro,?_⟩)))
   (refine j74 _ (z80 [(5,14)] rfl rfl rfl rfl rfl rfl (x138 n f (by omega) (by omega)) rfl (x25 (by repeat (first | exact trivial | refine ⟨rfl,?_⟩)) (by kernel_rfl))) ?_);simp (disch:=omega) only [go_sem,seval,r1]
   refine z47 (WeakX.packRow _ 14 14 1 12 n 44 f M rfl rfl rfl (by decide)) ?_
   rintro _ ⟨v,M2,hp,rfl⟩
   rcases hp with ⟨hz,_,_⟩ | ⟨b,c,hc,hbn,rfl,rfl⟩
   ·omega
   have c2 := j138 b n c hc (by omega)
   (repeat (first | apply j0 | refine q8 rfl ?_ | refine z8 rfl ?_ | apply z7 | (refine x4 fun K hK => ?_) | (refine j4 fun K hK => ?_) | ((first | apply j6 | apply x7 | ((first | refine j5 (hK _ ?_) | refine x6 (hK _ _ x5 ?_));clear hK K));(first | show AWP _ _ _ _ _ | ((try simp only [j7]);first | show loopQ _ _ _ _ _ _ | show cutQ _ _ _ _ | show AWP _ _ _ _ _))) | ((first | refine q10 rfl rfl rfl ?_ | refine z10 rfl rfl rfl ?_);simp (disch:=omega) only [go_sem,seval,r1,x15];(first | refine ⟨_,c2,?_⟩)) | ((first | refine x8 [] rfl ?_ | refine j8 [] rfl ?_);simp (disch:=omega) only [go_sem,seval,r1,x15];(repeat (first | refine ⟨by omega,?_⟩ | refine ⟨True.intro,?_⟩)))))
   refine ⟨⟨i + 1,updS s i (.slice (some ⟨b,0,none⟩) n n),setM M b (some ⟨44,12,c,n,f⟩),by omega,sn (x24 _ hbn) z90,hg.trans (x24 _ hbn)⟩,by simp only [];omega,?_⟩
   refine Weak.list ?_ ?_;(all_goals simp (disch:=omega) only [AllF,AllL,j10,q11,x10,exists_eq_left',go_sem,seval,r1,x15]);(all_goals (repeat' (with_reducible apply And.intro)));(all_goals try (first | exact q9 rfl | (refine z11 ?_;omega) | (refine q9 ?_;simp;done)))
   ·exact j19 rfl rfl (fun k hk => z48 s _ i k hk)
 ·have : i = l.length := by omega
  subst this
  have cl := q86 l.length (rowVal s) (by omega)
  (repeat (first | apply j0 | refine q8 rfl ?_ | refine z8 rfl ?_ | apply z7 | (refine x4 fun K hK => ?_) | (refine j4 fun K hK => ?_) | ((first | apply j6 | apply x7 | ((first | refine j5 (hK _ ?_) | refine x6 (hK _ _ x5 ?_));clear hK K));(first | show AWP _ _ _ _ _ | ((try simp only [j7]);first | show loopQ _ _ _ _ _ _ | show cutQ _ _ _ _ | show AWP _ _ _ _ _))) | ((first | refine q10 rfl rfl rfl ?_ | refine z10 rfl rfl rfl ?_);simp (disch:=omega) only [go_sem,seval];(first | refine ⟨_,cl,?_⟩)) | ((first | refine x8 [] rfl ?_ | refine j8 [] rfl ?_);simp (disch:=omega) only [go_sem,seval];(repeat (first | refine ⟨by omega,?_⟩ | refine ⟨True.intro,?_⟩)))))
  refine z9 ?_
  refine (x29 ⟨⟨(s,M),hM,hg⟩,rfl,rfl⟩ ?_ ?_).1
  ·exact ⟨rfl,trivial⟩
  ·simp [AL.look]
set_option maxRecDepth 100000 in
theorem z139 (n : Nat) (f : Nat → List Dat) (h0 : 0 < n) (hl : n ≤ 1099511627776) : MCalls Try.prog 45 [.p (.d (.sl 5 n f))] [] (fun rs L => rs = [.ow 5 1 5 n] ∧ L = [(5,.own 47 5 n 1 f)]) := by
 refine q29 Try.func45 rfl (by decide +kernel) (by rw [Try.ntmps45];simp) (fun l X h => by simp only [AL.look] at h;(repeat' split at h);all_goals first | omega | cases h) ?_;rw [Try.ntmps45];simp only [frA]
 (repeat (first | apply j0 | refine q8 rfl ?_ | refine z8 rfl ?_ | apply z7 | (refine x4 fun K hK => ?_) | (refine j4 fun K hK => ?_) | ((first | apply j6 | apply x7 | ((first | refine j5 (hK _ ?_) | refine x6 (hK _ _ x5 ?_));clear hK K));(first | show AWP _ _ _ _ _ | ((try simp only [j7]);first | show loopQ _ _ _ _ _ _ | show cutQ _ _ _ _ | show AWP _ _ _ _ _))) | ((first | refine x8 [10005] rfl ?_ | refine j8 [10005] rfl ?_);simp (disch:=omega) only [go_sem,seval];(repeat (first | refine ⟨by omega,?_⟩ | refine ⟨True.intro,?_⟩)))))
 refine z46 5 f rfl (fun i hi => by unfold catF;rw [if_neg (by omega)];rfl) ?_
 refine z9 ?_
 refine (x29 ⟨rfl,rfl⟩ ?_ ?_).1
 ·exact ⟨rfl,trivial⟩
 ·simp [AL.look]
theorem x139 (b n c : Nat) (hc : n ≤ c) (hn : n ≤ 1099511627776) : ACalls Try.prog 44 [.d (.v (.slice (some ⟨b,0,none⟩) n c))] (· = [.d (.v (.slice (some ⟨b,0,none⟩) n n))]) := by
 refine x9 Try.func44 rfl (by decide +kernel) (by rw [Try.ntmps44];simp) ?_;rw [Try.ntmps44];simp only [frOf]
 (repeat (first | apply j0 | refine q8 rfl ?_ | refine z8 rfl ?_ | apply z7 | (refine x4 fun K hK => ?_) | (refine j4 fun K hK => ?_) | ((first | apply j6 | apply x7 | ((first | refine j5 (hK _ ?_) | refine x6 (hK _ _ x5 ?_));clear hK K));(first | show AWP _ _ _ _ _ | ((try simp only [j7]);first | show loopQ _ _ _ _ _ _ | show cutQ _ _ _ _ | show AWP _ _ _ _ _))) | ((first | refine x8 [] rfl ?_ | refine j8 [] rfl ?_);simp (disch:=omega) only [go_sem,seval];(repeat (first | refine ⟨by omega,?_⟩ | refine ⟨True.intro,?_⟩)))))
 refine z9 ⟨_,?_,rfl⟩;rw [Try.results44];simp (disch:=omega) only [ResVars,ResVar,ptrLoc,go_sem,seval]
def lenPX (l : List (List Port)) (i : Nat) : Nat := (l.getD i []).length
def cellPX (l : List (List Port)) (i : Nat) : Nat → List Dat := rowP (l.getD i [])
def RowsPX (M : Nat → Option Ent) (l : List (List Port)) (s : Nat → Value) (n : Nat) : Prop := RowsM M 47 5 (lenPX l) (cellPX l) s n
structure DpPX (l : List (List Port)) (M0 : Nat → Option Ent) where
 i : Nat
 s : Nat → Value
 M : Nat → Option Ent
 hi : i ≤ l.length
 h : RowsPX M l s i
 g : GrowsM M0 M
def deepPXI (l : List (List Port)) (M0 : Nat → Option Ent) (x : DpPX l M0) : ASt :=
 ⟨[(8,.p (.d (.v (.int .i64 (x.i : Int))))),(7,.p (.d (.v (.int .i64 (l.length : Int))))),(6,.p (.d (.sl 1 l.length (rowPP l)))),(3,.gr 3 x.i 1 x.i (rowVal x.s))],[(3,.grow 45 1 x.i x.i),(1999,.raw x.M)]⟩
set_option maxRecDepth 100000 in
theorem j139 (l : List (List Port)) (hs : small l) (M0 : Nat → Option Ent) : MCalls Try.prog 22 [.p (.d (.sl 1 l.length (rowPP l)))] [(1999,.raw M0)]
  (fun rs L => ∃ r : {r : (Nat → Value) × (Nat → Option Ent) // RowsPX r.2 l r.1 l.length ∧ GrowsM M0 r.2},rs = [.p (.d (.sl 1 l.length (rowVal r.val.1)))] ∧ L = [(1999,.raw r.val.2)]) := by
 have hs1 := hs.1
 refine q29 Try.func22 rfl (by decide +kernel) (by rw [Try.ntmps22];simp) (fun l X h => by simp only [AL.look] at h;(repeat' split at h);all_goals first | omega | cases h) ?_;rw [Try.ntmps22];simp only [frA]
 (repeat ((fail_if_success (show AWP _ _ (.region 2 _ _) _ _));first | apply j0 | refine q8 rfl ?_ | refine z8 rfl ?_ | apply z7 | (refine x4 fun K hK => ?_) | (refine j4 fun K hK => ?_) | ((first | apply j6 | apply x7 | ((first | refine j5 (hK _ ?_) | refine x6 (hK _ _ x5 ?_));clear hK K));(first | show AWP _ _ _ _ _ | ((try simp only [j7]);first | show loopQ _ _ _ _ _ _ | show cutQ _ _ _ _ | show AWP _ _ _ _ _))) | ((first | refine x8 [] rfl ?_ | refine j8 [] rfl ?_);simp (disch:=omega) only [go_sem,seval];(repeat (first | refine ⟨by omega,?_⟩ | refine ⟨True.intro,?_⟩)))))
 refine q28 3 3 1 45 (rowVal fun _ => .slice none 0 0) rfl (by kernel_rfl) rfl ?_
 (repeat (first | apply j0 | refine q8 rfl ?_ | refine z8 rfl ?_ | apply z7 | (refine x4 fun K hK => ?_) | (refine j4 fun K hK => ?_) | ((first | apply j6 | apply x7 | ((first | refine j5 (hK _ ?_) | refine x6 (hK _ _ x5 ?_));clear hK K));(first | show AWP _ _ _ _ _ | ((try simp only [j7]);first | show loopQ _ _ _ _ _ _ | show cutQ _ _ _ _ | show AWP _ _ _ _ _))) | ((first | refine x8 [] rfl ?_ | refine j8 [] rfl ?_);simp (disch:=omega) only [go_sem,seval];(repeat (first | refine ⟨by omega,?_⟩ | refine ⟨True.intro,?_⟩)))))
 refine x12 (deepPXI l M0) (fun x => l.length - x.i) ⟨0,fun _ => .slice none 0 0,M0,by omega,fun i hi => by omega,.refl _⟩ ?_ (fun x => ?_)
 ·unfold deepPXI
  refine Weak.list ?_ ?_;(all_goals simp (disch:=omega) only [AllF,AllL,j10,q11,x10,exists_eq_left',go_sem,seval]);(all_goals (repeat' (with_reducible apply And.intro)));(all_goals try (first | exact q9 rfl | (refine z11 ?_;omega) | (refine q9 ?_;simp;done)))
 obtain ⟨i,s,M,hi,hM,hg⟩ := x
 unfold deepPXI
 by_cases h : i < l.length
 ·have r1 := q18 l i
  have hb := j16 hs i
  have sn : ∀ {v M2},GrowsM M M2 → HoldR M2 47 5 (l.getD i []).length (rowP (l.getD i [])) v → RowsPX M2 l (updS s i v) (i + 1) := fun hg hv => q90 hM hg hv
  generalize l.getD i [] = x at r1 hb sn
  obtain ⟨n,hn⟩ : ∃ n,x.length = n := ⟨_,rfl⟩
  rw [hn] at r1 hb sn
  generalize rowP x = f at r1 sn
  by_cases h0 : n = 0
  ·subst h0
   have c1 := q85 0 f (by omega)
   have c2 := j84 0 f (by omega)
   (repeat ((fail_if_success (show AWP _ _ (.region 5 _ _) _ _));first | apply j0 | refine q8 rfl ?_ | refine z8 rfl ?_ | apply z7 | (refine x4 fun K hK => ?_) | (refine j4 fun K hK => ?_) | ((first | apply j6 | apply x7 | ((first | refine j5 (hK _ ?_) | refine x6 (hK _ _ x5 ?_));clear hK K));(first | show AWP _ _ _ _ _ | ((try simp only [j7]);first | show loopQ _ _ _ _ _ _ | show cutQ _ _ _ _ | show AWP _ _ _ _ _))) | ((first | refine x8 [] rfl ?_ | refine j8 [] rfl ?_);simp (disch:=omega) only [go_sem,seval,r1];(repeat (first | refine ⟨by omega,?_⟩ | refine ⟨True.intro,?_⟩)))))
   refine x4 fun K hK => ?_
   (first | refine x11 [] _ _ ?_ | refine j11 [] _ _ _ ?_);simp (disch:=omega) only [go_sem,seval,r1];(repeat refine ⟨by omega,?_⟩)
   (first | refine q10 rfl rfl rfl ?_ | refine z10 rfl rfl rfl ?_);simp (disch:=omega) only [go_sem,seval,r1]
   refine ⟨_,c1,?_⟩
   (first | refine x11 [] _ _ ?_ | refine j11 [] _ _ _ ?_);simp (disch:=omega) only [go_sem,seval,r1];(repeat refine ⟨by omega,?_⟩)
   (first | refine q10 rfl rfl rfl ?_ | refine z10 rfl rfl rfl ?_);simp (disch:=omega) only [go_sem,seval,r1]
   refine ⟨_,c2,?_⟩
   simp (disch:=omega) only [go_sem,seval,r1]
   refine z47 (WeakX.exact0 _ 15 5 _ rfl) ?_
   rintro _ ⟨a,c,rfl⟩
   (repeat (first | apply j0 | refine q8 rfl ?_ | refine z8 rfl ?_ | apply z7 | (refine x4 fun K hK => ?_) | (refine j4 fun K hK => ?_) | ((first | apply j6 | apply x7 | ((first | refine j5 (hK _ ?_) | refine x6 (hK _ _ x5 ?_));clear hK K));(first | show AWP _ _ _ _ _ | ((try simp only [j7]);first | show loopQ _ _ _ _ _ _ | show cutQ _ _ _ _ | show AWP _ _ _ _ _))) | ((first | refine x8 [] rfl ?_ | refine j8 [] rfl ?_);simp (disch:=omega) only [go_sem,seval,r1];(repeat (first | refine ⟨by omega,?_⟩ | refine ⟨True.intro,?_⟩)))))
   refine ⟨⟨i + 1,updS s i (.slice a 0 c),M,by omega,sn (.refl _) (.inl ⟨rfl,_,_,rfl⟩),hg⟩,by simp only [];omega,?_⟩
   refine Weak.list ?_ ?_;(all_goals simp (disch:=omega) only [AllF,AllL,j10,q11,x10,exists_eq_left',go_sem,seval,r1]);(all_goals (repeat' (with_reducible apply And.intro)));(all_goals try (first | exact q9 rfl | (refine z11 ?_;omega) | (refine q9 ?_;simp;done)))
   ·exact j19 rfl rfl (fun k hk => z48 s _ i k hk)
  ·(repeat ((fail_if_success (show AWP _ _ (.region 5 _ _) _ _));first | apply j0 | refine q8 rfl ?_ | refine z8 rfl ?_ | apply z7 | (refine x4 fun K hK => ?_) | (refine j4 fun K hK => ?_) | ((first | apply j6 | apply x7 | ((first | refine j5 (hK _ ?_) | refine x6 (hK _ _ x5 ?_));clear hK K));(first | show AWP _ _ _ _ _ | ((try simp only [j7]);first | show loopQ _ _ _ _ _ _ | show cutQ _ _ _ _ | show AWP _ _ _ _ _))) | ((first | refine x8 [] rfl ?_ | refine j8 [] rfl ?_);simp (disch:=omega) only [go_sem,seval,r1];(repeat (first | refine ⟨by omega,?_⟩ | refine ⟨True.intro,?_⟩)))))
   refine x4 fun K hK => ?_
   iterate 2 ((first | refine j20 [] rfl rfl ?_ | refine q21 [] rfl rfl ?_ | refine z19 rfl rfl ?_ | refine x19 rfl rfl ?_);simp (disch:=omega) only [go_sem,seval,r1];(repeat (first | refine ⟨by omega,?_⟩ | refine ⟨True.intro,?_⟩)))
   (refine j74 _ (z80 [(5,14)] rfl rfl rfl rfl rfl rfl (z139 n f (by omega) (by omega)) rfl (x25 (by repeat (first | exact trivial | refine ⟨rfl,?_⟩)) (by kernel_rfl))) ?_);simp (disch:=omega) only [go_sem,seval,r1]
   refine z47 (WeakX.packRow _ 14 14 1 5 n 47 f M rfl rfl rfl (by decide)) ?_
   rintro _ ⟨v,M2,hp,rfl⟩
   rcases hp with ⟨hz,_,_⟩ | ⟨b,c,hc,hbn,rfl,rfl⟩
   ·omega
   have c2 := x139 b n c hc (by omega)
   (repeat (first | apply j0 | refine q8 rfl ?_ | refine z8 rfl ?_ | apply z7 | (refine x4 fun K hK => ?_) | (refine j4 fun K hK => ?_) | ((first | apply j6 | apply x7 | ((first | refine j5 (hK _ ?_) | refine x6 (hK _ _ x5 ?_));clear hK K));(first | show AWP _ _ _ _ _ | ((try simp only [j7]);first | show loopQ _ _ _ _ _ _ | show cutQ _ _ _ _ | show AWP _ _ _ _ _))) | ((first | refine q10 rfl rfl rfl ?_ | refine z10 rfl rfl rfl ?_);simp (disch:=omega) only [go_sem,seval,r1,x15];(first | refine ⟨_,c2,?_⟩)) | ((first | refine x8 [] rfl ?_ | refine j8 [] rfl ?_);simp (disch:=omega) only [go_sem,seval,r1,x15];(repeat (first | refine ⟨by omega,?_⟩ | refine ⟨True.intro,?_⟩)))))
   refine ⟨⟨i + 1,updS s i (.slice (some ⟨b,0,none⟩) n n),setM M b (some ⟨47,5,c,n,f⟩),by omega,sn (x24 _ hbn) z90,hg.trans (x24 _ hbn)⟩,by simp only [];omega,?_⟩
   refine Weak.list ?_ ?_;(all_goals simp (disch:=omega) only [AllF,AllL,j10,q11,x10,exists_eq_left',go_sem,seval,r1,x15]);(all_goals (repeat' (with_reducible apply And.intro)));(all_goals try (first | exact q9 rfl | (refine z11 ?_;omega) | (refine q9 ?_;simp;done)))
   ·exact j19 rfl rfl (fun k hk => z48 s _ i k hk)
 ·have : i = l.length := by omega
  subst this
  have cl := j85 l.length (rowVal s) (by omega)
  (repeat (first | apply j0 | refine q8 rfl ?_ | refine z8 rfl ?_ | apply z7 | (refine x4 fun K hK => ?_) | (refine j4 fun K hK => ?_) | ((first | apply j6 | apply x7 | ((first | refine j5 (hK _ ?_) | refine x6 (hK _ _ x5 ?_));clear hK K));(first | show AWP _ _ _ _ _ | ((try simp only [j7]);first | show loopQ _ _ _ _ _ _ | show cutQ _ _ _ _ | show AWP _ _ _ _ _))) | ((first | refine q10 rfl rfl rfl ?_ | refine z10 rfl rfl rfl ?_);simp (disch:=omega) only [go_sem,seval];(first | refine ⟨_,cl,?_⟩)) | ((first | refine x8 [] rfl ?_ | refine j8 [] rfl ?_);simp (disch:=omega) only [go_sem,seval];(repeat (first | refine ⟨by omega,?_⟩ | refine ⟨True.intro,?_⟩)))))
  refine z9 ?_
  refine (x29 ⟨⟨(s,M),hM,hg⟩,rfl,rfl⟩ ?_ ?_).1
  ·exact ⟨rfl,trivial⟩
  ·simp [AL.look]
end Go.Proofs.Ytjfammnjpeeahaa
namespace Go.Proofs.Ytjfammnjpeeahaa.AL
open Go.RowKit
variable {P : Program}
theorem MCalls.args {f : FuncId} {xs ys : List AV} {L : List (Nat × LV)} {Q : List AV → List (Nat × LV) → Prop} (hc : MCalls P f ys L Q) (hx : ∀ (w : World) (h : Gh) (vs : List Value),RelAs w h vs xs → RelAs w h vs ys) : MCalls P f xs L Q :=
 fun w h vs hz hr hl => hc w h vs hz (hx w h vs hr) hl
theorem j48 {nt : Nat} {ops : Array Oper} {K : ASt → List Done → Prop} {o : Oper} {rest : List Oper} {A : ASt} {tr : List Done} {c : Call} {f : Operand} {g : FuncId} {pre post : List CV} {xs : List AV} {x : AV} {l0 : Nat} {X : LV}
  (d : Nat) (hd : dstOK nt o = true) (hw : wantedA ops o A = some true) (ho : o.op = .call c) (hc : c.callee = .value f) (hx : calleeC (A.eval f) = some (g,pre,post))
  (hargs : pre.map CV.av ++ c.args.toList.map A.eval ++ post.map CV.av = xs) (hcall : MCalls P g xs [] (fun r L => r = [x] ∧ L = [(l0,X)])) (hX : X.mentions = []) (hXr : X.ren (fun _ => d) = X) (hm : ∀ l ∈ x.mentions,l = l0) (hu : unusedB A d = true)
  (hk : walkD P nt ops K rest (A.apply o.dst { val := x.ren (fun _ => d),upd := some (d,X),fresh := true }) (⟨o,none,{ val := x.ren (fun _ => d),upd := some (d,X),fresh := true },[]⟩ :: tr)) : walkD P nt ops K (o :: rest) A tr := by
 refine x118 (lo := none) (.inl ⟨⟨x31 hd,.inr ⟨hw,?_⟩,fun _ l L hL => ?_,fun l L hL hf => (by cases hf)⟩,rfl⟩) hk
 ·have hops : o.op.operands.toList.map A.eval = A.eval f :: c.args.toList.map A.eval := by simp [ho,Op.operands,Call.operands,hc]
  rw [hops]
  exact z137 ho hc hx hargs hcall hX hXr hm
 ·cases hL
  exact x27 hu
end Go.Proofs.Ytjfammnjpeeahaa.AL
namespace Go.Proofs.Ytjfammnjpeeahaa
open Go Go.Proofs.Ytjfammnjpeeahaa.AL
set_option maxRecDepth 100000 in
theorem x90 (n : Nat) (f : Nat → List Dat) (h0 : 0 < n) (hl : n ≤ 1099511627776) : MCalls Try.prog 24 [.p (.d (.sl 2 n f))] [] (fun rs L => rs = [.row 6 2 0 n] ∧ L = [(6,.blk 48 2 n f)]) := by
 refine q29 Try.func24 rfl (by decide +kernel) (by rw [Try.ntmps24];simp) (fun l X h => by simp only [AL.look] at h;(repeat' split at h);all_goals first | omega | cases h) ?_;rw [Try.ntmps24];simp only [frA]
 (repeat (first | apply j0 | refine q8 rfl ?_ | refine z8 rfl ?_ | apply z7 | (refine x4 fun K hK => ?_) | (refine j4 fun K hK => ?_) | ((first | apply j6 | apply x7 | ((first | refine j5 (hK _ ?_) | refine x6 (hK _ _ x5 ?_));clear hK K));(first | show AWP _ _ _ _ _ | ((try simp only [j7]);first | show loopQ _ _ _ _ _ _ | show cutQ _ _ _ _ | show AWP _ _ _ _ _))) | ((first | refine x8 [10005] rfl ?_ | refine j8 [10005] rfl ?_);simp (disch:=omega) only [go_sem,seval];(repeat (first | refine ⟨by omega,?_⟩ | refine ⟨True.intro,?_⟩)))))
 refine z46 5 f rfl (fun i hi => by unfold catF;rw [if_neg (by omega)];rfl) ?_
 refine j21 (Weak.ownBlk _ 2 5 6 1 2 n 48 f rfl rfl h0 (by kernel_rfl) rfl) ?_
 refine z9 ?_
 refine (x29 ⟨rfl,rfl⟩ ?_ ?_).1
 ·exact ⟨rfl,trivial⟩
 ·simp [AL.look]
set_option maxRecDepth 100000 in
theorem j90 (n : Nat) (f : Nat → List Dat) (h0 : 0 < n) (hl : n ≤ 1099511627776) : MCalls Try.prog 26 [.p (.d (.sl 3 n f))] [] (fun rs L => rs = [.row 6 3 0 n] ∧ L = [(6,.blk 50 3 n f)]) := by
 refine q29 Try.func26 rfl (by decide +kernel) (by rw [Try.ntmps26];simp) (fun l X h => by simp only [AL.look] at h;(repeat' split at h);all_goals first | omega | cases h) ?_;rw [Try.ntmps26];simp only [frA]
 (repeat (first | apply j0 | refine q8 rfl ?_ | refine z8 rfl ?_ | apply z7 | (refine x4 fun K hK => ?_) | (refine j4 fun K hK => ?_) | ((first | apply j6 | apply x7 | ((first | refine j5 (hK _ ?_) | refine x6 (hK _ _ x5 ?_));clear hK K));(first | show AWP _ _ _ _ _ | ((try simp only [j7]);first | show loopQ _ _ _ _ _ _ | show cutQ _ _ _ _ | show AWP _ _ _ _ _))) | ((first | refine x8 [10005] rfl ?_ | refine j8 [10005] rfl ?_);simp (disch:=omega) only [go_sem,seval];(repeat (first | refine ⟨by omega,?_⟩ | refine ⟨True.intro,?_⟩)))))
 refine z46 5 f rfl (fun i hi => by unfold catF;rw [if_neg (by omega)];rfl) ?_
 refine j21 (Weak.ownBlk _ 2 5 6 1 3 n 50 f rfl rfl h0 (by kernel_rfl) rfl) ?_
 refine z9 ?_
 refine (x29 ⟨rfl,rfl⟩ ?_ ?_).1
 ·exact ⟨rfl,trivial⟩
 ·simp [AL.look]
theorem q91 (b n c : Nat) (hc : n ≤ c) (hn : n ≤ 1099511627776) : ACalls Try.prog 23 [.d (.v (.slice (some ⟨b,0,none⟩) n c))] (· = [.d (.v (.slice (some ⟨b,0,none⟩) n n))]) := by
 refine x9 Try.func23 rfl (by decide +kernel) (by rw [Try.ntmps23];simp) ?_;rw [Try.ntmps23];simp only [frOf]
 (repeat (first | apply j0 | refine q8 rfl ?_ | refine z8 rfl ?_ | apply z7 | (refine x4 fun K hK => ?_) | (refine j4 fun K hK => ?_) | ((first | apply j6 | apply x7 | ((first | refine j5 (hK _ ?_) | refine x6 (hK _ _ x5 ?_));clear hK K));(first | show AWP _ _ _ _ _ | ((try simp only [j7]);first | show loopQ _ _ _ _ _ _ | show cutQ _ _ _ _ | show AWP _ _ _ _ _))) | ((first | refine x8 [] rfl ?_ | refine j8 [] rfl ?_);simp (disch:=omega) only [go_sem,seval];(repeat (first | refine ⟨by omega,?_⟩ | refine ⟨True.intro,?_⟩)))))
 refine z9 ⟨_,?_,rfl⟩;rw [Try.results23];simp (disch:=omega) only [ResVars,ResVar,ptrLoc,go_sem,seval]
theorem z91 (b n c : Nat) (hc : n ≤ c) (hn : n ≤ 1099511627776) : ACalls Try.prog 25 [.d (.v (.slice (some ⟨b,0,none⟩) n c))] (· = [.d (.v (.slice (some ⟨b,0,none⟩) n n))]) := by
 refine x9 Try.func25 rfl (by decide +kernel) (by rw [Try.ntmps25];simp) ?_;rw [Try.ntmps25];simp only [frOf]
 (repeat (first | apply j0 | refine q8 rfl ?_ | refine z8 rfl ?_ | apply z7 | (refine x4 fun K hK => ?_) | (refine j4 fun K hK => ?_) | ((first | apply j6 | apply x7 | ((first | refine j5 (hK _ ?_) | refine x6 (hK _ _ x5 ?_));clear hK K));(first | show AWP _ _ _ _ _ | ((try simp only [j7]);first | show loopQ _ _ _ _ _ _ | show cutQ _ _ _ _ | show AWP _ _ _ _ _))) | ((first | refine x8 [] rfl ?_ | refine j8 [] rfl ?_);simp (disch:=omega) only [go_sem,seval];(repeat (first | refine ⟨by omega,?_⟩ | refine ⟨True.intro,?_⟩)))))
 refine z9 ⟨_,?_,rfl⟩;rw [Try.results25];simp (disch:=omega) only [ResVars,ResVar,ptrLoc,go_sem,seval]
def TabsX (M : Nat → Option Ent) (t : List (List (List Rule))) (S : Nat → Nat → Value) (n : Nat) : Prop := ∀ i,i < n → RowsRX M (t.getD i []) (S i) (t.getD i []).length
theorem TabsX.mono {M M2 : Nat → Option Ent} {t : List (List (List Rule))} {S : Nat → Nat → Value} {n : Nat} (hg : GrowsM M M2) (h : TabsX M t S n) : TabsX M2 t S n := fun i hi => (h i hi).mono hg
def updT (S : Nat → Nat → Value) (n : Nat) (s : Nat → Value) : Nat → Nat → Value := fun i => if i = n then s else S i
theorem x91 (S : Nat → Nat → Value) (n : Nat) (s : Nat → Value) : updT S n s n = s := by simp [updT]
theorem j91 (S : Nat → Nat → Value) {n i : Nat} (s : Nat → Value) (h : i ≠ n) : updT S n s i = S i := by simp [updT,h]
theorem TabsX.snoc {M M2 : Nat → Option Ent} {t : List (List (List Rule))} {S : Nat → Nat → Value} {n : Nat} {s : Nat → Value} (h : TabsX M t S n) (hg : GrowsM M M2) (hs : RowsRX M2 (t.getD n []) s (t.getD n []).length) : TabsX M2 t (updT S n s) (n + 1) := by
 intro i hi
 by_cases hin : i = n
 ·subst hin;rw [x91];exact hs
 ·rw [j91 _ _ hin];exact (h i (by omega)).mono hg
def rowSS (t : List (List (List Rule))) (S : Nat → Nat → Value) : Nat → List Dat := fun i => [.sl 1 (t.getD i []).length (rowVal (S i))]
theorem q92 (t : List (List (List Rule))) (S : Nat → Nat → Value) (i : Nat) : rowSS t S i = [.sl 1 (t.getD i []).length (rowVal (S i))] := rfl
theorem q140 (t : List (List (List Rule))) (S : Nat → Nat → Value) (s : Nat → Value) (i k : Nat) (hk : k < i + 1) : catF i (rowSS t S) (fun j => [[Dat.sl 1 (t.getD i []).length (rowVal s)]].getD j []) k = rowSS t (updT S i s) k := by
 unfold catF rowSS
 split
 ·rw [j91 _ _ (by omega)]
 ·have : k = i := by omega
  subst this
  rw [Nat.sub_self,x91];rfl
structure OwnC (M : Nat → Option Ent) (c : Config) (sP : Nat → Value) (vp vw : Value) (S : Nat → Nat → Value) : Prop where
 tp : RowsPX M c.tp sP c.tp.length
 pe : HoldR M 48 2 c.po.peers.length (rowA c.po.peers) vp
 wa : HoldR M 50 3 c.po.ways.length (rowW c.po.ways) vw
 tb : TabsX M c.tb S c.tb.length
def cfgX (c : Config) (sP : Nat → Value) (vp vw : Value) (S : Nat → Nat → Value) : List Dat := [.sl 1 c.tp.length (rowVal sP),.v (.int .i64 c.po.tn),.v vp,.v vw,.sl 1 c.tb.length (rowSS c.tb S)]
def cloC (c : Config) (sP : Nat → Value) (vp vw : Value) (M : Nat → Option Ent) : List (Nat × LV) :=
 [(2,.cells 31 [.p (.d (.v (.slice none 0 0))),.p (.d (.v (.int .i64 0))),.p (.d (.v (.slice none 0 0))),.p (.d (.v (.slice none 0 0))),.p (.d (.v (.slice none 0 0)))]),
  (1,.cells 31 [.p (.d (.sl 1 c.tp.length (rowVal sP))),.p (.d (.v (.int .i64 c.po.tn))),.p (.d (.v vp)),.p (.d (.v vw)),.p (.d (.sl 1 c.tb.length (rowTT c.tb)))]),(1999,.raw M)]
structure CutC (c : Config) (M1 : Nat → Option Ent) where
 vp : Value
 vw : Value
 M : Nat → Option Ent
 pe : HoldR M 48 2 c.po.peers.length (rowA c.po.peers) vp
 wa : HoldR M 50 3 c.po.ways.length (rowW c.po.ways) vw
 g : GrowsM M1 M
structure CloX (c : Config) (M2 : Nat → Option Ent) where
 i : Nat
 S : Nat → Nat → Value
 M : Nat → Option Ent
 hi : i ≤ c.tb.length
 h : TabsX M c.tb S i
 g : GrowsM M2 M
def cloneXI (c : Config) (sP : Nat → Value) (vp vw : Value) (M2 : Nat → Option Ent) (x : CloX c M2) : ASt :=
 ⟨[(29,.p (.d (.v (.int .i64 (x.i : Int))))),(28,.p (.d (.v (.int .i64 (c.tb.length : Int))))),(27,.p (.d (.sl 1 c.tb.length (rowTT c.tb)))),(3,.gr 3 x.i 1 x.i (rowSS c.tb x.S)),(2,.loc 2 0),(1,.loc 1 0)],
  (3,.grow 34 1 x.i x.i) :: cloC c sP vp vw x.M⟩
set_option maxRecDepth 100000 in
theorem z140 (c : Config) (hc : c.small) (M0 : Nat → Option Ent) : MCalls Try.prog 7 [.p (.agg (configD c))] [(1999,.raw M0)]
  (fun rs L => ∃ r : {r : (Nat → Value) × (Value × Value) × (Nat → Nat → Value) × (Nat → Option Ent) // OwnC r.2.2.2 c r.1 r.2.1.1 r.2.1.2 r.2.2.1 ∧ GrowsM M0 r.2.2.2},rs = [.p (.agg (cfgX c r.val.1 r.val.2.1.1 r.val.2.1.2 r.val.2.2.1))] ∧ L = [(1999,.raw r.val.2.2.2)]) := by
 have hp := hc.po.1
 have hw := hc.po.2
 have t1 := hc.tb
 have hat := hc.at
 unfold configD
 refine q29 Try.func7 rfl (by decide +kernel) (by rw [Try.ntmps7];simp) (fun l X h => by simp only [AL.look] at h;(repeat' split at h);all_goals first | omega | cases h) ?_;rw [Try.ntmps7];simp only [frA]
 (repeat ((fail_if_success (show AWP _ _ (.region 1 _ _) _ _));first | apply j0 | refine q8 rfl ?_ | refine z8 rfl ?_ | apply z7 | (refine x4 fun K hK => ?_) | (refine j4 fun K hK => ?_) | ((first | apply j6 | apply x7 | ((first | refine j5 (hK _ ?_) | refine x6 (hK _ _ x5 ?_));clear hK K));(first | show AWP _ _ _ _ _ | ((try simp only [j7]);first | show loopQ _ _ _ _ _ _ | show cutQ _ _ _ _ | show AWP _ _ _ _ _))) | ((first | refine x8 [1] rfl ?_ | refine j8 [1] rfl ?_);simp (disch:=omega) only [go_sem,seval,policyD,topoD,configD];(repeat (first | refine ⟨by omega,?_⟩ | refine ⟨True.intro,?_⟩)))))
 refine x4 fun K hK => ?_
 iterate 3 ((first | refine j20 [1] rfl rfl ?_ | refine q21 [1] rfl rfl ?_ | refine z19 rfl rfl ?_ | refine x19 rfl rfl ?_);simp (disch:=omega) only [go_sem,seval,policyD,topoD,configD];(repeat (first | refine ⟨by omega,?_⟩ | refine ⟨True.intro,?_⟩)))
 (refine z55 (x45 [(1999,1999)] rfl rfl rfl rfl rfl rfl (j139 c.tp hc.tp M0) (fun _ => rfl) (x25 (by repeat (first | exact trivial | refine ⟨rfl,?_⟩)) (by kernel_rfl)) (fun _ => (x25 (by repeat (first | exact trivial | refine ⟨rfl,?_⟩)) (by kernel_rfl)))) ?_);rintro ⟨⟨sP,M1⟩,hP,hg1⟩;simp (disch:=omega) only [go_sem,seval,policyD,topoD,configD]
 (repeat ((fail_if_success (show AWP _ _ (.region 2 _ _) _ _));first | apply j0 | refine q8 rfl ?_ | refine z8 rfl ?_ | apply z7 | (refine x4 fun K hK => ?_) | (refine j4 fun K hK => ?_) | ((first | apply j6 | apply x7 | ((first | refine j5 (hK _ ?_) | refine x6 (hK _ _ x5 ?_));clear hK K));(first | show AWP _ _ _ _ _ | ((try simp only [j7]);first | show loopQ _ _ _ _ _ _ | show cutQ _ _ _ _ | show AWP _ _ _ _ _))) | ((first | refine x8 [1] rfl ?_ | refine j8 [1] rfl ?_);simp (disch:=omega) only [go_sem,seval,policyD,topoD,configD];(repeat (first | refine ⟨by omega,?_⟩ | refine ⟨True.intro,?_⟩)))))
 refine z138 (fun x : CutC c M1 => ⟨[(3,.p (.d (.v (.slice none 0 0)))),(2,.loc 2 0),(1,.loc 1 0)],cloC c sP x.vp x.vw x.M⟩) ?_ (fun x => ?_)
 ·by_cases hp0 : c.po.peers.length = 0
  ·by_cases hw0 : c.po.ways.length = 0
   ·refine j4 fun K hK => ?_
    (first | refine x11 [1] _ _ ?_ | refine j11 [1] _ _ _ ?_);simp (disch:=omega) only [go_sem,seval,policyD,topoD,configD];(repeat refine ⟨by omega,?_⟩)
    (first | refine q10 rfl rfl rfl ?_ | refine z10 rfl rfl rfl ?_);simp (disch:=omega) only [go_sem,seval,policyD,topoD,configD]
    refine ⟨_,q60 c.po.peers.length (rowA c.po.peers) hp,?_⟩
    (first | refine x11 [1] _ _ ?_ | refine j11 [1] _ _ _ ?_);simp (disch:=omega) only [go_sem,seval,policyD,topoD,configD];(repeat refine ⟨by omega,?_⟩)
    (first | refine q10 rfl rfl rfl ?_ | refine z10 rfl rfl rfl ?_);simp (disch:=omega) only [go_sem,seval,policyD,topoD,configD]
    refine ⟨_,j59 c.po.peers.length (rowA c.po.peers) hp,?_⟩
    simp (disch:=omega) only [go_sem,seval,policyD,topoD,configD]
    (first | refine x11 [1] _ _ ?_ | refine j11 [1] _ _ _ ?_);simp (disch:=omega) only [go_sem,seval,policyD,topoD,configD];(repeat refine ⟨by omega,?_⟩)
    (first | refine q10 rfl rfl rfl ?_ | refine z10 rfl rfl rfl ?_);simp (disch:=omega) only [go_sem,seval,policyD,topoD,configD]
    refine ⟨_,x60 c.po.ways.length (rowW c.po.ways) hw,?_⟩
    (first | refine x11 [1] _ _ ?_ | refine j11 [1] _ _ _ ?_);simp (disch:=omega) only [go_sem,seval,policyD,topoD,configD];(repeat refine ⟨by omega,?_⟩)
    (first | refine q10 rfl rfl rfl ?_ | refine z10 rfl rfl rfl ?_);simp (disch:=omega) only [go_sem,seval,policyD,topoD,configD]
    refine ⟨_,z60 c.po.ways.length (rowW c.po.ways) hw,?_⟩
    simp (disch:=omega) only [go_sem,seval,policyD,topoD,configD]
    (repeat ((fail_if_success (show AWP _ _ (.region 3 _ _) _ _));first | apply j0 | refine q8 rfl ?_ | refine z8 rfl ?_ | apply z7 | (refine x4 fun K hK => ?_) | (refine j4 fun K hK => ?_) | ((first | apply j6 | apply x7 | ((first | refine j5 (hK _ ?_) | refine x6 (hK _ _ x5 ?_));clear hK K));(first | show AWP _ _ _ _ _ | ((try simp only [j7]);first | show loopQ _ _ _ _ _ _ | show cutQ _ _ _ _ | show AWP _ _ _ _ _))) | ((first | refine x8 [1] rfl ?_ | refine j8 [1] rfl ?_);simp (disch:=omega) only [go_sem,seval,policyD,topoD,configD];(repeat (first | refine ⟨by omega,?_⟩ | refine ⟨True.intro,?_⟩)))))
    refine q26 (WeakX.exact0C _ 1 2 2 c.po.peers.length 31 _ _ rfl rfl hp0) ?_
    rintro _ ⟨a,k,rfl⟩
    simp only [List.set_cons_succ,List.set_cons_zero]
    refine q26 (WeakX.exact0C _ 1 3 3 c.po.ways.length 31 _ _ rfl rfl hw0) ?_
    rintro _ ⟨a2,k2,rfl⟩
    simp only [List.set_cons_succ,List.set_cons_zero]
    (repeat (first | apply j0 | refine q8 rfl ?_ | refine z8 rfl ?_ | apply z7 | (refine x4 fun K hK => ?_) | (refine j4 fun K hK => ?_) | ((first | apply j6 | apply x7 | ((first | refine j5 (hK _ ?_) | refine x6 (hK _ _ x5 ?_));clear hK K));(first | show AWP _ _ _ _ _ | ((try simp only [j7]);first | show loopQ _ _ _ _ _ _ | show cutQ _ _ _ _ | show AWP _ _ _ _ _))) | ((first | refine x8 [1] rfl ?_ | refine j8 [1] rfl ?_);simp (disch:=omega) only [go_sem,seval,policyD,topoD,configD,x15];(repeat (first | refine ⟨by omega,?_⟩ | refine ⟨True.intro,?_⟩)))))
    (show cutQ _ _ .normal _);refine q39 (⟨.slice a 0 k,.slice a2 0 k2,M1,.inl ⟨hp0,_,_,rfl⟩,.inl ⟨hw0,_,_,rfl⟩,.refl _⟩) ?_
    unfold cloC
    refine Weak.list ?_ ?_;(all_goals simp (disch:=omega) only [AllF,AllL,j10,q11,x10,exists_eq_left',go_sem,seval,policyD,topoD,configD,x15]);(all_goals (repeat' (with_reducible apply And.intro)));(all_goals try (first | exact q9 rfl | (refine z11 ?_;omega) | (refine q9 ?_;simp;done)))
   ·refine j4 fun K hK => ?_
    (first | refine x11 [1] _ _ ?_ | refine j11 [1] _ _ _ ?_);simp (disch:=omega) only [go_sem,seval,policyD,topoD,configD];(repeat refine ⟨by omega,?_⟩)
    (first | refine q10 rfl rfl rfl ?_ | refine z10 rfl rfl rfl ?_);simp (disch:=omega) only [go_sem,seval,policyD,topoD,configD]
    refine ⟨_,q60 c.po.peers.length (rowA c.po.peers) hp,?_⟩
    (first | refine x11 [1] _ _ ?_ | refine j11 [1] _ _ _ ?_);simp (disch:=omega) only [go_sem,seval,policyD,topoD,configD];(repeat refine ⟨by omega,?_⟩)
    (first | refine q10 rfl rfl rfl ?_ | refine z10 rfl rfl rfl ?_);simp (disch:=omega) only [go_sem,seval,policyD,topoD,configD]
    refine ⟨_,j59 c.po.peers.length (rowA c.po.peers) hp,?_⟩
    simp (disch:=omega) only [go_sem,seval,policyD,topoD,configD]
    iterate 3 ((first | refine j20 [1] rfl rfl ?_ | refine q21 [1] rfl rfl ?_ | refine z19 rfl rfl ?_ | refine x19 rfl rfl ?_);simp (disch:=omega) only [go_sem,seval,policyD,topoD,configD];(repeat (first | refine ⟨by omega,?_⟩ | refine ⟨True.intro,?_⟩)))
    (refine j48 41 rfl rfl rfl rfl rfl rfl (j90 c.po.ways.length (rowW c.po.ways) (by omega) hw) rfl rfl (fun l hl => by simpa [AV.mentions] using hl) (by kernel_rfl) ?_);simp (disch:=omega) only [go_sem,seval,policyD,topoD,configD]
    (refine z33 [(1000,41)] [] rfl rfl rfl rfl rfl rfl (x48 (fun b k hk => z91 b c.po.ways.length k hk hw)) (by repeat (first | exact trivial | refine ⟨rfl,rfl,rfl,?_⟩)) ?_);simp (disch:=omega) only [go_sem,seval,policyD,topoD,configD]
    (repeat ((fail_if_success (show AWP _ _ (.region 3 _ _) _ _));first | apply j0 | refine q8 rfl ?_ | refine z8 rfl ?_ | apply z7 | (refine x4 fun K hK => ?_) | (refine j4 fun K hK => ?_) | ((first | apply j6 | apply x7 | ((first | refine j5 (hK _ ?_) | refine x6 (hK _ _ x5 ?_));clear hK K));(first | show AWP _ _ _ _ _ | ((try simp only [j7]);first | show loopQ _ _ _ _ _ _ | show cutQ _ _ _ _ | show AWP _ _ _ _ _))) | ((first | refine x8 [1] rfl ?_ | refine j8 [1] rfl ?_);simp (disch:=omega) only [go_sem,seval,policyD,topoD,configD];(repeat (first | refine ⟨by omega,?_⟩ | refine ⟨True.intro,?_⟩)))))
    refine q26 (WeakX.exact0C _ 1 2 2 c.po.peers.length 31 _ _ rfl rfl hp0) ?_
    rintro _ ⟨a,k,rfl⟩
    simp only [List.set_cons_succ,List.set_cons_zero]
    refine q26 (WeakX.packBlkC _ 1 41 3 3 c.po.ways.length 31 50 _ _ M1 rfl rfl rfl rfl (by decide)) ?_
    rintro _ ⟨b2,k2,cap2,⟨hk2,hb2⟩,rfl⟩
    simp only [List.set_cons_succ,List.set_cons_zero]
    (repeat (first | apply j0 | refine q8 rfl ?_ | refine z8 rfl ?_ | apply z7 | (refine x4 fun K hK => ?_) | (refine j4 fun K hK => ?_) | ((first | apply j6 | apply x7 | ((first | refine j5 (hK _ ?_) | refine x6 (hK _ _ x5 ?_));clear hK K));(first | show AWP _ _ _ _ _ | ((try simp only [j7]);first | show loopQ _ _ _ _ _ _ | show cutQ _ _ _ _ | show AWP _ _ _ _ _))) | ((first | refine x8 [1] rfl ?_ | refine j8 [1] rfl ?_);simp (disch:=omega) only [go_sem,seval,policyD,topoD,configD,x15];(repeat (first | refine ⟨by omega,?_⟩ | refine ⟨True.intro,?_⟩)))))
    (show cutQ _ _ .normal _);refine q39 (⟨.slice a 0 k,.slice (some ⟨b2,0,none⟩) c.po.ways.length k2,(setM M1 b2 (some ⟨50,3,cap2,c.po.ways.length,rowW c.po.ways⟩)),.inl ⟨hp0,_,_,rfl⟩,.inr ⟨b2,k2,cap2,rowW c.po.ways,rfl,hk2,x21 _ _ _,fun _ _ => rfl⟩,x24 _ hb2⟩) ?_
    unfold cloC
    refine Weak.list ?_ ?_;(all_goals simp (disch:=omega) only [AllF,AllL,j10,q11,x10,exists_eq_left',go_sem,seval,policyD,topoD,configD,x15]);(all_goals (repeat' (with_reducible apply And.intro)));(all_goals try (first | exact q9 rfl | (refine z11 ?_;omega) | (refine q9 ?_;simp;done)))
  ·by_cases hw0 : c.po.ways.length = 0
   ·refine j4 fun K hK => ?_
    iterate 3 ((first | refine j20 [1] rfl rfl ?_ | refine q21 [1] rfl rfl ?_ | refine z19 rfl rfl ?_ | refine x19 rfl rfl ?_);simp (disch:=omega) only [go_sem,seval,policyD,topoD,configD];(repeat (first | refine ⟨by omega,?_⟩ | refine ⟨True.intro,?_⟩)))
    (refine j48 40 rfl rfl rfl rfl rfl rfl (x90 c.po.peers.length (rowA c.po.peers) (by omega) hp) rfl rfl (fun l hl => by simpa [AV.mentions] using hl) (by kernel_rfl) ?_);simp (disch:=omega) only [go_sem,seval,policyD,topoD,configD]
    (refine z33 [(1000,40)] [] rfl rfl rfl rfl rfl rfl (x48 (fun b k hk => q91 b c.po.peers.length k hk hp)) (by repeat (first | exact trivial | refine ⟨rfl,rfl,rfl,?_⟩)) ?_);simp (disch:=omega) only [go_sem,seval,policyD,topoD,configD]
    (first | refine x11 [1] _ _ ?_ | refine j11 [1] _ _ _ ?_);simp (disch:=omega) only [go_sem,seval,policyD,topoD,configD];(repeat refine ⟨by omega,?_⟩)
    (first | refine q10 rfl rfl rfl ?_ | refine z10 rfl rfl rfl ?_);simp (disch:=omega) only [go_sem,seval,policyD,topoD,configD]
    refine ⟨_,x60 c.po.ways.length (rowW c.po.ways) hw,?_⟩
    (first | refine x11 [1] _ _ ?_ | refine j11 [1] _ _ _ ?_);simp (disch:=omega) only [go_sem,seval,policyD,topoD,configD];(repeat refine ⟨by omega,?_⟩)
    (first | refine q10 rfl rfl rfl ?_ | refine z10 rfl rfl rfl ?_);simp (disch:=omega) only [go_sem,seval,policyD,topoD,configD]
    refine ⟨_,z60 c.po.ways.length (rowW c.po.ways) hw,?_⟩
    simp (disch:=omega) only [go_sem,seval,policyD,topoD,configD]
    (repeat ((fail_if_success (show AWP _ _ (.region 3 _ _) _ _));first | apply j0 | refine q8 rfl ?_ | refine z8 rfl ?_ | apply z7 | (refine x4 fun K hK => ?_) | (refine j4 fun K hK => ?_) | ((first | apply j6 | apply x7 | ((first | refine j5 (hK _ ?_) | refine x6 (hK _ _ x5 ?_));clear hK K));(first | show AWP _ _ _ _ _ | ((try simp only [j7]);first | show loopQ _ _ _ _ _ _ | show cutQ _ _ _ _ | show AWP _ _ _ _ _))) | ((first | refine x8 [1] rfl ?_ | refine j8 [1] rfl ?_);simp (disch:=omega) only [go_sem,seval,policyD,topoD,configD];(repeat (first | refine ⟨by omega,?_⟩ | refine ⟨True.intro,?_⟩)))))
    refine q26 (WeakX.packBlkC _ 1 40 2 2 c.po.peers.length 31 48 _ _ M1 rfl rfl rfl rfl (by decide)) ?_
    rintro _ ⟨b,k,cap,⟨hk,hb⟩,rfl⟩
    simp only [List.set_cons_succ,List.set_cons_zero]
    refine q26 (WeakX.exact0C _ 1 3 3 c.po.ways.length 31 _ _ rfl rfl hw0) ?_
    rintro _ ⟨a2,k2,rfl⟩
    simp only [List.set_cons_succ,List.set_cons_zero]
    (repeat (first | apply j0 | refine q8 rfl ?_ | refine z8 rfl ?_ | apply z7 | (refine x4 fun K hK => ?_) | (refine j4 fun K hK => ?_) | ((first | apply j6 | apply x7 | ((first | refine j5 (hK _ ?_) | refine x6 (hK _ _ x5 ?_));clear hK K));(first | show AWP _ _ _ _ _ | ((try simp only [j7]);first | show loopQ _ _ _ _ _ _ | show cutQ _ _ _ _ | show AWP _ _ _ _ _))) | ((first | refine x8 [1] rfl ?_ | refine j8 [1] rfl ?_);simp (disch:=omega) only [go_sem,seval,policyD,topoD,configD,x15];(repeat (first | refine ⟨by omega,?_⟩ | refine ⟨True.intro,?_⟩)))))
    (show cutQ _ _ .normal _);refine q39 (⟨.slice (some ⟨b,0,none⟩) c.po.peers.length k,.slice a2 0 k2,(setM M1 b (some ⟨48,2,cap,c.po.peers.length,rowA c.po.peers⟩)),(.inr ⟨b,k,cap,rowA c.po.peers,rfl,hk,x21 _ _ _,fun _ _ => rfl⟩),.inl ⟨hw0,_,_,rfl⟩,x24 _ hb⟩) ?_
    unfold cloC
    refine Weak.list ?_ ?_;(all_goals simp (disch:=omega) only [AllF,AllL,j10,q11,x10,exists_eq_left',go_sem,seval,policyD,topoD,configD,x15]);(all_goals (repeat' (with_reducible apply And.intro)));(all_goals try (first | exact q9 rfl | (refine z11 ?_;omega) | (refine q9 ?_;simp;done)))
   ·refine j4 fun K hK => ?_
    iterate 3 ((first | refine j20 [1] rfl rfl ?_ | refine q21 [1] rfl rfl ?_ | refine z19 rfl rfl ?_ | refine x19 rfl rfl ?_);simp (disch:=omega) only [go_sem,seval,policyD,topoD,configD];(repeat (first | refine ⟨by omega,?_⟩ | refine ⟨True.intro,?_⟩)))
    (refine j48 40 rfl rfl rfl rfl rfl rfl (x90 c.po.peers.length (rowA c.po.peers) (by omega) hp) rfl rfl (fun l hl => by simpa [AV.mentions] using hl) (by kernel_rfl) ?_);simp (disch:=omega) only [go_sem,seval,policyD,topoD,configD]
    (refine z33 [(1000,40)] [] rfl rfl rfl rfl rfl rfl (x48 (fun b k hk => q91 b c.po.peers.length k hk hp)) (by repeat (first | exact trivial | refine ⟨rfl,rfl,rfl,?_⟩)) ?_);simp (disch:=omega) only [go_sem,seval,policyD,topoD,configD]
    iterate 3 ((first | refine j20 [1] rfl rfl ?_ | refine q21 [1] rfl rfl ?_ | refine z19 rfl rfl ?_ | refine x19 rfl rfl ?_);simp (disch:=omega) only [go_sem,seval,policyD,topoD,configD];(repeat (first | refine ⟨by omega,?_⟩ | refine ⟨True.intro,?_⟩)))
    (refine j48 41 rfl rfl rfl rfl rfl rfl (j90 c.po.ways.length (rowW c.po.ways) (by omega) hw) rfl rfl (fun l hl => by simpa [AV.mentions] using hl) (by kernel_rfl) ?_);simp (disch:=omega) only [go_sem,seval,policyD,topoD,configD]
    (refine z33 [(1000,41)] [] rfl rfl rfl rfl rfl rfl (x48 (fun b k hk => z91 b c.po.ways.length k hk hw)) (by repeat (first | exact trivial | refine ⟨rfl,rfl,rfl,?_⟩)) ?_);simp (disch:=omega) only [go_sem,seval,policyD,topoD,configD]
    (repeat ((fail_if_success (show AWP _ _ (.region 3 _ _) _ _));first | apply j0 | refine q8 rfl ?_ | refine z8 rfl ?_ | apply z7 | (refine x4 fun K hK => ?_) | (refine j4 fun K hK => ?_) | ((first | apply j6 | apply x7 | ((first | refine j5 (hK _ ?_) | refine x6 (hK _ _ x5 ?_));clear hK K));(first | show AWP _ _ _ _ _ | ((try simp only [j7]);first | show loopQ _ _ _ _ _ _ | show cutQ _ _ _ _ | show AWP _ _ _ _ _))) | ((first | refine x8 [1] rfl ?_ | refine j8 [1] rfl ?_);simp (disch:=omega) only [go_sem,seval,policyD,topoD,configD];(repeat (first | refine ⟨by omega,?_⟩ | refine ⟨True.intro,?_⟩)))))
    refine q26 (WeakX.packBlkC _ 1 40 2 2 c.po.peers.length 31 48 _ _ M1 rfl rfl rfl rfl (by decide)) ?_
    rintro _ ⟨b,k,cap,⟨hk,hb⟩,rfl⟩
    simp only [List.set_cons_succ,List.set_cons_zero]
    refine q26 (WeakX.packBlkC _ 1 41 3 3 c.po.ways.length 31 50 _ _ (setM M1 b (some ⟨48,2,cap,c.po.peers.length,rowA c.po.peers⟩)) rfl rfl rfl rfl (by decide)) ?_
    rintro _ ⟨b2,k2,cap2,⟨hk2,hb2⟩,rfl⟩
    simp only [List.set_cons_succ,List.set_cons_zero]
    (repeat (first | apply j0 | refine q8 rfl ?_ | refine z8 rfl ?_ | apply z7 | (refine x4 fun K hK => ?_) | (refine j4 fun K hK => ?_) | ((first | apply j6 | apply x7 | ((first | refine j5 (hK _ ?_) | refine x6 (hK _ _ x5 ?_));clear hK K));(first | show AWP _ _ _ _ _ | ((try simp only [j7]);first | show loopQ _ _ _ _ _ _ | show cutQ _ _ _ _ | show AWP _ _ _ _ _))) | ((first | refine x8 [1] rfl ?_ | refine j8 [1] rfl ?_);simp (disch:=omega) only [go_sem,seval,policyD,topoD,configD,x15];(repeat (first | refine ⟨by omega,?_⟩ | refine ⟨True.intro,?_⟩)))))
    (show cutQ _ _ .normal _);refine q39 (⟨.slice (some ⟨b,0,none⟩) c.po.peers.length k,.slice (some ⟨b2,0,none⟩) c.po.ways.length k2,(setM (setM M1 b (some ⟨48,2,cap,c.po.peers.length,rowA c.po.peers⟩)) b2 (some ⟨50,3,cap2,c.po.ways.length,rowW c.po.ways⟩)),HoldR.mono (x24 _ hb2) (.inr ⟨b,k,cap,rowA c.po.peers,rfl,hk,x21 _ _ _,fun _ _ => rfl⟩),.inr ⟨b2,k2,cap2,rowW c.po.ways,rfl,hk2,x21 _ _ _,fun _ _ => rfl⟩,(x24 _ hb).trans (x24 _ hb2)⟩) ?_
    unfold cloC
    refine Weak.list ?_ ?_;(all_goals simp (disch:=omega) only [AllF,AllL,j10,q11,x10,exists_eq_left',go_sem,seval,policyD,topoD,configD,x15]);(all_goals (repeat' (with_reducible apply And.intro)));(all_goals try (first | exact q9 rfl | (refine z11 ?_;omega) | (refine q9 ?_;simp;done)))
 ·obtain ⟨vp,vw,M2,hpe,hwa,hg2⟩ := x
  unfold cloC
  simp only []
  refine q28 3 3 1 34 (rowSS c.tb fun _ _ => .slice none 0 0) rfl (by kernel_rfl) rfl ?_
  (repeat (first | apply j0 | refine q8 rfl ?_ | refine z8 rfl ?_ | apply z7 | (refine x4 fun K hK => ?_) | (refine j4 fun K hK => ?_) | ((first | apply j6 | apply x7 | ((first | refine j5 (hK _ ?_) | refine x6 (hK _ _ x5 ?_));clear hK K));(first | show AWP _ _ _ _ _ | ((try simp only [j7]);first | show loopQ _ _ _ _ _ _ | show cutQ _ _ _ _ | show AWP _ _ _ _ _))) | ((first | refine x8 [1] rfl ?_ | refine j8 [1] rfl ?_);simp (disch:=omega) only [go_sem,seval,policyD,topoD,configD];(repeat (first | refine ⟨by omega,?_⟩ | refine ⟨True.intro,?_⟩)))))
  refine x12 (cloneXI c sP vp vw M2) (fun x => c.tb.length - x.i) ⟨0,fun _ _ => .slice none 0 0,M2,by omega,fun i hi => by omega,.refl _⟩ ?_ (fun x => ?_)
  ·unfold cloneXI cloC
   refine Weak.list ?_ ?_;(all_goals simp (disch:=omega) only [AllF,AllL,j10,q11,x10,exists_eq_left',go_sem,seval,policyD,topoD,configD]);(all_goals (repeat' (with_reducible apply And.intro)));(all_goals try (first | exact q9 rfl | (refine z11 ?_;omega) | (refine q9 ?_;simp;done)))
  obtain ⟨i,S,M,hi,hM,hg⟩ := x
  unfold cloneXI cloC
  by_cases h : i < c.tb.length
  ·have r1 := z24 c.tb i
   have hx := (hat i).1
   (repeat ((fail_if_success (show AWP _ _ (.region 7 _ _) _ _));first | apply j0 | refine q8 rfl ?_ | refine z8 rfl ?_ | apply z7 | (refine x4 fun K hK => ?_) | (refine j4 fun K hK => ?_) | ((first | apply j6 | apply x7 | ((first | refine j5 (hK _ ?_) | refine x6 (hK _ _ x5 ?_));clear hK K));(first | show AWP _ _ _ _ _ | ((try simp only [j7]);first | show loopQ _ _ _ _ _ _ | show cutQ _ _ _ _ | show AWP _ _ _ _ _))) | ((first | refine x8 [1] rfl ?_ | refine j8 [1] rfl ?_);simp (disch:=omega) only [go_sem,seval,policyD,topoD,configD,r1];(repeat (first | refine ⟨by omega,?_⟩ | refine ⟨True.intro,?_⟩)))))
   refine x4 fun K hK => ?_
   iterate 2 ((first | refine j20 [1] rfl rfl ?_ | refine q21 [1] rfl rfl ?_ | refine z19 rfl rfl ?_ | refine x19 rfl rfl ?_);simp (disch:=omega) only [go_sem,seval,policyD,topoD,configD,r1];(repeat (first | refine ⟨by omega,?_⟩ | refine ⟨True.intro,?_⟩)))
   (refine z55 (x45 [(1999,1999)] rfl rfl rfl rfl rfl rfl (q139 (c.tb.getD i []) (hat i) M) (fun _ => rfl) (x25 (by repeat (first | exact trivial | refine ⟨rfl,?_⟩)) (by kernel_rfl)) (fun _ => (x25 (by repeat (first | exact trivial | refine ⟨rfl,?_⟩)) (by kernel_rfl)))) ?_);rintro ⟨⟨s,M3⟩,hs,hg3⟩;simp (disch:=omega) only [go_sem,seval,policyD,topoD,configD,r1]
   (repeat (first | apply j0 | refine q8 rfl ?_ | refine z8 rfl ?_ | apply z7 | (refine x4 fun K hK => ?_) | (refine j4 fun K hK => ?_) | ((first | apply j6 | apply x7 | ((first | refine j5 (hK _ ?_) | refine x6 (hK _ _ x5 ?_));clear hK K));(first | show AWP _ _ _ _ _ | ((try simp only [j7]);first | show loopQ _ _ _ _ _ _ | show cutQ _ _ _ _ | show AWP _ _ _ _ _))) | ((first | refine x8 [1] rfl ?_ | refine j8 [1] rfl ?_);simp (disch:=omega) only [go_sem,seval,policyD,topoD,configD,r1];(repeat (first | refine ⟨by omega,?_⟩ | refine ⟨True.intro,?_⟩)))))
   refine ⟨⟨i + 1,updT S i s,M3,by omega,hM.snoc hg3 hs,hg.trans hg3⟩,by simp only [];omega,?_⟩
   refine Weak.list ?_ ?_;(all_goals simp (disch:=omega) only [AllF,AllL,j10,q11,x10,exists_eq_left',go_sem,seval,policyD,topoD,configD,r1]);(all_goals (repeat' (with_reducible apply And.intro)));(all_goals try (first | exact q9 rfl | (refine z11 ?_;omega) | (refine q9 ?_;simp;done)))
   ·exact j19 rfl rfl (fun k hk => q140 c.tb S s i k hk)
  ·have : i = c.tb.length := by omega
   subst this
   have c6 := z86 c.tb.length (rowSS c.tb S) (by omega)
   (repeat (first | apply j0 | refine q8 rfl ?_ | refine z8 rfl ?_ | apply z7 | (refine x4 fun K hK => ?_) | (refine j4 fun K hK => ?_) | ((first | apply j6 | apply x7 | ((first | refine j5 (hK _ ?_) | refine x6 (hK _ _ x5 ?_));clear hK K));(first | show AWP _ _ _ _ _ | ((try simp only [j7]);first | show loopQ _ _ _ _ _ _ | show cutQ _ _ _ _ | show AWP _ _ _ _ _))) | ((first | refine q10 rfl rfl rfl ?_ | refine z10 rfl rfl rfl ?_);simp (disch:=omega) only [go_sem,seval,policyD,topoD,configD];(first | refine ⟨_,c6,?_⟩)) | ((first | refine x8 [1] rfl ?_ | refine j8 [1] rfl ?_);simp (disch:=omega) only [go_sem,seval,policyD,topoD,configD];(repeat (first | refine ⟨by omega,?_⟩ | refine ⟨True.intro,?_⟩)))))
   refine z9 ?_
   refine (x29 ⟨⟨(sP,(vp,vw),S,M),⟨hP.mono (hg2.trans hg),hpe.mono hg,hwa.mono hg,hM⟩,(hg1.trans hg2).trans hg⟩,rfl,rfl⟩ ?_ ?_).1
   ·refine ⟨⟨.agg (cfgX c sP vp vw S),?_,rfl⟩,trivial⟩
    simp (disch:=omega) only [cfgX,ResVar,ptrLoc,go_sem,seval,policyD,topoD,configD]
   ·simp [AL.look]
end Go.Proofs.Ytjfammnjpeeahaa
namespace Go.Proofs.Ytjfammnjpeeahaa.AL
open Go
theorem Weak.growCell (A : ASt) (l0 l j sz : Nat) (e e' : TypeId) (cs : List AV) (f : Nat → List Dat) (hl0 : look A.locs l0 = some (.cells e cs)) (hj : cs[j]? = some (.p (.d (.v (.slice none 0 0))))) (hne : l0 ≠ l)
  (hu : unusedB A l = true) (hn : look A.locs l = none) : Weak A ⟨A.fr,(l,.grow e' sz 0 0) :: (l0,.cells e (cs.set j (.gr l 0 sz 0 f))) :: A.locs⟩ := by
 intro w0 g0 nt h a w r
 let h' : Gh := { h with κ := fun k => if k = l then .slice none 0 0 else h.κ k,μ := fun k => if k = l then 0 else h.μ k }
 have un := x27 hu
 have tr : Trans w0.O w h w h' (fun _ => False) (some l) true := by
  refine ⟨BelowS.refl _ _,fun b _ _ => ⟨rfl,rfl⟩,⟨fun b => Nat.le_refl _,fun b o _ => rfl⟩,r.gz,fun b _ => rfl,fun _ _ => rfl,fun k hk => ?_,fun k _ hf => by cases hf⟩
  have : k ≠ l := fun e => hk (by rw [e])
  simp [h',this]
 have nl : h'.κ l = .slice none 0 0 := by simp [h']
 have nm : h'.μ l = 0 := by simp [h']
 have old : ∀ k L,k ≠ l → look A.locs k = some L → LocOK w0.O w h' k L ∧ inB h' k L = inB h k L := fun k L hk hL =>
  LocOK.trans tr (fun e => hk (by cases e;rfl)) (fun _ l' hl' hm => by cases hl';exact un.2.1 k L hL hm) (fun b _ => by simp) (r.locs k L hL)
 have cell0 : LocOK w0.O w h' l0 (.cells e (cs.set j (.gr l 0 sz 0 f))) := by
  obtain ⟨arr,c1,c2,c3,c4,c5⟩ := (old l0 _ hne hl0).1
  refine ⟨arr,c1,c2,by simpa using c3,c4,fun i v x hv hx => ?_⟩
  by_cases hi : i = j
  ·subst hi
   have hlt := (List.getElem?_eq_some_iff.1 hj).1
   rw [List.getElem?_set_self hlt] at hx
   cases hx
   obtain ⟨k1,k2⟩ := c5 i v _ hv hj
   have hv0 := j75 k1
   refine ⟨?_,k2⟩
   rw [hv0]
   exact ⟨.sl0 _ _ _ _,by omega,fun _ => nl.symm⟩
  ·rw [List.getElem?_set_ne (fun e => hi e.symm)] at hx
   exact c5 i v x hv hx
 refine ⟨h',r.size,r.defers,fun u y hy => ?_,fun k L hL => ?_,fun k k' L L' b hne2 hL hL' hbk => ?_,r.ext,fun k hk => ?_⟩
 ·exact RelA.trans tr (fun _ l' hl' hm => by cases hl';exact un.1 u y hy hm) (r.fr u y hy)
 ·simp only [look] at hL
  split at hL
  ·rename_i e2;subst e2;cases hL
   exact ⟨nm,⟨[],by rw [nl];exact World.ownsRow_nil _ _ _ _⟩,fun b c hb => by rw [nl] at hb;simp at hb,fun b hb => by rw [nl] at hb;simp [Value.ownBlock] at hb⟩
  ·rename_i hk
   split at hL
   ·rename_i e2;subst e2;cases hL;exact cell0
   ·exact (old k L (fun e => hk e.symm) hL).1
 ·have two : ∀ {k : Nat} {L : LV},look ((l,LV.grow e' sz 0 0) :: (l0,.cells e (cs.set j (.gr l 0 sz 0 f))) :: A.locs) k = some L → inB h' k L b → k ≠ l ∧ ∃ L0,look A.locs k = some L0 ∧ inB h k L0 b := by
   intro k L hL hb
   simp only [look] at hL
   split at hL
   ·rename_i e2;subst e2;cases hL
    simp [inB,nl,Value.ownBlock] at hb
   ·rename_i hk
    refine ⟨fun e => hk e.symm,?_⟩
    split at hL
    ·rename_i e2;subst e2;cases hL
     exact ⟨_,hl0,hb⟩
    ·exact ⟨L,hL,by rw [← (old k L (fun e => hk e.symm) hL).2];exact hb⟩
  intro hin
  obtain ⟨a1,L1,a2,a3⟩ := two hL hbk
  obtain ⟨b1,L2,b2,b3⟩ := two hL' hin
  exact r.sep k k' L1 L2 b hne2 a2 b2 a3 b3
 ·have : k ≠ l := by have := un.2.2;omega
  simp only [h',if_neg this]
  exact r.pin k hk
theorem z92 {P : Program} {nt : Nat} {c : Code} {Q : Exit → ASt → Prop} {A : ASt} (l0 l j sz : Nat) (e' : TypeId) (f : Nat → List Dat) {e : TypeId} {cs : List AV} (hl0 : look A.locs l0 = some (.cells e cs)) (hj : cs[j]? = some (.p (.d (.v (.slice none 0 0))))) (hne : l0 ≠ l)
  (hu : unusedB A l = true) (hn : look A.locs l = none) (h : AWP P nt c Q ⟨A.fr,(l,.grow e' sz 0 0) :: (l0,.cells e (cs.set j (.gr l 0 sz 0 f))) :: A.locs⟩) : AWP P nt c Q A := j21 (Weak.growCell A l0 l j sz e e' cs f hl0 hj hne hu hn) h
end Go.Proofs.Ytjfammnjpeeahaa.AL
namespace Go.Proofs.Ytjfammnjpeeahaa
open Go Go.Proofs.Ytjfammnjpeeahaa.AL
def outK (c : Config) (x y : AV) : LV := .cells 31 [x,.p (.d (.v (.int .i64 c.po.tn))),.p (.d (.sl 2 c.po.peers.length (rowA c.po.peers))),.p (.d (.sl 3 c.po.ways.length (rowW c.po.ways))),y]
def outN : LV := .cells 31 [.p (.d (.v (.slice none 0 0))),.p (.d (.v (.int .i64 0))),.p (.d (.v (.slice none 0 0))),.p (.d (.v (.slice none 0 0))),.p (.d (.v (.slice none 0 0)))]
def nilK : AV := .p (.d (.v (.slice none 0 0)))
def tpK (c : Config) : AV := .p (.d (.sl 1 c.tp.length (rowPP c.tp)))
def frK (c : Config) : List (Nat × AV) := [(3,.loc 3 0),(2,.loc 2 0),(1,.p (.d (.bx (configD c))))]
def cpK (c : Config) (i : Fin (c.tp.length + 1)) : ASt :=
 ⟨(4,.p (.d (.v (.int .i64 (i.val : Int))))) :: frK c,[(90,.grow 45 1 i.val i.val),(3,outK c (.gr 90 i.val 1 i.val (rowPP c.tp)) nilK),(2,outN)]⟩
def cpL (c : Config) (i : Fin (c.tb.length + 1)) : ASt :=
 ⟨(5,.p (.d (.v (.int .i64 (i.val : Int))))) :: frK c,[(91,.grow 34 1 i.val i.val),(3,outK c (tpK c) (.gr 91 i.val 1 i.val (rowTT c.tb))),(2,outN)]⟩
def cpM (c : Config) (i : Nat) (x : List (List Rule)) (k : Fin (x.length + 1)) : ASt :=
 ⟨(7,.p (.d (.v (.int .i64 (k.val : Int))))) :: (6,.gr 57 k.val 1 k.val (rowRR x)) :: (5,.p (.d (.v (.int .i64 (i : Int))))) :: frK c,[(57,.grow 35 1 k.val k.val),(91,.grow 34 1 i i),(3,outK c (tpK c) (.gr 91 i 1 i (rowTT c.tb))),(2,outN)]⟩
theorem q17 (f : Nat → List Dat) : catF 0 (fun _ => []) f = f := by funext i;unfold catF;rw [if_neg (by omega)];rfl
set_option maxRecDepth 100000 in
theorem Copy8_c (c : Config) (hc : c.small) : ACalls Try.prog 6 [.agg (configD c)] (· = [.agg (configD c)]) := by
 have hp := hc.po.1
 have hw := hc.po.2
 have htp := hc.tp
 have htp1 := htp.1
 have t1 := hc.tb
 have hat := hc.at
 refine x9 Try.func6 rfl (by decide +kernel) (by rw [Try.ntmps6];simp) ?_;rw [Try.ntmps6];simp only [frOf]
 (repeat ((fail_if_success (show AWP _ _ (.region 4 _ _) _ _));first | apply j0 | refine q8 rfl ?_ | refine z8 rfl ?_ | apply z7 | (refine x4 fun K hK => ?_) | (refine j4 fun K hK => ?_) | ((first | apply j6 | apply x7 | ((first | refine j5 (hK _ ?_) | refine x6 (hK _ _ x5 ?_));clear hK K));(first | show AWP _ _ _ _ _ | ((try simp only [j7]);first | show loopQ _ _ _ _ _ _ | show cutQ _ _ _ _ | show AWP _ _ _ _ _))) | ((first | refine x8 [13,20,38,57,69] rfl ?_ | refine j8 [13,20,38,57,69] rfl ?_);simp (disch:=omega) only [go_sem,seval,policyD,topoD,configD,outK,outN,nilK,tpK,frK,q17];(repeat (first | refine ⟨by omega,?_⟩ | refine ⟨True.intro,?_⟩)))))
 refine z92 3 90 0 1 45 (rowPP c.tp) rfl rfl (by decide) (by kernel_rfl) rfl ?_
 simp only [List.set_cons_succ,List.set_cons_zero]
 (repeat (first | apply j0 | refine q8 rfl ?_ | refine z8 rfl ?_ | apply z7 | (refine x4 fun K hK => ?_) | (refine j4 fun K hK => ?_) | ((first | apply j6 | apply x7 | ((first | refine j5 (hK _ ?_) | refine x6 (hK _ _ x5 ?_));clear hK K));(first | show AWP _ _ _ _ _ | ((try simp only [j7]);first | show loopQ _ _ _ _ _ _ | show cutQ _ _ _ _ | show AWP _ _ _ _ _))) | ((first | refine x8 [13,20,38,57,69] rfl ?_ | refine j8 [13,20,38,57,69] rfl ?_);simp (disch:=omega) only [go_sem,seval,policyD,topoD,configD,outK,outN,nilK,tpK,frK,q17];(repeat (first | refine ⟨by omega,?_⟩ | refine ⟨True.intro,?_⟩)))))
 refine x12 (cpK c) (fun i => c.tp.length - i.val) ⟨0,by omega⟩ ?_ (fun i => ?_)
 ·unfold cpK outK outN nilK frK
  refine Weak.list ?_ ?_;(all_goals simp (disch:=omega) only [AllF,AllL,j10,q11,x10,exists_eq_left',go_sem,seval,policyD,topoD,configD,outK,outN,nilK,tpK,frK,q17]);(all_goals (repeat' (with_reducible apply And.intro)));(all_goals try (first | exact q9 rfl | (refine z11 ?_;omega) | (refine q9 ?_;simp;done)))
  exact q47 (.cons (Le.refl _) (.cons (Le.refl _) (.cons (z21 rfl fun i hi => rfl) (.cons (z21 rfl fun i hi => rfl) (.cons (Le.refl _) .nil)))))
 obtain ⟨i,hi⟩ := i
 unfold cpK outK outN nilK frK
 by_cases h : i < c.tp.length
 ·have r1 := q18 c.tp i
  have hb := j16 htp i
  have pt := x86 c.tp i h
  generalize c.tp.getD i [] = x at r1 hb pt
  (repeat (first | apply j0 | refine q8 rfl ?_ | refine z8 rfl ?_ | apply z7 | (refine x4 fun K hK => ?_) | (refine j4 fun K hK => ?_) | ((first | apply j6 | apply x7 | ((first | refine j5 (hK _ ?_) | refine x6 (hK _ _ x5 ?_));clear hK K));(first | show AWP _ _ _ _ _ | ((try simp only [j7]);first | show loopQ _ _ _ _ _ _ | show cutQ _ _ _ _ | show AWP _ _ _ _ _))) | ((first | refine x8 [13,20,38,57,69] rfl ?_ | refine j8 [13,20,38,57,69] rfl ?_);simp (disch:=omega) only [go_sem,seval,policyD,topoD,configD,outK,outN,nilK,tpK,frK,q17,r1];(repeat (first | refine ⟨by omega,?_⟩ | refine ⟨True.intro,?_⟩)))))
  refine ⟨⟨i + 1,by omega⟩,by simp only [];omega,?_⟩
  refine Weak.list ?_ ?_;(all_goals simp (disch:=omega) only [AllF,AllL,j10,q11,x10,exists_eq_left',go_sem,seval,policyD,topoD,configD,outK,outN,nilK,tpK,frK,q17,r1]);(all_goals (repeat' (with_reducible apply And.intro)));(all_goals try (first | exact q9 rfl | (refine z11 ?_;omega) | (refine q9 ?_;simp;done)))
  exact q47 (.cons (j19 rfl rfl (fun k hk => pt k hk)) (.cons (Le.refl _) (.cons (Le.refl _) (.cons (Le.refl _) (.cons (Le.refl _) .nil)))))
 ·have : i = c.tp.length := by omega
  subst this
  (repeat ((fail_if_success (show AWP _ _ (.region 8 _ _) _ _));first | apply j0 | refine q8 rfl ?_ | refine z8 rfl ?_ | apply z7 | (refine x4 fun K hK => ?_) | (refine j4 fun K hK => ?_) | ((first | apply j6 | apply x7 | ((first | refine j5 (hK _ ?_) | refine x6 (hK _ _ x5 ?_));clear hK K));(first | show AWP _ _ _ _ _ | ((try simp only [j7]);first | show loopQ _ _ _ _ _ _ | show cutQ _ _ _ _ | show AWP _ _ _ _ _))) | ((first | refine x8 [13,20,38,57,69] rfl ?_ | refine j8 [13,20,38,57,69] rfl ?_);simp (disch:=omega) only [go_sem,seval,policyD,topoD,configD,outK,outN,nilK,tpK,frK,q17];(repeat (first | refine ⟨by omega,?_⟩ | refine ⟨True.intro,?_⟩)))))
  refine z92 3 91 4 1 34 (rowTT c.tb) rfl rfl (by decide) (by kernel_rfl) rfl ?_
  simp only [List.set_cons_succ,List.set_cons_zero]
  (repeat (first | apply j0 | refine q8 rfl ?_ | refine z8 rfl ?_ | apply z7 | (refine x4 fun K hK => ?_) | (refine j4 fun K hK => ?_) | ((first | apply j6 | apply x7 | ((first | refine j5 (hK _ ?_) | refine x6 (hK _ _ x5 ?_));clear hK K));(first | show AWP _ _ _ _ _ | ((try simp only [j7]);first | show loopQ _ _ _ _ _ _ | show cutQ _ _ _ _ | show AWP _ _ _ _ _))) | ((first | refine x8 [13,20,38,57,69] rfl ?_ | refine j8 [13,20,38,57,69] rfl ?_);simp (disch:=omega) only [go_sem,seval,policyD,topoD,configD,outK,outN,nilK,tpK,frK,q17];(repeat (first | refine ⟨by omega,?_⟩ | refine ⟨True.intro,?_⟩)))))
  refine x12 (cpL c) (fun i => c.tb.length - i.val) ⟨0,by omega⟩ ?_ (fun i => ?_)
  ·unfold cpL outK outN tpK frK
   refine Weak.list ?_ ?_;(all_goals simp (disch:=omega) only [AllF,AllL,j10,q11,x10,exists_eq_left',go_sem,seval,policyD,topoD,configD,outK,outN,nilK,tpK,frK,q17]);(all_goals (repeat' (with_reducible apply And.intro)));(all_goals try (first | exact q9 rfl | (refine z11 ?_;omega) | (refine q9 ?_;simp;done)))
   exact q47 (.cons (z21 rfl fun i hi => rfl) (.cons (Le.refl _) (.cons (Le.refl _) (.cons (Le.refl _) (.cons (Le.refl _) .nil)))))
  obtain ⟨i,hi⟩ := i
  unfold cpL outK outN tpK frK
  by_cases h : i < c.tb.length
  ·have r1 := z24 c.tb i
   have hb := hat i
   have hb1 := hb.1
   have pt := j87 c.tb i h
   generalize c.tb.getD i [] = x at r1 hb hb1 pt
   (repeat (first | apply j0 | refine q8 rfl ?_ | refine z8 rfl ?_ | apply z7 | (refine x4 fun K hK => ?_) | (refine j4 fun K hK => ?_) | ((first | apply j6 | apply x7 | ((first | refine j5 (hK _ ?_) | refine x6 (hK _ _ x5 ?_));clear hK K));(first | show AWP _ _ _ _ _ | ((try simp only [j7]);first | show loopQ _ _ _ _ _ _ | show cutQ _ _ _ _ | show AWP _ _ _ _ _))) | ((first | refine x8 [13,20,38,57,69] rfl ?_ | refine j8 [13,20,38,57,69] rfl ?_);simp (disch:=omega) only [go_sem,seval,policyD,topoD,configD,outK,outN,nilK,tpK,frK,q17,r1];(repeat (first | refine ⟨by omega,?_⟩ | refine ⟨True.intro,?_⟩)))))
   refine x12 (cpM c i x) (fun k => x.length - k.val) ⟨0,by omega⟩ ?_ (fun k => ?_)
   ·unfold cpM outK outN tpK frK
    refine Weak.list ?_ ?_;(all_goals simp (disch:=omega) only [AllF,AllL,j10,q11,x10,exists_eq_left',go_sem,seval,policyD,topoD,configD,outK,outN,nilK,tpK,frK,q17,r1]);(all_goals (repeat' (with_reducible apply And.intro)));(all_goals try (first | exact q9 rfl | (refine z11 ?_;omega) | (refine q9 ?_;simp;done)))
    exact j19 rfl rfl (fun k hk => by omega)
   obtain ⟨k,hk⟩ := k
   unfold cpM outK outN tpK frK
   by_cases hkx : k < x.length
   ·have r2 := q24 x k
    have hb2 := q23 hb k
    have pt2 := j86 x k hkx
    generalize x.getD k [] = y at r2 hb2 pt2
    (repeat (first | apply j0 | refine q8 rfl ?_ | refine z8 rfl ?_ | apply z7 | (refine x4 fun K hK => ?_) | (refine j4 fun K hK => ?_) | ((first | apply j6 | apply x7 | ((first | refine j5 (hK _ ?_) | refine x6 (hK _ _ x5 ?_));clear hK K));(first | show AWP _ _ _ _ _ | ((try simp only [j7]);first | show loopQ _ _ _ _ _ _ | show cutQ _ _ _ _ | show AWP _ _ _ _ _))) | ((first | refine x8 [13,20,38,57,69] rfl ?_ | refine j8 [13,20,38,57,69] rfl ?_);simp (disch:=omega) only [go_sem,seval,policyD,topoD,configD,outK,outN,nilK,tpK,frK,q17,r1,r2];(repeat (first | refine ⟨by omega,?_⟩ | refine ⟨True.intro,?_⟩)))))
    refine ⟨⟨k + 1,by omega⟩,by simp only [];omega,?_⟩
    refine Weak.list ?_ ?_;(all_goals simp (disch:=omega) only [AllF,AllL,j10,q11,x10,exists_eq_left',go_sem,seval,policyD,topoD,configD,outK,outN,nilK,tpK,frK,q17,r1,r2]);(all_goals (repeat' (with_reducible apply And.intro)));(all_goals try (first | exact q9 rfl | (refine z11 ?_;omega) | (refine q9 ?_;simp;done)))
    exact j19 rfl rfl (fun k hk => pt2 k hk)
   ·have : k = x.length := by omega
    subst this
    (repeat (first | apply j0 | refine q8 rfl ?_ | refine z8 rfl ?_ | apply z7 | (refine x4 fun K hK => ?_) | (refine j4 fun K hK => ?_) | ((first | apply j6 | apply x7 | ((first | refine j5 (hK _ ?_) | refine x6 (hK _ _ x5 ?_));clear hK K));(first | show AWP _ _ _ _ _ | ((try simp only [j7]);first | show loopQ _ _ _ _ _ _ | show cutQ _ _ _ _ | show AWP _ _ _ _ _))) | ((first | refine x8 [13,20,38,57,69] rfl ?_ | refine j8 [13,20,38,57,69] rfl ?_);simp (disch:=omega) only [go_sem,seval,policyD,topoD,configD,outK,outN,nilK,tpK,frK,q17,r1];(repeat (first | refine ⟨by omega,?_⟩ | refine ⟨True.intro,?_⟩)))))
    refine ⟨⟨i + 1,by omega⟩,by simp only [];omega,?_⟩
    refine Weak.list ?_ ?_;(all_goals simp (disch:=omega) only [AllF,AllL,j10,q11,x10,exists_eq_left',go_sem,seval,policyD,topoD,configD,outK,outN,nilK,tpK,frK,q17,r1]);(all_goals (repeat' (with_reducible apply And.intro)));(all_goals try (first | exact q9 rfl | (refine z11 ?_;omega) | (refine q9 ?_;simp;done)))
    exact q47 (.cons (Le.refl _) (.cons (Le.refl _) (.cons (Le.refl _) (.cons (Le.refl _) (.cons (j19 rfl rfl (fun k hk => pt k hk)) .nil)))))
  ·have : i = c.tb.length := by omega
   subst this
   (repeat (first | apply j0 | refine q8 rfl ?_ | refine z8 rfl ?_ | apply z7 | (refine x4 fun K hK => ?_) | (refine j4 fun K hK => ?_) | ((first | apply j6 | apply x7 | ((first | refine j5 (hK _ ?_) | refine x6 (hK _ _ x5 ?_));clear hK K));(first | show AWP _ _ _ _ _ | ((try simp only [j7]);first | show loopQ _ _ _ _ _ _ | show cutQ _ _ _ _ | show AWP _ _ _ _ _))) | ((first | refine x8 [13,20,38,57,69] rfl ?_ | refine j8 [13,20,38,57,69] rfl ?_);simp (disch:=omega) only [go_sem,seval,policyD,topoD,configD,outK,outN,nilK,tpK,frK,q17];(repeat (first | refine ⟨by omega,?_⟩ | refine ⟨True.intro,?_⟩)))))
   refine z9 ⟨_,?_,rfl⟩;rw [Try.results6];simp (disch:=omega) only [ResVars,ResVar,ptrLoc,go_sem,seval,policyD,topoD,configD,outK,outN,nilK,tpK,frK,q17]
theorem j29 {α : Type} {e : α → α → Bool} {d : α} {a b : List α} (h : a.length ≠ b.length) : eqBy e d a b = false := by unfold eqBy;rw [if_neg h]
theorem q30 {α : Type} {e : α → α → Bool} {d : α} {a b : List α} (h : a.length = b.length) : eqBy e d a b = allF (fun i => e (a.getD i d) (b.getD i d)) a.length 0 := by unfold eqBy;rw [if_pos h]
def rul8A (a b : List (List Rule)) (R : Bool) (s : {i : Nat // i ≤ a.length ∧ allF (fun i => eqRR (a.getD i []) (b.getD i [])) a.length i = R}) : ASt :=
 ⟨[(5,.p (.d (.v (.int .i64 (s.val : Int))))),(1,.p (.d (.sl 1 b.length (rowRR b)))),(0,.p (.d (.sl 1 a.length (rowRR a))))],[]⟩
def rul8B (a b : List (List Rule)) (x y : List Rule) (i : Nat) (Q : Bool) (s : {k : Nat // k ≤ x.length ∧ allF (fun k => x.getD k r0 == y.getD k r0) x.length k = Q}) : ASt :=
 ⟨[(6,.p (.d (.v (.int .i64 (s.val : Int))))),(5,.p (.d (.v (.int .i64 (i : Int))))),(1,.p (.d (.sl 1 b.length (rowRR b)))),(0,.p (.d (.sl 1 a.length (rowRR a))))],[]⟩
set_option maxRecDepth 100000 in
theorem x140 (a b : List (List Rule)) (ha : smallR a) (hb : smallR b) : ACalls Try.prog 16 [.d (.sl 1 a.length (rowRR a)),.d (.sl 1 b.length (rowRR b))] (· = [.d (.v (.bool (eqBy eqRR [] a b)))]) := by
 have hs := ha.1
 have hs' := hb.1
 by_cases hn : a.length = b.length
 ·rw [q30 hn]
  have q0 : ((a.length : Int) != (b.length : Int)) = false := j13 (by omega)
  generalize hR : allF (fun i => eqRR (a.getD i []) (b.getD i [])) a.length 0 = R
  refine x9 Try.func16 rfl (by decide +kernel) (by rw [Try.ntmps16];simp) ?_;rw [Try.ntmps16];simp only [frOf]
  (repeat (first | apply j0 | refine q8 rfl ?_ | refine z8 rfl ?_ | apply z7 | (refine x4 fun K hK => ?_) | (refine j4 fun K hK => ?_) | ((first | apply j6 | apply x7 | ((first | refine j5 (hK _ ?_) | refine x6 (hK _ _ x5 ?_));clear hK K));(first | show AWP _ _ _ _ _ | ((try simp only [j7]);first | show loopQ _ _ _ _ _ _ | show cutQ _ _ _ _ | show AWP _ _ _ _ _))) | ((first | refine x8 [] rfl ?_ | refine j8 [] rfl ?_);simp (disch:=omega) only [go_sem,seval,ruleD,q12,q0];(repeat (first | refine ⟨by omega,?_⟩ | refine ⟨True.intro,?_⟩)))))
  refine x12 (rul8A a b R) (fun s => a.length - s.val) ⟨0,Nat.zero_le _,hR⟩ ?_ (fun s => ?_)
  ·unfold rul8A
   refine Weak.list ?_ ?_;(all_goals simp (disch:=omega) only [AllF,AllL,j10,q11,x10,exists_eq_left',go_sem,seval,ruleD,q12]);(all_goals (repeat' (with_reducible apply And.intro)));(all_goals try (first | exact q9 rfl | (refine z11 ?_;omega) | (refine q9 ?_;simp;done)))
  obtain ⟨i,hi,h2⟩ := s
  unfold rul8A
  simp only [] at hi h2 ⊢
  by_cases h : i < a.length
  ·rw [j14 h] at h2
   have r1 := q24 a i
   have r2 := q24 b i
   have l1 := q23 ha i
   have l2 := q23 hb i
   try simp only [] at h2
   generalize a.getD i [] = x at h2 r1 l1
   generalize b.getD i [] = y at h2 r2 l2
   by_cases hxy : x.length = y.length
   ·have q1 : ((x.length : Int) != (y.length : Int)) = false := j13 (by omega)
    have eQ : eqRR x y = allF (fun k => x.getD k r0 == y.getD k r0) x.length 0 := q30 hxy
    generalize eqRR x y = Q at h2 eQ
    (repeat (first | apply j0 | refine q8 rfl ?_ | refine z8 rfl ?_ | apply z7 | (refine x4 fun K hK => ?_) | (refine j4 fun K hK => ?_) | ((first | apply j6 | apply x7 | ((first | refine j5 (hK _ ?_) | refine x6 (hK _ _ x5 ?_));clear hK K));(first | show AWP _ _ _ _ _ | ((try simp only [j7]);first | show loopQ _ _ _ _ _ _ | show cutQ _ _ _ _ | show AWP _ _ _ _ _))) | ((first | refine x8 [] rfl ?_ | refine j8 [] rfl ?_);simp (disch:=omega) only [go_sem,seval,ruleD,q12,r1,r2,q1];(repeat (first | refine ⟨by omega,?_⟩ | refine ⟨True.intro,?_⟩)))))
    refine x12 (rul8B a b x y i Q) (fun s => x.length - s.val) ⟨0,Nat.zero_le _,eQ.symm⟩ ?_ (fun s => ?_)
    ·unfold rul8B
     refine Weak.list ?_ ?_;(all_goals simp (disch:=omega) only [AllF,AllL,j10,q11,x10,exists_eq_left',go_sem,seval,ruleD,q12,r1,r2,q1]);(all_goals (repeat' (with_reducible apply And.intro)));(all_goals try (first | exact q9 rfl | (refine z11 ?_;omega) | (refine q9 ?_;simp;done)))
    obtain ⟨k,hk,h3⟩ := s
    unfold rul8B
    simp only [] at hk h3 ⊢
    by_cases hkl : k < x.length
    ·rw [j14 hkl] at h3
     have r3 := z38 x k
     have r4 := z38 y k
     try simp only [] at h3
     generalize x.getD k r0 = u at h3 r3
     generalize y.getD k r0 = v at h3 r4
     have e := x81 u v
     generalize (u == v) = c at h3 e
     cases c
     ·rw [Bool.false_and] at h3
      subst h3
      rw [Bool.false_and] at h2
      subst h2
      (repeat (first | apply j0 | refine q8 rfl ?_ | refine z8 rfl ?_ | apply z7 | (refine x4 fun K hK => ?_) | (refine j4 fun K hK => ?_) | ((first | apply j6 | apply x7 | ((first | refine j5 (hK _ ?_) | refine x6 (hK _ _ x5 ?_));clear hK K));(first | show AWP _ _ _ _ _ | ((try simp only [j7]);first | show loopQ _ _ _ _ _ _ | show cutQ _ _ _ _ | show AWP _ _ _ _ _))) | ((first | refine x8 [] rfl ?_ | refine j8 [] rfl ?_);simp (disch:=omega) only [go_sem,seval,ruleD,q12,r1,r2,r3,r4,e];(repeat (first | refine ⟨by omega,?_⟩ | refine ⟨True.intro,?_⟩)))))
      refine z9 ⟨_,?_,rfl⟩;rw [Try.results16];simp (disch:=omega) only [ResVars,ResVar,ptrLoc,go_sem,seval,ruleD,q12,r1,r2,r3,r4,e]
     ·rw [Bool.true_and] at h3
      (repeat (first | apply j0 | refine q8 rfl ?_ | refine z8 rfl ?_ | apply z7 | (refine x4 fun K hK => ?_) | (refine j4 fun K hK => ?_) | ((first | apply j6 | apply x7 | ((first | refine j5 (hK _ ?_) | refine x6 (hK _ _ x5 ?_));clear hK K));(first | show AWP _ _ _ _ _ | ((try simp only [j7]);first | show loopQ _ _ _ _ _ _ | show cutQ _ _ _ _ | show AWP _ _ _ _ _))) | ((first | refine x8 [] rfl ?_ | refine j8 [] rfl ?_);simp (disch:=omega) only [go_sem,seval,ruleD,q12,r1,r2,r3,r4,e];(repeat (first | refine ⟨by omega,?_⟩ | refine ⟨True.intro,?_⟩)))))
      refine ⟨⟨k + 1,by omega,h3⟩,by simp only [];omega,?_⟩
      refine Weak.list ?_ ?_;(all_goals simp (disch:=omega) only [AllF,AllL,j10,q11,x10,exists_eq_left',go_sem,seval,ruleD,q12,r1,r2,r3,r4,e]);(all_goals (repeat' (with_reducible apply And.intro)));(all_goals try (first | exact q9 rfl | (refine z11 ?_;omega) | (refine q9 ?_;simp;done)))
    ·rw [q15 (by omega)] at h3
     subst h3
     rw [Bool.true_and] at h2
     (repeat (first | apply j0 | refine q8 rfl ?_ | refine z8 rfl ?_ | apply z7 | (refine x4 fun K hK => ?_) | (refine j4 fun K hK => ?_) | ((first | apply j6 | apply x7 | ((first | refine j5 (hK _ ?_) | refine x6 (hK _ _ x5 ?_));clear hK K));(first | show AWP _ _ _ _ _ | ((try simp only [j7]);first | show loopQ _ _ _ _ _ _ | show cutQ _ _ _ _ | show AWP _ _ _ _ _))) | ((first | refine x8 [] rfl ?_ | refine j8 [] rfl ?_);simp (disch:=omega) only [go_sem,seval,ruleD,q12,r1,r2];(repeat (first | refine ⟨by omega,?_⟩ | refine ⟨True.intro,?_⟩)))))
     refine ⟨⟨i + 1,by omega,h2⟩,by simp only [];omega,?_⟩
     refine Weak.list ?_ ?_;(all_goals simp (disch:=omega) only [AllF,AllL,j10,q11,x10,exists_eq_left',go_sem,seval,ruleD,q12,r1,r2]);(all_goals (repeat' (with_reducible apply And.intro)));(all_goals try (first | exact q9 rfl | (refine z11 ?_;omega) | (refine q9 ?_;simp;done)))
   ·have q1 : ((x.length : Int) != (y.length : Int)) = true := x13 (by omega)
    rw [show eqRR x y = false from j29 hxy,Bool.false_and] at h2
    subst h2
    (repeat (first | apply j0 | refine q8 rfl ?_ | refine z8 rfl ?_ | apply z7 | (refine x4 fun K hK => ?_) | (refine j4 fun K hK => ?_) | ((first | apply j6 | apply x7 | ((first | refine j5 (hK _ ?_) | refine x6 (hK _ _ x5 ?_));clear hK K));(first | show AWP _ _ _ _ _ | ((try simp only [j7]);first | show loopQ _ _ _ _ _ _ | show cutQ _ _ _ _ | show AWP _ _ _ _ _))) | ((first | refine x8 [] rfl ?_ | refine j8 [] rfl ?_);simp (disch:=omega) only [go_sem,seval,ruleD,q12,r1,r2,q1];(repeat (first | refine ⟨by omega,?_⟩ | refine ⟨True.intro,?_⟩)))))
    refine z9 ⟨_,?_,rfl⟩;rw [Try.results16];simp (disch:=omega) only [ResVars,ResVar,ptrLoc,go_sem,seval,ruleD,q12,r1,r2,q1]
  ·rw [q15 (by omega)] at h2
   subst h2
   (repeat (first | apply j0 | refine q8 rfl ?_ | refine z8 rfl ?_ | apply z7 | (refine x4 fun K hK => ?_) | (refine j4 fun K hK => ?_) | ((first | apply j6 | apply x7 | ((first | refine j5 (hK _ ?_) | refine x6 (hK _ _ x5 ?_));clear hK K));(first | show AWP _ _ _ _ _ | ((try simp only [j7]);first | show loopQ _ _ _ _ _ _ | show cutQ _ _ _ _ | show AWP _ _ _ _ _))) | ((first | refine x8 [] rfl ?_ | refine j8 [] rfl ?_);simp (disch:=omega) only [go_sem,seval,ruleD,q12];(repeat (first | refine ⟨by omega,?_⟩ | refine ⟨True.intro,?_⟩)))))
   refine z9 ⟨_,?_,rfl⟩;rw [Try.results16];simp (disch:=omega) only [ResVars,ResVar,ptrLoc,go_sem,seval,ruleD,q12]
 ·rw [j29 hn]
  have q : ((a.length : Int) != (b.length : Int)) = true := x13 (by omega)
  refine x9 Try.func16 rfl (by decide +kernel) (by rw [Try.ntmps16];simp) ?_;rw [Try.ntmps16];simp only [frOf]
  (repeat (first | apply j0 | refine q8 rfl ?_ | refine z8 rfl ?_ | apply z7 | (refine x4 fun K hK => ?_) | (refine j4 fun K hK => ?_) | ((first | apply j6 | apply x7 | ((first | refine j5 (hK _ ?_) | refine x6 (hK _ _ x5 ?_));clear hK K));(first | show AWP _ _ _ _ _ | ((try simp only [j7]);first | show loopQ _ _ _ _ _ _ | show cutQ _ _ _ _ | show AWP _ _ _ _ _))) | ((first | refine x8 [] rfl ?_ | refine j8 [] rfl ?_);simp (disch:=omega) only [go_sem,seval,ruleD,q12,q];(repeat (first | refine ⟨by omega,?_⟩ | refine ⟨True.intro,?_⟩)))))
  refine z9 ⟨_,?_,rfl⟩;rw [Try.results16];simp (disch:=omega) only [ResVars,ResVar,ptrLoc,go_sem,seval,ruleD,q12,q]
def por8A (a b : List (List Port)) (R : Bool) (s : {i : Nat // i ≤ a.length ∧ allF (fun i => eqPP (a.getD i []) (b.getD i [])) a.length i = R}) : ASt :=
 ⟨[(5,.p (.d (.v (.int .i64 (s.val : Int))))),(3,.p (.d (.bx [.sl 1 b.length (rowPP b)]))),(2,.p (.d (.bx [.sl 1 a.length (rowPP a)])))],[]⟩
def por8B (a b : List (List Port)) (x y : List Port) (i : Nat) (Q : Bool) (s : {k : Nat // k ≤ x.length ∧ allF (fun k => x.getD k p0 == y.getD k p0) x.length k = Q}) : ASt :=
 ⟨[(6,.p (.d (.v (.int .i64 (s.val : Int))))),(5,.p (.d (.v (.int .i64 (i : Int))))),(3,.p (.d (.bx [.sl 1 b.length (rowPP b)]))),(2,.p (.d (.bx [.sl 1 a.length (rowPP a)])))],[]⟩
set_option maxRecDepth 100000 in
theorem j140 (a b : List (List Port)) (ha : small a) (hb : small b) : ACalls Try.prog 29 [.agg [.sl 1 a.length (rowPP a)],.agg [.sl 1 b.length (rowPP b)]] (· = [.d (.v (.bool (eqBy eqPP [] a b)))]) := by
 have hs := ha.1
 have hs' := hb.1
 by_cases hn : a.length = b.length
 ·rw [q30 hn]
  have q0 : ((a.length : Int) != (b.length : Int)) = false := j13 (by omega)
  generalize hR : allF (fun i => eqPP (a.getD i []) (b.getD i [])) a.length 0 = R
  refine x9 Try.func29 rfl (by decide +kernel) (by rw [Try.ntmps29];simp) ?_;rw [Try.ntmps29];simp only [frOf]
  (repeat (first | apply j0 | refine q8 rfl ?_ | refine z8 rfl ?_ | apply z7 | (refine x4 fun K hK => ?_) | (refine j4 fun K hK => ?_) | ((first | apply j6 | apply x7 | ((first | refine j5 (hK _ ?_) | refine x6 (hK _ _ x5 ?_));clear hK K));(first | show AWP _ _ _ _ _ | ((try simp only [j7]);first | show loopQ _ _ _ _ _ _ | show cutQ _ _ _ _ | show AWP _ _ _ _ _))) | ((first | refine x8 [] rfl ?_ | refine j8 [] rfl ?_);simp (disch:=omega) only [go_sem,seval,portD,z13,q0];(repeat (first | refine ⟨by omega,?_⟩ | refine ⟨True.intro,?_⟩)))))
  refine x12 (por8A a b R) (fun s => a.length - s.val) ⟨0,Nat.zero_le _,hR⟩ ?_ (fun s => ?_)
  ·unfold por8A
   refine Weak.list ?_ ?_;(all_goals simp (disch:=omega) only [AllF,AllL,j10,q11,x10,exists_eq_left',go_sem,seval,portD,z13]);(all_goals (repeat' (with_reducible apply And.intro)));(all_goals try (first | exact q9 rfl | (refine z11 ?_;omega) | (refine q9 ?_;simp;done)))
  obtain ⟨i,hi,h2⟩ := s
  unfold por8A
  simp only [] at hi h2 ⊢
  by_cases h : i < a.length
  ·rw [j14 h] at h2
   have r1 := q18 a i
   have r2 := q18 b i
   have l1 := j16 ha i
   have l2 := j16 hb i
   try simp only [] at h2
   generalize a.getD i [] = x at h2 r1 l1
   generalize b.getD i [] = y at h2 r2 l2
   by_cases hxy : x.length = y.length
   ·have q1 : ((x.length : Int) != (y.length : Int)) = false := j13 (by omega)
    have eQ : eqPP x y = allF (fun k => x.getD k p0 == y.getD k p0) x.length 0 := q30 hxy
    generalize eqPP x y = Q at h2 eQ
    (repeat (first | apply j0 | refine q8 rfl ?_ | refine z8 rfl ?_ | apply z7 | (refine x4 fun K hK => ?_) | (refine j4 fun K hK => ?_) | ((first | apply j6 | apply x7 | ((first | refine j5 (hK _ ?_) | refine x6 (hK _ _ x5 ?_));clear hK K));(first | show AWP _ _ _ _ _ | ((try simp only [j7]);first | show loopQ _ _ _ _ _ _ | show cutQ _ _ _ _ | show AWP _ _ _ _ _))) | ((first | refine x8 [] rfl ?_ | refine j8 [] rfl ?_);simp (disch:=omega) only [go_sem,seval,portD,z13,r1,r2,q1];(repeat (first | refine ⟨by omega,?_⟩ | refine ⟨True.intro,?_⟩)))))
    refine x12 (por8B a b x y i Q) (fun s => x.length - s.val) ⟨0,Nat.zero_le _,eQ.symm⟩ ?_ (fun s => ?_)
    ·unfold por8B
     refine Weak.list ?_ ?_;(all_goals simp (disch:=omega) only [AllF,AllL,j10,q11,x10,exists_eq_left',go_sem,seval,portD,z13,r1,r2,q1]);(all_goals (repeat' (with_reducible apply And.intro)));(all_goals try (first | exact q9 rfl | (refine z11 ?_;omega) | (refine q9 ?_;simp;done)))
    obtain ⟨k,hk,h3⟩ := s
    unfold por8B
    simp only [] at hk h3 ⊢
    by_cases hkl : k < x.length
    ·rw [j14 hkl] at h3
     have r3 := j22 x k
     have r4 := j22 y k
     try simp only [] at h3
     generalize x.getD k p0 = u at h3 r3
     generalize y.getD k p0 = v at h3 r4
     have e := x87 u v
     generalize (u == v) = c at h3 e
     cases c
     ·rw [Bool.false_and] at h3
      subst h3
      rw [Bool.false_and] at h2
      subst h2
      (repeat (first | apply j0 | refine q8 rfl ?_ | refine z8 rfl ?_ | apply z7 | (refine x4 fun K hK => ?_) | (refine j4 fun K hK => ?_) | ((first | apply j6 | apply x7 | ((first | refine j5 (hK _ ?_) | refine x6 (hK _ _ x5 ?_));clear hK K));(first | show AWP _ _ _ _ _ | ((try simp only [j7]);first | show loopQ _ _ _ _ _ _ | show cutQ _ _ _ _ | show AWP _ _ _ _ _))) | ((first | refine x8 [] rfl ?_ | refine j8 [] rfl ?_);simp (disch:=omega) only [go_sem,seval,portD,z13,r1,r2,r3,r4,e];(repeat (first | refine ⟨by omega,?_⟩ | refine ⟨True.intro,?_⟩)))))
      refine z9 ⟨_,?_,rfl⟩;rw [Try.results29];simp (disch:=omega) only [ResVars,ResVar,ptrLoc,go_sem,seval,portD,z13,r1,r2,r3,r4,e]
     ·rw [Bool.true_and] at h3
      (repeat (first | apply j0 | refine q8 rfl ?_ | refine z8 rfl ?_ | apply z7 | (refine x4 fun K hK => ?_) | (refine j4 fun K hK => ?_) | ((first | apply j6 | apply x7 | ((first | refine j5 (hK _ ?_) | refine x6 (hK _ _ x5 ?_));clear hK K));(first | show AWP _ _ _ _ _ | ((try simp only [j7]);first | show loopQ _ _ _ _ _ _ | show cutQ _ _ _ _ | show AWP _ _ _ _ _))) | ((first | refine x8 [] rfl ?_ | refine j8 [] rfl ?_);simp (disch:=omega) only [go_sem,seval,portD,z13,r1,r2,r3,r4,e];(repeat (first | refine ⟨by omega,?_⟩ | refine ⟨True.intro,?_⟩)))))
      refine ⟨⟨k + 1,by omega,h3⟩,by simp only [];omega,?_⟩
      refine Weak.list ?_ ?_;(all_goals simp (disch:=omega) only [AllF,AllL,j10,q11,x10,exists_eq_left',go_sem,seval,portD,z13,r1,r2,r3,r4,e]);(all_goals (repeat' (with_reducible apply And.intro)));(all_goals try (first | exact q9 rfl | (refine z11 ?_;omega) | (refine q9 ?_;simp;done)))
    ·rw [q15 (by omega)] at h3
     subst h3
     rw [Bool.true_and] at h2
     (repeat (first | apply j0 | refine q8 rfl ?_ | refine z8 rfl ?_ | apply z7 | (refine x4 fun K hK => ?_) | (refine j4 fun K hK => ?_) | ((first | apply j6 | apply x7 | ((first | refine j5 (hK _ ?_) | refine x6 (hK _ _ x5 ?_));clear hK K));(first | show AWP _ _ _ _ _ | ((try simp only [j7]);first | show loopQ _ _ _ _ _ _ | show cutQ _ _ _ _ | show AWP _ _ _ _ _))) | ((first | refine x8 [] rfl ?_ | refine j8 [] rfl ?_);simp (disch:=omega) only [go_sem,seval,portD,z13,r1,r2];(repeat (first | refine ⟨by omega,?_⟩ | refine ⟨True.intro,?_⟩)))))
     refine ⟨⟨i + 1,by omega,h2⟩,by simp only [];omega,?_⟩
     refine Weak.list ?_ ?_;(all_goals simp (disch:=omega) only [AllF,AllL,j10,q11,x10,exists_eq_left',go_sem,seval,portD,z13,r1,r2]);(all_goals (repeat' (with_reducible apply And.intro)));(all_goals try (first | exact q9 rfl | (refine z11 ?_;omega) | (refine q9 ?_;simp;done)))
   ·have q1 : ((x.length : Int) != (y.length : Int)) = true := x13 (by omega)
    rw [show eqPP x y = false from j29 hxy,Bool.false_and] at h2
    subst h2
    (repeat (first | apply j0 | refine q8 rfl ?_ | refine z8 rfl ?_ | apply z7 | (refine x4 fun K hK => ?_) | (refine j4 fun K hK => ?_) | ((first | apply j6 | apply x7 | ((first | refine j5 (hK _ ?_) | refine x6 (hK _ _ x5 ?_));clear hK K));(first | show AWP _ _ _ _ _ | ((try simp only [j7]);first | show loopQ _ _ _ _ _ _ | show cutQ _ _ _ _ | show AWP _ _ _ _ _))) | ((first | refine x8 [] rfl ?_ | refine j8 [] rfl ?_);simp (disch:=omega) only [go_sem,seval,portD,z13,r1,r2,q1];(repeat (first | refine ⟨by omega,?_⟩ | refine ⟨True.intro,?_⟩)))))
    refine z9 ⟨_,?_,rfl⟩;rw [Try.results29];simp (disch:=omega) only [ResVars,ResVar,ptrLoc,go_sem,seval,portD,z13,r1,r2,q1]
  ·rw [q15 (by omega)] at h2
   subst h2
   (repeat (first | apply j0 | refine q8 rfl ?_ | refine z8 rfl ?_ | apply z7 | (refine x4 fun K hK => ?_) | (refine j4 fun K hK => ?_) | ((first | apply j6 | apply x7 | ((first | refine j5 (hK _ ?_) | refine x6 (hK _ _ x5 ?_));clear hK K));(first | show AWP _ _ _ _ _ | ((try simp only [j7]);first | show loopQ _ _ _ _ _ _ | show cutQ _ _ _ _ | show AWP _ _ _ _ _))) | ((first | refine x8 [] rfl ?_ | refine j8 [] rfl ?_);simp (disch:=omega) only [go_sem,seval,portD,z13];(repeat (first | refine ⟨by omega,?_⟩ | refine ⟨True.intro,?_⟩)))))
   refine z9 ⟨_,?_,rfl⟩;rw [Try.results29];simp (disch:=omega) only [ResVars,ResVar,ptrLoc,go_sem,seval,portD,z13]
 ·rw [j29 hn]
  have q : ((a.length : Int) != (b.length : Int)) = true := x13 (by omega)
  refine x9 Try.func29 rfl (by decide +kernel) (by rw [Try.ntmps29];simp) ?_;rw [Try.ntmps29];simp only [frOf]
  (repeat (first | apply j0 | refine q8 rfl ?_ | refine z8 rfl ?_ | apply z7 | (refine x4 fun K hK => ?_) | (refine j4 fun K hK => ?_) | ((first | apply j6 | apply x7 | ((first | refine j5 (hK _ ?_) | refine x6 (hK _ _ x5 ?_));clear hK K));(first | show AWP _ _ _ _ _ | ((try simp only [j7]);first | show loopQ _ _ _ _ _ _ | show cutQ _ _ _ _ | show AWP _ _ _ _ _))) | ((first | refine x8 [] rfl ?_ | refine j8 [] rfl ?_);simp (disch:=omega) only [go_sem,seval,portD,z13,q];(repeat (first | refine ⟨by omega,?_⟩ | refine ⟨True.intro,?_⟩)))))
  refine z9 ⟨_,?_,rfl⟩;rw [Try.results29];simp (disch:=omega) only [ResVars,ResVar,ptrLoc,go_sem,seval,portD,z13,q]
def sam8L (a b : Config) (t : Nat) (i : Nat) : ASt :=
 ⟨[(t,.p (.d (.v (.int .i64 (i : Int))))),(6,.loc 6 0),(5,.loc 5 0),(3,.p (.d (.bx (configD b)))),(2,.p (.d (.bx (configD a))))],
  [(6,.cells 28 [.p (.d (.v (.int .i64 b.po.tn))),.p (.d (.sl 2 b.po.peers.length (rowA b.po.peers))),.p (.d (.sl 3 b.po.ways.length (rowW b.po.ways)))]),(5,.cells 28 [.p (.d (.v (.int .i64 a.po.tn))),.p (.d (.sl 2 a.po.peers.length (rowA a.po.peers))),.p (.d (.sl 3 a.po.ways.length (rowW a.po.ways)))])]⟩
set_option maxRecDepth 100000 in
theorem x92 (a b : Config) (ha : a.small) (hb : b.small) : ACalls Try.prog 8 [.agg (configD a),.agg (configD b)] (· = [.d (.v (.bool (sameC a b)))]) := by
 have c1 := j140 a.tp b.tp ha.tp hb.tp
 have z1 := ha.po.1
 have z2 := ha.po.2
 have z3 := hb.po.1
 have z4 := hb.po.2
 have z5 := ha.tb
 have z6 := hb.tb
 have atA := ha.at
 have atB := hb.at
 have s0 : eqBy eqPP [] a.tp b.tp = false → sameC a b = false := fun h => by unfold sameC;rw [h];rfl
 have s1 : a.po.tn ≠ b.po.tn → sameC a b = false := fun h => by unfold sameC;rw [show (a.po.tn == b.po.tn) = false from z14 h];simp
 have s2 : eqBy (· == ·) (0,0) a.po.peers b.po.peers = false → sameC a b = false := fun h => by unfold sameC;rw [h];simp
 have s3 : eqBy (· == ·) w0 a.po.ways b.po.ways = false → sameC a b = false := fun h => by unfold sameC;rw [h];simp
 have s4 : eqBy eqTT [] a.tb b.tb = false → sameC a b = false := fun h => by unfold sameC;rw [h];simp
 have s5 : eqBy eqPP [] a.tp b.tp = true → a.po.tn = b.po.tn → eqBy (· == ·) (0,0) a.po.peers b.po.peers = true → eqBy (· == ·) w0 a.po.ways b.po.ways = true → eqBy eqTT [] a.tb b.tb = true → sameC a b = true := fun h1 h2 h3 h4 h5 => by
  unfold sameC;rw [h1,h3,h4,h5,show (a.po.tn == b.po.tn) = true from x14 h2];rfl
 cases hP : eqBy eqPP [] a.tp b.tp
 ·rw [s0 hP]
  rw [hP] at c1
  refine x9 Try.func8 rfl (by decide +kernel) (by rw [Try.ntmps8];simp) ?_;rw [Try.ntmps8];simp only [frOf]
  (repeat (first | apply j0 | refine q8 rfl ?_ | refine z8 rfl ?_ | apply z7 | (refine x4 fun K hK => ?_) | (refine j4 fun K hK => ?_) | ((first | apply j6 | apply x7 | ((first | refine j5 (hK _ ?_) | refine x6 (hK _ _ x5 ?_));clear hK K));(first | show AWP _ _ _ _ _ | ((try simp only [j7]);first | show loopQ _ _ _ _ _ _ | show cutQ _ _ _ _ | show AWP _ _ _ _ _))) | ((first | refine q10 rfl rfl rfl ?_ | refine z10 rfl rfl rfl ?_);simp (disch:=omega) only [go_sem,seval,configD,topoD,policyD];(first | refine ⟨_,c1,?_⟩)) | ((first | refine x8 [] rfl ?_ | refine j8 [] rfl ?_);simp (disch:=omega) only [go_sem,seval,configD,topoD,policyD];(repeat (first | refine ⟨by omega,?_⟩ | refine ⟨True.intro,?_⟩)))))
  refine z9 ⟨_,?_,rfl⟩;rw [Try.results8];simp (disch:=omega) only [ResVars,ResVar,ptrLoc,go_sem,seval,configD,topoD,policyD]
 rw [hP] at c1
 by_cases hT : a.po.tn = b.po.tn
 rotate_left
 ·rw [s1 hT]
  have q1 : (a.po.tn != b.po.tn) = true := x13 hT
  refine x9 Try.func8 rfl (by decide +kernel) (by rw [Try.ntmps8];simp) ?_;rw [Try.ntmps8];simp only [frOf]
  (repeat (first | apply j0 | refine q8 rfl ?_ | refine z8 rfl ?_ | apply z7 | (refine x4 fun K hK => ?_) | (refine j4 fun K hK => ?_) | ((first | apply j6 | apply x7 | ((first | refine j5 (hK _ ?_) | refine x6 (hK _ _ x5 ?_));clear hK K));(first | show AWP _ _ _ _ _ | ((try simp only [j7]);first | show loopQ _ _ _ _ _ _ | show cutQ _ _ _ _ | show AWP _ _ _ _ _))) | ((first | refine q10 rfl rfl rfl ?_ | refine z10 rfl rfl rfl ?_);simp (disch:=omega) only [go_sem,seval,configD,topoD,policyD,q1];(first | refine ⟨_,c1,?_⟩)) | ((first | refine x8 [] rfl ?_ | refine j8 [] rfl ?_);simp (disch:=omega) only [go_sem,seval,configD,topoD,policyD,q1];(repeat (first | refine ⟨by omega,?_⟩ | refine ⟨True.intro,?_⟩)))))
  refine z9 ⟨_,?_,rfl⟩;rw [Try.results8];simp (disch:=omega) only [ResVars,ResVar,ptrLoc,go_sem,seval,configD,topoD,policyD,q1]
 have q1 : (a.po.tn != b.po.tn) = false := j13 hT
 by_cases hA : a.po.peers.length = b.po.peers.length
 rotate_left
 ·rw [s2 (j29 hA)]
  have q2 : ((a.po.peers.length : Int) != (b.po.peers.length : Int)) = true := x13 (by omega)
  refine x9 Try.func8 rfl (by decide +kernel) (by rw [Try.ntmps8];simp) ?_;rw [Try.ntmps8];simp only [frOf]
  (repeat (first | apply j0 | refine q8 rfl ?_ | refine z8 rfl ?_ | apply z7 | (refine x4 fun K hK => ?_) | (refine j4 fun K hK => ?_) | ((first | apply j6 | apply x7 | ((first | refine j5 (hK _ ?_) | refine x6 (hK _ _ x5 ?_));clear hK K));(first | show AWP _ _ _ _ _ | ((try simp only [j7]);first | show loopQ _ _ _ _ _ _ | show cutQ _ _ _ _ | show AWP _ _ _ _ _))) | ((first | refine q10 rfl rfl rfl ?_ | refine z10 rfl rfl rfl ?_);simp (disch:=omega) only [go_sem,seval,configD,topoD,policyD,q1,q2];(first | refine ⟨_,c1,?_⟩)) | ((first | refine x8 [] rfl ?_ | refine j8 [] rfl ?_);simp (disch:=omega) only [go_sem,seval,configD,topoD,policyD,q1,q2];(repeat (first | refine ⟨by omega,?_⟩ | refine ⟨True.intro,?_⟩)))))
  refine z9 ⟨_,?_,rfl⟩;rw [Try.results8];simp (disch:=omega) only [ResVars,ResVar,ptrLoc,go_sem,seval,configD,topoD,policyD,q1,q2]
 have q2 : ((a.po.peers.length : Int) != (b.po.peers.length : Int)) = false := j13 (by omega)
 by_cases hW : a.po.ways.length = b.po.ways.length
 rotate_left
 ·rw [s3 (j29 hW)]
  have q3 : ((a.po.ways.length : Int) != (b.po.ways.length : Int)) = true := x13 (by omega)
  refine x9 Try.func8 rfl (by decide +kernel) (by rw [Try.ntmps8];simp) ?_;rw [Try.ntmps8];simp only [frOf]
  (repeat (first | apply j0 | refine q8 rfl ?_ | refine z8 rfl ?_ | apply z7 | (refine x4 fun K hK => ?_) | (refine j4 fun K hK => ?_) | ((first | apply j6 | apply x7 | ((first | refine j5 (hK _ ?_) | refine x6 (hK _ _ x5 ?_));clear hK K));(first | show AWP _ _ _ _ _ | ((try simp only [j7]);first | show loopQ _ _ _ _ _ _ | show cutQ _ _ _ _ | show AWP _ _ _ _ _))) | ((first | refine q10 rfl rfl rfl ?_ | refine z10 rfl rfl rfl ?_);simp (disch:=omega) only [go_sem,seval,configD,topoD,policyD,q1,q2,q3];(first | refine ⟨_,c1,?_⟩)) | ((first | refine x8 [] rfl ?_ | refine j8 [] rfl ?_);simp (disch:=omega) only [go_sem,seval,configD,topoD,policyD,q1,q2,q3];(repeat (first | refine ⟨by omega,?_⟩ | refine ⟨True.intro,?_⟩)))))
  refine z9 ⟨_,?_,rfl⟩;rw [Try.results8];simp (disch:=omega) only [ResVars,ResVar,ptrLoc,go_sem,seval,configD,topoD,policyD,q1,q2,q3]
 have q3 : ((a.po.ways.length : Int) != (b.po.ways.length : Int)) = false := j13 (by omega)
 by_cases hB : a.tb.length = b.tb.length
 rotate_left
 ·rw [s4 (j29 hB)]
  have q4 : ((a.tb.length : Int) != (b.tb.length : Int)) = true := x13 (by omega)
  refine x9 Try.func8 rfl (by decide +kernel) (by rw [Try.ntmps8];simp) ?_;rw [Try.ntmps8];simp only [frOf]
  (repeat (first | apply j0 | refine q8 rfl ?_ | refine z8 rfl ?_ | apply z7 | (refine x4 fun K hK => ?_) | (refine j4 fun K hK => ?_) | ((first | apply j6 | apply x7 | ((first | refine j5 (hK _ ?_) | refine x6 (hK _ _ x5 ?_));clear hK K));(first | show AWP _ _ _ _ _ | ((try simp only [j7]);first | show loopQ _ _ _ _ _ _ | show cutQ _ _ _ _ | show AWP _ _ _ _ _))) | ((first | refine q10 rfl rfl rfl ?_ | refine z10 rfl rfl rfl ?_);simp (disch:=omega) only [go_sem,seval,configD,topoD,policyD,q1,q2,q3,q4];(first | refine ⟨_,c1,?_⟩)) | ((first | refine x8 [] rfl ?_ | refine j8 [] rfl ?_);simp (disch:=omega) only [go_sem,seval,configD,topoD,policyD,q1,q2,q3,q4];(repeat (first | refine ⟨by omega,?_⟩ | refine ⟨True.intro,?_⟩)))))
  refine z9 ⟨_,?_,rfl⟩;rw [Try.results8];simp (disch:=omega) only [ResVars,ResVar,ptrLoc,go_sem,seval,configD,topoD,policyD,q1,q2,q3,q4]
 have q4 : ((a.tb.length : Int) != (b.tb.length : Int)) = false := j13 (by omega)
 rw [q30 hA] at s2 s5
 rw [q30 hW] at s3 s5
 rw [q30 hB] at s4 s5
 generalize hQ1 : allF (fun i => a.po.peers.getD i (0,0) == b.po.peers.getD i (0,0)) a.po.peers.length 0 = Q1 at s2 s5
 generalize hQ2 : allF (fun i => a.po.ways.getD i w0 == b.po.ways.getD i w0) a.po.ways.length 0 = Q2 at s3 s5
 generalize hQ3 : allF (fun i => eqTT (a.tb.getD i []) (b.tb.getD i [])) a.tb.length 0 = Q3 at s4 s5
 generalize sameC a b = R at s2 s3 s4 s5
 refine x9 Try.func8 rfl (by decide +kernel) (by rw [Try.ntmps8];simp) ?_;rw [Try.ntmps8];simp only [frOf]
 (repeat (first | apply j0 | refine q8 rfl ?_ | refine z8 rfl ?_ | apply z7 | (refine x4 fun K hK => ?_) | (refine j4 fun K hK => ?_) | ((first | apply j6 | apply x7 | ((first | refine j5 (hK _ ?_) | refine x6 (hK _ _ x5 ?_));clear hK K));(first | show AWP _ _ _ _ _ | ((try simp only [j7]);first | show loopQ _ _ _ _ _ _ | show cutQ _ _ _ _ | show AWP _ _ _ _ _))) | ((first | refine q10 rfl rfl rfl ?_ | refine z10 rfl rfl rfl ?_);simp (disch:=omega) only [go_sem,seval,configD,topoD,policyD,q1,q2,q3,q4];(first | refine ⟨_,c1,?_⟩)) | ((first | refine x8 [] rfl ?_ | refine j8 [] rfl ?_);simp (disch:=omega) only [go_sem,seval,configD,topoD,policyD,q1,q2,q3,q4];(repeat (first | refine ⟨by omega,?_⟩ | refine ⟨True.intro,?_⟩)))))
 refine x12 (fun s : {i : Nat // i ≤ a.po.peers.length ∧ allF (fun i => a.po.peers.getD i (0,0) == b.po.peers.getD i (0,0)) a.po.peers.length i = Q1} => sam8L a b 7 s.val) (fun s => a.po.peers.length - s.val) ⟨0,Nat.zero_le _,hQ1⟩ ?_ (fun s => ?_)
 ·unfold sam8L
  refine Weak.list ?_ ?_;(all_goals simp (disch:=omega) only [AllF,AllL,j10,q11,x10,exists_eq_left',go_sem,seval,configD,topoD,policyD]);(all_goals (repeat' (with_reducible apply And.intro)));(all_goals try (first | exact q9 rfl | (refine z11 ?_;omega) | (refine q9 ?_;simp;done)))
 obtain ⟨i,hi,h2⟩ := s
 unfold sam8L
 simp only [] at hi h2 ⊢
 by_cases h : i < a.po.peers.length
 ·rw [j14 h] at h2
  have r1 := q33 a.po.peers i
  have r2 := q33 b.po.peers i
  try simp only [] at h2
  generalize a.po.peers.getD i (0,0) = x at h2 r1
  generalize b.po.peers.getD i (0,0) = y at h2 r2
  have e := q87 x y
  generalize (x == y) = c at h2 e
  cases c
  ·rw [Bool.false_and] at h2
   rw [s2 h2.symm]
   (repeat (first | apply j0 | refine q8 rfl ?_ | refine z8 rfl ?_ | apply z7 | (refine x4 fun K hK => ?_) | (refine j4 fun K hK => ?_) | ((first | apply j6 | apply x7 | ((first | refine j5 (hK _ ?_) | refine x6 (hK _ _ x5 ?_));clear hK K));(first | show AWP _ _ _ _ _ | ((try simp only [j7]);first | show loopQ _ _ _ _ _ _ | show cutQ _ _ _ _ | show AWP _ _ _ _ _))) | ((first | refine x8 [] rfl ?_ | refine j8 [] rfl ?_);simp (disch:=omega) only [go_sem,seval,configD,topoD,policyD,r1,r2,e,pairD,eqA2];(repeat (first | refine ⟨by omega,?_⟩ | refine ⟨True.intro,?_⟩)))))
   refine z9 ⟨_,?_,rfl⟩;rw [Try.results8];simp (disch:=omega) only [ResVars,ResVar,ptrLoc,go_sem,seval,configD,topoD,policyD,r1,r2,e,pairD,eqA2]
  ·rw [Bool.true_and] at h2
   (repeat (first | apply j0 | refine q8 rfl ?_ | refine z8 rfl ?_ | apply z7 | (refine x4 fun K hK => ?_) | (refine j4 fun K hK => ?_) | ((first | apply j6 | apply x7 | ((first | refine j5 (hK _ ?_) | refine x6 (hK _ _ x5 ?_));clear hK K));(first | show AWP _ _ _ _ _ | ((try simp only [j7]);first | show loopQ _ _ _ _ _ _ | show cutQ _ _ _ _ | show AWP _ _ _ _ _))) | ((first | refine x8 [] rfl ?_ | refine j8 [] rfl ?_);simp (disch:=omega) only [go_sem,seval,configD,topoD,policyD,r1,r2,e,pairD,eqA2];(repeat (first | refine ⟨by omega,?_⟩ | refine ⟨True.intro,?_⟩)))))
   refine ⟨⟨i + 1,by omega,h2⟩,by simp only [];omega,?_⟩
   refine Weak.list ?_ ?_;(all_goals simp (disch:=omega) only [AllF,AllL,j10,q11,x10,exists_eq_left',go_sem,seval,configD,topoD,policyD,r1,r2,e,pairD,eqA2]);(all_goals (repeat' (with_reducible apply And.intro)));(all_goals try (first | exact q9 rfl | (refine z11 ?_;omega) | (refine q9 ?_;simp;done)))
 rw [q15 (by omega)] at h2
 subst h2
 (repeat (first | apply j0 | refine q8 rfl ?_ | refine z8 rfl ?_ | apply z7 | (refine x4 fun K hK => ?_) | (refine j4 fun K hK => ?_) | ((first | apply j6 | apply x7 | ((first | refine j5 (hK _ ?_) | refine x6 (hK _ _ x5 ?_));clear hK K));(first | show AWP _ _ _ _ _ | ((try simp only [j7]);first | show loopQ _ _ _ _ _ _ | show cutQ _ _ _ _ | show AWP _ _ _ _ _))) | ((first | refine x8 [] rfl ?_ | refine j8 [] rfl ?_);simp (disch:=omega) only [go_sem,seval,configD,topoD,policyD];(repeat (first | refine ⟨by omega,?_⟩ | refine ⟨True.intro,?_⟩)))))
 refine x12 (fun s : {i : Nat // i ≤ a.po.ways.length ∧ allF (fun i => a.po.ways.getD i w0 == b.po.ways.getD i w0) a.po.ways.length i = Q2} => sam8L a b 8 s.val) (fun s => a.po.ways.length - s.val) ⟨0,Nat.zero_le _,hQ2⟩ ?_ (fun s => ?_)
 ·unfold sam8L
  refine Weak.list ?_ ?_;(all_goals simp (disch:=omega) only [AllF,AllL,j10,q11,x10,exists_eq_left',go_sem,seval,configD,topoD,policyD]);(all_goals (repeat' (with_reducible apply And.intro)));(all_goals try (first | exact q9 rfl | (refine z11 ?_;omega) | (refine q9 ?_;simp;done)))
 obtain ⟨j,hj,h3⟩ := s
 unfold sam8L
 simp only [] at hj h3 ⊢
 by_cases h' : j < a.po.ways.length
 ·rw [j14 h'] at h3
  have r1 := j38 a.po.ways j
  have r2 := j38 b.po.ways j
  try simp only [] at h3
  generalize a.po.ways.getD j w0 = x at h3 r1
  generalize b.po.ways.getD j w0 = y at h3 r2
  have e := z87 x y
  generalize (x == y) = c at h3 e
  cases c
  ·rw [Bool.false_and] at h3
   rw [s3 h3.symm]
   (repeat (first | apply j0 | refine q8 rfl ?_ | refine z8 rfl ?_ | apply z7 | (refine x4 fun K hK => ?_) | (refine j4 fun K hK => ?_) | ((first | apply j6 | apply x7 | ((first | refine j5 (hK _ ?_) | refine x6 (hK _ _ x5 ?_));clear hK K));(first | show AWP _ _ _ _ _ | ((try simp only [j7]);first | show loopQ _ _ _ _ _ _ | show cutQ _ _ _ _ | show AWP _ _ _ _ _))) | ((first | refine x8 [] rfl ?_ | refine j8 [] rfl ?_);simp (disch:=omega) only [go_sem,seval,configD,topoD,policyD,r1,r2,e,wayD,j18];(repeat (first | refine ⟨by omega,?_⟩ | refine ⟨True.intro,?_⟩)))))
   refine z9 ⟨_,?_,rfl⟩;rw [Try.results8];simp (disch:=omega) only [ResVars,ResVar,ptrLoc,go_sem,seval,configD,topoD,policyD,r1,r2,e,wayD,j18]
  ·rw [Bool.true_and] at h3
   (repeat (first | apply j0 | refine q8 rfl ?_ | refine z8 rfl ?_ | apply z7 | (refine x4 fun K hK => ?_) | (refine j4 fun K hK => ?_) | ((first | apply j6 | apply x7 | ((first | refine j5 (hK _ ?_) | refine x6 (hK _ _ x5 ?_));clear hK K));(first | show AWP _ _ _ _ _ | ((try simp only [j7]);first | show loopQ _ _ _ _ _ _ | show cutQ _ _ _ _ | show AWP _ _ _ _ _))) | ((first | refine x8 [] rfl ?_ | refine j8 [] rfl ?_);simp (disch:=omega) only [go_sem,seval,configD,topoD,policyD,r1,r2,e,wayD,j18];(repeat (first | refine ⟨by omega,?_⟩ | refine ⟨True.intro,?_⟩)))))
   refine ⟨⟨j + 1,by omega,h3⟩,by simp only [];omega,?_⟩
   refine Weak.list ?_ ?_;(all_goals simp (disch:=omega) only [AllF,AllL,j10,q11,x10,exists_eq_left',go_sem,seval,configD,topoD,policyD,r1,r2,e,wayD,j18]);(all_goals (repeat' (with_reducible apply And.intro)));(all_goals try (first | exact q9 rfl | (refine z11 ?_;omega) | (refine q9 ?_;simp;done)))
 rw [q15 (by omega)] at h3
 subst h3
 (repeat (first | apply j0 | refine q8 rfl ?_ | refine z8 rfl ?_ | apply z7 | (refine x4 fun K hK => ?_) | (refine j4 fun K hK => ?_) | ((first | apply j6 | apply x7 | ((first | refine j5 (hK _ ?_) | refine x6 (hK _ _ x5 ?_));clear hK K));(first | show AWP _ _ _ _ _ | ((try simp only [j7]);first | show loopQ _ _ _ _ _ _ | show cutQ _ _ _ _ | show AWP _ _ _ _ _))) | ((first | refine x8 [] rfl ?_ | refine j8 [] rfl ?_);simp (disch:=omega) only [go_sem,seval,configD,topoD,policyD];(repeat (first | refine ⟨by omega,?_⟩ | refine ⟨True.intro,?_⟩)))))
 refine x12 (fun s : {i : Nat // i ≤ a.tb.length ∧ allF (fun i => eqTT (a.tb.getD i []) (b.tb.getD i [])) a.tb.length i = Q3} => sam8L a b 9 s.val) (fun s => a.tb.length - s.val) ⟨0,Nat.zero_le _,hQ3⟩ ?_ (fun s => ?_)
 ·unfold sam8L
  refine Weak.list ?_ ?_;(all_goals simp (disch:=omega) only [AllF,AllL,j10,q11,x10,exists_eq_left',go_sem,seval,configD,topoD,policyD]);(all_goals (repeat' (with_reducible apply And.intro)));(all_goals try (first | exact q9 rfl | (refine z11 ?_;omega) | (refine q9 ?_;simp;done)))
 obtain ⟨k,hk,h4⟩ := s
 unfold sam8L
 simp only [] at hk h4 ⊢
 by_cases h'' : k < a.tb.length
 ·rw [j14 h''] at h4
  have r1 := z24 a.tb k
  have r2 := z24 b.tb k
  have g1 := atA k
  have g2 := atB k
  try simp only [] at h4
  generalize a.tb.getD k [] = x at h4 r1 g1
  generalize b.tb.getD k [] = y at h4 r2 g2
  have cR := x140 x y g1 g2
  have gx := g1.1
  have gy := g2.1
  rw [show eqBy eqRR [] x y = eqTT x y from rfl] at cR
  generalize eqTT x y = c at h4 cR
  cases c
  ·rw [Bool.false_and] at h4
   rw [s4 h4.symm]
   (repeat (first | apply j0 | refine q8 rfl ?_ | refine z8 rfl ?_ | apply z7 | (refine x4 fun K hK => ?_) | (refine j4 fun K hK => ?_) | ((first | apply j6 | apply x7 | ((first | refine j5 (hK _ ?_) | refine x6 (hK _ _ x5 ?_));clear hK K));(first | show AWP _ _ _ _ _ | ((try simp only [j7]);first | show loopQ _ _ _ _ _ _ | show cutQ _ _ _ _ | show AWP _ _ _ _ _))) | ((first | refine q10 rfl rfl rfl ?_ | refine z10 rfl rfl rfl ?_);simp (disch:=omega) only [go_sem,seval,configD,topoD,policyD,r1,r2];(first | refine ⟨_,cR,?_⟩)) | ((first | refine x8 [] rfl ?_ | refine j8 [] rfl ?_);simp (disch:=omega) only [go_sem,seval,configD,topoD,policyD,r1,r2];(repeat (first | refine ⟨by omega,?_⟩ | refine ⟨True.intro,?_⟩)))))
   refine z9 ⟨_,?_,rfl⟩;rw [Try.results8];simp (disch:=omega) only [ResVars,ResVar,ptrLoc,go_sem,seval,configD,topoD,policyD,r1,r2]
  ·rw [Bool.true_and] at h4
   (repeat (first | apply j0 | refine q8 rfl ?_ | refine z8 rfl ?_ | apply z7 | (refine x4 fun K hK => ?_) | (refine j4 fun K hK => ?_) | ((first | apply j6 | apply x7 | ((first | refine j5 (hK _ ?_) | refine x6 (hK _ _ x5 ?_));clear hK K));(first | show AWP _ _ _ _ _ | ((try simp only [j7]);first | show loopQ _ _ _ _ _ _ | show cutQ _ _ _ _ | show AWP _ _ _ _ _))) | ((first | refine q10 rfl rfl rfl ?_ | refine z10 rfl rfl rfl ?_);simp (disch:=omega) only [go_sem,seval,configD,topoD,policyD,r1,r2];(first | refine ⟨_,cR,?_⟩)) | ((first | refine x8 [] rfl ?_ | refine j8 [] rfl ?_);simp (disch:=omega) only [go_sem,seval,configD,topoD,policyD,r1,r2];(repeat (first | refine ⟨by omega,?_⟩ | refine ⟨True.intro,?_⟩)))))
   refine ⟨⟨k + 1,by omega,h4⟩,by simp only [];omega,?_⟩
   refine Weak.list ?_ ?_;(all_goals simp (disch:=omega) only [AllF,AllL,j10,q11,x10,exists_eq_left',go_sem,seval,configD,topoD,policyD,r1,r2]);(all_goals (repeat' (with_reducible apply And.intro)));(all_goals try (first | exact q9 rfl | (refine z11 ?_;omega) | (refine q9 ?_;simp;done)))
 rw [q15 (by omega)] at h4
 subst h4
 rw [s5 hP hT rfl rfl rfl]
 (repeat (first | apply j0 | refine q8 rfl ?_ | refine z8 rfl ?_ | apply z7 | (refine x4 fun K hK => ?_) | (refine j4 fun K hK => ?_) | ((first | apply j6 | apply x7 | ((first | refine j5 (hK _ ?_) | refine x6 (hK _ _ x5 ?_));clear hK K));(first | show AWP _ _ _ _ _ | ((try simp only [j7]);first | show loopQ _ _ _ _ _ _ | show cutQ _ _ _ _ | show AWP _ _ _ _ _))) | ((first | refine x8 [] rfl ?_ | refine j8 [] rfl ?_);simp (disch:=omega) only [go_sem,seval,configD,topoD,policyD];(repeat (first | refine ⟨by omega,?_⟩ | refine ⟨True.intro,?_⟩)))))
 refine z9 ⟨_,?_,rfl⟩;rw [Try.results8];simp (disch:=omega) only [ResVars,ResVar,ptrLoc,go_sem,seval,configD,topoD,policyD]
end Go.Proofs.Ytjfammnjpeeahaa
namespace Go.Proofs.Ytjfammnjpeeahaa
open Go.Proofs.Ytjfammnjpeeahaa.AL
theorem j92 (n j : Nat) (hj : j < 128) : (ones n).getLsbD j = decide (j < n) := by
 unfold ones
 rw [BitVec.getLsbD_ofNat,Nat.testBit_two_pow_sub_one]
 simp [hj]
theorem q93 (x : BitVec 64) : (bvi x != 0) = (x != 0) := by
 have := j56 (a := x) (b := 0)
 rw [show bvi 0 = 0 from by decide] at this
 show (!(bvi x == 0)) = !(x == 0)
 rw [this]
theorem q141 (b : Nat) (v : BitVec 64) (hb : b ≤ 64) : over b v = (decide (b < 64) && (bvi v / 2 ^ min b 64 != 0)) := by
 unfold over
 rw [x77]
 have e : lo (ones b) = bvi ((ones b).extractLsb' 0 64) := rfl
 rw [e,z56,q93,q93]
 have k1 : (v &&& ~~~((ones b).extractLsb' 0 64)) = 0 ↔ ∀ i,i < 64 → v.getLsbD i = true → i < b := by
  constructor
  ·intro h i hi hv
   have := congrArg (fun z => z.getLsbD i) h
   simp only [BitVec.getLsbD_and,BitVec.getLsbD_not,BitVec.getLsbD_extractLsb',Nat.zero_add,j92 b i (by omega),hi,hv,decide_true,Bool.true_and] at this
   simpa using this
  ·intro h
   apply BitVec.eq_of_getLsbD_eq
   intro i hi
   simp only [BitVec.getLsbD_and,BitVec.getLsbD_not,BitVec.getLsbD_extractLsb',Nat.zero_add,j92 b i (by omega),hi,decide_true,Bool.true_and]
   cases hv : v.getLsbD i
   ·simp
   ·simp [h i hi hv]
 have k2 : v >>> b = 0 ↔ ∀ i,i < 64 → v.getLsbD i = true → i < b := by
  constructor
  ·intro h i hi hv
   refine Nat.lt_of_not_le fun hle => ?_
   have := congrArg (fun z => z.getLsbD (i - b)) h
   simp only [BitVec.getLsbD_ushiftRight,show b + (i - b) = i from by omega,hv] at this
   simp at this
  ·intro h
   apply BitVec.eq_of_getLsbD_eq
   intro i hi
   rw [BitVec.getLsbD_ushiftRight]
   cases hv : v.getLsbD (b + i)
   ·simp
   ·have h1 : b + i < 64 := by
     refine Nat.lt_of_not_le fun hle => ?_
     rw [BitVec.getLsbD_of_ge v (b + i) hle] at hv;cases hv
    have := h (b + i) h1 hv;omega
 by_cases h64 : b < 64
 ·rw [decide_eq_true h64,Bool.true_and]
  have : ((v &&& ~~~((ones b).extractLsb' 0 64)) = 0) = (v >>> b = 0) := propext (k1.trans k2.symm)
  rw [Bool.eq_iff_iff,bne_iff_ne,bne_iff_ne,ne_eq,ne_eq,this]
 ·rw [decide_eq_false h64,Bool.false_and]
  have : (v &&& ~~~((ones b).extractLsb' 0 64)) = 0 := k1.2 fun i hi _ => by omega
  rw [this];rfl
def wordOf (n : Int) : BitVec 64 := BitVec.ofNat 64 n.toNat
theorem q62 {n : Int} (h1 : 0 ≤ n) (h2 : n < 9223372036854775808) : bvi (wordOf n) = n := by
 unfold bvi wordOf
 rw [BitVec.toNat_ofNat]
 omega
theorem z141 (b : Nat) (n : Int) (h1 : 0 ≤ n) (h2 : n < 2 ^ b) (hb : b ≤ 32) : over b (wordOf n) = false := by
 have hlt : n < 9223372036854775808 := Int.lt_of_lt_of_le h2 (by
  have : (2 : Int) ^ b ≤ 2 ^ 32 := by
   have h := Nat.pow_le_pow_right (show 1 ≤ 2 by decide) hb
   exact_mod_cast h
  omega)
 rw [q141 b _ (by omega),q62 h1 hlt,show min b 64 = b by omega,Int.ediv_eq_zero_of_lt h1 h2]
 simp
def stampV (tn v : Int) : Cube := mkC (putB (putB 0 88 24 (wordOf (tn + 1))) 112 8 (wordOf v)) (ones 40 <<< 88)
def edgesHas (t : List (List Port)) (s : Spot) : Bool := (edgesT t).contains s
def stampE (c : Config) (s : Spot) (v : Int) : Int := if soundC c ≠ 0 then soundC c else if v < 0 ∨ 255 < v then 4 else if edgesHas c.tp s = false then 7 else 0
def stampC (c : Config) (s : Spot) (v : Int) : Cube := if stampE c s v = 0 then stampV (edgeT c.tp s) v else ⟨0,0⟩
theorem x141 {t : List (List Port)} (h : soundT t = 0) {i j : Nat} (hi : i < t.length) (hj : j < (t.getD i []).length) : portT t i j = true := by
 unfold soundT at h
 split at h
 ·cases h
 ·split at h
  ·cases h
  ·split at h
   ·rename_i h3
    have h4 := x58.1 h3 i (Nat.zero_le _) hi
    exact x58.1 h4 j (Nat.zero_le _) hj
   ·cases h
theorem j141 {t : List (List Port)} (h : soundT t = 0) {s : Spot} (hs : s ∈ edgesT t) : 0 ≤ edgeT t s ∧ edgeT t s < 4 := by
 obtain ⟨i,j,e1,h1,h2,h3⟩ := x59 hs
 obtain ⟨i',j',g1,g2,g3,g4⟩ := q59.1 hs
 have e2 : i' = i ∧ j' = j := by
  rw [e1] at g4
  have a1 := congrArg Spot.sw g4
  have a2 := congrArg Spot.po g4
  simp only [] at a1 a2
  omega
 obtain ⟨rfl,rfl⟩ := e2
 have hp := x141 h h1 h2
 rw [h3]
 unfold portT at hp
 simp only [] at hp
 rw [if_neg (by omega),if_pos g3] at hp
 simp only [Bool.and_eq_true,decide_eq_true_eq] at hp
 exact ⟨hp.1.1.1.1,hp.1.1.1.2⟩
theorem z93 (a b n : Int) (h1 : 0 ≤ n) (h2 : n < 2 ^ b.toNat) (hb : b.toNat ≤ 32) (hf : fieldB a b 64 = true) : putE a b (wordOf n) = 0 := by
 unfold putE
 rw [hf,z141 b.toNat n h1 h2 hb];rfl
theorem z62 : cb ⟨0,0⟩ = [.v (.int .u64 0),.v (.int .u64 0),.v (.int .u64 0),.v (.int .u64 0)] := by unfold cb;simp only [z18,x18]
set_option maxRecDepth 100000 in
theorem q142 (c : Config) (s : Spot) (v : Int) (hc : c.small) (hv : -9223372036854775808 ≤ v ∧ v < 9223372036854775808) : ACalls Try.prog 36 [.agg (configD c),.agg (spotD s),.d (.v (.int .i64 v))] (· = [.agg (cb (stampC c s v)),.d (.v (.int .i64 (stampE c s v)))]) := by
 have s1 := x84 c hc
 have eb := x38 hc.tp c.tp.length
 have et := hc.tp.1
 rw [show edgesTo c.tp c.tp.length = edgesT c.tp from rfl] at eb
 have ed := z82 c.tp hc.tp
 have ct := j131 (edgesT c.tp) s (by omega)
 have fail : stampE c s v ≠ 0 → stampC c s v = ⟨0,0⟩ := fun h => if_neg h
 simp only [configD] at s1
 simp only [topoD] at ed
 simp only [spotD] at ct
 have hst : stampE c s v = if soundC c ≠ 0 then soundC c else if v < 0 ∨ 255 < v then 4 else if (edgesT c.tp).contains s = false then 7 else 0 := rfl
 by_cases h1 : soundC c = 0
 ·rw [if_neg (by omega)] at hst
  rw [h1] at s1
  by_cases h2 : v < 0 ∨ 255 < v
  ·rw [if_pos h2] at hst
   rw [fail (by rw [hst];decide),hst,z62]
   by_cases h3 : v < 0
   all_goals
    refine x9 Try.func36 rfl (by decide +kernel) (by rw [Try.ntmps36];simp) ?_;rw [Try.ntmps36];simp only [frOf]
    (repeat (first | apply j0 | refine q8 rfl ?_ | refine z8 rfl ?_ | apply z7 | (refine x4 fun K hK => ?_) | (refine j4 fun K hK => ?_) | ((first | apply j6 | apply x7 | ((first | refine j5 (hK _ ?_) | refine x6 (hK _ _ x5 ?_));clear hK K));(first | show AWP _ _ _ _ _ | ((try simp only [j7]);first | show loopQ _ _ _ _ _ _ | show cutQ _ _ _ _ | show AWP _ _ _ _ _))) | ((first | refine q10 rfl rfl rfl ?_ | refine z10 rfl rfl rfl ?_);simp (disch:=omega) only [go_sem,seval,policyD,topoD,configD,spotD,hd,cb];(first | refine ⟨_,s1,?_⟩)) | ((first | refine x8 [] rfl ?_ | refine j8 [] rfl ?_);simp (disch:=omega) only [go_sem,seval,policyD,topoD,configD,spotD,hd,cb];(repeat (first | refine ⟨by omega,?_⟩ | refine ⟨True.intro,?_⟩)))))
    refine z9 ⟨_,?_,rfl⟩;rw [Try.results36];simp (disch:=omega) only [ResVars,ResVar,ptrLoc,go_sem,seval,policyD,topoD,configD,spotD,hd,cb]
  ·rw [if_neg h2] at hst
   cases hq : (edgesT c.tp).contains s
   ·rw [hq] at ct
    rw [if_pos hq] at hst
    rw [fail (by rw [hst];decide),hst,z62]
    generalize edgesT c.tp = l at ed ct
    refine x9 Try.func36 rfl (by decide +kernel) (by rw [Try.ntmps36];simp) ?_;rw [Try.ntmps36];simp only [frOf]
    (repeat (first | apply j0 | refine q8 rfl ?_ | refine z8 rfl ?_ | apply z7 | (refine x4 fun K hK => ?_) | (refine j4 fun K hK => ?_) | ((first | apply j6 | apply x7 | ((first | refine j5 (hK _ ?_) | refine x6 (hK _ _ x5 ?_));clear hK K));(first | show AWP _ _ _ _ _ | ((try simp only [j7]);first | show loopQ _ _ _ _ _ _ | show cutQ _ _ _ _ | show AWP _ _ _ _ _))) | ((first | refine q10 rfl rfl rfl ?_ | refine z10 rfl rfl rfl ?_);simp (disch:=omega) only [go_sem,seval,policyD,topoD,configD,spotD,hd,cb];(first | refine ⟨_,s1,?_⟩ | refine ⟨_,ed,?_⟩ | refine ⟨_,ct,?_⟩)) | ((first | refine x8 [] rfl ?_ | refine j8 [] rfl ?_);simp (disch:=omega) only [go_sem,seval,policyD,topoD,configD,spotD,hd,cb];(repeat (first | refine ⟨by omega,?_⟩ | refine ⟨True.intro,?_⟩)))))
    refine z9 ⟨_,?_,rfl⟩;rw [Try.results36];simp (disch:=omega) only [ResVars,ResVar,ptrLoc,go_sem,seval,policyD,topoD,configD,spotD,hd,cb]
   ·rw [hq] at ct
    rw [if_neg (by rw [hq];decide)] at hst
    have hs0 : soundT c.tp = 0 := by
     refine Classical.byContradiction fun h => ?_
     unfold soundC at h1
     rw [if_pos h] at h1
     exact h h1
    have hmem : s ∈ edgesT c.tp := by simpa using hq
    obtain ⟨tn1,tn2⟩ := j141 hs0 hmem
    obtain ⟨i,j,e1,b1,b2,e2⟩ := x59 hmem
    have hsc : stampC c s v = stampV (edgeT c.tp s) v := if_pos hst
    rw [hsc,hst]
    unfold stampV
    generalize edgeT c.tp s = tn at tn1 tn2 e2
    have hv0 : 0 ≤ v := by omega
    have p1 := Put_c 0 88 24 (wordOf (tn + 1)) (by omega)
    rw [z93 88 24 (tn + 1) (by omega) (by simp;omega) (by decide) (by decide),if_pos rfl,q62 (by omega) (by omega)] at p1
    have p2 := Put_c (putB 0 (88 : Int).toNat (24 : Int).toNat (wordOf (tn + 1))) 112 8 (wordOf v) (by omega)
    rw [z93 112 8 v hv0 (by simp;omega) (by decide) (by decide),if_pos rfl,q62 hv0 (by omega)] at p2
    have mk := Mask_c 88 40 (by omega)
    rw [show fieldB 88 40 128 = true from by decide,if_pos rfl,if_pos rfl] at mk
    generalize hk1 : ones (40 : Int).toNat <<< (88 : Int).toNat = care at mk
    generalize hk2 : putB 0 (88 : Int).toNat (24 : Int).toNat (wordOf (tn + 1)) = x1 at p1 p2
    generalize hk3 : putB x1 (112 : Int).toNat (8 : Int).toNat (wordOf v) = x2 at p2
    have km := Make_c x2 care
    have r1 := q18 c.tp i
    have r2 := j22 (c.tp.getD i []) j
    have l1 := j16 hc.tp i
    generalize edgesT c.tp = l at ed ct
    generalize c.tp.getD i [] = ps at r1 r2 b2 e2 l1
    generalize ps.getD j p0 = p at r2 e2
    obtain ⟨kd,pt,pe,at',co⟩ := p
    simp only [portD] at r2
    simp only [] at e2
    subst e2
    subst e1
    simp only [hd] at p1 p2 mk km
    simp only [z18,x18] at p1
    refine x9 Try.func36 rfl (by decide +kernel) (by rw [Try.ntmps36];simp) ?_;rw [Try.ntmps36];simp only [frOf]
    (repeat (first | apply j0 | refine q8 rfl ?_ | refine z8 rfl ?_ | apply z7 | (refine x4 fun K hK => ?_) | (refine j4 fun K hK => ?_) | ((first | apply j6 | apply x7 | ((first | refine j5 (hK _ ?_) | refine x6 (hK _ _ x5 ?_));clear hK K));(first | show AWP _ _ _ _ _ | ((try simp only [j7]);first | show loopQ _ _ _ _ _ _ | show cutQ _ _ _ _ | show AWP _ _ _ _ _))) | ((first | refine q10 rfl rfl rfl ?_ | refine z10 rfl rfl rfl ?_);simp (disch:=omega) only [go_sem,seval,policyD,topoD,configD,spotD,hd,cb,r1,r2];(first | refine ⟨_,s1,?_⟩ | refine ⟨_,ed,?_⟩ | refine ⟨_,ct,?_⟩ | refine ⟨_,mk,?_⟩ | refine ⟨_,p1,?_⟩ | refine ⟨_,p2,?_⟩ | refine ⟨_,km,?_⟩)) | ((first | refine x8 [] rfl ?_ | refine j8 [] rfl ?_);simp (disch:=omega) only [go_sem,seval,policyD,topoD,configD,spotD,hd,cb,r1,r2];(repeat (first | refine ⟨by omega,?_⟩ | refine ⟨True.intro,?_⟩)))))
    refine z9 ⟨_,?_,rfl⟩;rw [Try.results36];simp (disch:=omega) only [ResVars,ResVar,ptrLoc,go_sem,seval,policyD,topoD,configD,spotD,hd,cb,r1,r2]
    subst hk3 hk2 hk1
    rfl
 ·rw [if_pos h1] at hst
  rw [fail (by rw [hst];exact h1),hst,z62]
  have q : (soundC c != 0) = true := x13 h1
  generalize soundC c = e at s1 q
  refine x9 Try.func36 rfl (by decide +kernel) (by rw [Try.ntmps36];simp) ?_;rw [Try.ntmps36];simp only [frOf]
  (repeat (first | apply j0 | refine q8 rfl ?_ | refine z8 rfl ?_ | apply z7 | (refine x4 fun K hK => ?_) | (refine j4 fun K hK => ?_) | ((first | apply j6 | apply x7 | ((first | refine j5 (hK _ ?_) | refine x6 (hK _ _ x5 ?_));clear hK K));(first | show AWP _ _ _ _ _ | ((try simp only [j7]);first | show loopQ _ _ _ _ _ _ | show cutQ _ _ _ _ | show AWP _ _ _ _ _))) | ((first | refine q10 rfl rfl rfl ?_ | refine z10 rfl rfl rfl ?_);simp (disch:=omega) only [go_sem,seval,policyD,topoD,configD,spotD,hd,cb,q];(first | refine ⟨_,s1,?_⟩)) | ((first | refine x8 [] rfl ?_ | refine j8 [] rfl ?_);simp (disch:=omega) only [go_sem,seval,policyD,topoD,configD,spotD,hd,cb,q];(repeat (first | refine ⟨by omega,?_⟩ | refine ⟨True.intro,?_⟩)))))
  refine z9 ⟨_,?_,rfl⟩;rw [Try.results36];simp (disch:=omega) only [ResVars,ResVar,ptrLoc,go_sem,seval,policyD,topoD,configD,spotD,hd,cb,q]
end Go.Proofs.Ytjfammnjpeeahaa
namespace Go.Proofs.Ytjfammnjpeeahaa
open Go Go.Proofs.Ytjfammnjpeeahaa.AL
def DLe (x y : Dat) : Prop := ∀ (w : World) (g : Nat → Nat) (v : Value),RelD w g v x → RelD w g v y
inductive DLes : List Dat → List Dat → Prop
 | nil : DLes [] []
 | cons {x y : Dat} {xs ys : List Dat} (h : DLe x y) (t : DLes xs ys) : DLes (x :: xs) (y :: ys)
theorem x93 (x : Dat) : DLe x x := fun _ _ _ h => h
theorem DLes.refl : ∀ xs : List Dat,DLes xs xs
 | [] => .nil
 | x :: xs => .cons (x93 x) (DLes.refl xs)
theorem DLes.of_eq {xs ys : List Dat} (h : xs = ys) : DLes xs ys := h ▸ DLes.refl xs
theorem DLes.length {xs ys : List Dat} (h : DLes xs ys) : xs.length = ys.length := by
 induction h with
 | nil => rfl
 | cons _ _ ih => simp [ih]
theorem DLes.at {xs ys : List Dat} (h : DLes xs ys) : ∀ {j : Nat} {y : Dat},ys[j]? = some y → ∃ x,xs[j]? = some x ∧ DLe x y := by
 induction h with
 | nil => intro j y h;simp at h
 |cons h t ih =>
  intro j y hy
  cases j with
  | zero => simp at hy;subst hy;exact ⟨_,by simp,h⟩
  | succ j => simp at hy;obtain ⟨x,h1,h2⟩ := ih hy;exact ⟨x,by simpa using h1,h2⟩
theorem j33 {sz n n' : Nat} {f f' : Nat → List Dat} (hn : n = n') (hf : ∀ i,i < n → DLes (f i) (f' i)) : DLe (.sl sz n f) (.sl sz n' f') := by
 subst hn
 intro w g v r
 cases r with
 | sl0 a c sz f => exact .sl0 _ _ _ _
 |sl b off n c sz f u h1 h2 h3 h4 h5 =>
  refine .sl b off n c sz f' u h1 (fun i hi => by rw [← (hf i hi).length];exact h2 i hi) h3 h4 (fun i j y hi hy => ?_)
  obtain ⟨x,k1,k2⟩ := (hf i hi).at hy
  exact k2 _ _ _ (h5 i j x hi k1)
theorem dle_emp {a : Option Addr} {c sz : Nat} {f : Nat → List Dat} : DLe (.v (.slice a 0 c)) (.sl sz 0 f) := by
 intro w g v r
 cases r
 exact .sl0 _ _ _ _
theorem j93 {xs ys : List Dat} (h : DLes xs ys) : PLe (.agg xs) (.agg ys) := by
 intro w g v r
 cases r with
 |agg vs _ h1 h2 =>
  refine .agg vs ys (by rw [h1,h.length]) (fun j v y hv hy => ?_)
  obtain ⟨x,k1,k2⟩ := h.at hy
  exact k2 _ _ _ (h2 j v x hv k1)
theorem z142 {P : Program} {f : FuncId} {xs : List PV} {ds ds' : List Dat} (h : DLes ds ds') (c : ACalls P f xs (· = [.agg ds])) : ACalls P f xs (· = [.agg ds']) := by
 refine x23.2 fun w g vs hz hr => ?_
 have := x23.1 c w g vs hz hr
 unfold CallRes at *
 split at this
 ·refine this.mono fun e w' ⟨v,he,g',rs,h1,h2,h3⟩ => ?_
  subst h2
  exact ⟨v,he,g',_,h1,rfl,j93 h _ _ _ h3⟩
 ·obtain ⟨g',rs,h1,h2,h3⟩ := this
  subst h2
  exact ⟨g',_,h1,rfl,j93 h _ _ _ h3⟩
 ·exact this.elim
end Go.Proofs.Ytjfammnjpeeahaa
namespace Go.Proofs.Ytjfammnjpeeahaa
open Go.Proofs.Ytjfammnjpeeahaa.AL
def smallK : Config := ⟨[[⟨1,0,0,0,0⟩]],⟨3,[(1,0)],[]⟩,[[[⟨0,⟨0,0⟩,1,0,0,⟨0,0⟩⟩]]]⟩
def i0 : Dat := .v (.int .i64 0)
def u0 : Dat := .v (.int .u64 0)
def smallRaw : List Dat := [.sl 1 1 fun i => [[.sl 5 1 fun i => [[.v (.int .i64 1),i0,i0,i0,i0]].getD i []]].getD i [],.v (.int .i64 3),.sl 2 1 fun i => [[.v (.int .i64 1),.v (.int .i64 0)]].getD i [],.v (.slice none 0 0),
 .sl 1 1 fun i => [[.sl 1 1 fun i => [[.sl 12 1 fun i => [[i0,u0,u0,u0,u0,.v (.int .i64 1),i0,i0,u0,u0,u0,u0]].getD i []]].getD i []]].getD i []]
theorem q34 {i : Nat} (h : i < 1) : i = 0 := by omega
theorem x142 : DLes smallRaw (configD smallK) := by
 refine .cons (j33 rfl fun i h => ?_) (.cons (x93 _) (.cons (j33 rfl fun i h => ?_) (.cons dle_emp (.cons (j33 rfl fun i h => ?_) .nil))))
 ·obtain rfl := q34 h
  refine .cons (j33 rfl fun i h => ?_) .nil
  obtain rfl := q34 h
  exact .of_eq rfl
 ·obtain rfl := q34 h
  exact .of_eq rfl
 ·obtain rfl := q34 h
  refine .cons (j33 rfl fun i h => ?_) .nil
  obtain rfl := q34 h
  refine .cons (j33 rfl fun i h => ?_) .nil
  obtain rfl := q34 h
  refine .of_eq ?_
  show _ = ruleD _
  unfold ruleD
  simp only [List.getD_cons_zero,z18,x18]
  rfl
set_option maxRecDepth 100000 in
theorem Small_c : ACalls Try.prog 35 [] (· = [.agg (configD smallK)]) := by
 refine z142 x142 ?_
 unfold smallRaw i0 u0
 refine x9 Try.func35 rfl (by decide +kernel) (by rw [Try.ntmps35];simp) ?_;rw [Try.ntmps35];simp only [frOf]
 (repeat (first | apply j0 | refine q8 rfl ?_ | refine z8 rfl ?_ | apply z7 | (refine x4 fun K hK => ?_) | (refine j4 fun K hK => ?_) | ((first | apply j6 | apply x7 | ((first | refine j5 (hK _ ?_) | refine x6 (hK _ _ x5 ?_));clear hK K));(first | show AWP _ _ _ _ _ | ((try simp only [j7]);first | show loopQ _ _ _ _ _ _ | show cutQ _ _ _ _ | show AWP _ _ _ _ _))) | ((first | refine x8 [] rfl ?_ | refine j8 [] rfl ?_);simp (disch:=omega) only [go_sem,seval];(repeat (first | refine ⟨by omega,?_⟩ | refine ⟨True.intro,?_⟩)))))
 refine z9 ⟨_,?_,rfl⟩;rw [Try.results35];simp (disch:=omega) only [ResVars,ResVar,ptrLoc,go_sem,seval]
theorem j142 : smallK.small := by
 refine ⟨⟨by decide,?_⟩,⟨by decide,by decide⟩,by decide,?_⟩
 ·intro l h
  simp only [smallK,List.mem_singleton] at h
  subst h;decide
 ·intro t h
  simp only [smallK,List.mem_singleton] at h
  subst h
  refine ⟨by decide,fun l h => ?_⟩
  simp only [List.mem_singleton] at h
  subst h;decide
set_option maxRecDepth 100000 in
theorem q143 : ACalls Try.prog 10 [] (· = [.d (.v (.bool true))]) := by
 have hs := j142
 have k0 := Small_c
 have k1 := q142 smallK ⟨0,0⟩ 3 hs (by omega)
 have k2 := x84 smallK hs
 have k3 := j83 smallK.po 0 1 hs.po
 have k4 := j83 smallK.po 0 2 hs.po
 have k5 := z134 smallK hs
 have k6 := j60 smallK smallK hs hs
 rw [show stampE smallK ⟨0,0⟩ 3 = 0 by decide +kernel,show stampC smallK ⟨0,0⟩ 3 = stampV 0 3 by decide +kernel] at k1
 rw [show soundC smallK = 0 by decide +kernel] at k2
 rw [show allowedP smallK.po 0 1 = true by decide +kernel] at k3
 rw [show allowedP smallK.po 0 2 = false by decide +kernel] at k4
 rw [show sameC smallK smallK = true by decide +kernel] at k6
 have hz : hi (stampV 0 3).v = 844424946909184 := by decide +kernel
 generalize stampV 0 3 = z at k1 hz
 clear hs
 generalize smallK = K at k0 k1 k2 k3 k4 k5 k6
 simp only [configD] at k0 k1 k2 k5 k6
 simp only [policyD] at k3 k4
 simp only [spotD] at k1
 simp only [cb] at k1
 refine x9 Try.func10 rfl (by decide +kernel) (by rw [Try.ntmps10];simp) ?_;rw [Try.ntmps10];simp only [frOf]
 (repeat (first | apply j0 | refine q8 rfl ?_ | refine z8 rfl ?_ | apply z7 | (refine x4 fun K hK => ?_) | (refine j4 fun K hK => ?_) | ((first | apply j6 | apply x7 | ((first | refine j5 (hK _ ?_) | refine x6 (hK _ _ x5 ?_));clear hK K));(first | show AWP _ _ _ _ _ | ((try simp only [j7]);first | show loopQ _ _ _ _ _ _ | show cutQ _ _ _ _ | show AWP _ _ _ _ _))) | ((first | refine q10 rfl rfl rfl ?_ | refine z10 rfl rfl rfl ?_);simp (disch:=omega) only [go_sem,seval,hz];(first | refine ⟨_,k0,?_⟩ | refine ⟨_,k1,?_⟩ | refine ⟨_,k2,?_⟩ | refine ⟨_,k3,?_⟩ | refine ⟨_,k4,?_⟩ | refine ⟨_,k5,?_⟩ | refine ⟨_,k6,?_⟩)) | ((first | refine x8 [] rfl ?_ | refine j8 [] rfl ?_);simp (disch:=omega) only [go_sem,seval,hz];(repeat (first | refine ⟨by omega,?_⟩ | refine ⟨True.intro,?_⟩)))))
 refine z9 ⟨_,?_,rfl⟩;rw [Try.results10];simp (disch:=omega) only [ResVars,ResVar,ptrLoc,go_sem,seval,hz]
end Go.Proofs.Ytjfammnjpeeahaa
