/- Part 4 of a proof: lemmas beneath the theorem that the last text bears. Conditions: none. -/
import Derived.Test.YtbamjcnhmmgnlaaKPredsOfc
set_option maxHeartbeats 64000000
set_option linter.unusedSimpArgs false
set_option linter.unusedVariables false
namespace Go.Proofs.Ytbamjcnhmmgnlaa
open Go.Proofs.Ytbamjcnhmmgnlaa.AL
def bitsI (x : BitVec 128) (i : Fin 129) : ASt := ⟨[(4,.p (.d (.v (.int .i64 (i.val : Int))))),(3,.loc 3 0),(2,.loc 2 0),(1,.p (.d (.bx (hd x))))],
 [(3,.arr 99 128 fun j => .v (.bool (decide (j < i.val) && x.getLsbD j))),(2,.arr 99 128 fun _ => .v (.bool false))]⟩
theorem x68 (x : BitVec 128) : ACalls Try.prog 37 [.agg (hd x)] (· = [.arr 128 fun i => .v (.bool (x.getLsbD i))]) := by
 refine q11 Try.func37 rfl (by decide +kernel) (by rw [Try.ntmps37];simp) ?_;rw [Try.ntmps37];simp only [frOf]
 (repeat refine j0 ?_);(first | refine j4 fun K hK => ?_ | refine z5 fun K hK => ?_);(first | refine z9 [] _ _ ?_ | refine x9 [] _ _ _ ?_);simp (disch:=omega) only [go_sem,seval,hd,cb];(repeat refine ⟨by omega,?_⟩);(first | (refine z3 (hK _ ?_);clear hK K;show AWP _ _ _ _ _) | (refine x4 (hK _ _ z4 ?_);clear hK K;show AWP _ _ _ _ _))
 (repeat refine j0 ?_);(first | refine j4 fun K hK => ?_ | refine z5 fun K hK => ?_);(first | refine z9 [] _ _ ?_ | refine x9 [] _ _ _ ?_);simp (disch:=omega) only [go_sem,seval,hd,cb];(repeat refine ⟨by omega,?_⟩);(first | (refine z3 (hK _ ?_);clear hK K;show AWP _ _ _ _ _) | (refine x4 (hK _ _ z4 ?_);clear hK K;show AWP _ _ _ _ _))
 (repeat refine j0 ?_);(first | refine j4 fun K hK => ?_ | refine z5 fun K hK => ?_);(first | refine z9 [] _ _ ?_ | refine x9 [] _ _ _ ?_);simp (disch:=omega) only [go_sem,seval,hd,cb];(repeat refine ⟨by omega,?_⟩);(first | (refine z3 (hK _ ?_);clear hK K;show AWP _ _ _ _ _) | (refine x4 (hK _ _ z4 ?_);clear hK K;show AWP _ _ _ _ _))
 refine z6 (x12 (bitsI x) (fun i => 128 - i.val) ⟨0,by omega⟩ ?_ (fun i => ?_))
 ·unfold bitsI
  refine Weak.list ?_ ?_;(all_goals simp (disch:=omega) only [AllF,AllL,q10,z10,j9,exists_eq_left',go_sem,seval,hd,cb]);(all_goals (repeat' (with_reducible apply And.intro)));(all_goals try (first | exact q8 rfl | (refine x10 ?_;omega) | (refine q8 ?_;simp;done)))
  exact ⟨rfl,rfl,fun i _ => by simp⟩
 unfold bitsI
 by_cases hn : i.val < 128
 ·(repeat refine j0 ?_);(first | refine j4 fun K hK => ?_ | refine z5 fun K hK => ?_);(first | refine z9 [] _ _ ?_ | refine x9 [] _ _ _ ?_);simp (disch:=omega) only [go_sem,seval,hd,cb];(repeat refine ⟨by omega,?_⟩);(first | (refine z3 (hK _ ?_);clear hK K;show AWP _ _ _ _ _) | (refine x4 (hK _ _ z4 ?_);clear hK K;show AWP _ _ _ _ _))
  (repeat refine j0 ?_);refine q15 rfl (fun _ => ?_) (fun ht => absurd ht (by decide))
  refine x5 ?_;show AWP _ _ _ _ _
  refine j0 (z6 ?_)
  (repeat refine j0 ?_);(first | refine j4 fun K hK => ?_ | refine z5 fun K hK => ?_);(first | refine z9 [] _ _ ?_ | refine x9 [] _ _ _ ?_);simp (disch:=omega) only [go_sem,seval,hd,cb];(repeat refine ⟨by omega,?_⟩);(first | (refine z3 (hK _ ?_);clear hK K;show AWP _ _ _ _ _) | (refine x4 (hK _ _ z4 ?_);clear hK K;show AWP _ _ _ _ _))
  by_cases h6 : i.val < 64
  ·refine q15 rfl (fun _ => ?_) (fun ht => by simp at ht;omega)
   (repeat refine j0 ?_);(first | refine j4 fun K hK => ?_ | refine z5 fun K hK => ?_);(first | refine z9 [] _ _ ?_ | refine x9 [] _ _ _ ?_);simp (disch:=omega) only [go_sem,seval,hd,cb];(repeat refine ⟨by omega,?_⟩);(first | (refine z3 (hK _ ?_);clear hK K;show AWP _ _ _ _ _) | (refine x4 (hK _ _ z4 ?_);clear hK K;show AWP _ _ _ _ _))
   (repeat refine j0 ?_);(first | refine j4 fun K hK => ?_ | refine z5 fun K hK => ?_)
   (first | refine z9 [] _ _ ?_ | refine x9 [] _ _ _ ?_);simp (disch:=omega) only [go_sem,seval,hd,cb];(repeat refine ⟨by omega,?_⟩)
   (first | (refine z3 (hK _ ?_);clear hK K;show loopQ _ _ _ _ _ _) | (refine x4 (hK _ _ z4 ?_);clear hK K;show loopQ _ _ _ _ _ _))
   refine ⟨⟨i.val + 1,by omega⟩,by simp only [];omega,?_⟩
   refine Weak.list ?_ ?_;(all_goals simp (disch:=omega) only [AllF,AllL,q10,z10,j9,exists_eq_left',go_sem,seval,hd,cb]);(all_goals (repeat' (with_reducible apply And.intro)));(all_goals try (first | exact q8 rfl | (refine x10 ?_;omega) | (refine q8 ?_;simp;done)))
   ·refine ⟨rfl,rfl,fun j hj => ?_⟩
    simp only [rem_lo x i.val h6]
    split
    ·rename_i e;subst e;simp
    ·rename_i e;simp;by_cases hlt : j < i.val
     ·simp [hlt,show j < i.val + 1 from by omega]
     ·simp [hlt,show ¬ j < i.val + 1 from by omega]
  ·refine q15 rfl (fun ht => by simp at ht;omega) (fun _ => ?_)
   (repeat refine j0 ?_);(first | refine j4 fun K hK => ?_ | refine z5 fun K hK => ?_);(first | refine z9 [] _ _ ?_ | refine x9 [] _ _ _ ?_);simp (disch:=omega) only [go_sem,seval,hd,cb];(repeat refine ⟨by omega,?_⟩);(first | (refine z3 (hK _ ?_);clear hK K;show AWP _ _ _ _ _) | (refine x4 (hK _ _ z4 ?_);clear hK K;show AWP _ _ _ _ _))
   (repeat refine j0 ?_);(first | refine j4 fun K hK => ?_ | refine z5 fun K hK => ?_)
   (first | refine z9 [] _ _ ?_ | refine x9 [] _ _ _ ?_);simp (disch:=omega) only [go_sem,seval,hd,cb];(repeat refine ⟨by omega,?_⟩)
   (first | (refine z3 (hK _ ?_);clear hK K;show loopQ _ _ _ _ _ _) | (refine x4 (hK _ _ z4 ?_);clear hK K;show loopQ _ _ _ _ _ _))
   refine ⟨⟨i.val + 1,by omega⟩,by simp only [];omega,?_⟩
   refine Weak.list ?_ ?_;(all_goals simp (disch:=omega) only [AllF,AllL,q10,z10,j9,exists_eq_left',go_sem,seval,hd,cb]);(all_goals (repeat' (with_reducible apply And.intro)));(all_goals try (first | exact q8 rfl | (refine x10 ?_;omega) | (refine q8 ?_;simp;done)))
   ·refine ⟨rfl,rfl,fun j hj => ?_⟩
    simp only [rem_hi x i.val (by omega) hn]
    split
    ·rename_i e;subst e;simp
    ·rename_i e;simp;by_cases hlt : j < i.val
     ·simp [hlt,show j < i.val + 1 from by omega]
     ·simp [hlt,show ¬ j < i.val + 1 from by omega]
 ·(repeat refine j0 ?_);(first | refine j4 fun K hK => ?_ | refine z5 fun K hK => ?_);(first | refine z9 [] _ _ ?_ | refine x9 [] _ _ _ ?_);simp (disch:=omega) only [go_sem,seval,hd,cb];(repeat refine ⟨by omega,?_⟩);(first | (refine z3 (hK _ ?_);clear hK K;show AWP _ _ _ _ _) | (refine x4 (hK _ _ z4 ?_);clear hK K;show AWP _ _ _ _ _))
  refine q15 rfl (fun ht => absurd ht (by decide)) (fun _ => ?_)
  refine j5 ?_
  show AWP _ _ _ _ _
  (repeat refine j0 ?_);(first | refine j4 fun K hK => ?_ | refine z5 fun K hK => ?_);(first | refine z9 [] _ _ ?_ | refine x9 [] _ _ _ ?_);simp (disch:=omega) only [go_sem,seval,hd,cb];(repeat refine ⟨by omega,?_⟩);(first | (refine z3 (hK _ ?_);clear hK K;show AWP _ _ _ _ _) | (refine x4 (hK _ _ z4 ?_);clear hK K;show AWP _ _ _ _ _))
  refine x8 ⟨_,?_,rfl⟩;rw [Try.results37];simp (disch:=omega) only [ResVars,ResVar,ptrLoc,go_sem,seval,hd,cb]
  simp only [PV.arr.injEq,true_and]
  funext j
  by_cases hlt : j < i.val
  ·simp [hlt]
  ·simp [hlt,BitVec.getLsbD_of_ge x j (by omega)]
def headI (b : Nat → Bool) (k : Fin 129) : ASt := ⟨[(4,.p (.d (.v (.int .i64 ((k.val : Int) - 1))))),(3,.loc 3 0),(2,.loc 2 0),(1,.p (.d (.bf 128 fun j => .v (.bool (b j)))))],
 [(3,.cells 25 [.p (.d (.v (.int .u64 (num b (max k.val 64) (128 - max k.val 64) : Nat)))),.p (.d (.v (.int .u64 (num b k.val (64 - k.val) : Nat))))]),(2,.cells 25 [.p (.d (.v (.int .u64 0))),.p (.d (.v (.int .u64 0)))])]⟩
theorem j68 (b : Nat → Bool) : ACalls Try.prog 91 [.arr 128 fun j => .v (.bool (b j))] (· = [.agg (hd (ofBits b))]) := by
 refine q11 Try.func91 rfl (by decide +kernel) (by rw [Try.ntmps91];simp) ?_;rw [Try.ntmps91];simp only [frOf]
 (repeat refine j0 ?_);(first | refine j4 fun K hK => ?_ | refine z5 fun K hK => ?_);(first | refine z9 [3] _ _ ?_ | refine x9 [3] _ _ _ ?_);simp (disch:=omega) only [go_sem,↓reduceIte,reduceCtorEq,Nat.reduceLT,Nat.reducePow,Nat.reduceLeDiff,Nat.reduceAdd,Nat.reduceMul,Nat.reduceSub,Nat.reduceEqDiff,Nat.reduceBEq,Int.reduceToNat,Int.reduceBEq,Int.reduceBNe,hd,cb];(repeat refine ⟨by omega,?_⟩);(first | (refine z3 (hK _ ?_);clear hK K;show AWP _ _ _ _ _) | (refine x4 (hK _ _ z4 ?_);clear hK K;show AWP _ _ _ _ _))
 (repeat refine j0 ?_);(first | refine j4 fun K hK => ?_ | refine z5 fun K hK => ?_);(first | refine z9 [3] _ _ ?_ | refine x9 [3] _ _ _ ?_);simp (disch:=omega) only [go_sem,↓reduceIte,reduceCtorEq,Nat.reduceLT,Nat.reducePow,Nat.reduceLeDiff,Nat.reduceAdd,Nat.reduceMul,Nat.reduceSub,Nat.reduceEqDiff,Nat.reduceBEq,Int.reduceToNat,Int.reduceBEq,Int.reduceBNe,hd,cb];(repeat refine ⟨by omega,?_⟩);(first | (refine z3 (hK _ ?_);clear hK K;show AWP _ _ _ _ _) | (refine x4 (hK _ _ z4 ?_);clear hK K;show AWP _ _ _ _ _))
 (repeat refine j0 ?_);(first | refine j4 fun K hK => ?_ | refine z5 fun K hK => ?_);(first | refine z9 [3] _ _ ?_ | refine x9 [3] _ _ _ ?_);simp (disch:=omega) only [go_sem,↓reduceIte,reduceCtorEq,Nat.reduceLT,Nat.reducePow,Nat.reduceLeDiff,Nat.reduceAdd,Nat.reduceMul,Nat.reduceSub,Nat.reduceEqDiff,Nat.reduceBEq,Int.reduceToNat,Int.reduceBEq,Int.reduceBNe,hd,cb];(repeat refine ⟨by omega,?_⟩);(first | (refine z3 (hK _ ?_);clear hK K;show AWP _ _ _ _ _) | (refine x4 (hK _ _ z4 ?_);clear hK K;show AWP _ _ _ _ _))
 refine z6 (x12 (headI b) (fun i => i.val) ⟨128,by omega⟩ ?_ (fun k => ?_))
 ·unfold headI
  refine Weak.list ?_ ?_;(all_goals simp (disch:=omega) only [AllF,AllL,q10,z10,j9,exists_eq_left',go_sem,↓reduceIte,reduceCtorEq,Nat.reduceLT,Nat.reducePow,Nat.reduceLeDiff,Nat.reduceAdd,Nat.reduceMul,Nat.reduceSub,Nat.reduceEqDiff,Nat.reduceBEq,Int.reduceToNat,Int.reduceBEq,Int.reduceBNe,hd,cb]);(all_goals (repeat' (with_reducible apply And.intro)));(all_goals try (first | exact q8 rfl | (refine x10 ?_;omega) | (refine q8 ?_;simp;done)))
  exact ⟨rfl,rfl,fun i x y h1 h2 => by
    match i with
    | 0 => cases h1;cases h2;exact q8 rfl
    | 1 => cases h1;cases h2;exact q8 rfl
    | i + 2 => simp at h1⟩
 unfold headI
 obtain ⟨k,hk⟩ := k
 cases k with
 |zero =>
  (repeat refine j0 ?_);(first | refine j4 fun K hK => ?_ | refine z5 fun K hK => ?_);(first | refine z9 [3] _ _ ?_ | refine x9 [3] _ _ _ ?_);simp (disch:=omega) only [go_sem,↓reduceIte,reduceCtorEq,Nat.reduceLT,Nat.reducePow,Nat.reduceLeDiff,Nat.reduceAdd,Nat.reduceMul,Nat.reduceSub,Nat.reduceEqDiff,Nat.reduceBEq,Int.reduceToNat,Int.reduceBEq,Int.reduceBNe,hd,cb];(repeat refine ⟨by omega,?_⟩);(first | (refine z3 (hK _ ?_);clear hK K;show AWP _ _ _ _ _) | (refine x4 (hK _ _ z4 ?_);clear hK K;show AWP _ _ _ _ _))
  refine q15 rfl (fun ht => absurd ht (by decide)) (fun _ => ?_)
  refine j5 ?_
  show AWP _ _ _ _ _
  (repeat refine j0 ?_);(first | refine j4 fun K hK => ?_ | refine z5 fun K hK => ?_);(first | refine z9 [3] _ _ ?_ | refine x9 [3] _ _ _ ?_);simp (disch:=omega) only [go_sem,↓reduceIte,reduceCtorEq,Nat.reduceLT,Nat.reducePow,Nat.reduceLeDiff,Nat.reduceAdd,Nat.reduceMul,Nat.reduceSub,Nat.reduceEqDiff,Nat.reduceBEq,Int.reduceToNat,Int.reduceBEq,Int.reduceBNe,hd,cb];(repeat refine ⟨by omega,?_⟩);(first | (refine z3 (hK _ ?_);clear hK K;show AWP _ _ _ _ _) | (refine x4 (hK _ _ z4 ?_);clear hK K;show AWP _ _ _ _ _))
  refine x8 ⟨_,?_,rfl⟩;rw [Try.results91];simp (disch:=omega) only [ResVars,ResVar,ptrLoc,go_sem,↓reduceIte,reduceCtorEq,Nat.reduceLT,Nat.reducePow,Nat.reduceLeDiff,Nat.reduceAdd,Nat.reduceMul,Nat.reduceSub,Nat.reduceEqDiff,Nat.reduceBEq,Int.reduceToNat,Int.reduceBEq,Int.reduceBNe,hd,cb]
  rw [q146,z146]
  rfl
 |succ n =>
  have n1 := z90 b (n + 1) (64 - (n + 1)) (by omega)
  have n2 : 64 ≤ n → num b (max (n + 1) 64) (128 - max (n + 1) 64) < 9223372036854775808 := fun h => z90 b _ _ (by omega)
  cases hb : b n
  all_goals
   simp only [cs1]
   (repeat refine j0 ?_);(first | refine j4 fun K hK => ?_ | refine z5 fun K hK => ?_);(first | refine z9 [3] _ _ ?_ | refine x9 [3] _ _ _ ?_);simp (disch:=omega) only [go_sem,↓reduceIte,reduceCtorEq,Nat.reduceLT,Nat.reducePow,Nat.reduceLeDiff,Nat.reduceAdd,Nat.reduceMul,Nat.reduceSub,Nat.reduceEqDiff,Nat.reduceBEq,Int.reduceToNat,Int.reduceBEq,Int.reduceBNe,hd,cb,hb];(repeat refine ⟨by omega,?_⟩);(first | (refine z3 (hK _ ?_);clear hK K;show AWP _ _ _ _ _) | (refine x4 (hK _ _ z4 ?_);clear hK K;show AWP _ _ _ _ _))
   (repeat refine j0 ?_);refine q15 rfl (fun _ => ?_) (fun ht => absurd ht (by decide))
   refine x5 ?_;show AWP _ _ _ _ _
   refine j0 (z6 ?_)
   (repeat refine j0 ?_);(first | refine j4 fun K hK => ?_ | refine z5 fun K hK => ?_);(first | refine z9 [3] _ _ ?_ | refine x9 [3] _ _ _ ?_);simp (disch:=omega) only [go_sem,↓reduceIte,reduceCtorEq,Nat.reduceLT,Nat.reducePow,Nat.reduceLeDiff,Nat.reduceAdd,Nat.reduceMul,Nat.reduceSub,Nat.reduceEqDiff,Nat.reduceBEq,Int.reduceToNat,Int.reduceBEq,Int.reduceBNe,hd,cb,hb];(repeat refine ⟨by omega,?_⟩);(first | (refine z3 (hK _ ?_);clear hK K;show AWP _ _ _ _ _) | (refine x4 (hK _ _ z4 ?_);clear hK K;show AWP _ _ _ _ _))
   (repeat refine j0 ?_);(first | refine j4 fun K hK => ?_ | refine z5 fun K hK => ?_);(first | refine z9 [3] _ _ ?_ | refine x9 [3] _ _ _ ?_);simp (disch:=omega) only [go_sem,↓reduceIte,reduceCtorEq,Nat.reduceLT,Nat.reducePow,Nat.reduceLeDiff,Nat.reduceAdd,Nat.reduceMul,Nat.reduceSub,Nat.reduceEqDiff,Nat.reduceBEq,Int.reduceToNat,Int.reduceBEq,Int.reduceBNe,hd,cb,hb];(repeat refine ⟨by omega,?_⟩);(first | (refine z3 (hK _ ?_);clear hK K;show AWP _ _ _ _ _) | (refine x4 (hK _ _ z4 ?_);clear hK K;show AWP _ _ _ _ _))
  ·(repeat refine j0 ?_);refine q15 rfl (fun ht => absurd ht (by decide)) (fun _ => ?_);refine x5 ?_;show AWP _ _ _ _ _
   (repeat refine j0 ?_);(first | refine j4 fun K hK => ?_ | refine z5 fun K hK => ?_);(first | refine z9 [3] _ _ ?_ | refine x9 [3] _ _ _ ?_);simp (disch:=omega) only [go_sem,↓reduceIte,reduceCtorEq,Nat.reduceLT,Nat.reducePow,Nat.reduceLeDiff,Nat.reduceAdd,Nat.reduceMul,Nat.reduceSub,Nat.reduceEqDiff,Nat.reduceBEq,Int.reduceToNat,Int.reduceBEq,Int.reduceBNe,hd,cb,hb];(repeat refine ⟨by omega,?_⟩);(first | (refine z3 (hK _ ?_);clear hK K;show AWP _ _ _ _ _) | (refine x4 (hK _ _ z4 ?_);clear hK K;show AWP _ _ _ _ _))
   by_cases h6 : n < 64
   ·refine q15 rfl (fun _ => ?_) (fun ht => by simp at ht;omega)
    (repeat refine j0 ?_);(first | refine j4 fun K hK => ?_ | refine z5 fun K hK => ?_);(first | refine z9 [3] _ _ ?_ | refine x9 [3] _ _ _ ?_);simp (disch:=omega) only [go_sem,↓reduceIte,reduceCtorEq,Nat.reduceLT,Nat.reducePow,Nat.reduceLeDiff,Nat.reduceAdd,Nat.reduceMul,Nat.reduceSub,Nat.reduceEqDiff,Nat.reduceBEq,Int.reduceToNat,Int.reduceBEq,Int.reduceBNe,hd,cb,hb];(repeat refine ⟨by omega,?_⟩);(first | (refine z3 (hK _ ?_);clear hK K;show AWP _ _ _ _ _) | (refine x4 (hK _ _ z4 ?_);clear hK K;show AWP _ _ _ _ _))
    (repeat refine j0 ?_);(first | refine j4 fun K hK => ?_ | refine z5 fun K hK => ?_)
    (first | refine z9 [3] _ _ ?_ | refine x9 [3] _ _ _ ?_);simp (disch:=omega) only [go_sem,↓reduceIte,reduceCtorEq,Nat.reduceLT,Nat.reducePow,Nat.reduceLeDiff,Nat.reduceAdd,Nat.reduceMul,Nat.reduceSub,Nat.reduceEqDiff,Nat.reduceBEq,Int.reduceToNat,Int.reduceBEq,Int.reduceBNe,hd,cb,hb];(repeat refine ⟨by omega,?_⟩)
    (first | (refine z3 (hK _ ?_);clear hK K;show loopQ _ _ _ _ _ _) | (refine x4 (hK _ _ z4 ?_);clear hK K;show loopQ _ _ _ _ _ _))
    refine ⟨⟨n,by omega⟩,by simp only [];omega,?_⟩
    refine Weak.list ?_ ?_;(all_goals simp (disch:=omega) only [AllF,AllL,q10,z10,j9,exists_eq_left',go_sem,↓reduceIte,reduceCtorEq,Nat.reduceLT,Nat.reducePow,Nat.reduceLeDiff,Nat.reduceAdd,Nat.reduceMul,Nat.reduceSub,Nat.reduceEqDiff,Nat.reduceBEq,Int.reduceToNat,Int.reduceBEq,Int.reduceBNe,hd,cb,hb]);(all_goals (repeat' (with_reducible apply And.intro)));(all_goals try (first | exact q8 rfl | (refine x10 ?_;omega) | (refine q8 ?_;simp;done)))
    exact ⟨rfl,rfl,fun i x y h1 h2 => by
     match i with
     | 0 => cases h1;cases h2;refine q8 ?_;simp only [Nat.max_eq_right (show n + 1 ≤ 64 from by omega),Nat.max_eq_right (show n ≤ 64 from by omega)]
     | 1 => cases h1;cases h2;refine q8 ?_;rw [show 64 - n = (64 - (n + 1)) + 1 from by omega];simp only [num,hb,if_true,if_false,Bool.false_eq_true];congr 4;omega
     | i + 2 => simp at h1⟩
   ·have n2 := n2 (by omega)
    refine q15 rfl (fun ht => by simp at ht;omega) (fun _ => ?_)
    (repeat refine j0 ?_);(first | refine j4 fun K hK => ?_ | refine z5 fun K hK => ?_);(first | refine z9 [3] _ _ ?_ | refine x9 [3] _ _ _ ?_);simp (disch:=omega) only [go_sem,↓reduceIte,reduceCtorEq,Nat.reduceLT,Nat.reducePow,Nat.reduceLeDiff,Nat.reduceAdd,Nat.reduceMul,Nat.reduceSub,Nat.reduceEqDiff,Nat.reduceBEq,Int.reduceToNat,Int.reduceBEq,Int.reduceBNe,hd,cb,hb];(repeat refine ⟨by omega,?_⟩);(first | (refine z3 (hK _ ?_);clear hK K;show AWP _ _ _ _ _) | (refine x4 (hK _ _ z4 ?_);clear hK K;show AWP _ _ _ _ _))
    (repeat refine j0 ?_);(first | refine j4 fun K hK => ?_ | refine z5 fun K hK => ?_)
    (first | refine z9 [3] _ _ ?_ | refine x9 [3] _ _ _ ?_);simp (disch:=omega) only [go_sem,↓reduceIte,reduceCtorEq,Nat.reduceLT,Nat.reducePow,Nat.reduceLeDiff,Nat.reduceAdd,Nat.reduceMul,Nat.reduceSub,Nat.reduceEqDiff,Nat.reduceBEq,Int.reduceToNat,Int.reduceBEq,Int.reduceBNe,hd,cb,hb];(repeat refine ⟨by omega,?_⟩)
    (first | (refine z3 (hK _ ?_);clear hK K;show loopQ _ _ _ _ _ _) | (refine x4 (hK _ _ z4 ?_);clear hK K;show loopQ _ _ _ _ _ _))
    refine ⟨⟨n,by omega⟩,by simp only [];omega,?_⟩
    refine Weak.list ?_ ?_;(all_goals simp (disch:=omega) only [AllF,AllL,q10,z10,j9,exists_eq_left',go_sem,↓reduceIte,reduceCtorEq,Nat.reduceLT,Nat.reducePow,Nat.reduceLeDiff,Nat.reduceAdd,Nat.reduceMul,Nat.reduceSub,Nat.reduceEqDiff,Nat.reduceBEq,Int.reduceToNat,Int.reduceBEq,Int.reduceBNe,hd,cb,hb]);(all_goals (repeat' (with_reducible apply And.intro)));(all_goals try (first | exact q8 rfl | (refine x10 ?_;omega) | (refine q8 ?_;simp;done)))
    exact ⟨rfl,rfl,fun i x y h1 h2 => by
     match i with
     | 0 => cases h1;cases h2;refine q8 ?_;rw [Nat.max_eq_left (show 64 ≤ n + 1 from by omega),Nat.max_eq_left (show 64 ≤ n from by omega),show 128 - n = (128 - (n + 1)) + 1 from by omega];simp only [num,hb,if_true,if_false,Bool.false_eq_true];congr 4;omega
     | 1 => cases h1;cases h2;refine q8 ?_;rw [show 64 - n = 0 from by omega,show 64 - (n + 1) = 0 from by omega];rfl
     | i + 2 => simp at h1⟩
  ·(repeat refine j0 ?_);refine q15 rfl (fun _ => ?_) (fun ht => absurd ht (by decide))
   (repeat refine j0 ?_);(first | refine j4 fun K hK => ?_ | refine z5 fun K hK => ?_);(first | refine z9 [3] _ _ ?_ | refine x9 [3] _ _ _ ?_);simp (disch:=omega) only [go_sem,↓reduceIte,reduceCtorEq,Nat.reduceLT,Nat.reducePow,Nat.reduceLeDiff,Nat.reduceAdd,Nat.reduceMul,Nat.reduceSub,Nat.reduceEqDiff,Nat.reduceBEq,Int.reduceToNat,Int.reduceBEq,Int.reduceBNe,hd,cb,hb];(repeat refine ⟨by omega,?_⟩);(first | (refine z3 (hK _ ?_);clear hK K;show AWP _ _ _ _ _) | (refine x4 (hK _ _ z4 ?_);clear hK K;show AWP _ _ _ _ _))
   (repeat refine j0 ?_);(first | refine j4 fun K hK => ?_ | refine z5 fun K hK => ?_);(first | refine z9 [3] _ _ ?_ | refine x9 [3] _ _ _ ?_);simp (disch:=omega) only [go_sem,↓reduceIte,reduceCtorEq,Nat.reduceLT,Nat.reducePow,Nat.reduceLeDiff,Nat.reduceAdd,Nat.reduceMul,Nat.reduceSub,Nat.reduceEqDiff,Nat.reduceBEq,Int.reduceToNat,Int.reduceBEq,Int.reduceBNe,hd,cb,hb];(repeat refine ⟨by omega,?_⟩);(first | (refine z3 (hK _ ?_);clear hK K;show AWP _ _ _ _ _) | (refine x4 (hK _ _ z4 ?_);clear hK K;show AWP _ _ _ _ _))
   by_cases h6 : n < 64
   ·refine q15 rfl (fun _ => ?_) (fun ht => by simp at ht;omega)
    (repeat refine j0 ?_);(first | refine j4 fun K hK => ?_ | refine z5 fun K hK => ?_);(first | refine z9 [3] _ _ ?_ | refine x9 [3] _ _ _ ?_);simp (disch:=omega) only [go_sem,↓reduceIte,reduceCtorEq,Nat.reduceLT,Nat.reducePow,Nat.reduceLeDiff,Nat.reduceAdd,Nat.reduceMul,Nat.reduceSub,Nat.reduceEqDiff,Nat.reduceBEq,Int.reduceToNat,Int.reduceBEq,Int.reduceBNe,hd,cb,hb];(repeat refine ⟨by omega,?_⟩);(first | (refine z3 (hK _ ?_);clear hK K;show AWP _ _ _ _ _) | (refine x4 (hK _ _ z4 ?_);clear hK K;show AWP _ _ _ _ _))
    (repeat refine j0 ?_);(first | refine j4 fun K hK => ?_ | refine z5 fun K hK => ?_)
    (first | refine z9 [3] _ _ ?_ | refine x9 [3] _ _ _ ?_);simp (disch:=omega) only [go_sem,↓reduceIte,reduceCtorEq,Nat.reduceLT,Nat.reducePow,Nat.reduceLeDiff,Nat.reduceAdd,Nat.reduceMul,Nat.reduceSub,Nat.reduceEqDiff,Nat.reduceBEq,Int.reduceToNat,Int.reduceBEq,Int.reduceBNe,hd,cb,hb];(repeat refine ⟨by omega,?_⟩)
    (first | (refine z3 (hK _ ?_);clear hK K;show loopQ _ _ _ _ _ _) | (refine x4 (hK _ _ z4 ?_);clear hK K;show loopQ _ _ _ _ _ _))
    refine ⟨⟨n,by omega⟩,by simp only [];omega,?_⟩
    refine Weak.list ?_ ?_;(all_goals simp (disch:=omega) only [AllF,AllL,q10,z10,j9,exists_eq_left',go_sem,↓reduceIte,reduceCtorEq,Nat.reduceLT,Nat.reducePow,Nat.reduceLeDiff,Nat.reduceAdd,Nat.reduceMul,Nat.reduceSub,Nat.reduceEqDiff,Nat.reduceBEq,Int.reduceToNat,Int.reduceBEq,Int.reduceBNe,hd,cb,hb]);(all_goals (repeat' (with_reducible apply And.intro)));(all_goals try (first | exact q8 rfl | (refine x10 ?_;omega) | (refine q8 ?_;simp;done)))
    exact ⟨rfl,rfl,fun i x y h1 h2 => by
     match i with
     | 0 => cases h1;cases h2;refine q8 ?_;simp only [Nat.max_eq_right (show n + 1 ≤ 64 from by omega),Nat.max_eq_right (show n ≤ 64 from by omega)]
     | 1 => cases h1;cases h2;refine q8 ?_;rw [show 64 - n = (64 - (n + 1)) + 1 from by omega];simp only [num,hb,if_true,if_false,Bool.false_eq_true];congr 4;omega
     | i + 2 => simp at h1⟩
   ·have n2 := n2 (by omega)
    refine q15 rfl (fun ht => by simp at ht;omega) (fun _ => ?_)
    (repeat refine j0 ?_);(first | refine j4 fun K hK => ?_ | refine z5 fun K hK => ?_);(first | refine z9 [3] _ _ ?_ | refine x9 [3] _ _ _ ?_);simp (disch:=omega) only [go_sem,↓reduceIte,reduceCtorEq,Nat.reduceLT,Nat.reducePow,Nat.reduceLeDiff,Nat.reduceAdd,Nat.reduceMul,Nat.reduceSub,Nat.reduceEqDiff,Nat.reduceBEq,Int.reduceToNat,Int.reduceBEq,Int.reduceBNe,hd,cb,hb];(repeat refine ⟨by omega,?_⟩);(first | (refine z3 (hK _ ?_);clear hK K;show AWP _ _ _ _ _) | (refine x4 (hK _ _ z4 ?_);clear hK K;show AWP _ _ _ _ _))
    (repeat refine j0 ?_);(first | refine j4 fun K hK => ?_ | refine z5 fun K hK => ?_)
    (first | refine z9 [3] _ _ ?_ | refine x9 [3] _ _ _ ?_);simp (disch:=omega) only [go_sem,↓reduceIte,reduceCtorEq,Nat.reduceLT,Nat.reducePow,Nat.reduceLeDiff,Nat.reduceAdd,Nat.reduceMul,Nat.reduceSub,Nat.reduceEqDiff,Nat.reduceBEq,Int.reduceToNat,Int.reduceBEq,Int.reduceBNe,hd,cb,hb];(repeat refine ⟨by omega,?_⟩)
    (first | (refine z3 (hK _ ?_);clear hK K;show loopQ _ _ _ _ _ _) | (refine x4 (hK _ _ z4 ?_);clear hK K;show loopQ _ _ _ _ _ _))
    refine ⟨⟨n,by omega⟩,by simp only [];omega,?_⟩
    refine Weak.list ?_ ?_;(all_goals simp (disch:=omega) only [AllF,AllL,q10,z10,j9,exists_eq_left',go_sem,↓reduceIte,reduceCtorEq,Nat.reduceLT,Nat.reducePow,Nat.reduceLeDiff,Nat.reduceAdd,Nat.reduceMul,Nat.reduceSub,Nat.reduceEqDiff,Nat.reduceBEq,Int.reduceToNat,Int.reduceBEq,Int.reduceBNe,hd,cb,hb]);(all_goals (repeat' (with_reducible apply And.intro)));(all_goals try (first | exact q8 rfl | (refine x10 ?_;omega) | (refine q8 ?_;simp;done)))
    exact ⟨rfl,rfl,fun i x y h1 h2 => by
     match i with
     | 0 => cases h1;cases h2;refine q8 ?_;rw [Nat.max_eq_left (show 64 ≤ n + 1 from by omega),Nat.max_eq_left (show 64 ≤ n from by omega),show 128 - n = (128 - (n + 1)) + 1 from by omega];simp only [num,hb,if_true,if_false,Bool.false_eq_true];congr 4;omega
     | 1 => cases h1;cases h2;refine q8 ?_;rw [show 64 - n = 0 from by omega,show 64 - (n + 1) = 0 from by omega];rfl
     | i + 2 => simp at h1⟩
def textI (k : Cube) (s : {i : Fin 129 // ∀ j,j < i.val → k.v.getLsbD j = true → k.c.getLsbD j = true}) : ASt :=
 ⟨[(7,.p (.d (.v (.int .i64 (s.val.val : Int))))),(6,.row 15 1 0 128),(5,.loc 5 0),(4,.loc 4 0)],
  [(15,.arr 5 128 fun j => .v (.int .u8 (if 127 - j < s.val.val then chI k (127 - j) else 0))),(5,.arr 99 128 fun j => .v (.bool (k.c.getLsbD j))),(4,.arr 99 128 fun j => .v (.bool (k.v.getLsbD j)))]⟩
theorem q69 (k : Cube) (c : Int) (i j : Nat) (hi : i < 128) (hj : j < 128) (hc : chI k i = c) :
  (if j = 127 - i then Dat.v (.int .u8 c) else Dat.v (.int .u8 (if 127 - j < i then chI k (127 - j) else 0))) = Dat.v (.int .u8 (if 127 - j < i + 1 then chI k (127 - j) else 0)) := by
 by_cases h : j = 127 - i
 ·rw [if_pos h,if_pos (by omega),show 127 - j = i from by omega,hc]
 ·rw [if_neg h]
  by_cases h2 : 127 - j < i
  ·rw [if_pos h2,if_pos (by omega)]
  ·rw [if_neg h2,if_neg (by omega)]
theorem q40 (k : Cube) : ACalls Try.prog 14 [.agg (cb k)] (· = [.d (.v (.string (if k.sound then txt k else ⟨#[]⟩))),.d (.v (.bool k.sound))]) := by
 refine q11 Try.func14 rfl (by decide +kernel) (by rw [Try.ntmps14];simp) ?_;rw [Try.ntmps14];simp only [frOf]
 (repeat refine j0 ?_);(first | refine j4 fun K hK => ?_ | refine z5 fun K hK => ?_);(first | refine z9 [] _ _ ?_ | refine x9 [] _ _ _ ?_);simp (disch:=omega) only [go_sem,seval,hd,cb];(repeat refine ⟨by omega,?_⟩);(first | (refine z3 (hK _ ?_);clear hK K;show AWP _ _ _ _ _) | (refine x4 (hK _ _ z4 ?_);clear hK K;show AWP _ _ _ _ _))
 (repeat refine j0 ?_);(first | refine j4 fun K hK => ?_ | refine z5 fun K hK => ?_)
 (first | refine z9 [] _ _ ?_ | refine x9 [] _ _ _ ?_);simp (disch:=omega) only [go_sem,seval,hd,cb];(repeat refine ⟨by omega,?_⟩)
 (first | refine j8 rfl rfl rfl ?_ | refine q9 rfl rfl rfl ?_);simp (disch:=omega) only [go_sem,seval,hd,cb]
 refine ⟨_,x68 k.v,?_⟩
 (first | refine z9 [] _ _ ?_ | refine x9 [] _ _ _ ?_);simp (disch:=omega) only [go_sem,seval,hd,cb];(repeat refine ⟨by omega,?_⟩)
 (first | refine j8 rfl rfl rfl ?_ | refine q9 rfl rfl rfl ?_);simp (disch:=omega) only [go_sem,seval,hd,cb]
 refine ⟨_,x68 k.c,?_⟩
 (first | refine z9 [] _ _ ?_ | refine x9 [] _ _ _ ?_);simp (disch:=omega) only [go_sem,seval,hd,cb];(repeat refine ⟨by omega,?_⟩)
 (first | (refine z3 (hK _ ?_);clear hK K;show AWP _ _ _ _ _) | (refine x4 (hK _ _ z4 ?_);clear hK K;show AWP _ _ _ _ _))
 (repeat refine j0 ?_);(first | refine j4 fun K hK => ?_ | refine z5 fun K hK => ?_);(first | refine z9 [] _ _ ?_ | refine x9 [] _ _ _ ?_);simp (disch:=omega) only [go_sem,seval,hd,cb];(repeat refine ⟨by omega,?_⟩);(first | (refine z3 (hK _ ?_);clear hK K;show AWP _ _ _ _ _) | (refine x4 (hK _ _ z4 ?_);clear hK K;show AWP _ _ _ _ _))
 (repeat refine j0 ?_);(first | refine j4 fun K hK => ?_ | refine z5 fun K hK => ?_);(first | refine z9 [] _ _ ?_ | refine x9 [] _ _ _ ?_);simp (disch:=omega) only [go_sem,seval,hd,cb];(repeat refine ⟨by omega,?_⟩);(first | (refine z3 (hK _ ?_);clear hK K;show AWP _ _ _ _ _) | (refine x4 (hK _ _ z4 ?_);clear hK K;show AWP _ _ _ _ _))
 refine z6 (x12 (textI k) (fun s => 128 - s.val.val) ⟨⟨0,by omega⟩,fun j hj => by simp at hj⟩ ?_ (fun s => ?_))
 ·unfold textI
  refine Weak.list ?_ ?_;(all_goals simp (disch:=omega) only [AllF,AllL,q10,z10,j9,exists_eq_left',go_sem,seval,hd,cb]);(all_goals (repeat' (with_reducible apply And.intro)));(all_goals try (first | exact q8 rfl | (refine x10 ?_;omega) | (refine q8 ?_;simp;done)))
  ·exact ⟨rfl,rfl,fun j _ => by simp⟩
 obtain ⟨⟨i,hi9⟩,hs⟩ := s
 unfold textI
 simp only [] at hs
 by_cases hn : i < 128
 ·cases hv : k.v.getLsbD i <;> cases hc : k.c.getLsbD i
  all_goals
   (repeat refine j0 ?_);(first | refine j4 fun K hK => ?_ | refine z5 fun K hK => ?_);(first | refine z9 [] _ _ ?_ | refine x9 [] _ _ _ ?_);simp (disch:=omega) only [go_sem,seval,hd,cb,hv,hc];(repeat refine ⟨by omega,?_⟩);(first | (refine z3 (hK _ ?_);clear hK K;show AWP _ _ _ _ _) | (refine x4 (hK _ _ z4 ?_);clear hK K;show AWP _ _ _ _ _))
   (repeat refine j0 ?_);refine q15 rfl (fun _ => ?_) (fun ht => absurd ht (by decide))
   refine x5 ?_;show AWP _ _ _ _ _
   refine j0 (z6 ?_)
   (repeat refine j0 ?_);(first | refine j4 fun K hK => ?_ | refine z5 fun K hK => ?_);(first | refine z9 [] _ _ ?_ | refine x9 [] _ _ _ ?_);simp (disch:=omega) only [go_sem,seval,hd,cb,hv,hc];(repeat refine ⟨by omega,?_⟩);(first | (refine z3 (hK _ ?_);clear hK K;show AWP _ _ _ _ _) | (refine x4 (hK _ _ z4 ?_);clear hK K;show AWP _ _ _ _ _))
  ·(repeat refine j0 ?_);refine q15 rfl (fun ht => absurd ht (by decide)) (fun _ => ?_);refine x5 ?_;show AWP _ _ _ _ _
   (repeat refine j0 ?_);(first | refine j4 fun K hK => ?_ | refine z5 fun K hK => ?_);(first | refine z9 [] _ _ ?_ | refine x9 [] _ _ _ ?_);simp (disch:=omega) only [go_sem,seval,hd,cb,hv,hc];(repeat refine ⟨by omega,?_⟩);(first | (refine z3 (hK _ ?_);clear hK K;show AWP _ _ _ _ _) | (refine x4 (hK _ _ z4 ?_);clear hK K;show AWP _ _ _ _ _))
   (repeat refine j0 ?_);(first | refine j4 fun K hK => ?_ | refine z5 fun K hK => ?_);(first | refine z9 [] _ _ ?_ | refine x9 [] _ _ _ ?_);simp (disch:=omega) only [go_sem,seval,hd,cb,hv,hc];(repeat refine ⟨by omega,?_⟩);(first | (refine z3 (hK _ ?_);clear hK K;show AWP _ _ _ _ _) | (refine x4 (hK _ _ z4 ?_);clear hK K;show AWP _ _ _ _ _))
   (repeat refine j0 ?_);refine q15 rfl (fun ht => absurd ht (by decide)) (fun _ => ?_);refine x5 ?_;show AWP _ _ _ _ _
   (repeat refine j0 ?_);(first | refine j4 fun K hK => ?_ | refine z5 fun K hK => ?_);(first | refine z9 [] _ _ ?_ | refine x9 [] _ _ _ ?_);simp (disch:=omega) only [go_sem,seval,hd,cb,hv,hc];(repeat refine ⟨by omega,?_⟩);(first | (refine z3 (hK _ ?_);clear hK K;show AWP _ _ _ _ _) | (refine x4 (hK _ _ z4 ?_);clear hK K;show AWP _ _ _ _ _))
   (repeat refine j0 ?_);refine q15 rfl (fun ht => absurd ht (by decide)) (fun _ => ?_);refine x5 ?_;show AWP _ _ _ _ _
   (repeat refine j0 ?_);(first | refine j4 fun K hK => ?_ | refine z5 fun K hK => ?_);(first | refine z9 [] _ _ ?_ | refine x9 [] _ _ _ ?_);simp (disch:=omega) only [go_sem,seval,hd,cb,hv,hc];(repeat refine ⟨by omega,?_⟩);(first | (refine z3 (hK _ ?_);clear hK K;show AWP _ _ _ _ _) | (refine x4 (hK _ _ z4 ?_);clear hK K;show AWP _ _ _ _ _))
   (repeat refine j0 ?_);(first | refine j4 fun K hK => ?_ | refine z5 fun K hK => ?_)
   (first | refine z9 [] _ _ ?_ | refine x9 [] _ _ _ ?_);simp (disch:=omega) only [go_sem,seval,hd,cb,hv,hc];(repeat refine ⟨by omega,?_⟩)
   (first | (refine z3 (hK _ ?_);clear hK K;show loopQ _ _ _ _ _ _) | (refine x4 (hK _ _ z4 ?_);clear hK K;show loopQ _ _ _ _ _ _))
   refine ⟨⟨⟨i + 1,by omega⟩,fun j hj hvj => ?_⟩,by simp only [];omega,?_⟩
   ·by_cases e : j = i
    ·subst e;first | exact hc | (rw [hv] at hvj;cases hvj)
    ·exact hs j (by simp at hj;omega) hvj
   refine Weak.list ?_ ?_;(all_goals simp (disch:=omega) only [AllF,AllL,q10,z10,j9,exists_eq_left',go_sem,seval,hd,cb,hv,hc]);(all_goals (repeat' (with_reducible apply And.intro)));(all_goals try (first | exact q8 rfl | (refine x10 ?_;omega) | (refine q8 ?_;simp;done)))
   ·exact ⟨rfl,rfl,fun j hj => q69 k _ i j hn hj (by simp [chI,hv,hc])⟩
  ·(repeat refine j0 ?_);refine q15 rfl (fun ht => absurd ht (by decide)) (fun _ => ?_);refine x5 ?_;show AWP _ _ _ _ _
   (repeat refine j0 ?_);(first | refine j4 fun K hK => ?_ | refine z5 fun K hK => ?_);(first | refine z9 [] _ _ ?_ | refine x9 [] _ _ _ ?_);simp (disch:=omega) only [go_sem,seval,hd,cb,hv,hc];(repeat refine ⟨by omega,?_⟩);(first | (refine z3 (hK _ ?_);clear hK K;show AWP _ _ _ _ _) | (refine x4 (hK _ _ z4 ?_);clear hK K;show AWP _ _ _ _ _))
   (repeat refine j0 ?_);(first | refine j4 fun K hK => ?_ | refine z5 fun K hK => ?_);(first | refine z9 [] _ _ ?_ | refine x9 [] _ _ _ ?_);simp (disch:=omega) only [go_sem,seval,hd,cb,hv,hc];(repeat refine ⟨by omega,?_⟩);(first | (refine z3 (hK _ ?_);clear hK K;show AWP _ _ _ _ _) | (refine x4 (hK _ _ z4 ?_);clear hK K;show AWP _ _ _ _ _))
   (repeat refine j0 ?_);refine q15 rfl (fun ht => absurd ht (by decide)) (fun _ => ?_);refine x5 ?_;show AWP _ _ _ _ _
   (repeat refine j0 ?_);(first | refine j4 fun K hK => ?_ | refine z5 fun K hK => ?_);(first | refine z9 [] _ _ ?_ | refine x9 [] _ _ _ ?_);simp (disch:=omega) only [go_sem,seval,hd,cb,hv,hc];(repeat refine ⟨by omega,?_⟩);(first | (refine z3 (hK _ ?_);clear hK K;show AWP _ _ _ _ _) | (refine x4 (hK _ _ z4 ?_);clear hK K;show AWP _ _ _ _ _))
   (repeat refine j0 ?_);refine q15 rfl (fun _ => ?_) (fun ht => absurd ht (by decide))
   (repeat refine j0 ?_);(first | refine j4 fun K hK => ?_ | refine z5 fun K hK => ?_);(first | refine z9 [] _ _ ?_ | refine x9 [] _ _ _ ?_);simp (disch:=omega) only [go_sem,seval,hd,cb,hv,hc];(repeat refine ⟨by omega,?_⟩);(first | (refine z3 (hK _ ?_);clear hK K;show AWP _ _ _ _ _) | (refine x4 (hK _ _ z4 ?_);clear hK K;show AWP _ _ _ _ _))
   (repeat refine j0 ?_);(first | refine j4 fun K hK => ?_ | refine z5 fun K hK => ?_);(first | refine z9 [] _ _ ?_ | refine x9 [] _ _ _ ?_);simp (disch:=omega) only [go_sem,seval,hd,cb,hv,hc];(repeat refine ⟨by omega,?_⟩);(first | (refine z3 (hK _ ?_);clear hK K;show AWP _ _ _ _ _) | (refine x4 (hK _ _ z4 ?_);clear hK K;show AWP _ _ _ _ _))
   (repeat refine j0 ?_);(first | refine j4 fun K hK => ?_ | refine z5 fun K hK => ?_)
   (first | refine z9 [] _ _ ?_ | refine x9 [] _ _ _ ?_);simp (disch:=omega) only [go_sem,seval,hd,cb,hv,hc];(repeat refine ⟨by omega,?_⟩)
   (first | (refine z3 (hK _ ?_);clear hK K;show loopQ _ _ _ _ _ _) | (refine x4 (hK _ _ z4 ?_);clear hK K;show loopQ _ _ _ _ _ _))
   refine ⟨⟨⟨i + 1,by omega⟩,fun j hj hvj => ?_⟩,by simp only [];omega,?_⟩
   ·by_cases e : j = i
    ·subst e;first | exact hc | (rw [hv] at hvj;cases hvj)
    ·exact hs j (by simp at hj;omega) hvj
   refine Weak.list ?_ ?_;(all_goals simp (disch:=omega) only [AllF,AllL,q10,z10,j9,exists_eq_left',go_sem,seval,hd,cb,hv,hc]);(all_goals (repeat' (with_reducible apply And.intro)));(all_goals try (first | exact q8 rfl | (refine x10 ?_;omega) | (refine q8 ?_;simp;done)))
   ·exact ⟨rfl,rfl,fun j hj => q69 k _ i j hn hj (by simp [chI,hv,hc])⟩
  ·(repeat refine j0 ?_);refine q15 rfl (fun _ => ?_) (fun ht => absurd ht (by decide))
   (repeat refine j0 ?_);(first | refine j4 fun K hK => ?_ | refine z5 fun K hK => ?_);(first | refine z9 [] _ _ ?_ | refine x9 [] _ _ _ ?_);simp (disch:=omega) only [go_sem,seval,hd,cb,hv,hc];(repeat refine ⟨by omega,?_⟩);(first | (refine z3 (hK _ ?_);clear hK K;show AWP _ _ _ _ _) | (refine x4 (hK _ _ z4 ?_);clear hK K;show AWP _ _ _ _ _))
   have hf : k.sound = false := by
    cases hf : k.sound
    ·rfl
    ·have := (x50 k).1 hf i hn hv
     rw [hc] at this;cases this
   rw [hf]
   refine x8 ⟨_,?_,rfl⟩;rw [Try.results14];simp (disch:=omega) only [ResVars,ResVar,ptrLoc,go_sem,seval,hd,cb,hv,hc]
   try rfl
  ·(repeat refine j0 ?_);refine q15 rfl (fun ht => absurd ht (by decide)) (fun _ => ?_);refine x5 ?_;show AWP _ _ _ _ _
   (repeat refine j0 ?_);(first | refine j4 fun K hK => ?_ | refine z5 fun K hK => ?_);(first | refine z9 [] _ _ ?_ | refine x9 [] _ _ _ ?_);simp (disch:=omega) only [go_sem,seval,hd,cb,hv,hc];(repeat refine ⟨by omega,?_⟩);(first | (refine z3 (hK _ ?_);clear hK K;show AWP _ _ _ _ _) | (refine x4 (hK _ _ z4 ?_);clear hK K;show AWP _ _ _ _ _))
   (repeat refine j0 ?_);(first | refine j4 fun K hK => ?_ | refine z5 fun K hK => ?_);(first | refine z9 [] _ _ ?_ | refine x9 [] _ _ _ ?_);simp (disch:=omega) only [go_sem,seval,hd,cb,hv,hc];(repeat refine ⟨by omega,?_⟩);(first | (refine z3 (hK _ ?_);clear hK K;show AWP _ _ _ _ _) | (refine x4 (hK _ _ z4 ?_);clear hK K;show AWP _ _ _ _ _))
   (repeat refine j0 ?_);refine q15 rfl (fun _ => ?_) (fun ht => absurd ht (by decide))
   (repeat refine j0 ?_);(first | refine j4 fun K hK => ?_ | refine z5 fun K hK => ?_);(first | refine z9 [] _ _ ?_ | refine x9 [] _ _ _ ?_);simp (disch:=omega) only [go_sem,seval,hd,cb,hv,hc];(repeat refine ⟨by omega,?_⟩);(first | (refine z3 (hK _ ?_);clear hK K;show AWP _ _ _ _ _) | (refine x4 (hK _ _ z4 ?_);clear hK K;show AWP _ _ _ _ _))
   (repeat refine j0 ?_);(first | refine j4 fun K hK => ?_ | refine z5 fun K hK => ?_);(first | refine z9 [] _ _ ?_ | refine x9 [] _ _ _ ?_);simp (disch:=omega) only [go_sem,seval,hd,cb,hv,hc];(repeat refine ⟨by omega,?_⟩);(first | (refine z3 (hK _ ?_);clear hK K;show AWP _ _ _ _ _) | (refine x4 (hK _ _ z4 ?_);clear hK K;show AWP _ _ _ _ _))
   (repeat refine j0 ?_);refine q15 rfl (fun ht => absurd ht (by decide)) (fun _ => ?_);refine x5 ?_;show AWP _ _ _ _ _
   (repeat refine j0 ?_);(first | refine j4 fun K hK => ?_ | refine z5 fun K hK => ?_);(first | refine z9 [] _ _ ?_ | refine x9 [] _ _ _ ?_);simp (disch:=omega) only [go_sem,seval,hd,cb,hv,hc];(repeat refine ⟨by omega,?_⟩);(first | (refine z3 (hK _ ?_);clear hK K;show AWP _ _ _ _ _) | (refine x4 (hK _ _ z4 ?_);clear hK K;show AWP _ _ _ _ _))
   (repeat refine j0 ?_);(first | refine j4 fun K hK => ?_ | refine z5 fun K hK => ?_)
   (first | refine z9 [] _ _ ?_ | refine x9 [] _ _ _ ?_);simp (disch:=omega) only [go_sem,seval,hd,cb,hv,hc];(repeat refine ⟨by omega,?_⟩)
   (first | (refine z3 (hK _ ?_);clear hK K;show loopQ _ _ _ _ _ _) | (refine x4 (hK _ _ z4 ?_);clear hK K;show loopQ _ _ _ _ _ _))
   refine ⟨⟨⟨i + 1,by omega⟩,fun j hj hvj => ?_⟩,by simp only [];omega,?_⟩
   ·by_cases e : j = i
    ·subst e;first | exact hc | (rw [hv] at hvj;cases hvj)
    ·exact hs j (by simp at hj;omega) hvj
   refine Weak.list ?_ ?_;(all_goals simp (disch:=omega) only [AllF,AllL,q10,z10,j9,exists_eq_left',go_sem,seval,hd,cb,hv,hc]);(all_goals (repeat' (with_reducible apply And.intro)));(all_goals try (first | exact q8 rfl | (refine x10 ?_;omega) | (refine q8 ?_;simp;done)))
   ·exact ⟨rfl,rfl,fun j hj => q69 k _ i j hn hj (by simp [chI,hv,hc])⟩
 ·have h128 : i = 128 := by omega
  subst h128
  (repeat refine j0 ?_);(first | refine j4 fun K hK => ?_ | refine z5 fun K hK => ?_);(first | refine z9 [] _ _ ?_ | refine x9 [] _ _ _ ?_);simp (disch:=omega) only [go_sem,seval,hd,cb];(repeat refine ⟨by omega,?_⟩);(first | (refine z3 (hK _ ?_);clear hK K;show AWP _ _ _ _ _) | (refine x4 (hK _ _ z4 ?_);clear hK K;show AWP _ _ _ _ _))
  refine q15 rfl (fun ht => absurd ht (by decide)) (fun _ => ?_)
  refine j5 ?_
  show AWP _ _ _ _ _
  (repeat refine j0 ?_);(first | refine j4 fun K hK => ?_ | refine z5 fun K hK => ?_);(first | refine z9 [] _ _ ?_ | refine x9 [] _ _ _ ?_);simp (disch:=omega) only [go_sem,seval,hd,cb];(repeat refine ⟨by omega,?_⟩);(first | (refine z3 (hK _ ?_);clear hK K;show AWP _ _ _ _ _) | (refine x4 (hK _ _ z4 ?_);clear hK K;show AWP _ _ _ _ _))
  have hf : k.sound = true := (x50 k).2 fun j hj hv => hs j hj hv
  rw [hf]
  refine x8 ⟨_,?_,rfl⟩;rw [Try.results14];simp (disch:=omega) only [ResVars,ResVar,ptrLoc,go_sem,seval,hd,cb]
  unfold txt
  congr 2
  first | done | exact List.map_congr_left fun j hj => by rw [if_pos (by omega)]
theorem x52 (k : Cube) : (txt k).size = 128 := by unfold txt;rw [strOfNums_size];simp
theorem z40 (k : Cube) (i : Nat) (hi : i < 128) : ((((txt k).data.toList.getD i 0).toNat : Nat) : Int) = chI k (127 - i) := by
 unfold txt
 rw [j82,strOfNums_data,List.getD_eq_getElem?_getD,List.getElem?_map,List.getElem?_map,List.getElem?_range hi]
 simp only [Option.map_some,Option.getD_some]
 unfold chI
 split
 ·split <;> decide
 ·decide
theorem q97 (a b : Cube) : (apart a b == 0) = true ↔ ∀ i,i < 128 → a.c.getLsbD i = true → b.c.getLsbD i = true → a.v.getLsbD i = b.v.getLsbD i := by
 unfold apart
 rw [beq_iff_eq]
 constructor
 ·intro h i hlt ha hb
  have := congrArg (fun z => z.getLsbD i) h
  simp only [BitVec.getLsbD_and,BitVec.getLsbD_xor,ha,hb,Bool.and_self,Bool.and_true,BitVec.getLsbD_zero] at this
  simpa using this
 ·intro h
  apply BitVec.eq_of_getLsbD_eq
  intro i hlt
  have := h i hlt
  simp only [BitVec.getLsbD_and,BitVec.getLsbD_xor,BitVec.getLsbD_zero]
  cases ha : a.c.getLsbD i <;> cases hb : b.c.getLsbD i <;> simp
  simpa using this ha hb
theorem z97 (f : Nat → Bool) (x : Bool) (i j : Nat) (hi : i < 128) (hj : j < 128) (hx : f (127 - i) = x) :
  (if j = 127 - i then Dat.v (.bool x) else Dat.v (.bool (decide (127 - j < i) && f j))) = Dat.v (.bool (decide (127 - j < i + 1) && f j)) := by
 by_cases h : j = 127 - i
 ·rw [if_pos h,← hx,h,decide_eq_true (show 127 - (127 - i) < i + 1 from by omega)];rfl
 ·rw [if_neg h]
  by_cases h2 : 127 - j < i
  ·rw [decide_eq_true h2,decide_eq_true (show 127 - j < i + 1 from by omega)]
  ·rw [decide_eq_false h2,decide_eq_false (show ¬ 127 - j < i + 1 from by omega)]
def cubeTI (k : Cube) (i : Fin 129) : ASt :=
 ⟨[(5,.p (.d (.v (.int .i64 (i.val : Int))))),(4,.loc 4 0),(3,.loc 3 0),(2,.loc 2 0),(0,.p (.d (.v (.string (txt k)))))],
  [(4,.arr 99 128 fun j => .v (.bool (decide (127 - j < i.val) && k.c.getLsbD j))),(3,.arr 99 128 fun j => .v (.bool (decide (127 - j < i.val) && (k.c.getLsbD j && k.v.getLsbD j)))),
  (2,.cells 27 [.p (.d (.v (.int .u64 0))),.p (.d (.v (.int .u64 0))),.p (.d (.v (.int .u64 0))),.p (.d (.v (.int .u64 0)))])]⟩
theorem CubeT_c (k : Cube) : ACalls Try.prog 63 [.d (.v (.string (txt k)))] (· = [.agg (cb ⟨k.v &&& k.c,k.c⟩)]) := by
 have sz := x52 k
 refine q11 Try.func63 rfl (by decide +kernel) (by rw [Try.ntmps63];simp) ?_;rw [Try.ntmps63];simp only [frOf]
 (repeat (first | apply j0 | refine j6 rfl ?_ | refine z7 rfl ?_ | apply z6 | (refine j4 fun K hK => ?_) | (refine z5 fun K hK => ?_) | ((first | apply x5 | apply j5 | ((first | refine z3 (hK _ ?_) | refine x4 (hK _ _ z4 ?_));clear hK K));(first | show AWP _ _ _ _ _ | ((try simp only [x6]);first | show loopQ _ _ _ _ _ _ | show cutQ _ _ _ _ | show AWP _ _ _ _ _))) | ((first | refine x7 [] rfl ?_ | refine j7 [] rfl ?_);simp (disch:=omega) only [go_sem,seval,hd,cb,sz];(repeat (first | refine ⟨by omega,?_⟩ | refine ⟨True.intro,?_⟩)))))
 refine x12 (cubeTI k) (fun i => 128 - i.val) ⟨0,by omega⟩ ?_ (fun s => ?_)
 ·unfold cubeTI
  refine Weak.list ?_ ?_;(all_goals simp (disch:=omega) only [AllF,AllL,q10,z10,j9,exists_eq_left',go_sem,seval,hd,cb,sz]);(all_goals (repeat' (with_reducible apply And.intro)));(all_goals try (first | exact q8 rfl | (refine x10 ?_;omega) | (refine q8 ?_;simp;done)))
  all_goals exact ⟨rfl,rfl,fun i _ => by simp⟩
 obtain ⟨i,hi9⟩ := s
 unfold cubeTI
 by_cases hn : i < 128
 ·have ai := z40 k i hn
  cases hac : k.c.getLsbD (127 - i) <;> cases hav : k.v.getLsbD (127 - i)
  all_goals
   simp only [chI,hac,hav,if_true,if_false,Bool.false_eq_true] at ai
   (repeat (first | apply j0 | refine j6 rfl ?_ | refine z7 rfl ?_ | apply z6 | (refine j4 fun K hK => ?_) | (refine z5 fun K hK => ?_) | ((first | apply x5 | apply j5 | ((first | refine z3 (hK _ ?_) | refine x4 (hK _ _ z4 ?_));clear hK K));(first | show AWP _ _ _ _ _ | ((try simp only [x6]);first | show loopQ _ _ _ _ _ _ | show cutQ _ _ _ _ | show AWP _ _ _ _ _))) | ((first | refine x7 [] rfl ?_ | refine j7 [] rfl ?_);simp (disch:=omega) only [go_sem,seval,hd,cb,sz,ai];(repeat (first | refine ⟨by omega,?_⟩ | refine ⟨True.intro,?_⟩)))))
   refine ⟨⟨i + 1,by omega⟩,by simp only [];omega,?_⟩
   refine Weak.list ?_ ?_;(all_goals simp (disch:=omega) only [AllF,AllL,q10,z10,j9,exists_eq_left',go_sem,seval,hd,cb,sz,ai]);(all_goals (repeat' (with_reducible apply And.intro)));(all_goals try (first | exact q8 rfl | (refine x10 ?_;omega) | (refine q8 ?_;simp;done)))
   ·exact ⟨rfl,rfl,fun j hj => z97 (fun j => k.c.getLsbD j) _ i j hn hj (by simp [hac])⟩
   ·exact ⟨rfl,rfl,fun j hj => z97 (fun j => k.c.getLsbD j && k.v.getLsbD j) _ i j hn hj (by simp [hac,hav])⟩
 ·have h128 : i = 128 := by omega
  subst h128
  have hd1 := j68 (fun j => decide (127 - j < 128) && (k.c.getLsbD j && k.v.getLsbD j))
  have hd2 := j68 (fun j => decide (127 - j < 128) && k.c.getLsbD j)
  rw [x90 _ (k.v &&& k.c) (fun i hi => by rw [BitVec.getLsbD_and,decide_eq_true (show 127 - i < 128 from by omega),Bool.true_and,Bool.and_comm])] at hd1
  rw [x90 _ k.c (fun i hi => by rw [decide_eq_true (show 127 - i < 128 from by omega),Bool.true_and])] at hd2
  (repeat (first | apply j0 | refine j6 rfl ?_ | refine z7 rfl ?_ | apply z6 | (refine j4 fun K hK => ?_) | (refine z5 fun K hK => ?_) | ((first | apply x5 | apply j5 | ((first | refine z3 (hK _ ?_) | refine x4 (hK _ _ z4 ?_));clear hK K));(first | show AWP _ _ _ _ _ | ((try simp only [x6]);first | show loopQ _ _ _ _ _ _ | show cutQ _ _ _ _ | show AWP _ _ _ _ _))) | ((first | refine j8 rfl rfl rfl ?_ | refine q9 rfl rfl rfl ?_);simp (disch:=omega) only [go_sem,seval,hd,cb,sz];(first | refine ⟨_,hd1,?_⟩ | refine ⟨_,hd2,?_⟩)) | ((first | refine x7 [] rfl ?_ | refine j7 [] rfl ?_);simp (disch:=omega) only [go_sem,seval,hd,cb,sz];(repeat (first | refine ⟨by omega,?_⟩ | refine ⟨True.intro,?_⟩)))))
  refine x8 ⟨_,?_,rfl⟩;rw [Try.results63];simp (disch:=omega) only [ResVars,ResVar,ptrLoc,go_sem,seval,hd,cb,sz]
set_option maxRecDepth 100000 in
theorem z156 (r : Rule) (t : Int) (ps : List Port) (hl : ps.length ≤ 9223372036854775807) : ACalls Try.prog 115 [.agg (ruleD r),.d (.v (.int .i64 t)),.d (.sl 5 ps.length (rowP ps))] (· = [.d (.v (.bool (soundR r t ps)))]) := by
 have s1 := q40 r.mt
 have s2 := q40 r.st
 unfold soundR doesR portR
 obtain ⟨pr,mt,kd,pt,tb,st⟩ := r
 simp only [] at s1 s2 ⊢
 generalize (if mt.sound = true then txt mt else ⟨#[]⟩) = t1 at s1
 generalize (if st.sound = true then txt st else ⟨#[]⟩) = t2 at s2
 generalize mt.sound = c1 at s1
 generalize st.sound = c2 at s2
 cases c1
 ·simp only [Bool.and_false,Bool.false_and]
  refine q11 Try.func115 rfl (by decide +kernel) (by rw [Try.ntmps115];simp) ?_;rw [Try.ntmps115];simp only [frOf]
  (repeat (first | apply j0 | refine j6 rfl ?_ | refine z7 rfl ?_ | apply z6 | (refine j4 fun K hK => ?_) | (refine z5 fun K hK => ?_) | ((first | apply x5 | apply j5 | ((first | refine z3 (hK _ ?_) | refine x4 (hK _ _ z4 ?_));clear hK K));(first | show AWP _ _ _ _ _ | ((try simp only [x6]);first | show loopQ _ _ _ _ _ _ | show cutQ _ _ _ _ | show AWP _ _ _ _ _))) | ((first | refine j8 rfl rfl rfl ?_ | refine q9 rfl rfl rfl ?_);simp (disch:=omega) only [go_sem,seval,hd,cb,ruleD,portD,q12,j11];(first | refine ⟨_,s1,?_⟩ | refine ⟨_,s2,?_⟩)) | ((first | refine x7 [] rfl ?_ | refine j7 [] rfl ?_);simp (disch:=omega) only [go_sem,seval,hd,cb,ruleD,portD,q12,j11];(repeat (first | refine ⟨by omega,?_⟩ | refine ⟨True.intro,?_⟩)))))
  refine x8 ⟨_,?_,rfl⟩;rw [Try.results115];simp (disch:=omega) only [ResVars,ResVar,ptrLoc,go_sem,seval,hd,cb,ruleD,portD,q12,j11]
 ·cases c2
  ·simp only [Bool.and_false,Bool.false_and]
   refine q11 Try.func115 rfl (by decide +kernel) (by rw [Try.ntmps115];simp) ?_;rw [Try.ntmps115];simp only [frOf]
   (repeat (first | apply j0 | refine j6 rfl ?_ | refine z7 rfl ?_ | apply z6 | (refine j4 fun K hK => ?_) | (refine z5 fun K hK => ?_) | ((first | apply x5 | apply j5 | ((first | refine z3 (hK _ ?_) | refine x4 (hK _ _ z4 ?_));clear hK K));(first | show AWP _ _ _ _ _ | ((try simp only [x6]);first | show loopQ _ _ _ _ _ _ | show cutQ _ _ _ _ | show AWP _ _ _ _ _))) | ((first | refine j8 rfl rfl rfl ?_ | refine q9 rfl rfl rfl ?_);simp (disch:=omega) only [go_sem,seval,hd,cb,ruleD,portD,q12,j11];(first | refine ⟨_,s1,?_⟩ | refine ⟨_,s2,?_⟩)) | ((first | refine x7 [] rfl ?_ | refine j7 [] rfl ?_);simp (disch:=omega) only [go_sem,seval,hd,cb,ruleD,portD,q12,j11];(repeat (first | refine ⟨by omega,?_⟩ | refine ⟨True.intro,?_⟩)))))
   refine x8 ⟨_,?_,rfl⟩;rw [Try.results115];simp (disch:=omega) only [ResVars,ResVar,ptrLoc,go_sem,seval,hd,cb,ruleD,portD,q12,j11]
  ·by_cases h1 : 0 ≤ pr
   ·by_cases h2 : pr ≤ 1048576
    ·rw [decide_eq_true h1,decide_eq_true h2]
     simp only [Bool.and_true,Bool.true_and]
     by_cases k1 : kd = 1
     ·subst k1
      simp only [if_true]
      by_cases h3 : pt = 0
      ·subst h3
       simp only [beq_self_eq_true,Bool.true_and]
       refine q11 Try.func115 rfl (by decide +kernel) (by rw [Try.ntmps115];simp) ?_;rw [Try.ntmps115];simp only [frOf]
       (repeat (first | apply j0 | refine j6 rfl ?_ | refine z7 rfl ?_ | apply z6 | (refine j4 fun K hK => ?_) | (refine z5 fun K hK => ?_) | ((first | apply x5 | apply j5 | ((first | refine z3 (hK _ ?_) | refine x4 (hK _ _ z4 ?_));clear hK K));(first | show AWP _ _ _ _ _ | ((try simp only [x6]);first | show loopQ _ _ _ _ _ _ | show cutQ _ _ _ _ | show AWP _ _ _ _ _))) | ((first | refine j8 rfl rfl rfl ?_ | refine q9 rfl rfl rfl ?_);simp (disch:=omega) only [go_sem,seval,hd,cb,ruleD,portD,q12,j11];(first | refine ⟨_,s1,?_⟩ | refine ⟨_,s2,?_⟩)) | ((first | refine x7 [] rfl ?_ | refine j7 [] rfl ?_);simp (disch:=omega) only [go_sem,seval,hd,cb,ruleD,portD,q12,j11];(repeat (first | refine ⟨by omega,?_⟩ | refine ⟨True.intro,?_⟩)))))
       refine x8 ⟨_,?_,rfl⟩;rw [Try.results115];simp (disch:=omega) only [ResVars,ResVar,ptrLoc,go_sem,seval,hd,cb,ruleD,portD,q12,j11]
      ·have q : (pt == 0) = false := by simpa using h3
       rw [q]
       simp only [Bool.false_and]
       refine q11 Try.func115 rfl (by decide +kernel) (by rw [Try.ntmps115];simp) ?_;rw [Try.ntmps115];simp only [frOf]
       (repeat (first | apply j0 | refine j6 rfl ?_ | refine z7 rfl ?_ | apply z6 | (refine j4 fun K hK => ?_) | (refine z5 fun K hK => ?_) | ((first | apply x5 | apply j5 | ((first | refine z3 (hK _ ?_) | refine x4 (hK _ _ z4 ?_));clear hK K));(first | show AWP _ _ _ _ _ | ((try simp only [x6]);first | show loopQ _ _ _ _ _ _ | show cutQ _ _ _ _ | show AWP _ _ _ _ _))) | ((first | refine j8 rfl rfl rfl ?_ | refine q9 rfl rfl rfl ?_);simp (disch:=omega) only [go_sem,seval,hd,cb,ruleD,portD,q12,j11,q];(first | refine ⟨_,s1,?_⟩ | refine ⟨_,s2,?_⟩)) | ((first | refine x7 [] rfl ?_ | refine j7 [] rfl ?_);simp (disch:=omega) only [go_sem,seval,hd,cb,ruleD,portD,q12,j11,q];(repeat (first | refine ⟨by omega,?_⟩ | refine ⟨True.intro,?_⟩)))))
       refine x8 ⟨_,?_,rfl⟩;rw [Try.results115];simp (disch:=omega) only [ResVars,ResVar,ptrLoc,go_sem,seval,hd,cb,ruleD,portD,q12,j11,q]
     ·rw [if_neg k1]
      have q1 : (kd == 1) = false := by simpa using k1
      by_cases k4 : kd = 4
      ·subst k4
       simp only [show ((4 : Int) = 2) = False from by simp,show ((4 : Int) = 3) = False from by simp,if_false,if_true]
       by_cases h5 : pt = 0
       ·subst h5
        simp only [beq_self_eq_true,Bool.true_and]
        by_cases h6 : t < tb
        ·rw [decide_eq_true h6]
         simp only [Bool.true_and]
         refine q11 Try.func115 rfl (by decide +kernel) (by rw [Try.ntmps115];simp) ?_;rw [Try.ntmps115];simp only [frOf]
         (repeat (first | apply j0 | refine j6 rfl ?_ | refine z7 rfl ?_ | apply z6 | (refine j4 fun K hK => ?_) | (refine z5 fun K hK => ?_) | ((first | apply x5 | apply j5 | ((first | refine z3 (hK _ ?_) | refine x4 (hK _ _ z4 ?_));clear hK K));(first | show AWP _ _ _ _ _ | ((try simp only [x6]);first | show loopQ _ _ _ _ _ _ | show cutQ _ _ _ _ | show AWP _ _ _ _ _))) | ((first | refine j8 rfl rfl rfl ?_ | refine q9 rfl rfl rfl ?_);simp (disch:=omega) only [go_sem,seval,hd,cb,ruleD,portD,q12,j11];(first | refine ⟨_,s1,?_⟩ | refine ⟨_,s2,?_⟩)) | ((first | refine x7 [] rfl ?_ | refine j7 [] rfl ?_);simp (disch:=omega) only [go_sem,seval,hd,cb,ruleD,portD,q12,j11];(repeat (first | refine ⟨by omega,?_⟩ | refine ⟨True.intro,?_⟩)))))
         refine x8 ⟨_,?_,rfl⟩;rw [Try.results115];simp (disch:=omega) only [ResVars,ResVar,ptrLoc,go_sem,seval,hd,cb,ruleD,portD,q12,j11]
        ·rw [decide_eq_false h6]
         simp only [Bool.false_and]
         refine q11 Try.func115 rfl (by decide +kernel) (by rw [Try.ntmps115];simp) ?_;rw [Try.ntmps115];simp only [frOf]
         (repeat (first | apply j0 | refine j6 rfl ?_ | refine z7 rfl ?_ | apply z6 | (refine j4 fun K hK => ?_) | (refine z5 fun K hK => ?_) | ((first | apply x5 | apply j5 | ((first | refine z3 (hK _ ?_) | refine x4 (hK _ _ z4 ?_));clear hK K));(first | show AWP _ _ _ _ _ | ((try simp only [x6]);first | show loopQ _ _ _ _ _ _ | show cutQ _ _ _ _ | show AWP _ _ _ _ _))) | ((first | refine j8 rfl rfl rfl ?_ | refine q9 rfl rfl rfl ?_);simp (disch:=omega) only [go_sem,seval,hd,cb,ruleD,portD,q12,j11];(first | refine ⟨_,s1,?_⟩ | refine ⟨_,s2,?_⟩)) | ((first | refine x7 [] rfl ?_ | refine j7 [] rfl ?_);simp (disch:=omega) only [go_sem,seval,hd,cb,ruleD,portD,q12,j11];(repeat (first | refine ⟨by omega,?_⟩ | refine ⟨True.intro,?_⟩)))))
         refine x8 ⟨_,?_,rfl⟩;rw [Try.results115];simp (disch:=omega) only [ResVars,ResVar,ptrLoc,go_sem,seval,hd,cb,ruleD,portD,q12,j11]
       ·have q : (pt == 0) = false := by simpa using h5
        rw [q]
        simp only [Bool.false_and]
        refine q11 Try.func115 rfl (by decide +kernel) (by rw [Try.ntmps115];simp) ?_;rw [Try.ntmps115];simp only [frOf]
        (repeat (first | apply j0 | refine j6 rfl ?_ | refine z7 rfl ?_ | apply z6 | (refine j4 fun K hK => ?_) | (refine z5 fun K hK => ?_) | ((first | apply x5 | apply j5 | ((first | refine z3 (hK _ ?_) | refine x4 (hK _ _ z4 ?_));clear hK K));(first | show AWP _ _ _ _ _ | ((try simp only [x6]);first | show loopQ _ _ _ _ _ _ | show cutQ _ _ _ _ | show AWP _ _ _ _ _))) | ((first | refine j8 rfl rfl rfl ?_ | refine q9 rfl rfl rfl ?_);simp (disch:=omega) only [go_sem,seval,hd,cb,ruleD,portD,q12,j11,q];(first | refine ⟨_,s1,?_⟩ | refine ⟨_,s2,?_⟩)) | ((first | refine x7 [] rfl ?_ | refine j7 [] rfl ?_);simp (disch:=omega) only [go_sem,seval,hd,cb,ruleD,portD,q12,j11,q];(repeat (first | refine ⟨by omega,?_⟩ | refine ⟨True.intro,?_⟩)))))
        refine x8 ⟨_,?_,rfl⟩;rw [Try.results115];simp (disch:=omega) only [ResVars,ResVar,ptrLoc,go_sem,seval,hd,cb,ruleD,portD,q12,j11,q]
      ·have q4 : (kd == 4) = false := by simpa using k4
       by_cases hk : kd = 2 ∨ kd = 3
       ·have eq : (if kd = 2 then tb == 0 && decide (0 ≤ pt) && decide (pt < ps.length) && (ps.getD pt.toNat p0).kd == 1 else if kd = 3 then tb == 0 && decide (0 ≤ pt) && decide (pt < ps.length) && (ps.getD pt.toNat p0).kd == 2 else if kd = 4 then pt == 0 && decide (t < tb) && decide (tb < 3) else false) = (tb == 0 && decide (0 ≤ pt) && decide (pt < ps.length) && (ps.getD pt.toNat p0).kd == kd - 1) := by
         rcases hk with rfl | rfl <;> rfl
        rw [eq]
        by_cases h3 : tb = 0
        ·subst h3
         by_cases h4 : 0 ≤ pt
         ·obtain ⟨n,rfl⟩ := Int.eq_ofNat_of_zero_le h4
          by_cases h5 : n < ps.length
          ·have r1 := q22 ps n
           rw [decide_eq_true h4,decide_eq_true (show (n : Int) < ps.length by omega),Int.toNat_natCast]
           generalize ps.getD n p0 = p at r1
           simp only [beq_self_eq_true,Bool.true_and]
           rcases hk with rfl | rfl
           all_goals
            refine q11 Try.func115 rfl (by decide +kernel) (by rw [Try.ntmps115];simp) ?_;rw [Try.ntmps115];simp only [frOf]
            (repeat (first | apply j0 | refine j6 rfl ?_ | refine z7 rfl ?_ | apply z6 | (refine j4 fun K hK => ?_) | (refine z5 fun K hK => ?_) | ((first | apply x5 | apply j5 | ((first | refine z3 (hK _ ?_) | refine x4 (hK _ _ z4 ?_));clear hK K));(first | show AWP _ _ _ _ _ | ((try simp only [x6]);first | show loopQ _ _ _ _ _ _ | show cutQ _ _ _ _ | show AWP _ _ _ _ _))) | ((first | refine j8 rfl rfl rfl ?_ | refine q9 rfl rfl rfl ?_);simp (disch:=omega) only [go_sem,seval,hd,cb,ruleD,portD,q12,j11,r1];(first | refine ⟨_,s1,?_⟩ | refine ⟨_,s2,?_⟩)) | ((first | refine x7 [] rfl ?_ | refine j7 [] rfl ?_);simp (disch:=omega) only [go_sem,seval,hd,cb,ruleD,portD,q12,j11,r1];(repeat (first | refine ⟨by omega,?_⟩ | refine ⟨True.intro,?_⟩)))))
            refine x8 ⟨_,?_,rfl⟩;rw [Try.results115];simp (disch:=omega) only [ResVars,ResVar,ptrLoc,go_sem,seval,hd,cb,ruleD,portD,q12,j11,r1]
            try rfl
          ·rw [decide_eq_true h4,decide_eq_false (show ¬ (n : Int) < ps.length by omega)]
           simp only [Bool.and_false,Bool.false_and]
           rcases hk with rfl | rfl
           all_goals
            refine q11 Try.func115 rfl (by decide +kernel) (by rw [Try.ntmps115];simp) ?_;rw [Try.ntmps115];simp only [frOf]
            (repeat (first | apply j0 | refine j6 rfl ?_ | refine z7 rfl ?_ | apply z6 | (refine j4 fun K hK => ?_) | (refine z5 fun K hK => ?_) | ((first | apply x5 | apply j5 | ((first | refine z3 (hK _ ?_) | refine x4 (hK _ _ z4 ?_));clear hK K));(first | show AWP _ _ _ _ _ | ((try simp only [x6]);first | show loopQ _ _ _ _ _ _ | show cutQ _ _ _ _ | show AWP _ _ _ _ _))) | ((first | refine j8 rfl rfl rfl ?_ | refine q9 rfl rfl rfl ?_);simp (disch:=omega) only [go_sem,seval,hd,cb,ruleD,portD,q12,j11];(first | refine ⟨_,s1,?_⟩ | refine ⟨_,s2,?_⟩)) | ((first | refine x7 [] rfl ?_ | refine j7 [] rfl ?_);simp (disch:=omega) only [go_sem,seval,hd,cb,ruleD,portD,q12,j11];(repeat (first | refine ⟨by omega,?_⟩ | refine ⟨True.intro,?_⟩)))))
            refine x8 ⟨_,?_,rfl⟩;rw [Try.results115];simp (disch:=omega) only [ResVars,ResVar,ptrLoc,go_sem,seval,hd,cb,ruleD,portD,q12,j11]
         ·rw [decide_eq_false h4]
          simp only [Bool.and_false,Bool.false_and]
          rcases hk with rfl | rfl
          all_goals
           refine q11 Try.func115 rfl (by decide +kernel) (by rw [Try.ntmps115];simp) ?_;rw [Try.ntmps115];simp only [frOf]
           (repeat (first | apply j0 | refine j6 rfl ?_ | refine z7 rfl ?_ | apply z6 | (refine j4 fun K hK => ?_) | (refine z5 fun K hK => ?_) | ((first | apply x5 | apply j5 | ((first | refine z3 (hK _ ?_) | refine x4 (hK _ _ z4 ?_));clear hK K));(first | show AWP _ _ _ _ _ | ((try simp only [x6]);first | show loopQ _ _ _ _ _ _ | show cutQ _ _ _ _ | show AWP _ _ _ _ _))) | ((first | refine j8 rfl rfl rfl ?_ | refine q9 rfl rfl rfl ?_);simp (disch:=omega) only [go_sem,seval,hd,cb,ruleD,portD,q12,j11];(first | refine ⟨_,s1,?_⟩ | refine ⟨_,s2,?_⟩)) | ((first | refine x7 [] rfl ?_ | refine j7 [] rfl ?_);simp (disch:=omega) only [go_sem,seval,hd,cb,ruleD,portD,q12,j11];(repeat (first | refine ⟨by omega,?_⟩ | refine ⟨True.intro,?_⟩)))))
           refine x8 ⟨_,?_,rfl⟩;rw [Try.results115];simp (disch:=omega) only [ResVars,ResVar,ptrLoc,go_sem,seval,hd,cb,ruleD,portD,q12,j11]
        ·have q : (tb == 0) = false := by simpa using h3
         rw [q]
         simp only [Bool.false_and]
         rcases hk with rfl | rfl
         all_goals
          refine q11 Try.func115 rfl (by decide +kernel) (by rw [Try.ntmps115];simp) ?_;rw [Try.ntmps115];simp only [frOf]
          (repeat (first | apply j0 | refine j6 rfl ?_ | refine z7 rfl ?_ | apply z6 | (refine j4 fun K hK => ?_) | (refine z5 fun K hK => ?_) | ((first | apply x5 | apply j5 | ((first | refine z3 (hK _ ?_) | refine x4 (hK _ _ z4 ?_));clear hK K));(first | show AWP _ _ _ _ _ | ((try simp only [x6]);first | show loopQ _ _ _ _ _ _ | show cutQ _ _ _ _ | show AWP _ _ _ _ _))) | ((first | refine j8 rfl rfl rfl ?_ | refine q9 rfl rfl rfl ?_);simp (disch:=omega) only [go_sem,seval,hd,cb,ruleD,portD,q12,j11,q];(first | refine ⟨_,s1,?_⟩ | refine ⟨_,s2,?_⟩)) | ((first | refine x7 [] rfl ?_ | refine j7 [] rfl ?_);simp (disch:=omega) only [go_sem,seval,hd,cb,ruleD,portD,q12,j11,q];(repeat (first | refine ⟨by omega,?_⟩ | refine ⟨True.intro,?_⟩)))))
          refine x8 ⟨_,?_,rfl⟩;rw [Try.results115];simp (disch:=omega) only [ResVars,ResVar,ptrLoc,go_sem,seval,hd,cb,ruleD,portD,q12,j11,q]
       ·have q2 : (kd == 2) = false := by simp;omega
        have q3 : (kd == 3) = false := by simp;omega
        rw [if_neg (by omega),if_neg (by omega),if_neg k4]
        refine q11 Try.func115 rfl (by decide +kernel) (by rw [Try.ntmps115];simp) ?_;rw [Try.ntmps115];simp only [frOf]
        (repeat (first | apply j0 | refine j6 rfl ?_ | refine z7 rfl ?_ | apply z6 | (refine j4 fun K hK => ?_) | (refine z5 fun K hK => ?_) | ((first | apply x5 | apply j5 | ((first | refine z3 (hK _ ?_) | refine x4 (hK _ _ z4 ?_));clear hK K));(first | show AWP _ _ _ _ _ | ((try simp only [x6]);first | show loopQ _ _ _ _ _ _ | show cutQ _ _ _ _ | show AWP _ _ _ _ _))) | ((first | refine j8 rfl rfl rfl ?_ | refine q9 rfl rfl rfl ?_);simp (disch:=omega) only [go_sem,seval,hd,cb,ruleD,portD,q12,j11,q1,q2,q3,q4];(first | refine ⟨_,s1,?_⟩ | refine ⟨_,s2,?_⟩)) | ((first | refine x7 [] rfl ?_ | refine j7 [] rfl ?_);simp (disch:=omega) only [go_sem,seval,hd,cb,ruleD,portD,q12,j11,q1,q2,q3,q4];(repeat (first | refine ⟨by omega,?_⟩ | refine ⟨True.intro,?_⟩)))))
        refine x8 ⟨_,?_,rfl⟩;rw [Try.results115];simp (disch:=omega) only [ResVars,ResVar,ptrLoc,go_sem,seval,hd,cb,ruleD,portD,q12,j11,q1,q2,q3,q4]
    ·rw [decide_eq_true h1,decide_eq_false h2]
     simp only [Bool.and_false,Bool.false_and]
     refine q11 Try.func115 rfl (by decide +kernel) (by rw [Try.ntmps115];simp) ?_;rw [Try.ntmps115];simp only [frOf]
     (repeat (first | apply j0 | refine j6 rfl ?_ | refine z7 rfl ?_ | apply z6 | (refine j4 fun K hK => ?_) | (refine z5 fun K hK => ?_) | ((first | apply x5 | apply j5 | ((first | refine z3 (hK _ ?_) | refine x4 (hK _ _ z4 ?_));clear hK K));(first | show AWP _ _ _ _ _ | ((try simp only [x6]);first | show loopQ _ _ _ _ _ _ | show cutQ _ _ _ _ | show AWP _ _ _ _ _))) | ((first | refine j8 rfl rfl rfl ?_ | refine q9 rfl rfl rfl ?_);simp (disch:=omega) only [go_sem,seval,hd,cb,ruleD,portD,q12,j11];(first | refine ⟨_,s1,?_⟩ | refine ⟨_,s2,?_⟩)) | ((first | refine x7 [] rfl ?_ | refine j7 [] rfl ?_);simp (disch:=omega) only [go_sem,seval,hd,cb,ruleD,portD,q12,j11];(repeat (first | refine ⟨by omega,?_⟩ | refine ⟨True.intro,?_⟩)))))
     refine x8 ⟨_,?_,rfl⟩;rw [Try.results115];simp (disch:=omega) only [ResVars,ResVar,ptrLoc,go_sem,seval,hd,cb,ruleD,portD,q12,j11]
   ·rw [decide_eq_false h1]
    simp only [Bool.and_false,Bool.false_and]
    refine q11 Try.func115 rfl (by decide +kernel) (by rw [Try.ntmps115];simp) ?_;rw [Try.ntmps115];simp only [frOf]
    (repeat (first | apply j0 | refine j6 rfl ?_ | refine z7 rfl ?_ | apply z6 | (refine j4 fun K hK => ?_) | (refine z5 fun K hK => ?_) | ((first | apply x5 | apply j5 | ((first | refine z3 (hK _ ?_) | refine x4 (hK _ _ z4 ?_));clear hK K));(first | show AWP _ _ _ _ _ | ((try simp only [x6]);first | show loopQ _ _ _ _ _ _ | show cutQ _ _ _ _ | show AWP _ _ _ _ _))) | ((first | refine j8 rfl rfl rfl ?_ | refine q9 rfl rfl rfl ?_);simp (disch:=omega) only [go_sem,seval,hd,cb,ruleD,portD,q12,j11];(first | refine ⟨_,s1,?_⟩ | refine ⟨_,s2,?_⟩)) | ((first | refine x7 [] rfl ?_ | refine j7 [] rfl ?_);simp (disch:=omega) only [go_sem,seval,hd,cb,ruleD,portD,q12,j11];(repeat (first | refine ⟨by omega,?_⟩ | refine ⟨True.intro,?_⟩)))))
    refine x8 ⟨_,?_,rfl⟩;rw [Try.results115];simp (disch:=omega) only [ResVars,ResVar,ptrLoc,go_sem,seval,hd,cb,ruleD,portD,q12,j11]
def rowRR (l : List (List Rule)) : Nat → List Dat := fun i => [.sl 12 (l.getD i []).length (rowR (l.getD i []))]
theorem x32 (l : List (List Rule)) (i : Nat) : rowRR l i = [.sl 12 (l.getD i []).length (rowR (l.getD i []))] := rfl
def smallR (t : List (List Rule)) : Prop := t.length ≤ 1048576 ∧ ∀ l ∈ t,l.length ≤ 1048576
theorem j52 {t : List (List Rule)} (h : smallR t) (i : Nat) : (t.getD i []).length ≤ 1048576 := by
 by_cases hi : i < t.length
 ·exact h.2 _ (q23 hi [])
 ·rw [List.getD_eq_getElem?_getD,List.getElem?_eq_none (by omega)];simp
def sumR (ts : List (List Rule)) : Nat → Nat
 | 0 => 0
 | i + 1 => sumR ts i + (ts.getD i []).length
theorem z69 {ts : List (List Rule)} (h : smallR ts) : ∀ i,sumR ts i ≤ i * 1048576
 | 0 => Nat.le_refl _
 |i + 1 => by
  have h1 := z69 h i
  have h2 := j52 h i
  unfold sumR
  omega
def ruleOk (ts : List (List Rule)) (ps : List Port) (i k : Nat) : Bool := soundR ((ts.getD i []).getD k r0) i ps && decide (((ts.getD i []).getD k r0).tb < ts.length)
def tabOk (ts : List (List Rule)) (ps : List Port) (i : Nat) : Bool := allF (ruleOk ts ps i) (ts.getD i []).length 0
def soundTab (ts : List (List Rule)) (ps : List Port) : Int := if ts.length = 0 ∨ 3 < ts.length then 4 else if 96 < sumR ts ts.length then 12 else if allF (tabOk ts ps) ts.length 0 = true then 0 else 2
def tabI (ts : List (List Rule)) (ps : List Port) (i : Fin (ts.length + 1)) : ASt :=
 ⟨[(22,.p (.d (.v (.int .i64 (i.val : Int))))),(21,.p (.d (.v (.int .i64 (ts.length : Int))))),(20,.p (.d (.sl 1 ts.length (rowRR ts)))),(5,.p (.d (.v (.int .i64 (sumR ts i.val : Int))))),(1,.p (.d (.sl 5 ps.length (rowP ps)))),(0,.p (.d (.sl 1 ts.length (rowRR ts))))],[]⟩
def tabJ (ts : List (List Rule)) (ps : List Port) (R : Int) (s : {i : Nat // i ≤ ts.length ∧ (if allF (tabOk ts ps) ts.length i = true then 0 else 2) = R}) : ASt :=
 ⟨[(35,.p (.d (.v (.int .i64 (s.val : Int))))),(34,.p (.d (.v (.int .i64 (ts.length : Int))))),(33,.p (.d (.sl 1 ts.length (rowRR ts)))),(1,.p (.d (.sl 5 ps.length (rowP ps)))),(0,.p (.d (.sl 1 ts.length (rowRR ts))))],[]⟩
def tabK (ts : List (List Rule)) (ps : List Port) (R : Int) (i : Nat) (l : List Rule) (s : {k : Nat // k ≤ l.length ∧ (if (allF (ruleOk ts ps i) l.length k && allF (tabOk ts ps) ts.length (i + 1)) = true then 0 else 2) = R}) : ASt :=
 ⟨[(42,.p (.d (.v (.int .i64 (s.val : Int))))),(41,.p (.d (.v (.int .i64 (l.length : Int))))),(40,.p (.d (.sl 12 l.length (rowR l)))),(35,.p (.d (.v (.int .i64 (i : Int))))),(34,.p (.d (.v (.int .i64 (ts.length : Int))))),(33,.p (.d (.sl 1 ts.length (rowRR ts)))),(8,.p (.d (.v (.int .i64 (i : Int))))),(1,.p (.d (.sl 5 ps.length (rowP ps)))),(0,.p (.d (.sl 1 ts.length (rowRR ts))))],[]⟩
set_option maxRecDepth 100000 in
theorem x156 (ts : List (List Rule)) (ps : List Port) (ht : smallR ts) (hp : ps.length ≤ 1048576) : ACalls Try.prog 82 [.d (.sl 1 ts.length (rowRR ts)),.d (.sl 5 ps.length (rowP ps))] (· = [.d (.v (.int .i64 (soundTab ts ps)))]) := by
 have hs := j52 ht
 have hsum := z69 ht
 have ht1 := ht.1
 unfold soundTab
 by_cases h0 : ts.length = 0
 ·rw [if_pos (.inl h0)]
  have q : ((ts.length : Int) == 0) = true := z13 (by omega)
  refine q11 Try.func82 rfl (by decide +kernel) (by rw [Try.ntmps82];simp) ?_;rw [Try.ntmps82];simp only [frOf]
  (repeat (first | apply j0 | refine j6 rfl ?_ | refine z7 rfl ?_ | apply z6 | (refine j4 fun K hK => ?_) | (refine z5 fun K hK => ?_) | ((first | apply x5 | apply j5 | ((first | refine z3 (hK _ ?_) | refine x4 (hK _ _ z4 ?_));clear hK K));(first | show AWP _ _ _ _ _ | ((try simp only [x6]);first | show loopQ _ _ _ _ _ _ | show cutQ _ _ _ _ | show AWP _ _ _ _ _))) | ((first | refine x7 [] rfl ?_ | refine j7 [] rfl ?_);simp (disch:=omega) only [go_sem,seval,hd,cb,ruleD,portD,q];(repeat (first | refine ⟨by omega,?_⟩ | refine ⟨True.intro,?_⟩)))))
  refine x8 ⟨_,?_,rfl⟩;rw [Try.results82];simp (disch:=omega) only [ResVars,ResVar,ptrLoc,go_sem,seval,hd,cb,ruleD,portD,q]
 ·have q : ((ts.length : Int) == 0) = false := q13 (by omega)
  by_cases h3 : 3 < ts.length
  ·rw [if_pos (.inr h3)]
   refine q11 Try.func82 rfl (by decide +kernel) (by rw [Try.ntmps82];simp) ?_;rw [Try.ntmps82];simp only [frOf]
   (repeat (first | apply j0 | refine j6 rfl ?_ | refine z7 rfl ?_ | apply z6 | (refine j4 fun K hK => ?_) | (refine z5 fun K hK => ?_) | ((first | apply x5 | apply j5 | ((first | refine z3 (hK _ ?_) | refine x4 (hK _ _ z4 ?_));clear hK K));(first | show AWP _ _ _ _ _ | ((try simp only [x6]);first | show loopQ _ _ _ _ _ _ | show cutQ _ _ _ _ | show AWP _ _ _ _ _))) | ((first | refine x7 [] rfl ?_ | refine j7 [] rfl ?_);simp (disch:=omega) only [go_sem,seval,hd,cb,ruleD,portD,q];(repeat (first | refine ⟨by omega,?_⟩ | refine ⟨True.intro,?_⟩)))))
   refine x8 ⟨_,?_,rfl⟩;rw [Try.results82];simp (disch:=omega) only [ResVars,ResVar,ptrLoc,go_sem,seval,hd,cb,ruleD,portD,q]
  ·rw [if_neg (by omega)]
   generalize hR : (if allF (tabOk ts ps) ts.length 0 = true then (0 : Int) else 2) = R
   refine q11 Try.func82 rfl (by decide +kernel) (by rw [Try.ntmps82];simp) ?_;rw [Try.ntmps82];simp only [frOf]
   (repeat (first | apply j0 | refine j6 rfl ?_ | refine z7 rfl ?_ | apply z6 | (refine j4 fun K hK => ?_) | (refine z5 fun K hK => ?_) | ((first | apply x5 | apply j5 | ((first | refine z3 (hK _ ?_) | refine x4 (hK _ _ z4 ?_));clear hK K));(first | show AWP _ _ _ _ _ | ((try simp only [x6]);first | show loopQ _ _ _ _ _ _ | show cutQ _ _ _ _ | show AWP _ _ _ _ _))) | ((first | refine x7 [] rfl ?_ | refine j7 [] rfl ?_);simp (disch:=omega) only [go_sem,seval,hd,cb,ruleD,portD,q];(repeat (first | refine ⟨by omega,?_⟩ | refine ⟨True.intro,?_⟩)))))
   refine x12 (tabI ts ps) (fun s => ts.length - s.val) ⟨0,by omega⟩ ?_ (fun s => ?_)
   ·unfold tabI
    refine Weak.list ?_ ?_;(all_goals simp (disch:=omega) only [AllF,AllL,q10,z10,j9,exists_eq_left',go_sem,seval,hd,cb,ruleD,portD]);(all_goals (repeat' (with_reducible apply And.intro)));(all_goals try (first | exact q8 rfl | (refine x10 ?_;omega) | (refine q8 ?_;simp;done)))
   obtain ⟨i,hi⟩ := s
   unfold tabI
   have b1 := hsum i
   by_cases h : i < ts.length
   ·have st : sumR ts (i + 1) = sumR ts i + (ts.getD i []).length := rfl
    have r1 := x32 ts i
    have l1 := hs i
    generalize ts.getD i [] = l at r1 st l1
    (repeat (first | apply j0 | refine j6 rfl ?_ | refine z7 rfl ?_ | apply z6 | (refine j4 fun K hK => ?_) | (refine z5 fun K hK => ?_) | ((first | apply x5 | apply j5 | ((first | refine z3 (hK _ ?_) | refine x4 (hK _ _ z4 ?_));clear hK K));(first | show AWP _ _ _ _ _ | ((try simp only [x6]);first | show loopQ _ _ _ _ _ _ | show cutQ _ _ _ _ | show AWP _ _ _ _ _))) | ((first | refine x7 [] rfl ?_ | refine j7 [] rfl ?_);simp (disch:=omega) only [go_sem,seval,hd,cb,ruleD,portD,r1];(repeat (first | refine ⟨by omega,?_⟩ | refine ⟨True.intro,?_⟩)))))
    refine ⟨⟨i + 1,by omega⟩,by simp only [];omega,?_⟩
    simp only [st]
    refine Weak.list ?_ ?_;(all_goals simp (disch:=omega) only [AllF,AllL,q10,z10,j9,exists_eq_left',go_sem,seval,hd,cb,ruleD,portD,r1]);(all_goals (repeat' (with_reducible apply And.intro)));(all_goals try (first | exact q8 rfl | (refine x10 ?_;omega) | (refine q8 ?_;simp;done)))
   ·have e : i = ts.length := by omega
    subst e
    by_cases h96 : 96 < sumR ts ts.length
    ·rw [if_pos h96]
     (repeat (first | apply j0 | refine j6 rfl ?_ | refine z7 rfl ?_ | apply z6 | (refine j4 fun K hK => ?_) | (refine z5 fun K hK => ?_) | ((first | apply x5 | apply j5 | ((first | refine z3 (hK _ ?_) | refine x4 (hK _ _ z4 ?_));clear hK K));(first | show AWP _ _ _ _ _ | ((try simp only [x6]);first | show loopQ _ _ _ _ _ _ | show cutQ _ _ _ _ | show AWP _ _ _ _ _))) | ((first | refine x7 [] rfl ?_ | refine j7 [] rfl ?_);simp (disch:=omega) only [go_sem,seval,hd,cb,ruleD,portD];(repeat (first | refine ⟨by omega,?_⟩ | refine ⟨True.intro,?_⟩)))))
     refine x8 ⟨_,?_,rfl⟩;rw [Try.results82];simp (disch:=omega) only [ResVars,ResVar,ptrLoc,go_sem,seval,hd,cb,ruleD,portD]
    ·rw [if_neg h96]
     (repeat (first | apply j0 | refine j6 rfl ?_ | refine z7 rfl ?_ | apply z6 | (refine j4 fun K hK => ?_) | (refine z5 fun K hK => ?_) | ((first | apply x5 | apply j5 | ((first | refine z3 (hK _ ?_) | refine x4 (hK _ _ z4 ?_));clear hK K));(first | show AWP _ _ _ _ _ | ((try simp only [x6]);first | show loopQ _ _ _ _ _ _ | show cutQ _ _ _ _ | show AWP _ _ _ _ _))) | ((first | refine x7 [] rfl ?_ | refine j7 [] rfl ?_);simp (disch:=omega) only [go_sem,seval,hd,cb,ruleD,portD];(repeat (first | refine ⟨by omega,?_⟩ | refine ⟨True.intro,?_⟩)))))
     refine x12 (tabJ ts ps R) (fun s => ts.length - s.val) ⟨0,Nat.zero_le _,hR⟩ ?_ (fun s => ?_)
     ·unfold tabJ
      refine Weak.list ?_ ?_;(all_goals simp (disch:=omega) only [AllF,AllL,q10,z10,j9,exists_eq_left',go_sem,seval,hd,cb,ruleD,portD]);(all_goals (repeat' (with_reducible apply And.intro)));(all_goals try (first | exact q8 rfl | (refine x10 ?_;omega) | (refine q8 ?_;simp;done)))
     clear hi h b1
     obtain ⟨i,hi,hr⟩ := s
     unfold tabJ
     simp only [] at hi hr ⊢
     by_cases h : i < ts.length
     ·rw [z18 h] at hr
      have hq : tabOk ts ps i = allF (ruleOk ts ps i) (ts.getD i []).length 0 := rfl
      rw [hq] at hr
      have hk0 : ∀ k,ruleOk ts ps i k = (soundR ((ts.getD i []).getD k r0) i ps && decide (((ts.getD i []).getD k r0).tb < ts.length)) := fun k => rfl
      have r1 := x32 ts i
      have l1 := hs i
      generalize ts.getD i [] = l at r1 hr l1 hk0
      (repeat (first | apply j0 | refine j6 rfl ?_ | refine z7 rfl ?_ | apply z6 | (refine j4 fun K hK => ?_) | (refine z5 fun K hK => ?_) | ((first | apply x5 | apply j5 | ((first | refine z3 (hK _ ?_) | refine x4 (hK _ _ z4 ?_));clear hK K));(first | show AWP _ _ _ _ _ | ((try simp only [x6]);first | show loopQ _ _ _ _ _ _ | show cutQ _ _ _ _ | show AWP _ _ _ _ _))) | ((first | refine x7 [] rfl ?_ | refine j7 [] rfl ?_);simp (disch:=omega) only [go_sem,seval,hd,cb,ruleD,portD,r1];(repeat (first | refine ⟨by omega,?_⟩ | refine ⟨True.intro,?_⟩)))))
      refine x12 (tabK ts ps R i l) (fun s => l.length - s.val) ⟨0,Nat.zero_le _,hr⟩ ?_ (fun s => ?_)
      ·unfold tabK
       refine Weak.list ?_ ?_;(all_goals simp (disch:=omega) only [AllF,AllL,q10,z10,j9,exists_eq_left',go_sem,seval,hd,cb,ruleD,portD]);(all_goals (repeat' (with_reducible apply And.intro)));(all_goals try (first | exact q8 rfl | (refine x10 ?_;omega) | (refine q8 ?_;simp;done)))
      clear hr
      obtain ⟨k,hk,hr⟩ := s
      unfold tabK
      simp only [] at hk hr ⊢
      by_cases h2 : k < l.length
      ·rw [z18 h2,hk0 k] at hr
       have r2 := j38 l k
       generalize l.getD k r0 = x at hr r2
       have c := x153 x i ps (by omega)
       generalize soundR x i ps = b at hr c
       cases b
       ·simp only [Bool.false_and,Bool.false_eq_true,if_false] at hr
        subst hr
        (repeat (first | apply j0 | refine j6 rfl ?_ | refine z7 rfl ?_ | apply z6 | (refine j4 fun K hK => ?_) | (refine z5 fun K hK => ?_) | ((first | apply x5 | apply j5 | ((first | refine z3 (hK _ ?_) | refine x4 (hK _ _ z4 ?_));clear hK K));(first | show AWP _ _ _ _ _ | ((try simp only [x6]);first | show loopQ _ _ _ _ _ _ | show cutQ _ _ _ _ | show AWP _ _ _ _ _))) | ((first | refine j8 rfl rfl rfl ?_ | refine q9 rfl rfl rfl ?_);simp (disch:=omega) only [go_sem,seval,hd,cb,ruleD,portD,r2];(first | refine ⟨_,c,?_⟩)) | ((first | refine x7 [] rfl ?_ | refine j7 [] rfl ?_);simp (disch:=omega) only [go_sem,seval,hd,cb,ruleD,portD,r2];(repeat (first | refine ⟨by omega,?_⟩ | refine ⟨True.intro,?_⟩)))))
        refine x8 ⟨_,?_,rfl⟩;rw [Try.results82];simp (disch:=omega) only [ResVars,ResVar,ptrLoc,go_sem,seval,hd,cb,ruleD,portD,r2]
       ·rw [Bool.true_and] at hr
        by_cases h5 : x.tb < ts.length
        ·rw [decide_eq_true h5,Bool.true_and] at hr
         (repeat (first | apply j0 | refine j6 rfl ?_ | refine z7 rfl ?_ | apply z6 | (refine j4 fun K hK => ?_) | (refine z5 fun K hK => ?_) | ((first | apply x5 | apply j5 | ((first | refine z3 (hK _ ?_) | refine x4 (hK _ _ z4 ?_));clear hK K));(first | show AWP _ _ _ _ _ | ((try simp only [x6]);first | show loopQ _ _ _ _ _ _ | show cutQ _ _ _ _ | show AWP _ _ _ _ _))) | ((first | refine j8 rfl rfl rfl ?_ | refine q9 rfl rfl rfl ?_);simp (disch:=omega) only [go_sem,seval,hd,cb,ruleD,portD,r2];(first | refine ⟨_,c,?_⟩)) | ((first | refine x7 [] rfl ?_ | refine j7 [] rfl ?_);simp (disch:=omega) only [go_sem,seval,hd,cb,ruleD,portD,r2];(repeat (first | refine ⟨by omega,?_⟩ | refine ⟨True.intro,?_⟩)))))
         refine ⟨⟨k + 1,by omega,hr⟩,by simp only [];omega,?_⟩
         refine Weak.list ?_ ?_;(all_goals simp (disch:=omega) only [AllF,AllL,q10,z10,j9,exists_eq_left',go_sem,seval,hd,cb,ruleD,portD,r2]);(all_goals (repeat' (with_reducible apply And.intro)));(all_goals try (first | exact q8 rfl | (refine x10 ?_;omega) | (refine q8 ?_;simp;done)))
        ·rw [decide_eq_false h5] at hr
         simp only [Bool.false_and,Bool.false_eq_true,if_false] at hr
         subst hr
         (repeat (first | apply j0 | refine j6 rfl ?_ | refine z7 rfl ?_ | apply z6 | (refine j4 fun K hK => ?_) | (refine z5 fun K hK => ?_) | ((first | apply x5 | apply j5 | ((first | refine z3 (hK _ ?_) | refine x4 (hK _ _ z4 ?_));clear hK K));(first | show AWP _ _ _ _ _ | ((try simp only [x6]);first | show loopQ _ _ _ _ _ _ | show cutQ _ _ _ _ | show AWP _ _ _ _ _))) | ((first | refine j8 rfl rfl rfl ?_ | refine q9 rfl rfl rfl ?_);simp (disch:=omega) only [go_sem,seval,hd,cb,ruleD,portD,r2];(first | refine ⟨_,c,?_⟩)) | ((first | refine x7 [] rfl ?_ | refine j7 [] rfl ?_);simp (disch:=omega) only [go_sem,seval,hd,cb,ruleD,portD,r2];(repeat (first | refine ⟨by omega,?_⟩ | refine ⟨True.intro,?_⟩)))))
         refine x8 ⟨_,?_,rfl⟩;rw [Try.results82];simp (disch:=omega) only [ResVars,ResVar,ptrLoc,go_sem,seval,hd,cb,ruleD,portD,r2]
      ·rw [x18 (show l.length ≤ k by omega),Bool.true_and] at hr
       (repeat (first | apply j0 | refine j6 rfl ?_ | refine z7 rfl ?_ | apply z6 | (refine j4 fun K hK => ?_) | (refine z5 fun K hK => ?_) | ((first | apply x5 | apply j5 | ((first | refine z3 (hK _ ?_) | refine x4 (hK _ _ z4 ?_));clear hK K));(first | show AWP _ _ _ _ _ | ((try simp only [x6]);first | show loopQ _ _ _ _ _ _ | show cutQ _ _ _ _ | show AWP _ _ _ _ _))) | ((first | refine x7 [] rfl ?_ | refine j7 [] rfl ?_);simp (disch:=omega) only [go_sem,seval,hd,cb,ruleD,portD];(repeat (first | refine ⟨by omega,?_⟩ | refine ⟨True.intro,?_⟩)))))
       refine ⟨⟨i + 1,by omega,hr⟩,by simp only [];omega,?_⟩
       refine Weak.list ?_ ?_;(all_goals simp (disch:=omega) only [AllF,AllL,q10,z10,j9,exists_eq_left',go_sem,seval,hd,cb,ruleD,portD]);(all_goals (repeat' (with_reducible apply And.intro)));(all_goals try (first | exact q8 rfl | (refine x10 ?_;omega) | (refine q8 ?_;simp;done)))
     ·rw [x18 (by omega),if_pos rfl] at hr
      subst hr
      (repeat (first | apply j0 | refine j6 rfl ?_ | refine z7 rfl ?_ | apply z6 | (refine j4 fun K hK => ?_) | (refine z5 fun K hK => ?_) | ((first | apply x5 | apply j5 | ((first | refine z3 (hK _ ?_) | refine x4 (hK _ _ z4 ?_));clear hK K));(first | show AWP _ _ _ _ _ | ((try simp only [x6]);first | show loopQ _ _ _ _ _ _ | show cutQ _ _ _ _ | show AWP _ _ _ _ _))) | ((first | refine x7 [] rfl ?_ | refine j7 [] rfl ?_);simp (disch:=omega) only [go_sem,seval,hd,cb,ruleD,portD];(repeat (first | refine ⟨by omega,?_⟩ | refine ⟨True.intro,?_⟩)))))
      refine x8 ⟨_,?_,rfl⟩;rw [Try.results82];simp (disch:=omega) only [ResVars,ResVar,ptrLoc,go_sem,seval,hd,cb,ruleD,portD]
def tabRI (ts : List (List Rule)) (ps : List Port) (i : Fin (ts.length + 1)) : ASt :=
 ⟨[(6,.p (.d (.v (.int .i64 (i.val : Int))))),(5,.p (.d (.v (.int .i64 (sumR ts i.val : Int))))),(1,.p (.d (.sl 5 ps.length (rowP ps)))),(0,.p (.d (.sl 1 ts.length (rowRR ts))))],[]⟩
def tabRJ (ts : List (List Rule)) (ps : List Port) (R : Int) (s : {i : Nat // i ≤ ts.length ∧ (if allF (tabOk ts ps) ts.length i = true then 0 else 2) = R}) : ASt :=
 ⟨[(7,.p (.d (.v (.int .i64 (s.val : Int))))),(1,.p (.d (.sl 5 ps.length (rowP ps)))),(0,.p (.d (.sl 1 ts.length (rowRR ts))))],[]⟩
def tabRK (ts : List (List Rule)) (ps : List Port) (R : Int) (i : Nat) (l : List Rule) (s : {k : Nat // k ≤ l.length ∧ (if (allF (ruleOk ts ps i) l.length k && allF (tabOk ts ps) ts.length (i + 1)) = true then 0 else 2) = R}) : ASt :=
 ⟨[(8,.p (.d (.v (.int .i64 (s.val : Int))))),(7,.p (.d (.v (.int .i64 (i : Int))))),(1,.p (.d (.sl 5 ps.length (rowP ps)))),(0,.p (.d (.sl 1 ts.length (rowRR ts))))],[]⟩
set_option maxRecDepth 100000 in
theorem j156 (ts : List (List Rule)) (ps : List Port) (ht : smallR ts) (hp : ps.length ≤ 1048576) : ACalls Try.prog 87 [.d (.sl 1 ts.length (rowRR ts)),.d (.sl 5 ps.length (rowP ps))] (· = [.d (.v (.int .i64 (soundTab ts ps)))]) := by
 have hs := j52 ht
 have hsum := z69 ht
 have ht1 := ht.1
 unfold soundTab
 by_cases h0 : ts.length = 0
 ·rw [if_pos (.inl h0)]
  refine q11 Try.func87 rfl (by decide +kernel) (by rw [Try.ntmps87];simp) ?_;rw [Try.ntmps87];simp only [frOf]
  (repeat (first | apply j0 | refine j6 rfl ?_ | refine z7 rfl ?_ | apply z6 | (refine j4 fun K hK => ?_) | (refine z5 fun K hK => ?_) | ((first | apply x5 | apply j5 | ((first | refine z3 (hK _ ?_) | refine x4 (hK _ _ z4 ?_));clear hK K));(first | show AWP _ _ _ _ _ | ((try simp only [x6]);first | show loopQ _ _ _ _ _ _ | show cutQ _ _ _ _ | show AWP _ _ _ _ _))) | ((first | refine x7 [] rfl ?_ | refine j7 [] rfl ?_);simp (disch:=omega) only [go_sem,seval,hd,cb,ruleD,portD];(repeat (first | refine ⟨by omega,?_⟩ | refine ⟨True.intro,?_⟩)))))
  refine x8 ⟨_,?_,rfl⟩;rw [Try.results87];simp (disch:=omega) only [ResVars,ResVar,ptrLoc,go_sem,seval,hd,cb,ruleD,portD]
 ·by_cases h3 : 3 < ts.length
  ·rw [if_pos (.inr h3)]
   refine q11 Try.func87 rfl (by decide +kernel) (by rw [Try.ntmps87];simp) ?_;rw [Try.ntmps87];simp only [frOf]
   (repeat (first | apply j0 | refine j6 rfl ?_ | refine z7 rfl ?_ | apply z6 | (refine j4 fun K hK => ?_) | (refine z5 fun K hK => ?_) | ((first | apply x5 | apply j5 | ((first | refine z3 (hK _ ?_) | refine x4 (hK _ _ z4 ?_));clear hK K));(first | show AWP _ _ _ _ _ | ((try simp only [x6]);first | show loopQ _ _ _ _ _ _ | show cutQ _ _ _ _ | show AWP _ _ _ _ _))) | ((first | refine x7 [] rfl ?_ | refine j7 [] rfl ?_);simp (disch:=omega) only [go_sem,seval,hd,cb,ruleD,portD];(repeat (first | refine ⟨by omega,?_⟩ | refine ⟨True.intro,?_⟩)))))
   refine x8 ⟨_,?_,rfl⟩;rw [Try.results87];simp (disch:=omega) only [ResVars,ResVar,ptrLoc,go_sem,seval,hd,cb,ruleD,portD]
  ·rw [if_neg (by omega)]
   generalize hR : (if allF (tabOk ts ps) ts.length 0 = true then (0 : Int) else 2) = R
   refine q11 Try.func87 rfl (by decide +kernel) (by rw [Try.ntmps87];simp) ?_;rw [Try.ntmps87];simp only [frOf]
   (repeat (first | apply j0 | refine j6 rfl ?_ | refine z7 rfl ?_ | apply z6 | (refine j4 fun K hK => ?_) | (refine z5 fun K hK => ?_) | ((first | apply x5 | apply j5 | ((first | refine z3 (hK _ ?_) | refine x4 (hK _ _ z4 ?_));clear hK K));(first | show AWP _ _ _ _ _ | ((try simp only [x6]);first | show loopQ _ _ _ _ _ _ | show cutQ _ _ _ _ | show AWP _ _ _ _ _))) | ((first | refine x7 [] rfl ?_ | refine j7 [] rfl ?_);simp (disch:=omega) only [go_sem,seval,hd,cb,ruleD,portD];(repeat (first | refine ⟨by omega,?_⟩ | refine ⟨True.intro,?_⟩)))))
   refine x12 (tabRI ts ps) (fun s => ts.length - s.val) ⟨0,by omega⟩ ?_ (fun s => ?_)
   ·unfold tabRI
    refine Weak.list ?_ ?_;(all_goals simp (disch:=omega) only [AllF,AllL,q10,z10,j9,exists_eq_left',go_sem,seval,hd,cb,ruleD,portD]);(all_goals (repeat' (with_reducible apply And.intro)));(all_goals try (first | exact q8 rfl | (refine x10 ?_;omega) | (refine q8 ?_;simp;done)))
   obtain ⟨i,hi⟩ := s
   unfold tabRI
   have b1 := hsum i
   by_cases h : i < ts.length
   ·have st : sumR ts (i + 1) = sumR ts i + (ts.getD i []).length := rfl
    have r1 := x32 ts i
    have l1 := hs i
    generalize ts.getD i [] = l at r1 st l1
    (repeat (first | apply j0 | refine j6 rfl ?_ | refine z7 rfl ?_ | apply z6 | (refine j4 fun K hK => ?_) | (refine z5 fun K hK => ?_) | ((first | apply x5 | apply j5 | ((first | refine z3 (hK _ ?_) | refine x4 (hK _ _ z4 ?_));clear hK K));(first | show AWP _ _ _ _ _ | ((try simp only [x6]);first | show loopQ _ _ _ _ _ _ | show cutQ _ _ _ _ | show AWP _ _ _ _ _))) | ((first | refine x7 [] rfl ?_ | refine j7 [] rfl ?_);simp (disch:=omega) only [go_sem,seval,hd,cb,ruleD,portD,r1];(repeat (first | refine ⟨by omega,?_⟩ | refine ⟨True.intro,?_⟩)))))
    refine ⟨⟨i + 1,by omega⟩,by simp only [];omega,?_⟩
    simp only [st]
    refine Weak.list ?_ ?_;(all_goals simp (disch:=omega) only [AllF,AllL,q10,z10,j9,exists_eq_left',go_sem,seval,hd,cb,ruleD,portD,r1]);(all_goals (repeat' (with_reducible apply And.intro)));(all_goals try (first | exact q8 rfl | (refine x10 ?_;omega) | (refine q8 ?_;simp;done)))
   ·have e : i = ts.length := by omega
    subst e
    by_cases h96 : 96 < sumR ts ts.length
    ·rw [if_pos h96]
     (repeat (first | apply j0 | refine j6 rfl ?_ | refine z7 rfl ?_ | apply z6 | (refine j4 fun K hK => ?_) | (refine z5 fun K hK => ?_) | ((first | apply x5 | apply j5 | ((first | refine z3 (hK _ ?_) | refine x4 (hK _ _ z4 ?_));clear hK K));(first | show AWP _ _ _ _ _ | ((try simp only [x6]);first | show loopQ _ _ _ _ _ _ | show cutQ _ _ _ _ | show AWP _ _ _ _ _))) | ((first | refine x7 [] rfl ?_ | refine j7 [] rfl ?_);simp (disch:=omega) only [go_sem,seval,hd,cb,ruleD,portD];(repeat (first | refine ⟨by omega,?_⟩ | refine ⟨True.intro,?_⟩)))))
     refine x8 ⟨_,?_,rfl⟩;rw [Try.results87];simp (disch:=omega) only [ResVars,ResVar,ptrLoc,go_sem,seval,hd,cb,ruleD,portD]
    ·rw [if_neg h96]
     (repeat (first | apply j0 | refine j6 rfl ?_ | refine z7 rfl ?_ | apply z6 | (refine j4 fun K hK => ?_) | (refine z5 fun K hK => ?_) | ((first | apply x5 | apply j5 | ((first | refine z3 (hK _ ?_) | refine x4 (hK _ _ z4 ?_));clear hK K));(first | show AWP _ _ _ _ _ | ((try simp only [x6]);first | show loopQ _ _ _ _ _ _ | show cutQ _ _ _ _ | show AWP _ _ _ _ _))) | ((first | refine x7 [] rfl ?_ | refine j7 [] rfl ?_);simp (disch:=omega) only [go_sem,seval,hd,cb,ruleD,portD];(repeat (first | refine ⟨by omega,?_⟩ | refine ⟨True.intro,?_⟩)))))
     refine x12 (tabRJ ts ps R) (fun s => ts.length - s.val) ⟨0,Nat.zero_le _,hR⟩ ?_ (fun s => ?_)
     ·unfold tabRJ
      refine Weak.list ?_ ?_;(all_goals simp (disch:=omega) only [AllF,AllL,q10,z10,j9,exists_eq_left',go_sem,seval,hd,cb,ruleD,portD]);(all_goals (repeat' (with_reducible apply And.intro)));(all_goals try (first | exact q8 rfl | (refine x10 ?_;omega) | (refine q8 ?_;simp;done)))
     clear hi h b1
     obtain ⟨i,hi,hr⟩ := s
     unfold tabRJ
     simp only [] at hi hr ⊢
     by_cases h : i < ts.length
     ·rw [z18 h] at hr
      have hq : tabOk ts ps i = allF (ruleOk ts ps i) (ts.getD i []).length 0 := rfl
      rw [hq] at hr
      have hk0 : ∀ k,ruleOk ts ps i k = (soundR ((ts.getD i []).getD k r0) i ps && decide (((ts.getD i []).getD k r0).tb < ts.length)) := fun k => rfl
      have r1 := x32 ts i
      have l1 := hs i
      generalize ts.getD i [] = l at r1 hr l1 hk0
      (repeat (first | apply j0 | refine j6 rfl ?_ | refine z7 rfl ?_ | apply z6 | (refine j4 fun K hK => ?_) | (refine z5 fun K hK => ?_) | ((first | apply x5 | apply j5 | ((first | refine z3 (hK _ ?_) | refine x4 (hK _ _ z4 ?_));clear hK K));(first | show AWP _ _ _ _ _ | ((try simp only [x6]);first | show loopQ _ _ _ _ _ _ | show cutQ _ _ _ _ | show AWP _ _ _ _ _))) | ((first | refine x7 [] rfl ?_ | refine j7 [] rfl ?_);simp (disch:=omega) only [go_sem,seval,hd,cb,ruleD,portD];(repeat (first | refine ⟨by omega,?_⟩ | refine ⟨True.intro,?_⟩)))))
      refine x12 (tabRK ts ps R i l) (fun s => l.length - s.val) ⟨0,Nat.zero_le _,hr⟩ ?_ (fun s => ?_)
      ·unfold tabRK
       refine Weak.list ?_ ?_;(all_goals simp (disch:=omega) only [AllF,AllL,q10,z10,j9,exists_eq_left',go_sem,seval,hd,cb,ruleD,portD]);(all_goals (repeat' (with_reducible apply And.intro)));(all_goals try (first | exact q8 rfl | (refine x10 ?_;omega) | (refine q8 ?_;simp;done)))
      clear hr
      obtain ⟨k,hk,hr⟩ := s
      unfold tabRK
      simp only [] at hk hr ⊢
      by_cases h2 : k < l.length
      ·rw [z18 h2,hk0 k] at hr
       have r2 := j38 l k
       generalize l.getD k r0 = x at hr r2
       have c := z156 x i ps (by omega)
       generalize soundR x i ps = b at hr c
       cases b
       ·simp only [Bool.false_and,Bool.false_eq_true,if_false] at hr
        subst hr
        (repeat (first | apply j0 | refine j6 rfl ?_ | refine z7 rfl ?_ | apply z6 | (refine j4 fun K hK => ?_) | (refine z5 fun K hK => ?_) | ((first | apply x5 | apply j5 | ((first | refine z3 (hK _ ?_) | refine x4 (hK _ _ z4 ?_));clear hK K));(first | show AWP _ _ _ _ _ | ((try simp only [x6]);first | show loopQ _ _ _ _ _ _ | show cutQ _ _ _ _ | show AWP _ _ _ _ _))) | ((first | refine j8 rfl rfl rfl ?_ | refine q9 rfl rfl rfl ?_);simp (disch:=omega) only [go_sem,seval,hd,cb,ruleD,portD,r1,r2];(first | refine ⟨_,c,?_⟩)) | ((first | refine x7 [] rfl ?_ | refine j7 [] rfl ?_);simp (disch:=omega) only [go_sem,seval,hd,cb,ruleD,portD,r1,r2];(repeat (first | refine ⟨by omega,?_⟩ | refine ⟨True.intro,?_⟩)))))
        refine x8 ⟨_,?_,rfl⟩;rw [Try.results87];simp (disch:=omega) only [ResVars,ResVar,ptrLoc,go_sem,seval,hd,cb,ruleD,portD,r1,r2]
       ·rw [Bool.true_and] at hr
        by_cases h5 : x.tb < ts.length
        ·rw [decide_eq_true h5,Bool.true_and] at hr
         (repeat (first | apply j0 | refine j6 rfl ?_ | refine z7 rfl ?_ | apply z6 | (refine j4 fun K hK => ?_) | (refine z5 fun K hK => ?_) | ((first | apply x5 | apply j5 | ((first | refine z3 (hK _ ?_) | refine x4 (hK _ _ z4 ?_));clear hK K));(first | show AWP _ _ _ _ _ | ((try simp only [x6]);first | show loopQ _ _ _ _ _ _ | show cutQ _ _ _ _ | show AWP _ _ _ _ _))) | ((first | refine j8 rfl rfl rfl ?_ | refine q9 rfl rfl rfl ?_);simp (disch:=omega) only [go_sem,seval,hd,cb,ruleD,portD,r1,r2];(first | refine ⟨_,c,?_⟩)) | ((first | refine x7 [] rfl ?_ | refine j7 [] rfl ?_);simp (disch:=omega) only [go_sem,seval,hd,cb,ruleD,portD,r1,r2];(repeat (first | refine ⟨by omega,?_⟩ | refine ⟨True.intro,?_⟩)))))
         refine ⟨⟨k + 1,by omega,hr⟩,by simp only [];omega,?_⟩
         refine Weak.list ?_ ?_;(all_goals simp (disch:=omega) only [AllF,AllL,q10,z10,j9,exists_eq_left',go_sem,seval,hd,cb,ruleD,portD,r1,r2]);(all_goals (repeat' (with_reducible apply And.intro)));(all_goals try (first | exact q8 rfl | (refine x10 ?_;omega) | (refine q8 ?_;simp;done)))
        ·rw [decide_eq_false h5] at hr
         simp only [Bool.false_and,Bool.false_eq_true,if_false] at hr
         subst hr
         (repeat (first | apply j0 | refine j6 rfl ?_ | refine z7 rfl ?_ | apply z6 | (refine j4 fun K hK => ?_) | (refine z5 fun K hK => ?_) | ((first | apply x5 | apply j5 | ((first | refine z3 (hK _ ?_) | refine x4 (hK _ _ z4 ?_));clear hK K));(first | show AWP _ _ _ _ _ | ((try simp only [x6]);first | show loopQ _ _ _ _ _ _ | show cutQ _ _ _ _ | show AWP _ _ _ _ _))) | ((first | refine j8 rfl rfl rfl ?_ | refine q9 rfl rfl rfl ?_);simp (disch:=omega) only [go_sem,seval,hd,cb,ruleD,portD,r1,r2];(first | refine ⟨_,c,?_⟩)) | ((first | refine x7 [] rfl ?_ | refine j7 [] rfl ?_);simp (disch:=omega) only [go_sem,seval,hd,cb,ruleD,portD,r1,r2];(repeat (first | refine ⟨by omega,?_⟩ | refine ⟨True.intro,?_⟩)))))
         refine x8 ⟨_,?_,rfl⟩;rw [Try.results87];simp (disch:=omega) only [ResVars,ResVar,ptrLoc,go_sem,seval,hd,cb,ruleD,portD,r1,r2]
      ·rw [x18 (show l.length ≤ k by omega),Bool.true_and] at hr
       (repeat (first | apply j0 | refine j6 rfl ?_ | refine z7 rfl ?_ | apply z6 | (refine j4 fun K hK => ?_) | (refine z5 fun K hK => ?_) | ((first | apply x5 | apply j5 | ((first | refine z3 (hK _ ?_) | refine x4 (hK _ _ z4 ?_));clear hK K));(first | show AWP _ _ _ _ _ | ((try simp only [x6]);first | show loopQ _ _ _ _ _ _ | show cutQ _ _ _ _ | show AWP _ _ _ _ _))) | ((first | refine x7 [] rfl ?_ | refine j7 [] rfl ?_);simp (disch:=omega) only [go_sem,seval,hd,cb,ruleD,portD,r1];(repeat (first | refine ⟨by omega,?_⟩ | refine ⟨True.intro,?_⟩)))))
       refine ⟨⟨i + 1,by omega,hr⟩,by simp only [];omega,?_⟩
       refine Weak.list ?_ ?_;(all_goals simp (disch:=omega) only [AllF,AllL,q10,z10,j9,exists_eq_left',go_sem,seval,hd,cb,ruleD,portD,r1]);(all_goals (repeat' (with_reducible apply And.intro)));(all_goals try (first | exact q8 rfl | (refine x10 ?_;omega) | (refine q8 ?_;simp;done)))
     ·rw [x18 (by omega),if_pos rfl] at hr
      subst hr
      (repeat (first | apply j0 | refine j6 rfl ?_ | refine z7 rfl ?_ | apply z6 | (refine j4 fun K hK => ?_) | (refine z5 fun K hK => ?_) | ((first | apply x5 | apply j5 | ((first | refine z3 (hK _ ?_) | refine x4 (hK _ _ z4 ?_));clear hK K));(first | show AWP _ _ _ _ _ | ((try simp only [x6]);first | show loopQ _ _ _ _ _ _ | show cutQ _ _ _ _ | show AWP _ _ _ _ _))) | ((first | refine x7 [] rfl ?_ | refine j7 [] rfl ?_);simp (disch:=omega) only [go_sem,seval,hd,cb,ruleD,portD];(repeat (first | refine ⟨by omega,?_⟩ | refine ⟨True.intro,?_⟩)))))
      refine x8 ⟨_,?_,rfl⟩;rw [Try.results87];simp (disch:=omega) only [ResVars,ResVar,ptrLoc,go_sem,seval,hd,cb,ruleD,portD]
def rowTT (l : List (List (List Rule))) : Nat → List Dat := fun i => [.sl 1 (l.getD i []).length (rowRR (l.getD i []))]
theorem q53 (l : List (List (List Rule))) (i : Nat) : rowTT l i = [.sl 1 (l.getD i []).length (rowRR (l.getD i []))] := rfl
structure Config where
 tp : List (List Port)
 po : Policy
 tb : List (List (List Rule))
def configD (c : Config) : List Dat := [.sl 1 c.tp.length (rowPP c.tp),.v (.int .i64 c.po.tn),.sl 2 c.po.peers.length (rowA c.po.peers),.sl 3 c.po.ways.length (rowW c.po.ways),.sl 1 c.tb.length (rowTT c.tb)]
structure Config.small (c : Config) : Prop where
 tp : Go.Proofs.Ytbamjcnhmmgnlaa.small c.tp
 po : c.po.small
 tb : c.tb.length ≤ 1048576
 tabs : ∀ t ∈ c.tb,smallR t
theorem q157 : smallR [] := ⟨by simp,fun l h => by simp at h⟩
theorem Config.small.at {c : Config} (h : c.small) (i : Nat) : smallR (c.tb.getD i []) := by
 by_cases hi : i < c.tb.length
 ·exact h.tabs _ (q23 hi [])
 ·rw [List.getD_eq_getElem?_getD,List.getElem?_eq_none (by omega)];exact q157
theorem x69 {t : List (List Port)} {s : Spot} (h : s ∈ edgesT t) : ∃ i j : Nat,s = ⟨i,j⟩ ∧ i < t.length ∧ j < (t.getD i []).length ∧ edgeT t s = ((t.getD i []).getD j p0).tn := by
 obtain ⟨i,j,h1,h2,h3,rfl⟩ := q68.1 h
 refine ⟨i,j,rfl,h1,h2,?_⟩
 unfold edgeT
 rw [if_neg (by simp only [];omega),if_neg (by simp only [Int.toNat_natCast];omega),if_pos (by simp only [Int.toNat_natCast];exact h3)]
 simp only [Int.toNat_natCast]
def edgeOk (c : Config) (i : Nat) : Bool := tenantP c.po (edgeT c.tp ((edgesT c.tp).getD i s0))
def sizesB (c : Config) : Bool := allF (edgeOk c) (edgesT c.tp).length 0
def sizesC (c : Config) : Bool := if c.po.tn < 1 ∨ 4 < c.po.tn ∨ 16 < c.po.peers.length ∨ 4 < c.po.ways.length then false else sizesB c
theorem x97 (tn : Int) (a b : Nat) : tn < 1 ∨ (¬ tn < 1 ∧ 4 < tn) ∨ (¬ tn < 1 ∧ ¬ 4 < tn ∧ 16 < a) ∨ (¬ tn < 1 ∧ ¬ 4 < tn ∧ ¬ 16 < a ∧ 4 < b) ∨ (¬ tn < 1 ∧ ¬ 4 < tn ∧ ¬ 16 < a ∧ ¬ 4 < b) := by omega
def sizesI (c : Config) (l : List Spot) (R : Bool) (s : {i : Nat // i ≤ l.length ∧ allF (edgeOk c) l.length i = R}) : ASt :=
 ⟨[(32,.p (.d (.v (.int .i64 (s.val : Int))))),(31,.p (.d (.v (.int .i64 (l.length : Int))))),(30,.p (.d (.sl 2 l.length (rowS l)))),(3,.loc 3 0),(1,.p (.d (.bx (configD c))))],
  [(3,.cells 60 [.p (.d (.v (.int .i64 c.po.tn))),.p (.d (.sl 2 c.po.peers.length (rowA c.po.peers))),.p (.d (.sl 3 c.po.ways.length (rowW c.po.ways)))])]⟩
set_option maxRecDepth 100000 in
theorem sizes_c (c : Config) (hc : c.small) : ACalls Try.prog 80 [.agg (configD c)] (· = [.d (.v (.bool (sizesC c)))]) := by
 have hp := hc.po
 have hl1 := hp.1
 have hl2 := hp.2
 have ed := z68 c.tp hc.tp
 have eb := q27 hc.tp c.tp.length
 have et := hc.tp.1
 rw [show edgesTo c.tp c.tp.length = edgesT c.tp from rfl] at eb
 unfold sizesC
 simp only [topoD] at ed
 rcases x97 c.po.tn c.po.peers.length c.po.ways.length with h1 | ⟨h1,h2⟩ | ⟨h1,h2,h3⟩ | ⟨h1,h2,h3,h4⟩ | ⟨h1,h2,h3,h4⟩
 case' inr.inr.inr.inr =>
  rw [if_neg (by omega)]
  unfold sizesB
  have hin := fun i (h : i < (edgesT c.tp).length) => x69 (q23 h s0)
  have hok : ∀ i,edgeOk c i = tenantP c.po (edgeT c.tp ((edgesT c.tp).getD i s0)) := fun i => rfl
  generalize edgesT c.tp = l at ed eb hin hok
  generalize hR : allF (edgeOk c) l.length 0 = R
  refine q11 Try.func80 rfl (by decide +kernel) (by rw [Try.ntmps80];simp) ?_;rw [Try.ntmps80];simp only [frOf]
  (repeat (first | apply j0 | refine j6 rfl ?_ | refine z7 rfl ?_ | apply z6 | (refine j4 fun K hK => ?_) | (refine z5 fun K hK => ?_) | ((first | apply x5 | apply j5 | ((first | refine z3 (hK _ ?_) | refine x4 (hK _ _ z4 ?_));clear hK K));(first | show AWP _ _ _ _ _ | ((try simp only [x6]);first | show loopQ _ _ _ _ _ _ | show cutQ _ _ _ _ | show AWP _ _ _ _ _))) | ((first | refine j8 rfl rfl rfl ?_ | refine q9 rfl rfl rfl ?_);simp (disch:=omega) only [go_sem,seval,policyD,wayD,pairD,spotD,topoD,configD,j10];(first | refine ⟨_,ed,?_⟩)) | ((first | refine x7 [] rfl ?_ | refine j7 [] rfl ?_);simp (disch:=omega) only [go_sem,seval,policyD,wayD,pairD,spotD,topoD,configD,j10];(repeat (first | refine ⟨by omega,?_⟩ | refine ⟨True.intro,?_⟩)))))
  refine x12 (sizesI c l R) (fun s => l.length - s.val) ⟨0,Nat.zero_le _,hR⟩ ?_ (fun s => ?_)
  ·unfold sizesI
   refine Weak.list ?_ ?_;(all_goals simp (disch:=omega) only [AllF,AllL,q10,z10,j9,exists_eq_left',go_sem,seval,policyD,wayD,pairD,spotD,topoD,configD,j10]);(all_goals (repeat' (with_reducible apply And.intro)));(all_goals try (first | exact q8 rfl | (refine x10 ?_;omega) | (refine q8 ?_;simp;done)))
  obtain ⟨i,hi,hr⟩ := s
  unfold sizesI
  simp only [] at hi hr ⊢
  by_cases h : i < l.length
  ·rw [z18 h,hok] at hr
   have r1 := z39 l i
   obtain ⟨n,k,e1,e2,e3,e4⟩ := hin i h
   rw [e4] at hr
   rw [e1] at r1
   simp only [spotD] at r1
   have r2 := q19 c.tp n
   have r3 := q22 (c.tp.getD n []) k
   have l1 := q20 hc.tp n
   generalize c.tp.getD n [] = ps at r2 r3 e3 hr l1
   generalize ps.getD k p0 = p at r3 hr
   obtain ⟨kd,tn,pe,at',co⟩ := p
   simp only [portD] at r3
   simp only [] at hr
   have ct := x39 c.po tn
   simp only [policyD] at ct
   generalize tenantP c.po tn = b at hr ct
   cases b
   ·rw [Bool.false_and] at hr
    subst hr
    (repeat (first | apply j0 | refine j6 rfl ?_ | refine z7 rfl ?_ | apply z6 | (refine j4 fun K hK => ?_) | (refine z5 fun K hK => ?_) | ((first | apply x5 | apply j5 | ((first | refine z3 (hK _ ?_) | refine x4 (hK _ _ z4 ?_));clear hK K));(first | show AWP _ _ _ _ _ | ((try simp only [x6]);first | show loopQ _ _ _ _ _ _ | show cutQ _ _ _ _ | show AWP _ _ _ _ _))) | ((first | refine j8 rfl rfl rfl ?_ | refine q9 rfl rfl rfl ?_);simp (disch:=omega) only [go_sem,seval,policyD,wayD,pairD,spotD,topoD,configD,j10,r1,r2,r3];(first | refine ⟨_,ct,?_⟩)) | ((first | refine x7 [] rfl ?_ | refine j7 [] rfl ?_);simp (disch:=omega) only [go_sem,seval,policyD,wayD,pairD,spotD,topoD,configD,j10,r1,r2,r3];(repeat (first | refine ⟨by omega,?_⟩ | refine ⟨True.intro,?_⟩)))))
    refine x8 ⟨_,?_,rfl⟩;rw [Try.results80];simp (disch:=omega) only [ResVars,ResVar,ptrLoc,go_sem,seval,policyD,wayD,pairD,spotD,topoD,configD,j10,r1,r2,r3]
   ·rw [Bool.true_and] at hr
    (repeat (first | apply j0 | refine j6 rfl ?_ | refine z7 rfl ?_ | apply z6 | (refine j4 fun K hK => ?_) | (refine z5 fun K hK => ?_) | ((first | apply x5 | apply j5 | ((first | refine z3 (hK _ ?_) | refine x4 (hK _ _ z4 ?_));clear hK K));(first | show AWP _ _ _ _ _ | ((try simp only [x6]);first | show loopQ _ _ _ _ _ _ | show cutQ _ _ _ _ | show AWP _ _ _ _ _))) | ((first | refine j8 rfl rfl rfl ?_ | refine q9 rfl rfl rfl ?_);simp (disch:=omega) only [go_sem,seval,policyD,wayD,pairD,spotD,topoD,configD,j10,r1,r2,r3];(first | refine ⟨_,ct,?_⟩)) | ((first | refine x7 [] rfl ?_ | refine j7 [] rfl ?_);simp (disch:=omega) only [go_sem,seval,policyD,wayD,pairD,spotD,topoD,configD,j10,r1,r2,r3];(repeat (first | refine ⟨by omega,?_⟩ | refine ⟨True.intro,?_⟩)))))
    refine ⟨⟨i + 1,by omega,hr⟩,by simp only [];omega,?_⟩
    refine Weak.list ?_ ?_;(all_goals simp (disch:=omega) only [AllF,AllL,q10,z10,j9,exists_eq_left',go_sem,seval,policyD,wayD,pairD,spotD,topoD,configD,j10,r1,r2,r3]);(all_goals (repeat' (with_reducible apply And.intro)));(all_goals try (first | exact q8 rfl | (refine x10 ?_;omega) | (refine q8 ?_;simp;done)))
  ·rw [x18 (by omega)] at hr
   subst hr
   (repeat (first | apply j0 | refine j6 rfl ?_ | refine z7 rfl ?_ | apply z6 | (refine j4 fun K hK => ?_) | (refine z5 fun K hK => ?_) | ((first | apply x5 | apply j5 | ((first | refine z3 (hK _ ?_) | refine x4 (hK _ _ z4 ?_));clear hK K));(first | show AWP _ _ _ _ _ | ((try simp only [x6]);first | show loopQ _ _ _ _ _ _ | show cutQ _ _ _ _ | show AWP _ _ _ _ _))) | ((first | refine x7 [] rfl ?_ | refine j7 [] rfl ?_);simp (disch:=omega) only [go_sem,seval,policyD,wayD,pairD,spotD,topoD,configD,j10];(repeat (first | refine ⟨by omega,?_⟩ | refine ⟨True.intro,?_⟩)))))
   refine x8 ⟨_,?_,rfl⟩;rw [Try.results80];simp (disch:=omega) only [ResVars,ResVar,ptrLoc,go_sem,seval,policyD,wayD,pairD,spotD,topoD,configD,j10]
 all_goals
  rw [if_pos (by omega)]
  refine q11 Try.func80 rfl (by decide +kernel) (by rw [Try.ntmps80];simp) ?_;rw [Try.ntmps80];simp only [frOf]
  (repeat (first | apply j0 | refine j6 rfl ?_ | refine z7 rfl ?_ | apply z6 | (refine j4 fun K hK => ?_) | (refine z5 fun K hK => ?_) | ((first | apply x5 | apply j5 | ((first | refine z3 (hK _ ?_) | refine x4 (hK _ _ z4 ?_));clear hK K));(first | show AWP _ _ _ _ _ | ((try simp only [x6]);first | show loopQ _ _ _ _ _ _ | show cutQ _ _ _ _ | show AWP _ _ _ _ _))) | ((first | refine x7 [] rfl ?_ | refine j7 [] rfl ?_);simp (disch:=omega) only [go_sem,seval,policyD,wayD,pairD,spotD,topoD,configD,j10];(repeat (first | refine ⟨by omega,?_⟩ | refine ⟨True.intro,?_⟩)))))
  refine x8 ⟨_,?_,rfl⟩;rw [Try.results80];simp (disch:=omega) only [ResVars,ResVar,ptrLoc,go_sem,seval,policyD,wayD,pairD,spotD,topoD,configD,j10]
def pairOk (c : Config) (i : Nat) : Bool := tenantP c.po (c.po.peers.getD i (0,0)).1 && tenantP c.po (c.po.peers.getD i (0,0)).2
def wayOk (c : Config) (i : Nat) : Bool := tenantP c.po (c.po.ways.getD i w0).fr && tenantP c.po (c.po.ways.getD i w0).to && decide (0 ≤ (c.po.ways.getD i w0).via) && decide ((c.po.ways.getD i w0).via < c.tp.length)
def policyC (c : Config) : Bool := allF (pairOk c) c.po.peers.length 0 && allF (wayOk c) c.po.ways.length 0
def polyI (c : Config) (R : Bool) (s : {i : Nat // i ≤ c.po.peers.length ∧ (allF (pairOk c) c.po.peers.length i && allF (wayOk c) c.po.ways.length 0) = R}) : ASt :=
 ⟨[(13,.p (.d (.v (.int .i64 (s.val : Int))))),(12,.p (.d (.v (.int .i64 (c.po.peers.length : Int))))),(11,.p (.d (.sl 2 c.po.peers.length (rowA c.po.peers)))),(3,.loc 3 0),(1,.p (.d (.bx (configD c))))],
  [(3,.cells 60 [.p (.d (.v (.int .i64 c.po.tn))),.p (.d (.sl 2 c.po.peers.length (rowA c.po.peers))),.p (.d (.sl 3 c.po.ways.length (rowW c.po.ways)))])]⟩
def polyJ (c : Config) (R : Bool) (s : {i : Nat // i ≤ c.po.ways.length ∧ allF (wayOk c) c.po.ways.length i = R}) : ASt :=
 ⟨[(33,.p (.d (.v (.int .i64 (s.val : Int))))),(32,.p (.d (.v (.int .i64 (c.po.ways.length : Int))))),(31,.p (.d (.sl 3 c.po.ways.length (rowW c.po.ways)))),(3,.loc 3 0),(1,.p (.d (.bx (configD c))))],
  [(3,.cells 60 [.p (.d (.v (.int .i64 c.po.tn))),.p (.d (.sl 2 c.po.peers.length (rowA c.po.peers))),.p (.d (.sl 3 c.po.ways.length (rowW c.po.ways)))])]⟩
set_option maxRecDepth 100000 in
theorem z157 (c : Config) (hc : c.small) : ACalls Try.prog 81 [.agg (configD c)] (· = [.d (.v (.bool (policyC c)))]) := by
 have hl1 := hc.po.1
 have hl2 := hc.po.2
 have et := hc.tp.1
 unfold policyC
 generalize hR : (allF (pairOk c) c.po.peers.length 0 && allF (wayOk c) c.po.ways.length 0) = R
 refine q11 Try.func81 rfl (by decide +kernel) (by rw [Try.ntmps81];simp) ?_;rw [Try.ntmps81];simp only [frOf]
 (repeat (first | apply j0 | refine j6 rfl ?_ | refine z7 rfl ?_ | apply z6 | (refine j4 fun K hK => ?_) | (refine z5 fun K hK => ?_) | ((first | apply x5 | apply j5 | ((first | refine z3 (hK _ ?_) | refine x4 (hK _ _ z4 ?_));clear hK K));(first | show AWP _ _ _ _ _ | ((try simp only [x6]);first | show loopQ _ _ _ _ _ _ | show cutQ _ _ _ _ | show AWP _ _ _ _ _))) | ((first | refine x7 [] rfl ?_ | refine j7 [] rfl ?_);simp (disch:=omega) only [go_sem,seval,policyD,wayD,pairD,spotD,topoD,configD,j10];(repeat (first | refine ⟨by omega,?_⟩ | refine ⟨True.intro,?_⟩)))))
 refine x12 (polyI c R) (fun s => c.po.peers.length - s.val) ⟨0,Nat.zero_le _,hR⟩ ?_ (fun s => ?_)
 ·unfold polyI
  refine Weak.list ?_ ?_;(all_goals simp (disch:=omega) only [AllF,AllL,q10,z10,j9,exists_eq_left',go_sem,seval,policyD,wayD,pairD,spotD,topoD,configD,j10]);(all_goals (repeat' (with_reducible apply And.intro)));(all_goals try (first | exact q8 rfl | (refine x10 ?_;omega) | (refine q8 ?_;simp;done)))
 obtain ⟨i,hi,hr⟩ := s
 unfold polyI
 simp only [] at hi hr ⊢
 by_cases h : i < c.po.peers.length
 ·have hok : pairOk c i = (tenantP c.po (c.po.peers.getD i (0,0)).1 && tenantP c.po (c.po.peers.getD i (0,0)).2) := rfl
  rw [z18 h,hok] at hr
  have r1 := x96 c.po.peers i
  generalize c.po.peers.getD i (0,0) = x at r1 hr
  obtain ⟨x1,x2⟩ := x
  simp only [pairD] at r1
  simp only [] at hr
  have c1 := x39 c.po x1
  have c2 := x39 c.po x2
  simp only [policyD] at c1 c2
  generalize tenantP c.po x1 = b1 at c1 hr
  generalize tenantP c.po x2 = b2 at c2 hr
  cases b1
  ·simp only [Bool.false_and] at hr
   subst hr
   (repeat (first | apply j0 | refine j6 rfl ?_ | refine z7 rfl ?_ | apply z6 | (refine j4 fun K hK => ?_) | (refine z5 fun K hK => ?_) | ((first | apply x5 | apply j5 | ((first | refine z3 (hK _ ?_) | refine x4 (hK _ _ z4 ?_));clear hK K));(first | show AWP _ _ _ _ _ | ((try simp only [x6]);first | show loopQ _ _ _ _ _ _ | show cutQ _ _ _ _ | show AWP _ _ _ _ _))) | ((first | refine j8 rfl rfl rfl ?_ | refine q9 rfl rfl rfl ?_);simp (disch:=omega) only [go_sem,seval,policyD,wayD,pairD,spotD,topoD,configD,j10,r1];(first | refine ⟨_,c1,?_⟩)) | ((first | refine x7 [] rfl ?_ | refine j7 [] rfl ?_);simp (disch:=omega) only [go_sem,seval,policyD,wayD,pairD,spotD,topoD,configD,j10,r1];(repeat (first | refine ⟨by omega,?_⟩ | refine ⟨True.intro,?_⟩)))))
   refine x8 ⟨_,?_,rfl⟩;rw [Try.results81];simp (disch:=omega) only [ResVars,ResVar,ptrLoc,go_sem,seval,policyD,wayD,pairD,spotD,topoD,configD,j10,r1]
  ·cases b2
   ·simp only [Bool.true_and,Bool.false_and] at hr
    subst hr
    (repeat (first | apply j0 | refine j6 rfl ?_ | refine z7 rfl ?_ | apply z6 | (refine j4 fun K hK => ?_) | (refine z5 fun K hK => ?_) | ((first | apply x5 | apply j5 | ((first | refine z3 (hK _ ?_) | refine x4 (hK _ _ z4 ?_));clear hK K));(first | show AWP _ _ _ _ _ | ((try simp only [x6]);first | show loopQ _ _ _ _ _ _ | show cutQ _ _ _ _ | show AWP _ _ _ _ _))) | ((first | refine j8 rfl rfl rfl ?_ | refine q9 rfl rfl rfl ?_);simp (disch:=omega) only [go_sem,seval,policyD,wayD,pairD,spotD,topoD,configD,j10,r1];(first | refine ⟨_,c1,?_⟩ | refine ⟨_,c2,?_⟩)) | ((first | refine x7 [] rfl ?_ | refine j7 [] rfl ?_);simp (disch:=omega) only [go_sem,seval,policyD,wayD,pairD,spotD,topoD,configD,j10,r1];(repeat (first | refine ⟨by omega,?_⟩ | refine ⟨True.intro,?_⟩)))))
    refine x8 ⟨_,?_,rfl⟩;rw [Try.results81];simp (disch:=omega) only [ResVars,ResVar,ptrLoc,go_sem,seval,policyD,wayD,pairD,spotD,topoD,configD,j10,r1]
   ·simp only [Bool.true_and] at hr
    (repeat (first | apply j0 | refine j6 rfl ?_ | refine z7 rfl ?_ | apply z6 | (refine j4 fun K hK => ?_) | (refine z5 fun K hK => ?_) | ((first | apply x5 | apply j5 | ((first | refine z3 (hK _ ?_) | refine x4 (hK _ _ z4 ?_));clear hK K));(first | show AWP _ _ _ _ _ | ((try simp only [x6]);first | show loopQ _ _ _ _ _ _ | show cutQ _ _ _ _ | show AWP _ _ _ _ _))) | ((first | refine j8 rfl rfl rfl ?_ | refine q9 rfl rfl rfl ?_);simp (disch:=omega) only [go_sem,seval,policyD,wayD,pairD,spotD,topoD,configD,j10,r1];(first | refine ⟨_,c1,?_⟩ | refine ⟨_,c2,?_⟩)) | ((first | refine x7 [] rfl ?_ | refine j7 [] rfl ?_);simp (disch:=omega) only [go_sem,seval,policyD,wayD,pairD,spotD,topoD,configD,j10,r1];(repeat (first | refine ⟨by omega,?_⟩ | refine ⟨True.intro,?_⟩)))))
    refine ⟨⟨i + 1,by omega,hr⟩,by simp only [];omega,?_⟩
    refine Weak.list ?_ ?_;(all_goals simp (disch:=omega) only [AllF,AllL,q10,z10,j9,exists_eq_left',go_sem,seval,policyD,wayD,pairD,spotD,topoD,configD,j10,r1]);(all_goals (repeat' (with_reducible apply And.intro)));(all_goals try (first | exact q8 rfl | (refine x10 ?_;omega) | (refine q8 ?_;simp;done)))
 ·rw [x18 (show c.po.peers.length ≤ i by omega),Bool.true_and] at hr
  (repeat (first | apply j0 | refine j6 rfl ?_ | refine z7 rfl ?_ | apply z6 | (refine j4 fun K hK => ?_) | (refine z5 fun K hK => ?_) | ((first | apply x5 | apply j5 | ((first | refine z3 (hK _ ?_) | refine x4 (hK _ _ z4 ?_));clear hK K));(first | show AWP _ _ _ _ _ | ((try simp only [x6]);first | show loopQ _ _ _ _ _ _ | show cutQ _ _ _ _ | show AWP _ _ _ _ _))) | ((first | refine x7 [] rfl ?_ | refine j7 [] rfl ?_);simp (disch:=omega) only [go_sem,seval,policyD,wayD,pairD,spotD,topoD,configD,j10];(repeat (first | refine ⟨by omega,?_⟩ | refine ⟨True.intro,?_⟩)))))
  refine x12 (polyJ c R) (fun s => c.po.ways.length - s.val) ⟨0,Nat.zero_le _,hr⟩ ?_ (fun s => ?_)
  ·unfold polyJ
   refine Weak.list ?_ ?_;(all_goals simp (disch:=omega) only [AllF,AllL,q10,z10,j9,exists_eq_left',go_sem,seval,policyD,wayD,pairD,spotD,topoD,configD,j10]);(all_goals (repeat' (with_reducible apply And.intro)));(all_goals try (first | exact q8 rfl | (refine x10 ?_;omega) | (refine q8 ?_;simp;done)))
  obtain ⟨i,hi,hr⟩ := s
  unfold polyJ
  simp only [] at hi hr ⊢
  by_cases h : i < c.po.ways.length
  ·have hok : wayOk c i = (tenantP c.po (c.po.ways.getD i w0).fr && tenantP c.po (c.po.ways.getD i w0).to && decide (0 ≤ (c.po.ways.getD i w0).via) && decide ((c.po.ways.getD i w0).via < c.tp.length)) := rfl
   rw [z18 h,hok] at hr
   have r1 := z96 c.po.ways i
   generalize c.po.ways.getD i w0 = x at r1 hr
   obtain ⟨x1,x2,x3⟩ := x
   simp only [wayD] at r1
   simp only [] at hr
   have c1 := x39 c.po x1
   have c2 := x39 c.po x2
   simp only [policyD] at c1 c2
   generalize tenantP c.po x1 = b1 at c1 hr
   generalize tenantP c.po x2 = b2 at c2 hr
   cases b1
   ·simp only [Bool.false_and] at hr
    subst hr
    (repeat (first | apply j0 | refine j6 rfl ?_ | refine z7 rfl ?_ | apply z6 | (refine j4 fun K hK => ?_) | (refine z5 fun K hK => ?_) | ((first | apply x5 | apply j5 | ((first | refine z3 (hK _ ?_) | refine x4 (hK _ _ z4 ?_));clear hK K));(first | show AWP _ _ _ _ _ | ((try simp only [x6]);first | show loopQ _ _ _ _ _ _ | show cutQ _ _ _ _ | show AWP _ _ _ _ _))) | ((first | refine j8 rfl rfl rfl ?_ | refine q9 rfl rfl rfl ?_);simp (disch:=omega) only [go_sem,seval,policyD,wayD,pairD,spotD,topoD,configD,j10,r1];(first | refine ⟨_,c1,?_⟩)) | ((first | refine x7 [] rfl ?_ | refine j7 [] rfl ?_);simp (disch:=omega) only [go_sem,seval,policyD,wayD,pairD,spotD,topoD,configD,j10,r1];(repeat (first | refine ⟨by omega,?_⟩ | refine ⟨True.intro,?_⟩)))))
    refine x8 ⟨_,?_,rfl⟩;rw [Try.results81];simp (disch:=omega) only [ResVars,ResVar,ptrLoc,go_sem,seval,policyD,wayD,pairD,spotD,topoD,configD,j10,r1]
   ·cases b2
    ·simp only [Bool.true_and,Bool.false_and] at hr
     subst hr
     (repeat (first | apply j0 | refine j6 rfl ?_ | refine z7 rfl ?_ | apply z6 | (refine j4 fun K hK => ?_) | (refine z5 fun K hK => ?_) | ((first | apply x5 | apply j5 | ((first | refine z3 (hK _ ?_) | refine x4 (hK _ _ z4 ?_));clear hK K));(first | show AWP _ _ _ _ _ | ((try simp only [x6]);first | show loopQ _ _ _ _ _ _ | show cutQ _ _ _ _ | show AWP _ _ _ _ _))) | ((first | refine j8 rfl rfl rfl ?_ | refine q9 rfl rfl rfl ?_);simp (disch:=omega) only [go_sem,seval,policyD,wayD,pairD,spotD,topoD,configD,j10,r1];(first | refine ⟨_,c1,?_⟩ | refine ⟨_,c2,?_⟩)) | ((first | refine x7 [] rfl ?_ | refine j7 [] rfl ?_);simp (disch:=omega) only [go_sem,seval,policyD,wayD,pairD,spotD,topoD,configD,j10,r1];(repeat (first | refine ⟨by omega,?_⟩ | refine ⟨True.intro,?_⟩)))))
     refine x8 ⟨_,?_,rfl⟩;rw [Try.results81];simp (disch:=omega) only [ResVars,ResVar,ptrLoc,go_sem,seval,policyD,wayD,pairD,spotD,topoD,configD,j10,r1]
    ·by_cases h3 : 0 ≤ x3
     ·by_cases h4 : x3 < c.tp.length
      ·rw [decide_eq_true h3,decide_eq_true h4] at hr
       simp only [Bool.true_and] at hr
       (repeat (first | apply j0 | refine j6 rfl ?_ | refine z7 rfl ?_ | apply z6 | (refine j4 fun K hK => ?_) | (refine z5 fun K hK => ?_) | ((first | apply x5 | apply j5 | ((first | refine z3 (hK _ ?_) | refine x4 (hK _ _ z4 ?_));clear hK K));(first | show AWP _ _ _ _ _ | ((try simp only [x6]);first | show loopQ _ _ _ _ _ _ | show cutQ _ _ _ _ | show AWP _ _ _ _ _))) | ((first | refine j8 rfl rfl rfl ?_ | refine q9 rfl rfl rfl ?_);simp (disch:=omega) only [go_sem,seval,policyD,wayD,pairD,spotD,topoD,configD,j10,r1];(first | refine ⟨_,c1,?_⟩ | refine ⟨_,c2,?_⟩)) | ((first | refine x7 [] rfl ?_ | refine j7 [] rfl ?_);simp (disch:=omega) only [go_sem,seval,policyD,wayD,pairD,spotD,topoD,configD,j10,r1];(repeat (first | refine ⟨by omega,?_⟩ | refine ⟨True.intro,?_⟩)))))
       refine ⟨⟨i + 1,by omega,hr⟩,by simp only [];omega,?_⟩
       refine Weak.list ?_ ?_;(all_goals simp (disch:=omega) only [AllF,AllL,q10,z10,j9,exists_eq_left',go_sem,seval,policyD,wayD,pairD,spotD,topoD,configD,j10,r1]);(all_goals (repeat' (with_reducible apply And.intro)));(all_goals try (first | exact q8 rfl | (refine x10 ?_;omega) | (refine q8 ?_;simp;done)))
      ·rw [decide_eq_true h3,decide_eq_false h4] at hr
       simp only [Bool.true_and,Bool.false_and] at hr
       subst hr
       (repeat (first | apply j0 | refine j6 rfl ?_ | refine z7 rfl ?_ | apply z6 | (refine j4 fun K hK => ?_) | (refine z5 fun K hK => ?_) | ((first | apply x5 | apply j5 | ((first | refine z3 (hK _ ?_) | refine x4 (hK _ _ z4 ?_));clear hK K));(first | show AWP _ _ _ _ _ | ((try simp only [x6]);first | show loopQ _ _ _ _ _ _ | show cutQ _ _ _ _ | show AWP _ _ _ _ _))) | ((first | refine j8 rfl rfl rfl ?_ | refine q9 rfl rfl rfl ?_);simp (disch:=omega) only [go_sem,seval,policyD,wayD,pairD,spotD,topoD,configD,j10,r1];(first | refine ⟨_,c1,?_⟩ | refine ⟨_,c2,?_⟩)) | ((first | refine x7 [] rfl ?_ | refine j7 [] rfl ?_);simp (disch:=omega) only [go_sem,seval,policyD,wayD,pairD,spotD,topoD,configD,j10,r1];(repeat (first | refine ⟨by omega,?_⟩ | refine ⟨True.intro,?_⟩)))))
       refine x8 ⟨_,?_,rfl⟩;rw [Try.results81];simp (disch:=omega) only [ResVars,ResVar,ptrLoc,go_sem,seval,policyD,wayD,pairD,spotD,topoD,configD,j10,r1]
     ·rw [decide_eq_false h3] at hr
      simp only [Bool.true_and,Bool.false_and] at hr
      subst hr
      (repeat (first | apply j0 | refine j6 rfl ?_ | refine z7 rfl ?_ | apply z6 | (refine j4 fun K hK => ?_) | (refine z5 fun K hK => ?_) | ((first | apply x5 | apply j5 | ((first | refine z3 (hK _ ?_) | refine x4 (hK _ _ z4 ?_));clear hK K));(first | show AWP _ _ _ _ _ | ((try simp only [x6]);first | show loopQ _ _ _ _ _ _ | show cutQ _ _ _ _ | show AWP _ _ _ _ _))) | ((first | refine j8 rfl rfl rfl ?_ | refine q9 rfl rfl rfl ?_);simp (disch:=omega) only [go_sem,seval,policyD,wayD,pairD,spotD,topoD,configD,j10,r1];(first | refine ⟨_,c1,?_⟩ | refine ⟨_,c2,?_⟩)) | ((first | refine x7 [] rfl ?_ | refine j7 [] rfl ?_);simp (disch:=omega) only [go_sem,seval,policyD,wayD,pairD,spotD,topoD,configD,j10,r1];(repeat (first | refine ⟨by omega,?_⟩ | refine ⟨True.intro,?_⟩)))))
      refine x8 ⟨_,?_,rfl⟩;rw [Try.results81];simp (disch:=omega) only [ResVars,ResVar,ptrLoc,go_sem,seval,policyD,wayD,pairD,spotD,topoD,configD,j10,r1]
  ·rw [x18 (show c.po.ways.length ≤ i by omega)] at hr
   subst hr
   (repeat (first | apply j0 | refine j6 rfl ?_ | refine z7 rfl ?_ | apply z6 | (refine j4 fun K hK => ?_) | (refine z5 fun K hK => ?_) | ((first | apply x5 | apply j5 | ((first | refine z3 (hK _ ?_) | refine x4 (hK _ _ z4 ?_));clear hK K));(first | show AWP _ _ _ _ _ | ((try simp only [x6]);first | show loopQ _ _ _ _ _ _ | show cutQ _ _ _ _ | show AWP _ _ _ _ _))) | ((first | refine x7 [] rfl ?_ | refine j7 [] rfl ?_);simp (disch:=omega) only [go_sem,seval,policyD,wayD,pairD,spotD,topoD,configD,j10];(repeat (first | refine ⟨by omega,?_⟩ | refine ⟨True.intro,?_⟩)))))
   refine x8 ⟨_,?_,rfl⟩;rw [Try.results81];simp (disch:=omega) only [ResVars,ResVar,ptrLoc,go_sem,seval,policyD,wayD,pairD,spotD,topoD,configD,j10]
def pairSh : Sh := .pair (.int .i64) (.pair (.int .i64) .unit)
def waySh : Sh := .pair (.int .i64) (.pair (.int .i64) (.pair (.int .i64) .unit))
def topoSh : Sh := .pair (.slice (.slice portSh)) .unit
def policySh : Sh := .pair (.int .i64) (.pair (.slice pairSh) (.pair (.slice waySh) .unit))
def tabsSh : Sh := .slice (.slice ruleSh)
def configSh : Sh := .pair topoSh (.pair policySh (.pair (.slice tabsSh) .unit))
theorem is_pair {N : Nat} {ds : List Dat} (h : Is N pairSh ds) : ∃ p : Int × Int,ds = pairD p ∧ in64 p.1 ∧ in64 p.2 := by
 obtain ⟨_,_,rfl,⟨a,rfl,wa⟩,_,_,rfl,⟨b,rfl,wb⟩,rfl⟩ := h
 exact ⟨⟨a,b⟩,rfl,x19 wa,x19 wb⟩
theorem is_way {N : Nat} {ds : List Dat} (h : Is N waySh ds) : ∃ w : Way,ds = wayD w ∧ in64 w.fr := by
 obtain ⟨_,_,rfl,⟨a,rfl,wa⟩,_,_,rfl,⟨b,rfl,wb⟩,_,_,rfl,⟨c,rfl,wc⟩,rfl⟩ := h
 exact ⟨⟨a,b,c⟩,rfl,x19 wa⟩
theorem x157 {N : Nat} {ds : List Dat} (h : Is N (.slice (.slice portSh)) ds) : ∃ l : List (List Port),ds = [.sl 1 l.length (rowPP l)] ∧ l.length ≤ N ∧ ∀ r ∈ l,r.length ≤ N :=
 q29 (fun r : List Port => [Dat.sl 5 r.length (rowP r)]) [] (.slice portSh) rfl (fun ds hd => x154 hd) h
theorem is_tabs {N : Nat} {ds : List Dat} (h : Is N tabsSh ds) : ∃ l : List (List Rule),ds = [.sl 1 l.length (rowRR l)] ∧ l.length ≤ N ∧ ∀ r ∈ l,r.length ≤ N :=
 q29 (fun r : List Rule => [Dat.sl 12 r.length (rowR r)]) [] (.slice ruleSh) (by
  have : rowR [] = fun _ => zeroSh ruleSh := by
   funext i
   show ruleD r0 = _
   simp only [ruleD,r0,q17,z17];rfl
  show [Dat.sl 12 0 (rowR [])] = _
  rw [this];rfl) (fun ds hd => z154 hd) h
theorem j157 {N : Nat} {ds : List Dat} (h : Is N (.slice tabsSh) ds) : ∃ l : List (List (List Rule)),ds = [.sl 1 l.length (rowTT l)] ∧ l.length ≤ N ∧ ∀ t ∈ l,t.length ≤ N ∧ ∀ r ∈ t,r.length ≤ N :=
 q29 (Q := fun t : List (List Rule) => t.length ≤ N ∧ ∀ r ∈ t,r.length ≤ N) (fun t : List (List Rule) => [Dat.sl 1 t.length (rowRR t)]) [] tabsSh (by
  have h0 : rowR [] = fun _ => zeroSh ruleSh := by
   funext i
   show ruleD r0 = _
   simp only [ruleD,r0,q17,z17];rfl
  have : rowRR [] = fun _ => zeroSh (.slice ruleSh) := by
   funext i
   show [Dat.sl 12 0 (rowR [])] = _
   rw [h0];rfl
  show [Dat.sl 1 0 (rowRR [])] = _
  rw [this];rfl) (fun ds hd => is_tabs hd) h
theorem q158 {N : Nat} {ds : List Dat} (h : Is N (.slice pairSh) ds) : ∃ l : List (Int × Int),ds = [.sl 2 l.length (rowA l)] ∧ l.length ≤ N := by
 obtain ⟨l,h1,h2,_⟩ := q29 (Q := fun _ => True) pairD (0,0) pairSh rfl (fun ds hd => by obtain ⟨p,h1,_⟩ := is_pair hd;exact ⟨p,h1,trivial⟩) h
 exact ⟨l,h1,h2⟩
theorem is_ways {N : Nat} {ds : List Dat} (h : Is N (.slice waySh) ds) : ∃ l : List Way,ds = [.sl 3 l.length (rowW l)] ∧ l.length ≤ N := by
 obtain ⟨l,h1,h2,_⟩ := q29 (Q := fun _ => True) wayD w0 waySh rfl (fun ds hd => by obtain ⟨p,h1,_⟩ := is_way hd;exact ⟨p,h1,trivial⟩) h
 exact ⟨l,h1,h2⟩
theorem z158 {ds : List Dat} (h : Is 1048576 policySh ds) : ∃ p : Policy,ds = policyD p ∧ p.small ∧ in64 p.tn := by
 obtain ⟨_,_,rfl,⟨a,rfl,wa⟩,_,_,rfl,hb,_,_,rfl,hc,rfl⟩ := h
 obtain ⟨ps,rfl,h1⟩ := q158 hb
 obtain ⟨ws,rfl,h2⟩ := is_ways hc
 exact ⟨⟨a,ps,ws⟩,rfl,⟨by simp only [];omega,by simp only [];omega⟩,x19 wa⟩
theorem x158 {ds : List Dat} (h : Is 1048576 configSh ds) : ∃ c : Config,ds = configD c ∧ c.small := by
 obtain ⟨_,_,rfl,⟨_,_,rfl,ha,rfl⟩,_,_,rfl,hb,_,_,rfl,hc,rfl⟩ := h
 obtain ⟨tp,rfl,t1,t2⟩ := x157 ha
 obtain ⟨po,rfl,p1,_⟩ := z158 hb
 obtain ⟨tb,rfl,b1,b2⟩ := j157 hc
 exact ⟨⟨tp,po,tb⟩,rfl,⟨⟨t1,t2⟩,p1,b1,b2⟩⟩
section
variable {α : Type} {key : α → Int}
def seg (x : Nat → α) (a b : Nat) : List α := (List.range' a (b - a)).map x
theorem j32 {x : Nat → α} {a b : Nat} {e : α} : e ∈ seg x a b ↔ ∃ k,a ≤ k ∧ k < b ∧ x k = e := by
 unfold seg
 rw [List.mem_map]
 constructor
 ·rintro ⟨k,hk,h⟩
  rw [List.mem_range'_1] at hk
  exact ⟨k,hk.1,by omega,h⟩
 ·rintro ⟨k,h1,h2,h⟩
  exact ⟨k,List.mem_range'_1.2 ⟨h1,by omega⟩,h⟩
theorem z29 {x y : Nat → α} {a b : Nat} (h : ∀ k,a ≤ k → k < b → x k = y k) : seg x a b = seg y a b := by
 unfold seg
 refine List.map_congr_left fun k hk => ?_
 rw [List.mem_range'_1] at hk
 exact h k hk.1 (by omega)
theorem z20 (x : Nat → α) {a m b : Nat} (h1 : a ≤ m) (h2 : m ≤ b) : seg x a b = seg x a m ++ seg x m b := by
 unfold seg
 rw [← List.map_append]
 congr 1
 have := List.range'_append (s := a) (m := m - a) (n := b - m) (step := 1)
 rw [show a + 1 * (m - a) = m from by omega,show m - a + (b - m) = b - a from by omega] at this
 exact this.symm
theorem q25 (x : Nat → α) (a b : Nat) : (seg x a b).length = b - a := by simp [seg]
theorem j97 (x : Nat → α) {a b k : Nat} (h1 : a ≤ k) (h2 : k < b) (z : α) : (seg x a b).getD (k - a) z = x k := by
 unfold seg
 rw [List.getD_eq_getElem?_getD,List.getElem?_map,List.getElem?_range' (by omega)]
 simp;congr 1;omega
theorem q98 {x y : Nat → α} {a b c d : Nat} (hl : b - a = d - c) (h : ∀ k,k < b - a → x (a + k) = y (c + k)) : seg x a b = seg y c d := by
 apply List.ext_getElem
 ·rw [q25,q25,hl]
 ·intro k h1 h2
  rw [q25] at h1
  simp only [seg,List.getElem_map,List.getElem_range',Nat.one_mul]
  exact h k h1
structure SE (key : α → Int) (a b : Nat) (x y : Nat → α) : Prop where
 out : ∀ k,¬ (a ≤ k ∧ k < b) → y k = x k
 fil : ∀ p,(seg y a b).filter (fun e => key e == p) = (seg x a b).filter (fun e => key e == p)
theorem SE.refl (a b : Nat) (x : Nat → α) : SE key a b x x := ⟨fun _ _ => rfl,fun _ => rfl⟩
theorem SE.trans {a b : Nat} {x y z : Nat → α} (h : SE key a b x y) (k : SE key a b y z) : SE key a b x z :=
 ⟨fun i hi => (k.out i hi).trans (h.out i hi),fun p => (k.fil p).trans (h.fil p)⟩
theorem SE.widen {a b a' b' : Nat} {x y : Nat → α} (h : SE key a b x y) (h1 : a' ≤ a) (hab : a ≤ b) (h2 : b ≤ b') : SE key a' b' x y := by
 refine ⟨fun k hk => h.out k (by omega),fun p => ?_⟩
 rw [z20 y (show a' ≤ b by omega) h2,z20 y h1 hab,z20 x (show a' ≤ b by omega) h2,z20 x h1 hab]
 simp only [List.filter_append]
 rw [h.fil p,z29 (x := y) (y := x) (a := a') (b := a) (fun k _ hk => h.out k (by omega)),z29 (x := y) (y := x) (a := b) (b := b') (fun k hk _ => h.out k (by omega))]
theorem SE.mem {a b : Nat} {x y : Nat → α} (h : SE key a b x y) {k : Nat} (h1 : a ≤ k) (h2 : k < b) : ∃ k',a ≤ k' ∧ k' < b ∧ y k = x k' := by
 have : y k ∈ (seg y a b).filter (fun e => key e == key (y k)) := List.mem_filter.2 ⟨j32.2 ⟨k,h1,h2,rfl⟩,by simp⟩
 rw [h.fil] at this
 obtain ⟨k',a1,a2,a3⟩ := j32.1 (List.mem_filter.1 this).1
 exact ⟨k',a1,a2,a3.symm⟩
def swap2 (x : Nat → α) (i : Nat) : Nat → α := fun k => if k = i then x (i + 1) else if k = i + 1 then x i else x k
theorem SE.swap {x : Nat → α} {i : Nat} (h : key (x i) ≠ key (x (i + 1))) : SE key i (i + 2) x (swap2 x i) := by
 refine ⟨fun k hk => ?_,fun p => ?_⟩
 ·unfold swap2;rw [if_neg (by omega),if_neg (by omega)]
 ·have e1 : seg x i (i + 2) = [x i,x (i + 1)] := by
   unfold seg;rw [show i + 2 - i = 2 from by omega];rfl
  have e2 : seg (swap2 x i) i (i + 2) = [x (i + 1),x i] := by
   unfold seg;rw [show i + 2 - i = 2 from by omega]
   simp [List.range'_succ,swap2]
  rw [e1,e2]
  simp only [List.filter_cons,List.filter_nil]
  by_cases h1 : key (x i) = p
  ·have : ¬ key (x (i + 1)) = p := fun e => h (h1.trans e.symm)
   simp [h1,this]
  ·simp [h1]
def rot (x : Nat → α) (a m b : Nat) : Nat → α := fun k => if a ≤ k ∧ k < a + (b - m) then x (k - a + m) else if a + (b - m) ≤ k ∧ k < b then x (k - (b - m)) else x k
theorem SE.rot {x : Nat → α} {a m b : Nat} (h1 : a ≤ m) (h2 : m ≤ b) (h : ∀ i j,a ≤ i → i < m → m ≤ j → j < b → key (x i) ≠ key (x j)) : SE key a b x (rot x a m b) := by
 refine ⟨fun k hk => ?_,fun p => ?_⟩
 ·unfold Go.Proofs.Ytbamjcnhmmgnlaa.rot;rw [if_neg (by omega),if_neg (by omega)]
 ·have e1 : seg (Go.Proofs.Ytbamjcnhmmgnlaa.rot x a m b) a b = seg x m b ++ seg x a m := by
   rw [z20 _ (show a ≤ a + (b - m) by omega) (show a + (b - m) ≤ b by omega)]
   congr 1
   ·refine q98 (by omega) fun k hk => ?_
    unfold Go.Proofs.Ytbamjcnhmmgnlaa.rot;rw [if_pos (by omega)];congr 1;omega
   ·refine q98 (by omega) fun k hk => ?_
    unfold Go.Proofs.Ytbamjcnhmmgnlaa.rot;rw [if_neg (by omega),if_pos (by omega)];congr 1;omega
  rw [e1,z20 x h1 h2,List.filter_append,List.filter_append]
  by_cases hp : ∃ i,a ≤ i ∧ i < m ∧ key (x i) = p
  ·obtain ⟨i,i1,i2,i3⟩ := hp
   have : (seg x m b).filter (fun e => key e == p) = [] := by
    rw [List.filter_eq_nil_iff]
    intro e he hk
    obtain ⟨j,j1,j2,rfl⟩ := j32.1 he
    exact h i j i1 i2 j1 j2 (i3.trans (beq_iff_eq.1 hk).symm)
   rw [this];simp
  ·have : (seg x a m).filter (fun e => key e == p) = [] := by
    rw [List.filter_eq_nil_iff]
    intro e he hk
    obtain ⟨j,j1,j2,rfl⟩ := j32.1 he
    exact hp ⟨j,j1,j2,beq_iff_eq.1 hk⟩
   rw [this];simp
def swapR (x : Nat → α) (a b n : Nat) : Nat → α := fun k => if a ≤ k ∧ k < a + n then x (k - a + b) else if b ≤ k ∧ k < b + n then x (k - b + a) else x k
theorem j158 (x : Nat → α) (a b : Nat) : swapR x a b 0 = x := by
 funext k;unfold swapR;rw [if_neg (by omega),if_neg (by omega)]
theorem q159 (x : Nat → α) {a b i : Nat} (h : a + i < b) : swapR x a b i (b + i) = x (b + i) ∧ swapR x a b i (a + i) = x (a + i) := by
 unfold swapR
 constructor
 ·rw [if_neg (by omega),if_neg (by omega)]
 ·rw [if_neg (by omega),if_neg (by omega)]
theorem z159 (x : Nat → α) {a b i k : Nat} (h : a + i < b) : (if k = b + i then x (a + i) else if k = a + i then x (b + i) else swapR x a b i k) = swapR x a b (i + 1) k := by
 unfold swapR
 by_cases h1 : k = b + i
 ·rw [if_pos h1,if_neg (by omega),if_pos (by omega)];congr 1;omega
 ·rw [if_neg h1]
  by_cases h2 : k = a + i
  ·rw [if_pos h2,if_pos (by omega)];congr 1;omega
  ·rw [if_neg h2]
   by_cases h3 : a ≤ k ∧ k < a + i
   ·rw [if_pos h3,if_pos (by omega)]
   ·rw [if_neg h3,if_neg (show ¬ (a ≤ k ∧ k < a + (i + 1)) by omega)]
    by_cases h4 : b ≤ k ∧ k < b + i
    ·rw [if_pos h4,if_pos (by omega)]
    ·rw [if_neg h4,if_neg (by omega)]
theorem x159 (y : Nat → α) {m i j : Nat} (hj : 0 < j) (hij : j < i) (hm : i ≤ m) : rot (swapR y (m - i) m j) (m - (i - j)) m (m + j) = rot y (m - i) m (m + j) := by
 funext k
 unfold rot swapR
 by_cases c1 : m - i ≤ k ∧ k < m - i + j
 ·rw [if_neg (by omega),if_neg (by omega),if_pos (by omega),if_pos (by omega)]
 ·by_cases c2 : m - (i - j) ≤ k ∧ k < m - (i - j) + j
  ·rw [if_pos (by omega),if_neg (by omega),if_pos (by omega),if_neg (by omega),if_pos (by omega)];congr 1;omega
  ·by_cases c3 : m - (i - j) + j ≤ k ∧ k < m + j
   ·rw [if_neg (by omega),if_pos (by omega),if_neg (by omega),if_neg (by omega),if_neg (by omega),if_pos (by omega)]
   ·rw [if_neg (by omega),if_neg (by omega),if_neg (by omega),if_neg (by omega),if_neg (by omega),if_neg (by omega)]
theorem j159 (y : Nat → α) {m i j : Nat} (hi : 0 < i) (hij : i < j) (hm : i ≤ m) : rot (swapR y (m - i) (m + j - i) i) (m - i) m (m + (j - i)) = rot y (m - i) m (m + j) := by
 funext k
 unfold rot swapR
 by_cases c1 : m - i ≤ k ∧ k < m - i + (j - i)
 ·rw [if_pos (by omega),if_neg (by omega),if_neg (by omega),if_pos (by omega)]
 ·by_cases c2 : m - i + (j - i) ≤ k ∧ k < m + (j - i)
  ·rw [if_neg (by omega),if_pos (by omega),if_pos (by omega),if_pos (by omega)];congr 1;omega
  ·by_cases c3 : m + (j - i) ≤ k ∧ k < m + j
   ·rw [if_neg (by omega),if_neg (by omega),if_neg (by omega),if_pos (by omega),if_neg (by omega),if_pos (by omega)];congr 1;omega
   ·rw [if_neg (by omega),if_neg (by omega),if_neg (by omega),if_neg (by omega),if_neg (by omega),if_neg (by omega)]
theorem q160 (y : Nat → α) {m i : Nat} (hm : i ≤ m) : swapR y (m - i) m i = rot y (m - i) m (m + i) := by
 funext k
 unfold rot swapR
 by_cases c1 : m - i ≤ k ∧ k < m - i + i
 ·rw [if_pos (by omega),if_pos (by omega)]
 ·by_cases c2 : m ≤ k ∧ k < m + i
  ·rw [if_neg (by omega),if_pos (by omega),if_neg (by omega),if_pos (by omega)];congr 1;omega
  ·rw [if_neg (by omega),if_neg (by omega),if_neg (by omega),if_neg (by omega)]
theorem z160 (y : Nat → α) {a m b : Nat} (h1 : a ≤ m) (h2 : m ≤ b) (h : a = m ∨ m = b) : rot y a m b = y := by
 funext k
 unfold rot
 by_cases c1 : a ≤ k ∧ k < a + (b - m)
 ·rw [if_pos c1];congr 1;omega
 ·rw [if_neg c1]
  by_cases c2 : a + (b - m) ≤ k ∧ k < b
  ·rw [if_pos c2];congr 1;omega
  ·rw [if_neg c2]
def Srt (key : α → Int) (a b : Nat) (x : Nat → α) : Prop := ∀ i j,a ≤ i → i < j → j < b → key (x i) ≤ key (x j)
theorem Srt.le {a b : Nat} {x : Nat → α} (h : Srt key a b x) {i j : Nat} (h1 : a ≤ i) (h2 : i ≤ j) (h3 : j < b) : key (x i) ≤ key (x j) := by
 rcases Nat.lt_or_eq_of_le h2 with hlt | rfl
 ·exact h i j h1 hlt h3
 ·exact Int.le_refl _
theorem z53 : ∀ {l l' : List α},l.Pairwise (fun a b => key a ≤ key b) → l'.Pairwise (fun a b => key a ≤ key b) → (∀ p,l.filter (fun e => key e == p) = l'.filter (fun e => key e == p)) → l = l'
 | [],[],_,_,_ => rfl
 | [],e :: t,_,_,h => by have := h (key e);simp at this
 | e :: t,[],_,_,h => by have := h (key e);simp at this
 |e :: t,e' :: t',h1,h2,h => by
  have hle : ∀ {e e' : α} {t t' : List α},(e' :: t').Pairwise (fun a b => key a ≤ key b) → (∀ p,(e :: t).filter (fun e => key e == p) = (e' :: t').filter (fun e => key e == p)) → key e' ≤ key e := by
   intro e e' t t' h2 h
   have hm : e ∈ (e :: t).filter (fun x => key x == key e) := List.mem_filter.2 ⟨by simp,by simp⟩
   rw [h] at hm
   rcases List.mem_cons.1 (List.mem_filter.1 hm).1 with rfl | hm
   ·exact Int.le_refl _
   ·exact (List.pairwise_cons.1 h2).1 e hm
  have hk : key e = key e' := Int.le_antisymm (hle h1 fun p => (h p).symm) (hle h2 h)
  have he : e = e' := by
   have := h (key e)
   rw [List.filter_cons,List.filter_cons,if_pos (by simp),if_pos (by simp [hk])] at this
   exact (List.cons.inj this).1
  subst he
  congr 1
  refine z53 (List.pairwise_cons.1 h1).2 (List.pairwise_cons.1 h2).2 fun p => ?_
  have := h p
  rw [List.filter_cons,List.filter_cons] at this
  split at this
  ·exact (List.cons.inj this).2
  ·exact this
def ins (key : α → Int) (e : α) : List α → List α
 | [] => [e]
 | y :: t => if key e ≤ key y then e :: y :: t else y :: ins key e t
def isort (key : α → Int) : List α → List α
 | [] => []
 | e :: t => ins key e (isort key t)
theorem z98 (e : α) (p : Int) : ∀ l : List α,(ins key e l).filter (fun x => key x == p) = (e :: l).filter (fun x => key x == p)
 | [] => rfl
 |y :: t => by
  unfold ins
  split
  ·rfl
  ·rename_i h
   have ih := z98 e p t
   rw [List.filter_cons] at ih
   rw [List.filter_cons,ih,List.filter_cons,List.filter_cons]
   by_cases h1 : key y = p
   ·have : ¬ key e = p := by omega
    simp [h1,this]
   ·simp [h1]
theorem x98 {e x : α} : ∀ {l : List α},x ∈ ins key e l → x = e ∨ x ∈ l
 | [],h => by simp [ins] at h;exact .inl h
 |y :: t,h => by
  unfold ins at h
  split at h
  ·simpa using h
  ·rcases List.mem_cons.1 h with rfl | h
   ·exact .inr (by simp)
   ·rcases x98 h with h | h
    ·exact .inl h
    ·exact .inr (by simp [h])
theorem j98 (e : α) : ∀ {l : List α},l.Pairwise (fun a b => key a ≤ key b) → (ins key e l).Pairwise (fun a b => key a ≤ key b)
 | [],_ => by simp [ins]
 |y :: t,h => by
  unfold ins
  have ⟨h1,h2⟩ := List.pairwise_cons.1 h
  split
  ·rename_i hle
   refine List.pairwise_cons.2 ⟨fun x hx => ?_,h⟩
   rcases List.mem_cons.1 hx with rfl | hx
   ·exact hle
   ·exact Int.le_trans hle (h1 x hx)
  ·rename_i hlt
   refine List.pairwise_cons.2 ⟨fun x hx => ?_,j98 e h2⟩
   rcases x98 hx with rfl | hx
   ·omega
   ·exact h1 x hx
theorem x29 (p : Int) : ∀ l : List α,(isort key l).filter (fun x => key x == p) = l.filter (fun x => key x == p)
 | [] => rfl
 |e :: t => by
  show (ins key e (isort key t)).filter _ = _
  rw [z98,List.filter_cons,x29 p t,List.filter_cons]
theorem q33 : ∀ l : List α,(isort key l).Pairwise (fun a b => key a ≤ key b)
 | [] => List.Pairwise.nil
 | e :: t => j98 e (q33 t)
theorem q99 (e : α) : ∀ l : List α,(ins key e l).length = l.length + 1
 | [] => rfl
 |y :: t => by
  unfold ins
  split
  ·rfl
  ·simp [q99 e t]
theorem x40 : ∀ l : List α,(isort key l).length = l.length
 | [] => rfl
 | e :: t => by show (ins key e (isort key t)).length = _;rw [q99,x40 t];rfl
def stab (key : α → Int) (a b : Nat) (x : Nat → α) : Nat → α := fun k => if a ≤ k ∧ k < b then (isort key (seg x a b)).getD (k - a) (x k) else x k
theorem x160 {a b : Nat} {x : Nat → α} (h : Srt key a b x) : (seg x a b).Pairwise (fun a b => key a ≤ key b) := by
 unfold seg
 rw [List.pairwise_map]
 refine List.Pairwise.imp_of_mem ?_ (List.pairwise_lt_range' (s := a) (n := b - a) (step := 1))
 intro i j hi hj hlt
 rw [List.mem_range'_1] at hi hj
 exact h i j hi.1 hlt (by omega)
theorem z33 {a b : Nat} {x y : Nat → α} (h : SE key a b x y) (hs : Srt key a b y) (k : Nat) : y k = stab key a b x k := by
 unfold stab
 split
 ·rename_i hk
  have e : seg y a b = isort key (seg x a b) := z53 (x160 hs) (q33 _) fun p => by rw [h.fil,x29]
  rw [← e,j97 y hk.1 hk.2]
 ·rename_i hk
  exact h.out k hk
theorem z99 (a b : Nat) (x : Nat → α) : seg (stab key a b x) a b = isort key (seg x a b) := by
 apply List.ext_getElem
 ·rw [q25,x40,q25]
 ·intro k h1 h2
  rw [q25] at h1
  simp only [seg,List.getElem_map,List.getElem_range',Nat.one_mul]
  unfold stab
  rw [if_pos (by omega),show a + k - a = k from by omega,List.getD_eq_getElem?_getD,List.getElem?_eq_getElem h2]
  rfl
theorem x33 (a b : Nat) (x : Nat → α) : SE key a b x (stab key a b x) :=
 ⟨fun k hk => by unfold stab;rw [if_neg hk],fun p => by rw [z99,x29]⟩
theorem j33 (a b : Nat) (x : Nat → α) : Srt key a b (stab key a b x) := by
 intro i j h1 h2 h3
 have hp := q33 (key := key) (seg x a b)
 rw [← z99] at hp
 have := List.pairwise_iff_getElem.1 hp (i - a) (j - a) (by rw [q25];omega) (by rw [q25];omega) (by omega)
 have g : ∀ k (hk : k - a < (seg (stab key a b x) a b).length),a ≤ k → k < b → (seg (stab key a b x) a b)[k - a] = stab key a b x k := by
  intro k hk k1 k2
  have := j97 (stab key a b x) k1 k2 (stab key a b x k)
  rw [List.getD_eq_getElem?_getD,List.getElem?_eq_getElem hk] at this
  exact this
 rw [g i _ h1 (by omega),g j _ (by omega) h3] at this
 exact this
structure InsAt (key : α → Int) (a i j : Nat) (y : Nat → α) : Prop where
 left : ∀ p q,a ≤ p → p < q → q ≤ i → p ≠ j → q ≠ j → key (y p) ≤ key (y q)
 right : ∀ q,j < q → q ≤ i → key (y j) < key (y q)
theorem InsAt.start {a i : Nat} {y : Nat → α} (h : Srt key a i y) : InsAt key a i i y :=
 ⟨fun p q h1 h2 h3 _ h5 => h p q h1 h2 (by omega),fun q h1 h2 => by omega⟩
theorem InsAt.step {a i j : Nat} {y : Nat → α} (h : InsAt key a i (j + 1) y) (ha : a ≤ j) (hi : j + 1 ≤ i) (hc : key (y (j + 1)) < key (y j)) : InsAt key a i j (swap2 y j) := by
 have g : ∀ k,swap2 y j k = if k = j then y (j + 1) else if k = j + 1 then y j else y k := fun _ => rfl
 refine ⟨fun p q h1 h2 h3 h4 h5 => ?_,fun q h1 h2 => ?_⟩
 ·rw [g p,g q,if_neg h4,if_neg h5]
  by_cases hp : p = j + 1
  ·rw [if_pos hp,if_neg (by omega)]
   exact h.left j q (by omega) (by omega) h3 (by omega) (by omega)
  ·rw [if_neg hp]
   by_cases hq : q = j + 1
   ·rw [if_pos hq]
    exact h.left p j h1 (by omega) (by omega) (by omega) (by omega)
   ·rw [if_neg hq]
    exact h.left p q h1 h2 h3 hp hq
 ·rw [g j,g q,if_pos rfl,if_neg (by omega)]
  by_cases hq : q = j + 1
  ·rw [if_pos hq];exact hc
  ·rw [if_neg hq];exact h.right q (by omega) h2
theorem InsAt.done {a i j : Nat} {y : Nat → α} (h : InsAt key a i j y) (hj : j ≤ i) (hc : j ≤ a ∨ key (y (j - 1)) ≤ key (y j)) : Srt key a (i + 1) y := by
 intro p q h1 h2 h3
 by_cases hp : p = j
 ·subst hp;exact Int.le_of_lt (h.right q h2 (by omega))
 ·by_cases hq : q = j
  ·subst hq
   rcases hc with hc | hc
   ·omega
   ·by_cases hpj : p = q - 1
    ·rw [hpj];exact hc
    ·exact Int.le_trans (h.left p (q - 1) h1 (by omega) (by omega) (by omega) (by omega)) hc
  ·exact h.left p q h1 h2 (by omega) hp hq
def BS (key : α → Int) (c lo hi : Nat) (x : Nat → α) : Prop := ∀ i j,lo ≤ i → i < j → j < hi → i / c = j / c → key (x i) ≤ key (x j)
theorem j160 {a c i j : Nat} (hc : 0 < c) (h : a % c = 0) (i1 : a ≤ i) (i2 : i < a + c) (j1 : a ≤ j) (j2 : j < a + c) : i / c = j / c := by
 obtain ⟨q,rfl⟩ := Nat.dvd_of_mod_eq_zero h
 have key : ∀ k,c * q ≤ k → k < c * q + c → k / c = q := by
  intro k k1 k2
  refine Nat.div_eq_of_lt_le ?_ ?_
  ·rw [Nat.mul_comm];exact k1
  ·rw [Nat.add_mul,Nat.one_mul,Nat.mul_comm];exact k2
 rw [key i i1 i2,key j j1 j2]
theorem q161 {a c i j : Nat} (hc : 0 < c) (h : a % c = 0) (h1 : i < a) (h2 : a ≤ j) : i / c ≠ j / c := by
 obtain ⟨q,rfl⟩ := Nat.dvd_of_mod_eq_zero h
 have e1 : i / c < q := (Nat.div_lt_iff_lt_mul hc).2 (by rw [Nat.mul_comm];exact h1)
 have e2 : q ≤ j / c := (Nat.le_div_iff_mul_le hc).2 (by rw [Nat.mul_comm];exact h2)
 omega
theorem BS.srt {a b c lo hi : Nat} {x : Nat → α} (h : BS key c lo hi x) (hc : 0 < c) (ha : a % c = 0) (h1 : lo ≤ a) (h2 : b ≤ hi) (h3 : b ≤ a + c) : Srt key a b x :=
 fun i j i1 i2 i3 => h i j (by omega) i2 (by omega) (j160 hc ha i1 (by omega) (by omega) (by omega))
theorem BS.more {a b c : Nat} {x y : Nat → α} (h : BS key c 0 a x) (hc : 0 < c) (ha : a % c = 0) (hb : b ≤ a + c) (hy : ∀ k,k < a → y k = x k) (hs : Srt key a b y) : BS key c 0 b y := by
 intro i j _ h2 h3 h4
 by_cases hi : a ≤ i
 ·exact hs i j hi h2 h3
 ·by_cases hj : j < a
  ·rw [hy i (by omega),hy j hj];exact h i j (by omega) h2 hj h4
  ·exact absurd h4 (q161 hc ha (by omega) (by omega))
theorem BS.drop {c lo lo' hi hi' : Nat} {x y : Nat → α} (h : BS key c lo hi x) (h1 : lo ≤ lo') (h2 : hi' ≤ hi) (hy : ∀ k,lo' ≤ k → k < hi' → y k = x k) : BS key c lo' hi' y := by
 intro i j i1 i2 i3 i4
 rw [hy i i1 (by omega),hy j (by omega) i3]
 exact h i j (by omega) i2 (by omega) i4
theorem BS.end {n c : Nat} {x : Nat → α} (h : BS key c 0 n x) (hc : n ≤ c) : Srt key 0 n x := by
 intro i j _ h2 h3
 refine h i j (Nat.zero_le _) h2 h3 ?_
 rw [Nat.div_eq_of_lt (by omega),Nat.div_eq_of_lt (by omega)]
theorem z161 {a m b mid start n : Nat} {x : Nat → α} (ham : a < m) (hmb : m < b) (hmid : mid = (a + b) / 2) (hn : n = mid + m) (sl : Srt key a m x) (sr : Srt key m b x) (s1 : (if m > mid then n - b else a) ≤ start) (s2 : start ≤ (if m > mid then mid else m))
  (lo : ∀ c,(if m > mid then n - b else a) ≤ c → c < start → key (x c) ≤ key (x (n - 1 - c))) (hi : ∀ c,start ≤ c → c < (if m > mid then mid else m) → key (x (n - 1 - c)) < key (x c)) :
  a ≤ start ∧ start ≤ m ∧ m ≤ n - start ∧ n - start ≤ b ∧ start ≤ mid ∧ mid ≤ n - start ∧ SE key start (n - start) x (rot x start m (n - start)) ∧
   Srt key a start (rot x start m (n - start)) ∧ Srt key start mid (rot x start m (n - start)) ∧ Srt key mid (n - start) (rot x start m (n - start)) ∧ Srt key (n - start) b (rot x start m (n - start)) ∧
   (∀ p q,a ≤ p → p < mid → mid ≤ q → q < b → key (rot x start m (n - start) p) ≤ key (rot x start m (n - start) q)) := by
 have f1 : a ≤ start ∧ start ≤ m ∧ m ≤ n - start ∧ n - start ≤ b ∧ start ≤ mid ∧ mid ≤ n - start ∧ start + (n - start - m) = mid := by
  split at s1 <;> rename_i h <;> simp only [h,if_true,if_false] at s2 <;> omega
 obtain ⟨g1,g2,g3,g4,g5,g6,g7⟩ := f1
 have cross : ∀ i j,start ≤ i → i < m → m ≤ j → j < n - start → key (x j) < key (x i) := by
  intro i j i1 i2 j1 j2
  have hs : start < (if m > mid then mid else m) := by
   split <;> omega
  have := hi start (Nat.le_refl _) hs
  have a1 := sr.le j1 (show j ≤ n - 1 - start by omega) (by omega)
  have a2 := sl.le g1 i1 i2
  omega
 have cross2 : ∀ i j,a ≤ i → i < start → n - start ≤ j → j < b → key (x i) ≤ key (x j) := by
  intro i j i1 i2 j1 j2
  have hs : (if m > mid then n - b else a) ≤ start - 1 := by
   split <;> omega
  have := lo (start - 1) hs (by omega)
  have a1 := sl.le i1 (show i ≤ start - 1 by omega) (by omega)
  have a2 := sr.le g3 j1 j2
  rw [show n - 1 - (start - 1) = n - start from by omega] at this
  omega
 have r0 : ∀ k,k < start → rot x start m (n - start) k = x k := fun k hk => by unfold rot;rw [if_neg (by omega),if_neg (by omega)]
 have r1 : ∀ k,start ≤ k → k < mid → rot x start m (n - start) k = x (k - start + m) := fun k h1 h2 => by unfold rot;rw [if_pos (by omega)]
 have r2 : ∀ k,mid ≤ k → k < n - start → rot x start m (n - start) k = x (k - (n - start - m)) := fun k h1 h2 => by unfold rot;rw [if_neg (by omega),if_pos (by omega)]
 have r3 : ∀ k,n - start ≤ k → rot x start m (n - start) k = x k := fun k hk => by unfold rot;rw [if_neg (by omega),if_neg (by omega)]
 refine ⟨g1,g2,g3,g4,g5,g6,SE.rot g2 g3 (fun i j i1 i2 j1 j2 => ?_),fun i j i1 i2 i3 => ?_,fun i j i1 i2 i3 => ?_,fun i j i1 i2 i3 => ?_,fun i j i1 i2 i3 => ?_,fun p q p1 p2 q1 q2 => ?_⟩
 ·have := cross i j i1 i2 j1 j2;omega
 ·rw [r0 i (by omega),r0 j i3];exact sl i j i1 i2 (by omega)
 ·rw [r1 i i1 (by omega),r1 j (by omega) i3];exact sr _ _ (by omega) (by omega) (by omega)
 ·rw [r2 i i1 (by omega),r2 j (by omega) i3];exact sl _ _ (by omega) (by omega) (by omega)
 ·rw [r3 i i1,r3 j (by omega)];exact sr i j (by omega) i2 i3
 ·by_cases hp : p < start
  ·rw [r0 p hp]
   by_cases hq : q < n - start
   ·rw [r2 q q1 hq];exact sl.le p1 (by omega) (by omega)
   ·rw [r3 q (by omega)];exact cross2 p q p1 hp (by omega) q2
  ·rw [r1 p (by omega) p2]
   by_cases hq : q < n - start
   ·rw [r2 q q1 hq];exact Int.le_of_lt (cross _ _ (by omega) (by omega) (by omega) (by omega))
   ·rw [r3 q (by omega)];exact sr.le (by omega) (by omega) q2
theorem x161 {a mid b : Nat} {y z : Nat → α} (h1 : a ≤ mid) (h2 : mid ≤ b) (hz : SE key a mid y z) (hz' : Srt key a mid z) (hc : ∀ p q,a ≤ p → p < mid → mid ≤ q → q < b → key (y p) ≤ key (y q)) {u : Nat → α} (hu : SE key mid b z u) (hu' : Srt key mid b u) :
  SE key a b y u ∧ Srt key a b u := by
 refine ⟨(hz.widen (Nat.le_refl _) h1 h2).trans (hu.widen h1 h2 (Nat.le_refl _)),fun i j i1 i2 i3 => ?_⟩
 by_cases hj : j < mid
 ·rw [hu.out i (by omega),hu.out j (by omega)];exact hz' i j i1 i2 hj
 ·by_cases hi : mid ≤ i
  ·exact hu' i j hi i2 i3
  ·rw [hu.out i (by omega)]
   obtain ⟨i',a1,a2,a3⟩ := hz.mem i1 (by omega : i < mid)
   obtain ⟨j',b1,b2,b3⟩ := hu.mem (by omega : mid ≤ j) i3
   rw [a3,b3,hz.out j' (by omega)]
   exact hc i' j' a1 a2 b1 b2
def moveUp (x : Nat → α) (a k : Nat) : Nat → α := fun q => if a ≤ q ∧ q < k then x (q + 1) else if q = k then x a else x q
theorem x99 (x : Nat → α) (a : Nat) : moveUp x a a = x := by
 funext q;unfold moveUp;rw [if_neg (by omega)];split
 ·rename_i h;rw [h]
 ·rfl
theorem j69 (x : Nat → α) (a k : Nat) : moveUp x a k k = x a ∧ moveUp x a k (k + 1) = x (k + 1) := by
 unfold moveUp;constructor
 ·rw [if_neg (by omega),if_pos rfl]
 ·rw [if_neg (by omega),if_neg (by omega)]
theorem j99 (x : Nat → α) {a k : Nat} (h : a ≤ k) (q : Nat) : swap2 (moveUp x a k) k q = moveUp x a (k + 1) q := by
 unfold swap2
 by_cases h1 : q = k
 ·rw [if_pos h1,(j69 x a k).2]
  unfold moveUp;rw [if_pos (by omega),h1]
 ·rw [if_neg h1]
  by_cases h2 : q = k + 1
  ·rw [if_pos h2,(j69 x a k).1]
   unfold moveUp;rw [if_neg (by omega),if_pos h2]
  ·rw [if_neg h2]
   unfold moveUp
   by_cases h3 : a ≤ q ∧ q < k
   ·rw [if_pos h3,if_pos (by omega)]
   ·rw [if_neg h3,if_neg h1,if_neg (show ¬ (a ≤ q ∧ q < k + 1) by omega),if_neg h2]
def moveDown (x : Nat → α) (m k : Nat) : Nat → α := fun q => if k < q ∧ q ≤ m then x (q - 1) else if q = k then x m else x q
theorem q100 (x : Nat → α) (m : Nat) : moveDown x m m = x := by
 funext q;unfold moveDown;rw [if_neg (by omega)];split
 ·rename_i h;rw [h]
 ·rfl
theorem q70 (x : Nat → α) {m k : Nat} (h : k < m) : moveDown x m (k + 1) (k + 1) = x m ∧ moveDown x m (k + 1) k = x k := by
 unfold moveDown;constructor
 ·rw [if_neg (by omega),if_pos rfl]
 ·rw [if_neg (by omega),if_neg (by omega)]
theorem z100 (x : Nat → α) {m k : Nat} (h : k < m) (q : Nat) : swap2 (moveDown x m (k + 1)) k q = moveDown x m k q := by
 unfold swap2
 by_cases h1 : q = k
 ·rw [if_pos h1,(q70 x h).1]
  unfold moveDown;rw [if_neg (by omega),if_pos h1]
 ·rw [if_neg h1]
  by_cases h2 : q = k + 1
  ·rw [if_pos h2,(q70 x h).2]
   unfold moveDown;rw [if_pos (by omega)];congr 1;omega
  ·rw [if_neg h2]
   unfold moveDown
   by_cases h3 : k + 1 < q ∧ q ≤ m
   ·rw [if_pos h3,if_pos (by omega)]
   ·rw [if_neg h3,if_neg h2,if_neg (show ¬ (k < q ∧ q ≤ m) by omega),if_neg h1]
theorem srt_up {a i b : Nat} {x : Nat → α} (h1 : a < i) (h2 : i ≤ b) (sr : Srt key (a + 1) b x) (lo : ∀ k,a + 1 ≤ k → k < i → key (x k) < key (x a)) (hi : ∀ k,i ≤ k → k < b → key (x a) ≤ key (x k)) : Srt key a b (moveUp x a (i - 1)) := by
 intro p q p1 p2 q2
 unfold moveUp
 by_cases c1 : a ≤ p ∧ p < i - 1
 ·rw [if_pos c1]
  by_cases c2 : a ≤ q ∧ q < i - 1
  ·rw [if_pos c2];exact sr _ _ (by omega) (by omega) (by omega)
  ·rw [if_neg c2]
   by_cases c3 : q = i - 1
   ·rw [if_pos c3];exact Int.le_of_lt (lo _ (by omega) (by omega))
   ·rw [if_neg c3];exact sr _ _ (by omega) (by omega) q2
 ·rw [if_neg c1]
  by_cases c3 : p = i - 1
  ·rw [if_pos c3,if_neg (by omega),if_neg (by omega)];exact hi q (by omega) q2
  ·rw [if_neg c3,if_neg (by omega),if_neg (by omega)];exact sr p q (by omega) p2 q2
theorem j161 {a i m : Nat} {x : Nat → α} (h1 : a ≤ i) (h2 : i ≤ m) (sl : Srt key a m x) (lo : ∀ k,a ≤ k → k < i → key (x k) ≤ key (x m)) (hi : ∀ k,i ≤ k → k < m → key (x m) < key (x k)) : Srt key a (m + 1) (moveDown x m i) := by
 intro p q p1 p2 q2
 unfold moveDown
 by_cases c1 : i < p ∧ p ≤ m
 ·rw [if_pos c1,if_pos (by omega)];exact sl _ _ (by omega) (by omega) (by omega)
 ·rw [if_neg c1]
  by_cases c3 : p = i
  ·rw [if_pos c3,if_pos (by omega)];exact Int.le_of_lt (hi _ (by omega) (by omega))
  ·rw [if_neg c3]
   by_cases c2 : i < q ∧ q ≤ m
   ·rw [if_pos c2];exact sl _ _ p1 (by omega) (by omega)
   ·rw [if_neg c2]
    by_cases c4 : q = i
    ·rw [if_pos c4];exact lo p p1 (by omega)
    ·rw [if_neg c4];exact sl p q p1 p2 (by omega)
end
end Go.Proofs.Ytbamjcnhmmgnlaa
namespace Go.Proofs.Ytbamjcnhmmgnlaa
open Go.Proofs.Ytbamjcnhmmgnlaa.AL
def rowFK (x : Nat → Cube) : Nat → List Dat := fun i => cb (x i)
theorem x20 (x : Nat → Cube) (i : Nat) : rowFK x i = cb (x i) := rfl
theorem x100 (x : Nat → Cube) (i : Nat) (r : Cube) (k : Nat) : putEl (rowFK x) i 0 (cb r) k = rowFK (fun k => if k = i then r else x k) k := by
 unfold putEl rowFK
 by_cases h : k = i
 ·subst h;simp [cb]
 ·simp [h]
theorem x53 (x : Nat → Cube) (i j : Nat) (r s : Cube) (k : Nat) : putEl (putEl (rowFK x) i 0 (cb r)) j 0 (cb s) k = rowFK (fun k => if k = j then s else if k = i then r else x k) k := by
 rw [show putEl (rowFK x) i 0 (cb r) = rowFK (fun k => if k = i then r else x k) from funext (x100 x i r),x100]
theorem tnPK (a b : Nat) : ((a : Int) + (b : Int)).toNat = a + b := by omega
theorem tnMK (a b : Nat) : ((a : Int) - (b : Int)).toNat = a - b := by omega
theorem z11 (a : Nat) : ((a : Int) + 1).toNat = a + 1 := by omega
theorem x11 (a : Nat) : ((a : Int) - 1).toNat = a - 1 := by omega
def swapIK (x : Nat → Cube) (n gen a b m : Nat) (cmp : PV) (i : Fin (m + 1)) : ASt :=
 ⟨[(10,.p (.d (.v (.int .i64 (i.val : Int))))),(3,.p (.d (.v (.int .i64 (m : Int))))),(2,.p (.d (.v (.int .i64 (b : Int))))),(1,.p (.d (.v (.int .i64 (a : Int))))),(0,.ow 1000 gen 4 n)],
  [(1000,.own 27 4 n gen (rowFK (swapR x a b i.val)))]⟩
set_option maxRecDepth 100000 in
theorem z70 (x y : Nat → Cube) (n gen a b m : Nat) (ai bi mi : Int) (cmp : PV) (ha' : ai = a) (hb' : bi = b) (hm' : mi = m) (hab : a + m ≤ b) (hb : b + m ≤ n) (hn : n ≤ 1099511627776) (hy : swapR x a b m = y) :
  MCalls Try.prog 132 [.ow 1000 gen 4 n,.p (.d (.v (.int .i64 ai))),.p (.d (.v (.int .i64 bi))),.p (.d (.v (.int .i64 mi))),.p cmp] [(1000,.own 27 4 n gen (rowFK x))]
   (fun rs M => rs = [] ∧ M = [(1000,.own 27 4 n gen (rowFK y))]) := by
 subst ha' hb' hm' hy
 refine j18 Try.func132 rfl (by decide +kernel) (by rw [Try.ntmps132];simp) (fun l X h => by simp only [AL.look] at h;(repeat' split at h);all_goals first | omega | cases h) ?_;rw [Try.ntmps132];simp only [frA]
 (repeat (first | apply j0 | refine j6 rfl ?_ | refine z7 rfl ?_ | apply z6 | (refine j4 fun K hK => ?_) | (refine z5 fun K hK => ?_) | ((first | apply x5 | apply j5 | ((first | refine z3 (hK _ ?_) | refine x4 (hK _ _ z4 ?_));clear hK K));(first | show AWP _ _ _ _ _ | ((try simp only [x6]);first | show loopQ _ _ _ _ _ _ | show cutQ _ _ _ _ | show AWP _ _ _ _ _))) | ((first | refine x7 [] rfl ?_ | refine j7 [] rfl ?_);simp (disch:=omega) only [go_sem,seval,hd,cb,tnPK,tnMK,z11,x11];(repeat (first | refine ⟨by omega,?_⟩ | refine ⟨True.intro,?_⟩)))))
 refine x12 (swapIK x n gen a b m cmp) (fun i => m - i.val) ⟨0,by omega⟩ ?_ (fun s => ?_)
 ·unfold swapIK
  rw [j158]
  refine Weak.list ?_ ?_;(all_goals simp (disch:=omega) only [AllF,AllL,q10,z10,j9,exists_eq_left',go_sem,seval,hd,cb,tnPK,tnMK,z11,x11]);(all_goals (repeat' (with_reducible apply And.intro)));(all_goals try (first | exact q8 rfl | (refine x10 ?_;omega) | (refine q8 ?_;simp;done)))
 obtain ⟨i,hi⟩ := s
 unfold swapIK
 by_cases h : i < m
 ·obtain ⟨s1,s2⟩ := q159 x (show a + i < b by omega)
  have r1 := x20 (swapR x a b i) (b + i)
  have r2 := x20 (swapR x a b i) (a + i)
  rw [s1] at r1
  rw [s2] at r2
  (repeat (first | apply j0 | refine j6 rfl ?_ | refine z7 rfl ?_ | apply z6 | (refine j4 fun K hK => ?_) | (refine z5 fun K hK => ?_) | ((first | apply x5 | apply j5 | ((first | refine z3 (hK _ ?_) | refine x4 (hK _ _ z4 ?_));clear hK K));(first | show AWP _ _ _ _ _ | ((try simp only [x6]);first | show loopQ _ _ _ _ _ _ | show cutQ _ _ _ _ | show AWP _ _ _ _ _))) | ((first | refine x7 [] rfl ?_ | refine j7 [] rfl ?_);simp (disch:=omega) only [go_sem,seval,hd,cb,tnPK,tnMK,z11,x11,r1,r2];(repeat (first | refine ⟨by omega,?_⟩ | refine ⟨True.intro,?_⟩)))))
  refine ⟨⟨i + 1,by omega⟩,by simp only [];omega,?_⟩
  refine Weak.list ?_ ?_;(all_goals simp (disch:=omega) only [AllF,AllL,q10,z10,j9,exists_eq_left',go_sem,seval,hd,cb,tnPK,tnMK,z11,x11,r1,r2]);(all_goals (repeat' (with_reducible apply And.intro)));(all_goals try (first | exact q8 rfl | (refine x10 ?_;omega) | (refine q8 ?_;simp;done)))
  exact j28 rfl rfl (fun k _ => (x53 (swapR x a b i) (a + i) (b + i) (x (b + i)) (x (a + i)) k).trans (congrArg cb (z159 x (by omega))))
 ·have : i = m := by omega
  subst this
  (repeat (first | apply j0 | refine j6 rfl ?_ | refine z7 rfl ?_ | apply z6 | (refine j4 fun K hK => ?_) | (refine z5 fun K hK => ?_) | ((first | apply x5 | apply j5 | ((first | refine z3 (hK _ ?_) | refine x4 (hK _ _ z4 ?_));clear hK K));(first | show AWP _ _ _ _ _ | ((try simp only [x6]);first | show loopQ _ _ _ _ _ _ | show cutQ _ _ _ _ | show AWP _ _ _ _ _))) | ((first | refine x7 [] rfl ?_ | refine j7 [] rfl ?_);simp (disch:=omega) only [go_sem,seval,hd,cb,tnPK,tnMK,z11,x11];(repeat (first | refine ⟨by omega,?_⟩ | refine ⟨True.intro,?_⟩)))))
  (first | (refine z3 (hK _ ?_);exact (j14 rfl rfl ⟨rfl,rfl⟩).1) | (refine j5 ?_;exact (j14 rfl rfl ⟨rfl,rfl⟩).1) | (refine x5 ?_;exact (j14 rfl rfl ⟨rfl,rfl⟩).1) | (refine x8 ?_;exact (j14 rfl rfl ⟨rfl,rfl⟩).2) | exact (j14 rfl rfl ⟨rfl,rfl⟩).1)
def rotIK (x : Nat → Cube) (n gen a m b : Nat) (cmp : PV) (s : {s : Nat × Nat × (Nat → Cube) // 0 < s.1 ∧ 0 < s.2.1 ∧ s.1 ≤ m - a ∧ s.2.1 ≤ b - m ∧ rot s.2.2 (m - s.1) m (m + s.2.1) = rot x a m b}) : ASt :=
 ⟨[(11,.p (.d (.v (.int .i64 (s.val.2.1 : Int))))),(10,.p (.d (.v (.int .i64 (s.val.1 : Int))))),(4,.p cmp),(2,.p (.d (.v (.int .i64 (m : Int))))),(0,.ow 1000 gen 4 n)],
  [(1000,.own 27 4 n gen (rowFK s.val.2.2))]⟩
set_option maxRecDepth 100000 in
theorem q162 (x : Nat → Cube) (n gen a m b : Nat) (ai mi bi : Int) (cmp : PV) (ha' : ai = a) (hm' : mi = m) (hb' : bi = b) (ham : a < m) (hmb : m < b) (hb : b ≤ n) (hn : n ≤ 1099511627776) :
  MCalls Try.prog 129 [.ow 1000 gen 4 n,.p (.d (.v (.int .i64 ai))),.p (.d (.v (.int .i64 mi))),.p (.d (.v (.int .i64 bi))),.p cmp] [(1000,.own 27 4 n gen (rowFK x))]
   (fun rs M => rs = [] ∧ M = [(1000,.own 27 4 n gen (rowFK (rot x a m b)))]) := by
 subst ha' hm' hb'
 refine j18 Try.func129 rfl (by decide +kernel) (by rw [Try.ntmps129];simp) (fun l X h => by simp only [AL.look] at h;(repeat' split at h);all_goals first | omega | cases h) ?_;rw [Try.ntmps129];simp only [frA]
 (repeat (first | apply j0 | refine j6 rfl ?_ | refine z7 rfl ?_ | apply z6 | (refine j4 fun K hK => ?_) | (refine z5 fun K hK => ?_) | ((first | apply x5 | apply j5 | ((first | refine z3 (hK _ ?_) | refine x4 (hK _ _ z4 ?_));clear hK K));(first | show AWP _ _ _ _ _ | ((try simp only [x6]);first | show loopQ _ _ _ _ _ _ | show cutQ _ _ _ _ | show AWP _ _ _ _ _))) | ((first | refine x7 [] rfl ?_ | refine j7 [] rfl ?_);simp (disch:=omega) only [go_sem,seval,hd,cb,tnPK,tnMK,z11,x11];(repeat (first | refine ⟨by omega,?_⟩ | refine ⟨True.intro,?_⟩)))))
 refine x12 (rotIK x n gen a m b cmp) (fun s => s.val.1 + s.val.2.1) ⟨(m - a,b - m,x),by simp only [];omega,by simp only [];omega,by simp,by simp,by simp only [];congr 1 <;> omega⟩ ?_ (fun s => ?_)
 ·unfold rotIK
  refine Weak.list ?_ ?_;(all_goals simp (disch:=omega) only [AllF,AllL,q10,z10,j9,exists_eq_left',go_sem,seval,hd,cb,tnPK,tnMK,z11,x11]);(all_goals (repeat' (with_reducible apply And.intro)));(all_goals try (first | exact q8 rfl | (refine x10 ?_;omega) | (refine q8 ?_;simp;done)))
 obtain ⟨⟨i,j,y⟩,hi,hj,hi2,hj2,he⟩ := s
 unfold rotIK
 simp only [] at hi hj hi2 hj2 he
 by_cases h : i = j
 ·subst h
  have q : ((i : Int) != (i : Int)) = false := by simp
  (repeat (first | apply j0 | refine j6 rfl ?_ | refine z7 rfl ?_ | apply z6 | (refine j4 fun K hK => ?_) | (refine z5 fun K hK => ?_) | ((first | apply x5 | apply j5 | ((first | refine z3 (hK _ ?_) | refine x4 (hK _ _ z4 ?_));clear hK K));(first | show AWP _ _ _ _ _ | ((try simp only [x6]);first | show loopQ _ _ _ _ _ _ | show cutQ _ _ _ _ | show AWP _ _ _ _ _))) | ((first | refine x7 [] rfl ?_ | refine j7 [] rfl ?_);simp (disch:=omega) only [go_sem,seval,hd,cb,tnPK,tnMK,z11,x11,q];(repeat (first | refine ⟨by omega,?_⟩ | refine ⟨True.intro,?_⟩)))))
  (refine q16 _ (x16 [(1000,1000)] rfl rfl rfl rfl rfl rfl (z70 y _ n gen (m - i) m i _ _ _ cmp (by omega) rfl rfl (by omega) (by omega) hn ((q160 y (by omega)).trans he)) rfl (j16 (by repeat (first | exact trivial | refine ⟨rfl,?_⟩)) (by kernel_rfl))) ?_);simp (disch:=omega) only [go_sem,seval,hd,cb,tnPK,tnMK,z11,x11,q]
  (repeat (first | apply j0 | refine j6 rfl ?_ | refine z7 rfl ?_ | apply z6 | (refine j4 fun K hK => ?_) | (refine z5 fun K hK => ?_) | ((first | apply x5 | apply j5 | ((first | refine z3 (hK _ ?_) | refine x4 (hK _ _ z4 ?_));clear hK K));(first | show AWP _ _ _ _ _ | ((try simp only [x6]);first | show loopQ _ _ _ _ _ _ | show cutQ _ _ _ _ | show AWP _ _ _ _ _))) | ((first | refine x7 [] rfl ?_ | refine j7 [] rfl ?_);simp (disch:=omega) only [go_sem,seval,hd,cb,tnPK,tnMK,z11,x11,q];(repeat (first | refine ⟨by omega,?_⟩ | refine ⟨True.intro,?_⟩)))))
  (first | (refine z3 (hK _ ?_);exact (j14 rfl rfl ⟨rfl,rfl⟩).1) | (refine j5 ?_;exact (j14 rfl rfl ⟨rfl,rfl⟩).1) | (refine x5 ?_;exact (j14 rfl rfl ⟨rfl,rfl⟩).1) | (refine x8 ?_;exact (j14 rfl rfl ⟨rfl,rfl⟩).2) | exact (j14 rfl rfl ⟨rfl,rfl⟩).1)
 ·have q : ((i : Int) != (j : Int)) = true := by simp;omega
  by_cases hlt : j < i
  ·(repeat (first | apply j0 | refine j6 rfl ?_ | refine z7 rfl ?_ | apply z6 | (refine j4 fun K hK => ?_) | (refine z5 fun K hK => ?_) | ((first | apply x5 | apply j5 | ((first | refine z3 (hK _ ?_) | refine x4 (hK _ _ z4 ?_));clear hK K));(first | show AWP _ _ _ _ _ | ((try simp only [x6]);first | show loopQ _ _ _ _ _ _ | show cutQ _ _ _ _ | show AWP _ _ _ _ _))) | ((first | refine x7 [] rfl ?_ | refine j7 [] rfl ?_);simp (disch:=omega) only [go_sem,seval,hd,cb,tnPK,tnMK,z11,x11,q];(repeat (first | refine ⟨by omega,?_⟩ | refine ⟨True.intro,?_⟩)))))
   (refine q16 _ (x16 [(1000,1000)] rfl rfl rfl rfl rfl rfl (z70 y _ n gen (m - i) m j _ _ _ cmp (by omega) rfl rfl (by omega) (by omega) hn rfl) rfl (j16 (by repeat (first | exact trivial | refine ⟨rfl,?_⟩)) (by kernel_rfl))) ?_);simp (disch:=omega) only [go_sem,seval,hd,cb,tnPK,tnMK,z11,x11,q]
   (repeat (first | apply j0 | refine j6 rfl ?_ | refine z7 rfl ?_ | apply z6 | (refine j4 fun K hK => ?_) | (refine z5 fun K hK => ?_) | ((first | apply x5 | apply j5 | ((first | refine z3 (hK _ ?_) | refine x4 (hK _ _ z4 ?_));clear hK K));(first | show AWP _ _ _ _ _ | ((try simp only [x6]);first | show loopQ _ _ _ _ _ _ | show cutQ _ _ _ _ | show AWP _ _ _ _ _))) | ((first | refine x7 [] rfl ?_ | refine j7 [] rfl ?_);simp (disch:=omega) only [go_sem,seval,hd,cb,tnPK,tnMK,z11,x11,q];(repeat (first | refine ⟨by omega,?_⟩ | refine ⟨True.intro,?_⟩)))))
   refine ⟨⟨(i - j,j,swapR y (m - i) m j),by simp only [];omega,hj,by simp only [];omega,hj2,(x159 y hj hlt (by omega)).trans he⟩,by simp only [];omega,?_⟩
   refine Weak.list ?_ ?_;(all_goals simp (disch:=omega) only [AllF,AllL,q10,z10,j9,exists_eq_left',go_sem,seval,hd,cb,tnPK,tnMK,z11,x11,q]);(all_goals (repeat' (with_reducible apply And.intro)));(all_goals try (first | exact q8 rfl | (refine x10 ?_;omega) | (refine q8 ?_;simp;done)))
  ·(repeat (first | apply j0 | refine j6 rfl ?_ | refine z7 rfl ?_ | apply z6 | (refine j4 fun K hK => ?_) | (refine z5 fun K hK => ?_) | ((first | apply x5 | apply j5 | ((first | refine z3 (hK _ ?_) | refine x4 (hK _ _ z4 ?_));clear hK K));(first | show AWP _ _ _ _ _ | ((try simp only [x6]);first | show loopQ _ _ _ _ _ _ | show cutQ _ _ _ _ | show AWP _ _ _ _ _))) | ((first | refine x7 [] rfl ?_ | refine j7 [] rfl ?_);simp (disch:=omega) only [go_sem,seval,hd,cb,tnPK,tnMK,z11,x11,q];(repeat (first | refine ⟨by omega,?_⟩ | refine ⟨True.intro,?_⟩)))))
   (refine q16 _ (x16 [(1000,1000)] rfl rfl rfl rfl rfl rfl (z70 y _ n gen (m - i) (m + j - i) i _ _ _ cmp (by omega) (by omega) rfl (by omega) (by omega) hn rfl) rfl (j16 (by repeat (first | exact trivial | refine ⟨rfl,?_⟩)) (by kernel_rfl))) ?_);simp (disch:=omega) only [go_sem,seval,hd,cb,tnPK,tnMK,z11,x11,q]
   (repeat (first | apply j0 | refine j6 rfl ?_ | refine z7 rfl ?_ | apply z6 | (refine j4 fun K hK => ?_) | (refine z5 fun K hK => ?_) | ((first | apply x5 | apply j5 | ((first | refine z3 (hK _ ?_) | refine x4 (hK _ _ z4 ?_));clear hK K));(first | show AWP _ _ _ _ _ | ((try simp only [x6]);first | show loopQ _ _ _ _ _ _ | show cutQ _ _ _ _ | show AWP _ _ _ _ _))) | ((first | refine x7 [] rfl ?_ | refine j7 [] rfl ?_);simp (disch:=omega) only [go_sem,seval,hd,cb,tnPK,tnMK,z11,x11,q];(repeat (first | refine ⟨by omega,?_⟩ | refine ⟨True.intro,?_⟩)))))
   refine ⟨⟨(i,j - i,swapR y (m - i) (m + j - i) i),hi,by simp only [];omega,hi2,by simp only [];omega,(j159 y hi (by omega) (by omega)).trans he⟩,by simp only [];omega,?_⟩
   refine Weak.list ?_ ?_;(all_goals simp (disch:=omega) only [AllF,AllL,q10,z10,j9,exists_eq_left',go_sem,seval,hd,cb,tnPK,tnMK,z11,x11,q]);(all_goals (repeat' (with_reducible apply And.intro)));(all_goals try (first | exact q8 rfl | (refine x10 ?_;omega) | (refine q8 ?_;simp;done)))
structure CmpK (P : Program) (g : FuncId) (key : Cube → Int) (c : Cube → Cube → Int) : Prop where
 call : ∀ p q,ACalls P g [.agg (cb p),.agg (cb q)] (· = [.d (.v (.int .i64 (c p q)))])
 lt : ∀ p q,c p q < 0 ↔ key p < key q
def insIK (key : Cube → Int) (x : Nat → Cube) (n gen a b : Nat) (g : FuncId) (s : {s : Nat × (Nat → Cube) // a + 1 ≤ s.1 ∧ (s.1 ≤ b ∨ s.1 = a + 1) ∧ SE key a b x s.2 ∧ Srt key a s.1 s.2}) : ASt :=
 ⟨[(8,.p (.d (.v (.int .i64 (s.val.1 : Int))))),(3,.p (.fn (.func g) [] [])),(2,.p (.d (.v (.int .i64 (b : Int))))),(1,.p (.d (.v (.int .i64 (a : Int))))),(0,.ow 1000 gen 4 n)],
  [(1000,.own 27 4 n gen (rowFK s.val.2))]⟩
def insJK (key : Cube → Int) (x : Nat → Cube) (n gen a b i : Nat) (g : FuncId) (s : {s : Nat × (Nat → Cube) // a ≤ s.1 ∧ s.1 ≤ i ∧ SE key a b x s.2 ∧ InsAt key a i s.1 s.2}) : ASt :=
 ⟨[(9,.p (.d (.v (.int .i64 (s.val.1 : Int))))),(8,.p (.d (.v (.int .i64 (i : Int))))),(3,.p (.fn (.func g) [] [])),(2,.p (.d (.v (.int .i64 (b : Int))))),(1,.p (.d (.v (.int .i64 (a : Int))))),(0,.ow 1000 gen 4 n)],
  [(1000,.own 27 4 n gen (rowFK s.val.2))]⟩
set_option maxRecDepth 100000 in
theorem j100 {key : Cube → Int} {c : Cube → Cube → Int} {g : FuncId} (hc : CmpK Try.prog g key c) (x y : Nat → Cube) (n gen a b : Nat) (ai bi : Int) (ha' : ai = a) (hb' : bi = b) (hab : a ≤ b) (hb : b ≤ n) (hn : n ≤ 1099511627776) (hy : stab key a b x = y) :
  MCalls Try.prog 117 [.ow 1000 gen 4 n,.p (.d (.v (.int .i64 ai))),.p (.d (.v (.int .i64 bi))),.p (.fn (.func g) [] [])] [(1000,.own 27 4 n gen (rowFK x))]
   (fun rs M => rs = [] ∧ M = [(1000,.own 27 4 n gen (rowFK y))]) := by
 subst ha' hb' hy
 refine j18 Try.func117 rfl (by decide +kernel) (by rw [Try.ntmps117];simp) (fun l X h => by simp only [AL.look] at h;(repeat' split at h);all_goals first | omega | cases h) ?_;rw [Try.ntmps117];simp only [frA]
 (repeat (first | apply j0 | refine j6 rfl ?_ | refine z7 rfl ?_ | apply z6 | (refine j4 fun K hK => ?_) | (refine z5 fun K hK => ?_) | ((first | apply x5 | apply j5 | ((first | refine z3 (hK _ ?_) | refine x4 (hK _ _ z4 ?_));clear hK K));(first | show AWP _ _ _ _ _ | ((try simp only [x6]);first | show loopQ _ _ _ _ _ _ | show cutQ _ _ _ _ | show AWP _ _ _ _ _))) | ((first | refine x7 [] rfl ?_ | refine j7 [] rfl ?_);simp (disch:=omega) only [go_sem,seval,hd,cb,tnPK,tnMK,z11,x11];(repeat (first | refine ⟨by omega,?_⟩ | refine ⟨True.intro,?_⟩)))))
 refine x12 (insIK key x n gen a b g) (fun s => b - s.val.1) ⟨(a + 1,x),by simp,by simp,SE.refl _ _ _,fun i j h1 h2 h3 => by simp only [] at h3;omega⟩ ?_ (fun s => ?_)
 ·unfold insIK
  refine Weak.list ?_ ?_;(all_goals simp (disch:=omega) only [AllF,AllL,q10,z10,j9,exists_eq_left',go_sem,seval,hd,cb,tnPK,tnMK,z11,x11]);(all_goals (repeat' (with_reducible apply And.intro)));(all_goals try (first | exact q8 rfl | (refine x10 ?_;omega) | (refine q8 ?_;simp;done)))
 obtain ⟨⟨i,y⟩,hi,hi2,hse,hs⟩ := s
 unfold insIK
 simp only [] at hi hi2 hse hs
 by_cases h : i < b
 ·(repeat (first | apply j0 | refine j6 rfl ?_ | refine z7 rfl ?_ | apply z6 | (refine j4 fun K hK => ?_) | (refine z5 fun K hK => ?_) | ((first | apply x5 | apply j5 | ((first | refine z3 (hK _ ?_) | refine x4 (hK _ _ z4 ?_));clear hK K));(first | show AWP _ _ _ _ _ | ((try simp only [x6]);first | show loopQ _ _ _ _ _ _ | show cutQ _ _ _ _ | show AWP _ _ _ _ _))) | ((first | refine x7 [] rfl ?_ | refine j7 [] rfl ?_);simp (disch:=omega) only [go_sem,seval,hd,cb,tnPK,tnMK,z11,x11];(repeat (first | refine ⟨by omega,?_⟩ | refine ⟨True.intro,?_⟩)))))
  refine x12 (insJK key x n gen a b i g) (fun s => s.val.1) ⟨(i,y),by simp only [];omega,Nat.le_refl _,hse,InsAt.start hs⟩ ?_ (fun s => ?_)
  ·unfold insJK
   refine Weak.list ?_ ?_;(all_goals simp (disch:=omega) only [AllF,AllL,q10,z10,j9,exists_eq_left',go_sem,seval,hd,cb,tnPK,tnMK,z11,x11]);(all_goals (repeat' (with_reducible apply And.intro)));(all_goals try (first | exact q8 rfl | (refine x10 ?_;omega) | (refine q8 ?_;simp;done)))
  obtain ⟨⟨j,z⟩,hj,hj2,hse2,hin⟩ := s
  unfold insJK
  simp only [] at hj hj2 hse2 hin
  by_cases hja : a < j
  ·obtain ⟨j,rfl⟩ : ∃ k,j = k + 1 := ⟨j - 1,by omega⟩
   have r1 := x20 z (j + 1)
   have r2 := x20 z j
   have cc := hc.call (z (j + 1)) (z j)
   have cl := hc.lt (z (j + 1)) (z j)
   generalize c (z (j + 1)) (z j) = c0 at cc cl
   by_cases hlt : c0 < 0
   ·(repeat (first | apply j0 | refine j6 rfl ?_ | refine z7 rfl ?_ | apply z6 | (refine j4 fun K hK => ?_) | (refine z5 fun K hK => ?_) | ((first | apply x5 | apply j5 | ((first | refine z3 (hK _ ?_) | refine x4 (hK _ _ z4 ?_));clear hK K));(first | show AWP _ _ _ _ _ | ((try simp only [x6]);first | show loopQ _ _ _ _ _ _ | show cutQ _ _ _ _ | show AWP _ _ _ _ _))) | ((first | refine j8 rfl rfl rfl ?_ | refine q9 rfl rfl rfl ?_);simp (disch:=omega) only [go_sem,seval,hd,cb,tnPK,tnMK,z11,x11,r1,r2];(first | refine ⟨_,cc,?_⟩)) | ((first | refine x7 [] rfl ?_ | refine j7 [] rfl ?_);simp (disch:=omega) only [go_sem,seval,hd,cb,tnPK,tnMK,z11,x11,r1,r2];(repeat (first | refine ⟨by omega,?_⟩ | refine ⟨True.intro,?_⟩)))))
    refine ⟨⟨(j,swap2 z j),by simp only [];omega,by simp only [];omega,hse2.trans ((SE.swap (by have := cl.1 hlt;omega)).widen (by omega) (by omega) (by omega)),hin.step (by omega) (by omega) (cl.1 hlt)⟩,by simp only [];omega,?_⟩
    refine Weak.list ?_ ?_;(all_goals simp (disch:=omega) only [AllF,AllL,q10,z10,j9,exists_eq_left',go_sem,seval,hd,cb,tnPK,tnMK,z11,x11,r1,r2]);(all_goals (repeat' (with_reducible apply And.intro)));(all_goals try (first | exact q8 rfl | (refine x10 ?_;omega) | (refine q8 ?_;simp;done)))
    exact j28 rfl rfl (fun k _ => x53 z (j + 1) j (z j) (z (j + 1)) k)
   ·(repeat (first | apply j0 | refine j6 rfl ?_ | refine z7 rfl ?_ | apply z6 | (refine j4 fun K hK => ?_) | (refine z5 fun K hK => ?_) | ((first | apply x5 | apply j5 | ((first | refine z3 (hK _ ?_) | refine x4 (hK _ _ z4 ?_));clear hK K));(first | show AWP _ _ _ _ _ | ((try simp only [x6]);first | show loopQ _ _ _ _ _ _ | show cutQ _ _ _ _ | show AWP _ _ _ _ _))) | ((first | refine j8 rfl rfl rfl ?_ | refine q9 rfl rfl rfl ?_);simp (disch:=omega) only [go_sem,seval,hd,cb,tnPK,tnMK,z11,x11,r1,r2];(first | refine ⟨_,cc,?_⟩)) | ((first | refine x7 [] rfl ?_ | refine j7 [] rfl ?_);simp (disch:=omega) only [go_sem,seval,hd,cb,tnPK,tnMK,z11,x11,r1,r2];(repeat (first | refine ⟨by omega,?_⟩ | refine ⟨True.intro,?_⟩)))))
    refine ⟨⟨(i + 1,z),by simp only [];omega,by simp only [];omega,hse2,hin.done hj2 (.inr (by have : ¬ key (z (j + 1)) < key (z j) := fun e => hlt (cl.2 e);rw [Nat.add_sub_cancel];omega))⟩,by simp only [];omega,?_⟩
    refine Weak.list ?_ ?_;(all_goals simp (disch:=omega) only [AllF,AllL,q10,z10,j9,exists_eq_left',go_sem,seval,hd,cb,tnPK,tnMK,z11,x11,r1,r2]);(all_goals (repeat' (with_reducible apply And.intro)));(all_goals try (first | exact q8 rfl | (refine x10 ?_;omega) | (refine q8 ?_;simp;done)))
  ·(repeat (first | apply j0 | refine j6 rfl ?_ | refine z7 rfl ?_ | apply z6 | (refine j4 fun K hK => ?_) | (refine z5 fun K hK => ?_) | ((first | apply x5 | apply j5 | ((first | refine z3 (hK _ ?_) | refine x4 (hK _ _ z4 ?_));clear hK K));(first | show AWP _ _ _ _ _ | ((try simp only [x6]);first | show loopQ _ _ _ _ _ _ | show cutQ _ _ _ _ | show AWP _ _ _ _ _))) | ((first | refine x7 [] rfl ?_ | refine j7 [] rfl ?_);simp (disch:=omega) only [go_sem,seval,hd,cb,tnPK,tnMK,z11,x11];(repeat (first | refine ⟨by omega,?_⟩ | refine ⟨True.intro,?_⟩)))))
   refine ⟨⟨(i + 1,z),by simp only [];omega,by simp only [];omega,hse2,hin.done hj2 (.inl (by omega))⟩,by simp only [];omega,?_⟩
   refine Weak.list ?_ ?_;(all_goals simp (disch:=omega) only [AllF,AllL,q10,z10,j9,exists_eq_left',go_sem,seval,hd,cb,tnPK,tnMK,z11,x11]);(all_goals (repeat' (with_reducible apply And.intro)));(all_goals try (first | exact q8 rfl | (refine x10 ?_;omega) | (refine q8 ?_;simp;done)))
 ·(repeat (first | apply j0 | refine j6 rfl ?_ | refine z7 rfl ?_ | apply z6 | (refine j4 fun K hK => ?_) | (refine z5 fun K hK => ?_) | ((first | apply x5 | apply j5 | ((first | refine z3 (hK _ ?_) | refine x4 (hK _ _ z4 ?_));clear hK K));(first | show AWP _ _ _ _ _ | ((try simp only [x6]);first | show loopQ _ _ _ _ _ _ | show cutQ _ _ _ _ | show AWP _ _ _ _ _))) | ((first | refine x7 [] rfl ?_ | refine j7 [] rfl ?_);simp (disch:=omega) only [go_sem,seval,hd,cb,tnPK,tnMK,z11,x11];(repeat (first | refine ⟨by omega,?_⟩ | refine ⟨True.intro,?_⟩)))))
  have hs' : Srt key a b y := fun p q h1 h2 h3 => hs p q h1 h2 (by omega)
  have ey := funext (z33 hse hs')
  subst ey
  (first | (refine z3 (hK _ ?_);exact (j14 rfl rfl ⟨rfl,rfl⟩).1) | (refine j5 ?_;exact (j14 rfl rfl ⟨rfl,rfl⟩).1) | (refine x5 ?_;exact (j14 rfl rfl ⟨rfl,rfl⟩).1) | (refine x8 ?_;exact (j14 rfl rfl ⟨rfl,rfl⟩).2) | exact (j14 rfl rfl ⟨rfl,rfl⟩).1)
theorem j53 (i j : Nat) : ((i : Int) + (j : Int)) / 2 ^ min 1 64 = (((i + j) / 2 : Nat) : Int) := by
 have : (2 : Int) ^ min 1 64 = 2 := by decide
 rw [this];omega
def smAK (key : Cube → Int) (x : Nat → Cube) (n gen a m b : Nat) (g : FuncId) (s : {s : Nat × Nat // m ≤ s.1 ∧ s.1 ≤ s.2 ∧ s.2 ≤ b ∧ (∀ k,m ≤ k → k < s.1 → key (x k) < key (x a)) ∧ ∀ k,s.2 ≤ k → k < b → key (x a) ≤ key (x k)}) : ASt :=
 ⟨[(11,.p (.d (.v (.int .i64 (s.val.2 : Int))))),(10,.p (.d (.v (.int .i64 (s.val.1 : Int))))),(4,.p (.fn (.func g) [] [])),(1,.p (.d (.v (.int .i64 (a : Int))))),(0,.ow 1000 gen 4 n)],
  [(1000,.own 27 4 n gen (rowFK x))]⟩
def smBK (key : Cube → Int) (x : Nat → Cube) (n gen a i b : Nat) (s : {k : Nat // a ≤ k ∧ k < i ∧ SE key a b x (moveUp x a k)}) : ASt :=
 ⟨[(13,.p (.d (.v (.int .i64 (s.val : Int))))),(10,.p (.d (.v (.int .i64 (i : Int))))),(0,.ow 1000 gen 4 n)],
  [(1000,.own 27 4 n gen (rowFK (moveUp x a s.val)))]⟩
def smCK (key : Cube → Int) (x : Nat → Cube) (n gen a m b : Nat) (g : FuncId) (s : {s : Nat × Nat // a ≤ s.1 ∧ s.1 ≤ s.2 ∧ s.2 ≤ m ∧ (∀ k,a ≤ k → k < s.1 → key (x k) ≤ key (x m)) ∧ ∀ k,s.2 ≤ k → k < m → key (x m) < key (x k)}) : ASt :=
 ⟨[(15,.p (.d (.v (.int .i64 (s.val.2 : Int))))),(14,.p (.d (.v (.int .i64 (s.val.1 : Int))))),(4,.p (.fn (.func g) [] [])),(2,.p (.d (.v (.int .i64 (m : Int))))),(0,.ow 1000 gen 4 n)],
  [(1000,.own 27 4 n gen (rowFK x))]⟩
def smDK (key : Cube → Int) (x : Nat → Cube) (n gen a i m b : Nat) (s : {k : Nat // i ≤ k ∧ k ≤ m ∧ SE key a b x (moveDown x m k)}) : ASt :=
 ⟨[(17,.p (.d (.v (.int .i64 (s.val : Int))))),(14,.p (.d (.v (.int .i64 (i : Int))))),(0,.ow 1000 gen 4 n)],
  [(1000,.own 27 4 n gen (rowFK (moveDown x m s.val)))]⟩
def smEK (key : Cube → Int) (x : Nat → Cube) (n gen a m b mid N s0 r0 : Nat) (g : FuncId) (s : {s : Nat × Nat // s0 ≤ s.1 ∧ s.1 ≤ s.2 ∧ s.2 ≤ r0 ∧ (∀ c,s0 ≤ c → c < s.1 → key (x c) ≤ key (x (N - 1 - c))) ∧ ∀ c,s.2 ≤ c → c < r0 → key (x (N - 1 - c)) < key (x c)}) : ASt :=
 ⟨[(22,.p (.d (.v (.int .i64 ((N - 1 : Nat) : Int))))),(21,.p (.d (.v (.int .i64 (s.val.2 : Int))))),(20,.p (.d (.v (.int .i64 (s.val.1 : Int))))),(19,.p (.d (.v (.int .i64 (N : Int))))),(18,.p (.d (.v (.int .i64 (mid : Int))))),
  (4,.p (.fn (.func g) [] [])),(3,.p (.d (.v (.int .i64 (b : Int))))),(2,.p (.d (.v (.int .i64 (m : Int))))),(1,.p (.d (.v (.int .i64 (a : Int))))),(0,.ow 1000 gen 4 n)],
  [(1000,.own 27 4 n gen (rowFK x))]⟩
theorem q101 {key : Cube → Int} {a b : Nat} {x : Nat → Cube} (h : Srt key a b x) : stab key a b x = x := (funext (z33 (SE.refl a b x) h)).symm
set_option maxRecDepth 100000 in
theorem z101 {key : Cube → Int} {c : Cube → Cube → Int} {g : FuncId} (hc : CmpK Try.prog g key c) (n gen : Nat) (hn : n ≤ 1099511627776) : ∀ (M : Nat) (x y : Nat → Cube) (a m b : Nat) (ai mi bi : Int),b - a ≤ M → ai = a → mi = m → bi = b → a < m → m < b → b ≤ n → Srt key a m x → Srt key m b x → stab key a b x = y →
  MCalls Try.prog 118 [.ow 1000 gen 4 n,.p (.d (.v (.int .i64 ai))),.p (.d (.v (.int .i64 mi))),.p (.d (.v (.int .i64 bi))),.p (.fn (.func g) [] [])] [(1000,.own 27 4 n gen (rowFK x))]
   (fun rs M => rs = [] ∧ M = [(1000,.own 27 4 n gen (rowFK y))]) := by
 intro M
 induction M with
 | zero => intro x y a m b ai mi bi hM _ _ _ ham hmb;omega
 | succ M ih =>
 intro x y a m b ai mi bi hM ha' hm' hb' ham hmb hb sl sr hy
 subst ha' hm' hb' hy
 by_cases h1 : m = a + 1
 ·have q : ((m : Int) - (a : Int) == 1) = true := by rw [beq_iff_eq];omega
  refine j18 Try.func118 rfl (by decide +kernel) (by rw [Try.ntmps118];simp) (fun l X h => by simp only [AL.look] at h;(repeat' split at h);all_goals first | omega | cases h) ?_;rw [Try.ntmps118];simp only [frA]
  (repeat (first | apply j0 | refine j6 rfl ?_ | refine z7 rfl ?_ | apply z6 | (refine j4 fun K hK => ?_) | (refine z5 fun K hK => ?_) | ((first | apply x5 | apply j5 | ((first | refine z3 (hK _ ?_) | refine x4 (hK _ _ z4 ?_));clear hK K));(first | show AWP _ _ _ _ _ | ((try simp only [x6]);first | show loopQ _ _ _ _ _ _ | show cutQ _ _ _ _ | show AWP _ _ _ _ _))) | ((first | refine x7 [] rfl ?_ | refine j7 [] rfl ?_);simp (disch:=omega) only [go_sem,seval,hd,cb,tnPK,tnMK,z11,x11,q];(repeat (first | refine ⟨by omega,?_⟩ | refine ⟨True.intro,?_⟩)))))
  refine x12 (smAK key x n gen a m b g) (fun s => s.val.2 - s.val.1) ⟨(m,b),by simp,by simp only [];omega,by simp,fun k h1 h2 => by simp only [] at h2;omega,fun k h1 h2 => by simp only [] at h1;omega⟩ ?_ (fun s => ?_)
  ·unfold smAK
   refine Weak.list ?_ ?_;(all_goals simp (disch:=omega) only [AllF,AllL,q10,z10,j9,exists_eq_left',go_sem,seval,hd,cb,tnPK,tnMK,z11,x11,q]);(all_goals (repeat' (with_reducible apply And.intro)));(all_goals try (first | exact q8 rfl | (refine x10 ?_;omega) | (refine q8 ?_;simp;done)))
  obtain ⟨⟨i,j⟩,hi,hij,hj,lo,hi2⟩ := s
  unfold smAK
  simp only [] at hi hij hj lo hi2
  by_cases h : i < j
  ·have hf := j53 i j
   obtain ⟨d,hdd⟩ : ∃ d,d = (i + j) / 2 := ⟨_,rfl⟩
   rw [← hdd] at hf
   have r1 := x20 x d
   have r2 := x20 x a
   have cc := hc.call (x d) (x a)
   have cl := hc.lt (x d) (x a)
   generalize c (x d) (x a) = c0 at cc cl
   by_cases hlt : c0 < 0
   ·(repeat (first | apply j0 | refine j6 rfl ?_ | refine z7 rfl ?_ | apply z6 | (refine j4 fun K hK => ?_) | (refine z5 fun K hK => ?_) | ((first | apply x5 | apply j5 | ((first | refine z3 (hK _ ?_) | refine x4 (hK _ _ z4 ?_));clear hK K));(first | show AWP _ _ _ _ _ | ((try simp only [x6]);first | show loopQ _ _ _ _ _ _ | show cutQ _ _ _ _ | show AWP _ _ _ _ _))) | ((first | refine j8 rfl rfl rfl ?_ | refine q9 rfl rfl rfl ?_);simp (disch:=omega) only [go_sem,seval,hd,cb,tnPK,tnMK,z11,x11,hf,r1,r2];(first | refine ⟨_,cc,?_⟩)) | ((first | refine x7 [] rfl ?_ | refine j7 [] rfl ?_);simp (disch:=omega) only [go_sem,seval,hd,cb,tnPK,tnMK,z11,x11,hf,r1,r2];(repeat (first | refine ⟨by omega,?_⟩ | refine ⟨True.intro,?_⟩)))))
    refine ⟨⟨(d + 1,j),by simp only [];omega,by simp only [];omega,hj,fun k k1 k2 => ?_,hi2⟩,by simp only [];omega,?_⟩
    ·have := sr.le k1 (show k ≤ d by simp only [] at k2;omega) (by omega)
     have := cl.1 hlt
     omega
    refine Weak.list ?_ ?_;(all_goals simp (disch:=omega) only [AllF,AllL,q10,z10,j9,exists_eq_left',go_sem,seval,hd,cb,tnPK,tnMK,z11,x11,hf,r1,r2]);(all_goals (repeat' (with_reducible apply And.intro)));(all_goals try (first | exact q8 rfl | (refine x10 ?_;omega) | (refine q8 ?_;simp;done)))
   ·(repeat (first | apply j0 | refine j6 rfl ?_ | refine z7 rfl ?_ | apply z6 | (refine j4 fun K hK => ?_) | (refine z5 fun K hK => ?_) | ((first | apply x5 | apply j5 | ((first | refine z3 (hK _ ?_) | refine x4 (hK _ _ z4 ?_));clear hK K));(first | show AWP _ _ _ _ _ | ((try simp only [x6]);first | show loopQ _ _ _ _ _ _ | show cutQ _ _ _ _ | show AWP _ _ _ _ _))) | ((first | refine j8 rfl rfl rfl ?_ | refine q9 rfl rfl rfl ?_);simp (disch:=omega) only [go_sem,seval,hd,cb,tnPK,tnMK,z11,x11,hf,r1,r2];(first | refine ⟨_,cc,?_⟩)) | ((first | refine x7 [] rfl ?_ | refine j7 [] rfl ?_);simp (disch:=omega) only [go_sem,seval,hd,cb,tnPK,tnMK,z11,x11,hf,r1,r2];(repeat (first | refine ⟨by omega,?_⟩ | refine ⟨True.intro,?_⟩)))))
    refine ⟨⟨(i,d),hi,by simp only [];omega,by simp only [];omega,lo,fun k k1 k2 => ?_⟩,by simp only [];omega,?_⟩
    ·have := sr.le (show m ≤ d by omega) (show d ≤ k from k1) k2
     have : ¬ key (x d) < key (x a) := fun e => hlt (cl.2 e)
     omega
    refine Weak.list ?_ ?_;(all_goals simp (disch:=omega) only [AllF,AllL,q10,z10,j9,exists_eq_left',go_sem,seval,hd,cb,tnPK,tnMK,z11,x11,hf,r1,r2]);(all_goals (repeat' (with_reducible apply And.intro)));(all_goals try (first | exact q8 rfl | (refine x10 ?_;omega) | (refine q8 ?_;simp;done)))
  ·have : i = j := by omega
   subst this
   (repeat (first | apply j0 | refine j6 rfl ?_ | refine z7 rfl ?_ | apply z6 | (refine j4 fun K hK => ?_) | (refine z5 fun K hK => ?_) | ((first | apply x5 | apply j5 | ((first | refine z3 (hK _ ?_) | refine x4 (hK _ _ z4 ?_));clear hK K));(first | show AWP _ _ _ _ _ | ((try simp only [x6]);first | show loopQ _ _ _ _ _ _ | show cutQ _ _ _ _ | show AWP _ _ _ _ _))) | ((first | refine x7 [] rfl ?_ | refine j7 [] rfl ?_);simp (disch:=omega) only [go_sem,seval,hd,cb,tnPK,tnMK,z11,x11];(repeat (first | refine ⟨by omega,?_⟩ | refine ⟨True.intro,?_⟩)))))
   refine x12 (smBK key x n gen a i b) (fun s => i - s.val) ⟨a,by omega,by omega,by rw [x99];exact SE.refl _ _ _⟩ ?_ (fun s => ?_)
   ·unfold smBK
    refine Weak.list ?_ ?_;(all_goals simp (disch:=omega) only [AllF,AllL,q10,z10,j9,exists_eq_left',go_sem,seval,hd,cb,tnPK,tnMK,z11,x11,x99]);(all_goals (repeat' (with_reducible apply And.intro)));(all_goals try (first | exact q8 rfl | (refine x10 ?_;omega) | (refine q8 ?_;simp;done)))
   obtain ⟨k,hk,hk2,hse⟩ := s
   unfold smBK
   by_cases hki : k + 1 < i
   ·have r1 := x20 (moveUp x a k) (k + 1)
    have r2 := x20 (moveUp x a k) k
    obtain ⟨m1,m2⟩ := j69 x a k
    have hne : key (moveUp x a k k) ≠ key (moveUp x a k (k + 1)) := by rw [m1,m2];have := lo (k + 1) (by omega) hki;omega
    (repeat (first | apply j0 | refine j6 rfl ?_ | refine z7 rfl ?_ | apply z6 | (refine j4 fun K hK => ?_) | (refine z5 fun K hK => ?_) | ((first | apply x5 | apply j5 | ((first | refine z3 (hK _ ?_) | refine x4 (hK _ _ z4 ?_));clear hK K));(first | show AWP _ _ _ _ _ | ((try simp only [x6]);first | show loopQ _ _ _ _ _ _ | show cutQ _ _ _ _ | show AWP _ _ _ _ _))) | ((first | refine x7 [] rfl ?_ | refine j7 [] rfl ?_);simp (disch:=omega) only [go_sem,seval,hd,cb,tnPK,tnMK,z11,x11,r1,r2];(repeat (first | refine ⟨by omega,?_⟩ | refine ⟨True.intro,?_⟩)))))
    refine ⟨⟨k + 1,by omega,by omega,?_⟩,by simp only [];omega,?_⟩
    ·rw [← show swap2 (moveUp x a k) k = moveUp x a (k + 1) from funext (j99 x hk)]
     exact hse.trans ((SE.swap hne).widen hk (by omega) (by omega))
    refine Weak.list ?_ ?_;(all_goals simp (disch:=omega) only [AllF,AllL,q10,z10,j9,exists_eq_left',go_sem,seval,hd,cb,tnPK,tnMK,z11,x11,r1,r2]);(all_goals (repeat' (with_reducible apply And.intro)));(all_goals try (first | exact q8 rfl | (refine x10 ?_;omega) | (refine q8 ?_;simp;done)))
    exact j28 rfl rfl (fun q _ => (x53 (moveUp x a k) k (k + 1) (moveUp x a k (k + 1)) (moveUp x a k k) q).trans (by
     rw [← show swap2 (moveUp x a k) k = moveUp x a (k + 1) from funext (j99 x hk)]
     refine congrArg cb ?_
     unfold swap2
     by_cases e1 : q = k
     ·simp only [e1,if_true,show (k = k + 1) = False from by simp,if_false]
     ·simp only [e1,if_false]))
   ·have : k = i - 1 := by omega
    subst this
    (repeat (first | apply j0 | refine j6 rfl ?_ | refine z7 rfl ?_ | apply z6 | (refine j4 fun K hK => ?_) | (refine z5 fun K hK => ?_) | ((first | apply x5 | apply j5 | ((first | refine z3 (hK _ ?_) | refine x4 (hK _ _ z4 ?_));clear hK K));(first | show AWP _ _ _ _ _ | ((try simp only [x6]);first | show loopQ _ _ _ _ _ _ | show cutQ _ _ _ _ | show AWP _ _ _ _ _))) | ((first | refine x7 [] rfl ?_ | refine j7 [] rfl ?_);simp (disch:=omega) only [go_sem,seval,hd,cb,tnPK,tnMK,z11,x11];(repeat (first | refine ⟨by omega,?_⟩ | refine ⟨True.intro,?_⟩)))))
    have ey := funext (z33 hse (srt_up (by omega) hj (by rw [← h1];exact sr) (fun k k1 k2 => lo k (by omega) k2) hi2))
    rw [← ey]
    (first | (refine z3 (hK _ ?_);exact (j14 rfl rfl ⟨rfl,rfl⟩).1) | (refine j5 ?_;exact (j14 rfl rfl ⟨rfl,rfl⟩).1) | (refine x5 ?_;exact (j14 rfl rfl ⟨rfl,rfl⟩).1) | (refine x8 ?_;exact (j14 rfl rfl ⟨rfl,rfl⟩).2) | exact (j14 rfl rfl ⟨rfl,rfl⟩).1)
 ·have q : ((m : Int) - (a : Int) == 1) = false := by rw [beq_eq_false_iff_ne];omega
  by_cases h2 : b = m + 1
  ·have q2 : ((b : Int) - (m : Int) == 1) = true := by rw [beq_iff_eq];omega
   refine j18 Try.func118 rfl (by decide +kernel) (by rw [Try.ntmps118];simp) (fun l X h => by simp only [AL.look] at h;(repeat' split at h);all_goals first | omega | cases h) ?_;rw [Try.ntmps118];simp only [frA]
   (repeat (first | apply j0 | refine j6 rfl ?_ | refine z7 rfl ?_ | apply z6 | (refine j4 fun K hK => ?_) | (refine z5 fun K hK => ?_) | ((first | apply x5 | apply j5 | ((first | refine z3 (hK _ ?_) | refine x4 (hK _ _ z4 ?_));clear hK K));(first | show AWP _ _ _ _ _ | ((try simp only [x6]);first | show loopQ _ _ _ _ _ _ | show cutQ _ _ _ _ | show AWP _ _ _ _ _))) | ((first | refine x7 [] rfl ?_ | refine j7 [] rfl ?_);simp (disch:=omega) only [go_sem,seval,hd,cb,tnPK,tnMK,z11,x11,q,q2];(repeat (first | refine ⟨by omega,?_⟩ | refine ⟨True.intro,?_⟩)))))
   refine x12 (smCK key x n gen a m b g) (fun s => s.val.2 - s.val.1) ⟨(a,m),by simp,by simp only [];omega,by simp,fun k h1 h2 => by simp only [] at h2;omega,fun k h1 h2 => by simp only [] at h1;omega⟩ ?_ (fun s => ?_)
   ·unfold smCK
    refine Weak.list ?_ ?_;(all_goals simp (disch:=omega) only [AllF,AllL,q10,z10,j9,exists_eq_left',go_sem,seval,hd,cb,tnPK,tnMK,z11,x11,q,q2]);(all_goals (repeat' (with_reducible apply And.intro)));(all_goals try (first | exact q8 rfl | (refine x10 ?_;omega) | (refine q8 ?_;simp;done)))
   obtain ⟨⟨i,j⟩,hi,hij,hj,lo,hi2⟩ := s
   unfold smCK
   simp only [] at hi hij hj lo hi2
   by_cases h : i < j
   ·have hf := j53 i j
    obtain ⟨d,hdd⟩ : ∃ d,d = (i + j) / 2 := ⟨_,rfl⟩
    rw [← hdd] at hf
    have r1 := x20 x d
    have r2 := x20 x m
    have cc := hc.call (x m) (x d)
    have cl := hc.lt (x m) (x d)
    generalize c (x m) (x d) = c0 at cc cl
    by_cases hlt : c0 < 0
    ·(repeat (first | apply j0 | refine j6 rfl ?_ | refine z7 rfl ?_ | apply z6 | (refine j4 fun K hK => ?_) | (refine z5 fun K hK => ?_) | ((first | apply x5 | apply j5 | ((first | refine z3 (hK _ ?_) | refine x4 (hK _ _ z4 ?_));clear hK K));(first | show AWP _ _ _ _ _ | ((try simp only [x6]);first | show loopQ _ _ _ _ _ _ | show cutQ _ _ _ _ | show AWP _ _ _ _ _))) | ((first | refine j8 rfl rfl rfl ?_ | refine q9 rfl rfl rfl ?_);simp (disch:=omega) only [go_sem,seval,hd,cb,tnPK,tnMK,z11,x11,hf,r1,r2];(first | refine ⟨_,cc,?_⟩)) | ((first | refine x7 [] rfl ?_ | refine j7 [] rfl ?_);simp (disch:=omega) only [go_sem,seval,hd,cb,tnPK,tnMK,z11,x11,hf,r1,r2];(repeat (first | refine ⟨by omega,?_⟩ | refine ⟨True.intro,?_⟩)))))
     refine ⟨⟨(i,d),hi,by simp only [];omega,by simp only [];omega,lo,fun k k1 k2 => ?_⟩,by simp only [];omega,?_⟩
     ·have := sl.le (show a ≤ d by omega) (show d ≤ k from k1) k2
      have := cl.1 hlt
      omega
     refine Weak.list ?_ ?_;(all_goals simp (disch:=omega) only [AllF,AllL,q10,z10,j9,exists_eq_left',go_sem,seval,hd,cb,tnPK,tnMK,z11,x11,hf,r1,r2]);(all_goals (repeat' (with_reducible apply And.intro)));(all_goals try (first | exact q8 rfl | (refine x10 ?_;omega) | (refine q8 ?_;simp;done)))
    ·(repeat (first | apply j0 | refine j6 rfl ?_ | refine z7 rfl ?_ | apply z6 | (refine j4 fun K hK => ?_) | (refine z5 fun K hK => ?_) | ((first | apply x5 | apply j5 | ((first | refine z3 (hK _ ?_) | refine x4 (hK _ _ z4 ?_));clear hK K));(first | show AWP _ _ _ _ _ | ((try simp only [x6]);first | show loopQ _ _ _ _ _ _ | show cutQ _ _ _ _ | show AWP _ _ _ _ _))) | ((first | refine j8 rfl rfl rfl ?_ | refine q9 rfl rfl rfl ?_);simp (disch:=omega) only [go_sem,seval,hd,cb,tnPK,tnMK,z11,x11,hf,r1,r2];(first | refine ⟨_,cc,?_⟩)) | ((first | refine x7 [] rfl ?_ | refine j7 [] rfl ?_);simp (disch:=omega) only [go_sem,seval,hd,cb,tnPK,tnMK,z11,x11,hf,r1,r2];(repeat (first | refine ⟨by omega,?_⟩ | refine ⟨True.intro,?_⟩)))))
     refine ⟨⟨(d + 1,j),by simp only [];omega,by simp only [];omega,hj,fun k k1 k2 => ?_,hi2⟩,by simp only [];omega,?_⟩
     ·have := sl.le k1 (show k ≤ d by simp only [] at k2;omega) (by omega)
      have : ¬ key (x m) < key (x d) := fun e => hlt (cl.2 e)
      omega
     refine Weak.list ?_ ?_;(all_goals simp (disch:=omega) only [AllF,AllL,q10,z10,j9,exists_eq_left',go_sem,seval,hd,cb,tnPK,tnMK,z11,x11,hf,r1,r2]);(all_goals (repeat' (with_reducible apply And.intro)));(all_goals try (first | exact q8 rfl | (refine x10 ?_;omega) | (refine q8 ?_;simp;done)))
   ·have : i = j := by omega
    subst this
    (repeat (first | apply j0 | refine j6 rfl ?_ | refine z7 rfl ?_ | apply z6 | (refine j4 fun K hK => ?_) | (refine z5 fun K hK => ?_) | ((first | apply x5 | apply j5 | ((first | refine z3 (hK _ ?_) | refine x4 (hK _ _ z4 ?_));clear hK K));(first | show AWP _ _ _ _ _ | ((try simp only [x6]);first | show loopQ _ _ _ _ _ _ | show cutQ _ _ _ _ | show AWP _ _ _ _ _))) | ((first | refine x7 [] rfl ?_ | refine j7 [] rfl ?_);simp (disch:=omega) only [go_sem,seval,hd,cb,tnPK,tnMK,z11,x11];(repeat (first | refine ⟨by omega,?_⟩ | refine ⟨True.intro,?_⟩)))))
    refine x12 (smDK key x n gen a i m b) (fun s => s.val) ⟨m,by omega,by omega,by rw [q100];exact SE.refl _ _ _⟩ ?_ (fun s => ?_)
    ·unfold smDK
     refine Weak.list ?_ ?_;(all_goals simp (disch:=omega) only [AllF,AllL,q10,z10,j9,exists_eq_left',go_sem,seval,hd,cb,tnPK,tnMK,z11,x11,q100]);(all_goals (repeat' (with_reducible apply And.intro)));(all_goals try (first | exact q8 rfl | (refine x10 ?_;omega) | (refine q8 ?_;simp;done)))
    obtain ⟨k,hk,hk2,hse⟩ := s
    unfold smDK
    by_cases hki : i < k
    ·obtain ⟨k,rfl⟩ : ∃ k',k = k' + 1 := ⟨k - 1,by omega⟩
     have r1 := x20 (moveDown x m (k + 1)) (k + 1)
     have r2 := x20 (moveDown x m (k + 1)) k
     obtain ⟨m1,m2⟩ := q70 x (show k < m by omega)
     have hne : key (moveDown x m (k + 1) k) ≠ key (moveDown x m (k + 1) (k + 1)) := by rw [m1,m2];have := hi2 k (by omega) (by omega);omega
     (repeat (first | apply j0 | refine j6 rfl ?_ | refine z7 rfl ?_ | apply z6 | (refine j4 fun K hK => ?_) | (refine z5 fun K hK => ?_) | ((first | apply x5 | apply j5 | ((first | refine z3 (hK _ ?_) | refine x4 (hK _ _ z4 ?_));clear hK K));(first | show AWP _ _ _ _ _ | ((try simp only [x6]);first | show loopQ _ _ _ _ _ _ | show cutQ _ _ _ _ | show AWP _ _ _ _ _))) | ((first | refine x7 [] rfl ?_ | refine j7 [] rfl ?_);simp (disch:=omega) only [go_sem,seval,hd,cb,tnPK,tnMK,z11,x11,r1,r2];(repeat (first | refine ⟨by omega,?_⟩ | refine ⟨True.intro,?_⟩)))))
     refine ⟨⟨k,by omega,by omega,?_⟩,by simp only [];omega,?_⟩
     ·rw [← show swap2 (moveDown x m (k + 1)) k = moveDown x m k from funext (z100 x (by omega))]
      exact hse.trans ((SE.swap hne).widen (by omega) (by omega) (by omega))
     refine Weak.list ?_ ?_;(all_goals simp (disch:=omega) only [AllF,AllL,q10,z10,j9,exists_eq_left',go_sem,seval,hd,cb,tnPK,tnMK,z11,x11,r1,r2]);(all_goals (repeat' (with_reducible apply And.intro)));(all_goals try (first | exact q8 rfl | (refine x10 ?_;omega) | (refine q8 ?_;simp;done)))
     exact j28 rfl rfl (fun q _ => (x53 (moveDown x m (k + 1)) (k + 1) k (moveDown x m (k + 1) k) (moveDown x m (k + 1) (k + 1)) q).trans (by
      rw [← show swap2 (moveDown x m (k + 1)) k = moveDown x m k from funext (z100 x (by omega))]
      rfl))
    ·have : k = i := by omega
     subst this
     (repeat (first | apply j0 | refine j6 rfl ?_ | refine z7 rfl ?_ | apply z6 | (refine j4 fun K hK => ?_) | (refine z5 fun K hK => ?_) | ((first | apply x5 | apply j5 | ((first | refine z3 (hK _ ?_) | refine x4 (hK _ _ z4 ?_));clear hK K));(first | show AWP _ _ _ _ _ | ((try simp only [x6]);first | show loopQ _ _ _ _ _ _ | show cutQ _ _ _ _ | show AWP _ _ _ _ _))) | ((first | refine x7 [] rfl ?_ | refine j7 [] rfl ?_);simp (disch:=omega) only [go_sem,seval,hd,cb,tnPK,tnMK,z11,x11];(repeat (first | refine ⟨by omega,?_⟩ | refine ⟨True.intro,?_⟩)))))
     have ey := funext (z33 hse (by rw [h2];exact j161 hi (by omega) sl lo hi2))
     rw [← ey]
     (first | (refine z3 (hK _ ?_);exact (j14 rfl rfl ⟨rfl,rfl⟩).1) | (refine j5 ?_;exact (j14 rfl rfl ⟨rfl,rfl⟩).1) | (refine x5 ?_;exact (j14 rfl rfl ⟨rfl,rfl⟩).1) | (refine x8 ?_;exact (j14 rfl rfl ⟨rfl,rfl⟩).2) | exact (j14 rfl rfl ⟨rfl,rfl⟩).1)
  ·have q2 : ((b : Int) - (m : Int) == 1) = false := by rw [beq_eq_false_iff_ne];omega
   have hf := j53 a b
   obtain ⟨mid,hmid⟩ : ∃ d,d = (a + b) / 2 := ⟨_,rfl⟩
   rw [← hmid] at hf
   obtain ⟨N,hN⟩ : ∃ N,N = mid + m := ⟨_,rfl⟩
   have hN2 : (mid : Int) + (m : Int) = (N : Int) := by omega
   have mp := fun start => z161 (start := start) ham hmb hmid hN sl sr
   obtain ⟨s0,hs0⟩ : ∃ s0,s0 = if m > mid then N - b else a := ⟨_,rfl⟩
   obtain ⟨r0,hr0⟩ : ∃ r0,r0 = if m > mid then mid else m := ⟨_,rfl⟩
   rw [← hs0,← hr0] at mp
   have hg : s0 ≤ r0 ∧ r0 ≤ m ∧ a ≤ s0 ∧ r0 + s0 = N - (if m > mid then (b - mid) else (mid - a)) := by
    split at hs0 <;> rename_i hh <;> simp only [hh,if_true,if_false] at hr0 ⊢ <;> omega
   by_cases hcond : m > mid
   all_goals
    first | rw [if_pos hcond] at hs0 hr0 hg | rw [if_neg hcond] at hs0 hr0 hg
    refine j18 Try.func118 rfl (by decide +kernel) (by rw [Try.ntmps118];simp) (fun l X h => by simp only [AL.look] at h;(repeat' split at h);all_goals first | omega | cases h) ?_;rw [Try.ntmps118];simp only [frA]
    (repeat (first | apply j0 | refine j6 rfl ?_ | refine z7 rfl ?_ | apply z6 | (refine j4 fun K hK => ?_) | (refine z5 fun K hK => ?_) | ((first | apply x5 | apply j5 | ((first | refine z3 (hK _ ?_) | refine x4 (hK _ _ z4 ?_));clear hK K));(first | show AWP _ _ _ _ _ | ((try simp only [x6]);first | show loopQ _ _ _ _ _ _ | show cutQ _ _ _ _ | show AWP _ _ _ _ _))) | ((first | refine x7 [] rfl ?_ | refine j7 [] rfl ?_);simp (disch:=omega) only [go_sem,seval,hd,cb,tnPK,tnMK,z11,x11,q,q2,hf,hN2];(repeat (first | refine ⟨by omega,?_⟩ | refine ⟨True.intro,?_⟩)))))
    refine x12 (smEK key x n gen a m b mid N s0 r0 g) (fun s => s.val.2 - s.val.1) ⟨(s0,r0),by simp,by simp only [];omega,by simp,fun k h1 h2 => by simp only [] at h2;omega,fun k h1 h2 => by simp only [] at h1;omega⟩ ?_ (fun s => ?_)
    ·unfold smEK
     refine Weak.list ?_ ?_;(all_goals simp (disch:=omega) only [AllF,AllL,q10,z10,j9,exists_eq_left',go_sem,seval,hd,cb,tnPK,tnMK,z11,x11,q,q2,hf,hN2]);(all_goals (repeat' (with_reducible apply And.intro)));(all_goals try (first | exact q8 rfl | (refine x10 ?_;omega) | (refine q8 ?_;simp;done)))
    obtain ⟨⟨start,r⟩,hi,hij,hj,lo,hi2⟩ := s
    unfold smEK
    simp only [] at hi hij hj lo hi2
    by_cases h : start < r
    ·have hf := j53 start r
     obtain ⟨d,hdd⟩ : ∃ d,d = (start + r) / 2 := ⟨_,rfl⟩
     rw [← hdd] at hf
     have r1 := x20 x (N - 1 - d)
     have r2 := x20 x d
     have cc := hc.call (x (N - 1 - d)) (x d)
     have cl := hc.lt (x (N - 1 - d)) (x d)
     generalize c (x (N - 1 - d)) (x d) = c0 at cc cl
     by_cases hlt : c0 < 0
     ·(repeat (first | apply j0 | refine j6 rfl ?_ | refine z7 rfl ?_ | apply z6 | (refine j4 fun K hK => ?_) | (refine z5 fun K hK => ?_) | ((first | apply x5 | apply j5 | ((first | refine z3 (hK _ ?_) | refine x4 (hK _ _ z4 ?_));clear hK K));(first | show AWP _ _ _ _ _ | ((try simp only [x6]);first | show loopQ _ _ _ _ _ _ | show cutQ _ _ _ _ | show AWP _ _ _ _ _))) | ((first | refine j8 rfl rfl rfl ?_ | refine q9 rfl rfl rfl ?_);simp (disch:=omega) only [go_sem,seval,hd,cb,tnPK,tnMK,z11,x11,hf,r1,r2];(first | refine ⟨_,cc,?_⟩)) | ((first | refine x7 [] rfl ?_ | refine j7 [] rfl ?_);simp (disch:=omega) only [go_sem,seval,hd,cb,tnPK,tnMK,z11,x11,hf,r1,r2];(repeat (first | refine ⟨by omega,?_⟩ | refine ⟨True.intro,?_⟩)))))
      refine ⟨⟨(start,d),hi,by simp only [];omega,by simp only [];omega,lo,fun k k1 k2 => ?_⟩,by simp only [];omega,?_⟩
      ·have := sl.le (show a ≤ d by omega) (show d ≤ k from k1) (by omega)
       have := sr.le (show m ≤ N - 1 - k by omega) (show N - 1 - k ≤ N - 1 - d by simp only [] at k1;omega) (by omega)
       have := cl.1 hlt
       omega
      refine Weak.list ?_ ?_;(all_goals simp (disch:=omega) only [AllF,AllL,q10,z10,j9,exists_eq_left',go_sem,seval,hd,cb,tnPK,tnMK,z11,x11,hf,r1,r2]);(all_goals (repeat' (with_reducible apply And.intro)));(all_goals try (first | exact q8 rfl | (refine x10 ?_;omega) | (refine q8 ?_;simp;done)))
     ·(repeat (first | apply j0 | refine j6 rfl ?_ | refine z7 rfl ?_ | apply z6 | (refine j4 fun K hK => ?_) | (refine z5 fun K hK => ?_) | ((first | apply x5 | apply j5 | ((first | refine z3 (hK _ ?_) | refine x4 (hK _ _ z4 ?_));clear hK K));(first | show AWP _ _ _ _ _ | ((try simp only [x6]);first | show loopQ _ _ _ _ _ _ | show cutQ _ _ _ _ | show AWP _ _ _ _ _))) | ((first | refine j8 rfl rfl rfl ?_ | refine q9 rfl rfl rfl ?_);simp (disch:=omega) only [go_sem,seval,hd,cb,tnPK,tnMK,z11,x11,hf,r1,r2];(first | refine ⟨_,cc,?_⟩)) | ((first | refine x7 [] rfl ?_ | refine j7 [] rfl ?_);simp (disch:=omega) only [go_sem,seval,hd,cb,tnPK,tnMK,z11,x11,hf,r1,r2];(repeat (first | refine ⟨by omega,?_⟩ | refine ⟨True.intro,?_⟩)))))
      refine ⟨⟨(d + 1,r),by simp only [];omega,by simp only [];omega,hj,fun k k1 k2 => ?_,hi2⟩,by simp only [];omega,?_⟩
      ·have := sl.le (show a ≤ k by omega) (show k ≤ d by simp only [] at k2;omega) (by omega)
       have := sr.le (show m ≤ N - 1 - d by omega) (show N - 1 - d ≤ N - 1 - k by simp only [] at k2;omega) (by omega)
       have : ¬ key (x (N - 1 - d)) < key (x d) := fun e => hlt (cl.2 e)
       omega
      refine Weak.list ?_ ?_;(all_goals simp (disch:=omega) only [AllF,AllL,q10,z10,j9,exists_eq_left',go_sem,seval,hd,cb,tnPK,tnMK,z11,x11,hf,r1,r2]);(all_goals (repeat' (with_reducible apply And.intro)));(all_goals try (first | exact q8 rfl | (refine x10 ?_;omega) | (refine q8 ?_;simp;done)))
    ·have : start = r := by omega
     subst this
     obtain ⟨g1,g2,g3,g4,g5,g6,mse,m1,m2,m3,m4,m5⟩ := mp start hi hj lo hi2
     have eX : ¬ (start < m ∧ m < N - start) → rowFK x = rowFK (rot x start m (N - start)) := fun hh => by rw [z160 x g2 g3 (by omega)]
     have rc := fun h1 h2 => q162 x n gen start m (N - start) start m ((N : Int) - (start : Int)) (.fn (.func g) [] []) rfl rfl (by omega) h1 h2 (by omega) hn
     generalize rot x start m (N - start) = X at mse m1 m2 m3 m4 m5 eX rc
     have sX : Srt key a b X → True := fun _ => trivial
     have il := fun h1 h2 => ih X (stab key a mid X) a start mid a start mid (by omega) rfl rfl rfl h1 h2 (by omega) m1 m2 rfl
     have hl0 : ¬ (a < start ∧ start < mid) → rowFK X = rowFK (stab key a mid X) := fun hh => by
      rw [q101]
      rcases Nat.lt_or_ge a start with h1 | h1
      ·have : start = mid := by omega
       rw [← this];exact m1
      ·have : start = a := by omega
       rw [← this];exact m2
     have se1 := x33 (key := key) a mid X
     have so1 := j33 (key := key) a mid X
     generalize stab key a mid X = Y at il hl0 se1 so1
     have n1 : Srt key mid (N - start) Y := fun p q h1 h2 h3 => by rw [se1.out p (by omega),se1.out q (by omega)];exact m3 p q h1 h2 h3
     have n2 : Srt key (N - start) b Y := fun p q h1 h2 h3 => by rw [se1.out p (by omega),se1.out q (by omega)];exact m4 p q h1 h2 h3
     have ir := fun h1 h2 => ih Y (stab key mid b Y) mid (N - start) b mid ((N : Int) - (start : Int)) b (by omega) rfl (by omega) rfl h1 h2 hb n1 n2 rfl
     have hr1 : ¬ (mid < N - start ∧ N - start < b) → rowFK Y = rowFK (stab key mid b Y) := fun hh => by
      rw [q101]
      rcases Nat.lt_or_ge mid (N - start) with h1 | h1
      ·have : N - start = b := by omega
       rw [← this];exact n1
      ·have : N - start = mid := by omega
       rw [← this];exact n2
     have se2 := x33 (key := key) mid b Y
     have so2 := j33 (key := key) mid b Y
     generalize stab key mid b Y = Z at ir hr1 se2 so2
     obtain ⟨fs,fo⟩ := x161 (key := key) (a := a) (mid := mid) (b := b) (by omega) (by omega) se1 so1 m5 se2 so2
     have eZ := funext (z33 ((mse.widen g1 (by omega) g4).trans fs) fo)
     rw [← eZ]
     by_cases c1 : start < m ∧ m < N - start
     all_goals by_cases c2 : a < start ∧ start < mid
     all_goals by_cases c3 : mid < N - start ∧ N - start < b
     all_goals (try (exfalso;omega))
     all_goals
      (repeat ((fail_if_success (show AWP _ _ (.region 41 _ _) _ _));first | apply j0 | refine j6 rfl ?_ | refine z7 rfl ?_ | apply z6 | (refine j4 fun K hK => ?_) | (refine z5 fun K hK => ?_) | ((first | apply x5 | apply j5 | ((first | refine z3 (hK _ ?_) | refine x4 (hK _ _ z4 ?_));clear hK K));(first | show AWP _ _ _ _ _ | ((try simp only [x6]);first | show loopQ _ _ _ _ _ _ | show cutQ _ _ _ _ | show AWP _ _ _ _ _))) | ((first | refine x7 [] rfl ?_ | refine j7 [] rfl ?_);simp (disch:=omega) only [go_sem,seval,hd,cb,tnPK,tnMK,z11,x11];(repeat (first | refine ⟨by omega,?_⟩ | refine ⟨True.intro,?_⟩)))))
      (try
       (refine q16 _ (x16 [(1000,1000)] rfl rfl rfl rfl rfl rfl (rc c1.1 c1.2) rfl (j16 (by repeat (first | exact trivial | refine ⟨rfl,?_⟩)) (by kernel_rfl))) ?_);simp (disch:=omega) only [go_sem,seval,hd,cb,tnPK,tnMK,z11,x11]
       (repeat ((fail_if_success (show AWP _ _ (.region 41 _ _) _ _));first | apply j0 | refine j6 rfl ?_ | refine z7 rfl ?_ | apply z6 | (refine j4 fun K hK => ?_) | (refine z5 fun K hK => ?_) | ((first | apply x5 | apply j5 | ((first | refine z3 (hK _ ?_) | refine x4 (hK _ _ z4 ?_));clear hK K));(first | show AWP _ _ _ _ _ | ((try simp only [x6]);first | show loopQ _ _ _ _ _ _ | show cutQ _ _ _ _ | show AWP _ _ _ _ _))) | ((first | refine x7 [] rfl ?_ | refine j7 [] rfl ?_);simp (disch:=omega) only [go_sem,seval,hd,cb,tnPK,tnMK,z11,x11];(repeat (first | refine ⟨by omega,?_⟩ | refine ⟨True.intro,?_⟩)))))
       )
      (try rw [eX c1])
      (repeat ((fail_if_success (show AWP _ _ (.region 43 _ _) _ _));first | apply j0 | refine j6 rfl ?_ | refine z7 rfl ?_ | apply z6 | (refine j4 fun K hK => ?_) | (refine z5 fun K hK => ?_) | ((first | apply x5 | apply j5 | ((first | refine z3 (hK _ ?_) | refine x4 (hK _ _ z4 ?_));clear hK K));(first | show AWP _ _ _ _ _ | ((try simp only [x6]);first | show loopQ _ _ _ _ _ _ | show cutQ _ _ _ _ | show AWP _ _ _ _ _))) | ((first | refine x7 [] rfl ?_ | refine j7 [] rfl ?_);simp (disch:=omega) only [go_sem,seval,hd,cb,tnPK,tnMK,z11,x11];(repeat (first | refine ⟨by omega,?_⟩ | refine ⟨True.intro,?_⟩)))))
      (try
       (refine q16 _ (x16 [(1000,1000)] rfl rfl rfl rfl rfl rfl (il c2.1 c2.2) rfl (j16 (by repeat (first | exact trivial | refine ⟨rfl,?_⟩)) (by kernel_rfl))) ?_);simp (disch:=omega) only [go_sem,seval,hd,cb,tnPK,tnMK,z11,x11]
       (repeat ((fail_if_success (show AWP _ _ (.region 43 _ _) _ _));first | apply j0 | refine j6 rfl ?_ | refine z7 rfl ?_ | apply z6 | (refine j4 fun K hK => ?_) | (refine z5 fun K hK => ?_) | ((first | apply x5 | apply j5 | ((first | refine z3 (hK _ ?_) | refine x4 (hK _ _ z4 ?_));clear hK K));(first | show AWP _ _ _ _ _ | ((try simp only [x6]);first | show loopQ _ _ _ _ _ _ | show cutQ _ _ _ _ | show AWP _ _ _ _ _))) | ((first | refine x7 [] rfl ?_ | refine j7 [] rfl ?_);simp (disch:=omega) only [go_sem,seval,hd,cb,tnPK,tnMK,z11,x11];(repeat (first | refine ⟨by omega,?_⟩ | refine ⟨True.intro,?_⟩)))))
       )
      (try rw [hl0 c2])
      (repeat (first | apply j0 | refine j6 rfl ?_ | refine z7 rfl ?_ | apply z6 | (refine j4 fun K hK => ?_) | (refine z5 fun K hK => ?_) | ((first | apply x5 | apply j5 | ((first | refine z3 (hK _ ?_) | refine x4 (hK _ _ z4 ?_));clear hK K));(first | show AWP _ _ _ _ _ | ((try simp only [x6]);first | show loopQ _ _ _ _ _ _ | show cutQ _ _ _ _ | show AWP _ _ _ _ _))) | ((first | refine x7 [] rfl ?_ | refine j7 [] rfl ?_);simp (disch:=omega) only [go_sem,seval,hd,cb,tnPK,tnMK,z11,x11];(repeat (first | refine ⟨by omega,?_⟩ | refine ⟨True.intro,?_⟩)))))
      (try
       (refine q16 _ (x16 [(1000,1000)] rfl rfl rfl rfl rfl rfl (ir c3.1 c3.2) rfl (j16 (by repeat (first | exact trivial | refine ⟨rfl,?_⟩)) (by kernel_rfl))) ?_);simp (disch:=omega) only [go_sem,seval,hd,cb,tnPK,tnMK,z11,x11]
       )
      (try rw [hr1 c3])
      (try
       (repeat (first | apply j0 | refine j6 rfl ?_ | refine z7 rfl ?_ | apply z6 | (refine j4 fun K hK => ?_) | (refine z5 fun K hK => ?_) | ((first | apply x5 | apply j5 | ((first | refine z3 (hK _ ?_) | refine x4 (hK _ _ z4 ?_));clear hK K));(first | show AWP _ _ _ _ _ | ((try simp only [x6]);first | show loopQ _ _ _ _ _ _ | show cutQ _ _ _ _ | show AWP _ _ _ _ _))) | ((first | refine x7 [] rfl ?_ | refine j7 [] rfl ?_);simp (disch:=omega) only [go_sem,seval,hd,cb,tnPK,tnMK,z11,x11];(repeat (first | refine ⟨by omega,?_⟩ | refine ⟨True.intro,?_⟩)))))
       )
      (first | (refine z3 (hK _ ?_);exact (j14 rfl rfl ⟨rfl,rfl⟩).1) | (refine j5 ?_;exact (j14 rfl rfl ⟨rfl,rfl⟩).1) | (refine x5 ?_;exact (j14 rfl rfl ⟨rfl,rfl⟩).1) | (refine x8 ?_;exact (j14 rfl rfl ⟨rfl,rfl⟩).2) | exact (j14 rfl rfl ⟨rfl,rfl⟩).1)
def sbAK (key : Cube → Int) (x : Nat → Cube) (n gen : Nat) (g : FuncId) (s : {s : Nat × (Nat → Cube) // s.1 ≤ n ∧ s.1 % 20 = 0 ∧ SE key 0 n x s.2 ∧ BS key 20 0 s.1 s.2}) : ASt :=
 ⟨[(8,.p (.d (.v (.int .i64 ((s.val.1 : Int) + 20))))),(7,.p (.d (.v (.int .i64 (s.val.1 : Int))))),(6,.p (.d (.v (.int .i64 20)))),(2,.p (.fn (.func g) [] [])),(1,.p (.d (.v (.int .i64 (n : Int))))),(0,.ow 1000 gen 4 n)],
  [(1000,.own 27 4 n gen (rowFK s.val.2))]⟩
def sbBK (key : Cube → Int) (x : Nat → Cube) (n gen : Nat) (g : FuncId) (s : {s : Nat × (Nat → Cube) // 0 < s.1 ∧ s.1 ≤ 20 + 2 * n ∧ SE key 0 n x s.2 ∧ BS key s.1 0 n s.2}) : ASt :=
 ⟨[(6,.p (.d (.v (.int .i64 (s.val.1 : Int))))),(2,.p (.fn (.func g) [] [])),(1,.p (.d (.v (.int .i64 (n : Int))))),(0,.ow 1000 gen 4 n)],
  [(1000,.own 27 4 n gen (rowFK s.val.2))]⟩
def sbCK (key : Cube → Int) (x : Nat → Cube) (n gen k : Nat) (g : FuncId) (s : {s : Nat × (Nat → Cube) // s.1 ≤ n ∧ s.1 % (2 * k) = 0 ∧ SE key 0 n x s.2 ∧ BS key (2 * k) 0 s.1 s.2 ∧ BS key k s.1 n s.2}) : ASt :=
 ⟨[(8,.p (.d (.v (.int .i64 ((s.val.1 : Int) + 2 * (k : Int)))))),(7,.p (.d (.v (.int .i64 (s.val.1 : Int))))),(6,.p (.d (.v (.int .i64 (k : Int))))),(2,.p (.fn (.func g) [] [])),(1,.p (.d (.v (.int .i64 (n : Int))))),(0,.ow 1000 gen 4 n)],
  [(1000,.own 27 4 n gen (rowFK s.val.2))]⟩
theorem z162 {a k : Nat} (h : a % (2 * k) = 0) : a % k = 0 := by
 obtain ⟨q,rfl⟩ := Nat.dvd_of_mod_eq_zero h
 rw [Nat.mul_right_comm];simp
theorem q54 {a k : Nat} (h : a % k = 0) : (a + k) % k = 0 := by rw [Nat.add_mod_right];exact h
set_option maxRecDepth 100000 in
theorem x162 {key : Cube → Int} {c : Cube → Cube → Int} {g : FuncId} (hc : CmpK Try.prog g key c) (x y : Nat → Cube) (n gen : Nat) (ni : Int) (hni : ni = n) (hn : n ≤ 1099511627776) (hy : stab key 0 n x = y) :
  MCalls Try.prog 89 [.ow 1000 gen 4 n,.p (.d (.v (.int .i64 ni))),.p (.fn (.func g) [] [])] [(1000,.own 27 4 n gen (rowFK x))]
   (fun rs M => rs = [] ∧ M = [(1000,.own 27 4 n gen (rowFK y))]) := by
 subst hni hy
 refine j18 Try.func89 rfl (by decide +kernel) (by rw [Try.ntmps89];simp) (fun l X h => by simp only [AL.look] at h;(repeat' split at h);all_goals first | omega | cases h) ?_;rw [Try.ntmps89];simp only [frA]
 (repeat (first | apply j0 | refine j6 rfl ?_ | refine z7 rfl ?_ | apply z6 | (refine j4 fun K hK => ?_) | (refine z5 fun K hK => ?_) | ((first | apply x5 | apply j5 | ((first | refine z3 (hK _ ?_) | refine x4 (hK _ _ z4 ?_));clear hK K));(first | show AWP _ _ _ _ _ | ((try simp only [x6]);first | show loopQ _ _ _ _ _ _ | show cutQ _ _ _ _ | show AWP _ _ _ _ _))) | ((first | refine x7 [] rfl ?_ | refine j7 [] rfl ?_);simp (disch:=omega) only [go_sem,seval,hd,cb,tnPK,tnMK,z11,x11];(repeat (first | refine ⟨by omega,?_⟩ | refine ⟨True.intro,?_⟩)))))
 refine x12 (sbAK key x n gen g) (fun s => n - s.val.1) ⟨(0,x),by simp,by simp,SE.refl _ _ _,fun i j h1 h2 h3 => by simp only [] at h3;omega⟩ ?_ (fun s => ?_)
 ·unfold sbAK
  refine Weak.list ?_ ?_;(all_goals simp (disch:=omega) only [AllF,AllL,q10,z10,j9,exists_eq_left',go_sem,seval,hd,cb,tnPK,tnMK,z11,x11]);(all_goals (repeat' (with_reducible apply And.intro)));(all_goals try (first | exact q8 rfl | (refine x10 ?_;omega) | (refine q8 ?_;simp;done)))
 obtain ⟨⟨a,z⟩,ha,hm,hse,hbs⟩ := s
 unfold sbAK
 simp only [] at ha hm hse hbs
 by_cases h : a + 20 ≤ n
 ·(repeat (first | apply j0 | refine j6 rfl ?_ | refine z7 rfl ?_ | apply z6 | (refine j4 fun K hK => ?_) | (refine z5 fun K hK => ?_) | ((first | apply x5 | apply j5 | ((first | refine z3 (hK _ ?_) | refine x4 (hK _ _ z4 ?_));clear hK K));(first | show AWP _ _ _ _ _ | ((try simp only [x6]);first | show loopQ _ _ _ _ _ _ | show cutQ _ _ _ _ | show AWP _ _ _ _ _))) | ((first | refine x7 [] rfl ?_ | refine j7 [] rfl ?_);simp (disch:=omega) only [go_sem,seval,hd,cb,tnPK,tnMK,z11,x11];(repeat (first | refine ⟨by omega,?_⟩ | refine ⟨True.intro,?_⟩)))))
  (refine q16 _ (x16 [(1000,1000)] rfl rfl rfl rfl rfl rfl (j100 hc z _ n gen a (a + 20) _ _ rfl (by omega) (by omega) h hn rfl) rfl (j16 (by repeat (first | exact trivial | refine ⟨rfl,?_⟩)) (by kernel_rfl))) ?_);simp (disch:=omega) only [go_sem,seval,hd,cb,tnPK,tnMK,z11,x11]
  (repeat (first | apply j0 | refine j6 rfl ?_ | refine z7 rfl ?_ | apply z6 | (refine j4 fun K hK => ?_) | (refine z5 fun K hK => ?_) | ((first | apply x5 | apply j5 | ((first | refine z3 (hK _ ?_) | refine x4 (hK _ _ z4 ?_));clear hK K));(first | show AWP _ _ _ _ _ | ((try simp only [x6]);first | show loopQ _ _ _ _ _ _ | show cutQ _ _ _ _ | show AWP _ _ _ _ _))) | ((first | refine x7 [] rfl ?_ | refine j7 [] rfl ?_);simp (disch:=omega) only [go_sem,seval,hd,cb,tnPK,tnMK,z11,x11];(repeat (first | refine ⟨by omega,?_⟩ | refine ⟨True.intro,?_⟩)))))
  have se := x33 (key := key) a (a + 20) z
  have so := j33 (key := key) a (a + 20) z
  refine ⟨⟨(a + 20,stab key a (a + 20) z),h,q54 hm,hse.trans (se.widen (Nat.zero_le _) (by omega) h),hbs.more (by omega) hm (Nat.le_refl _) (fun k hk => se.out k (by omega)) so⟩,by simp only [];omega,?_⟩
  refine Weak.list ?_ ?_;(all_goals simp (disch:=omega) only [AllF,AllL,q10,z10,j9,exists_eq_left',go_sem,seval,hd,cb,tnPK,tnMK,z11,x11]);(all_goals (repeat' (with_reducible apply And.intro)));(all_goals try (first | exact q8 rfl | (refine x10 ?_;omega) | (refine q8 ?_;simp;done)))
 ·(repeat ((fail_if_success (show AWP _ _ (.region 6 _ _) _ _));first | apply j0 | refine j6 rfl ?_ | refine z7 rfl ?_ | apply z6 | (refine j4 fun K hK => ?_) | (refine z5 fun K hK => ?_) | ((first | apply x5 | apply j5 | ((first | refine z3 (hK _ ?_) | refine x4 (hK _ _ z4 ?_));clear hK K));(first | show AWP _ _ _ _ _ | ((try simp only [x6]);first | show loopQ _ _ _ _ _ _ | show cutQ _ _ _ _ | show AWP _ _ _ _ _))) | ((first | refine x7 [] rfl ?_ | refine j7 [] rfl ?_);simp (disch:=omega) only [go_sem,seval,hd,cb,tnPK,tnMK,z11,x11];(repeat (first | refine ⟨by omega,?_⟩ | refine ⟨True.intro,?_⟩)))))
  (repeat (first | apply j0 | refine j6 rfl ?_ | refine z7 rfl ?_ | apply z6 | (refine j4 fun K hK => ?_) | (refine z5 fun K hK => ?_) | ((first | apply x5 | apply j5 | ((first | refine z3 (hK _ ?_) | refine x4 (hK _ _ z4 ?_));clear hK K));(first | show AWP _ _ _ _ _ | ((try simp only [x6]);first | show loopQ _ _ _ _ _ _ | show cutQ _ _ _ _ | show AWP _ _ _ _ _))) | ((first | refine x7 [] rfl ?_ | refine j7 [] rfl ?_);simp (disch:=omega) only [go_sem,seval,hd,cb,tnPK,tnMK,z11,x11];(repeat (first | refine ⟨by omega,?_⟩ | refine ⟨True.intro,?_⟩)))))
  (refine q16 _ (x16 [(1000,1000)] rfl rfl rfl rfl rfl rfl (j100 hc z _ n gen a n _ _ rfl rfl ha (Nat.le_refl _) hn rfl) rfl (j16 (by repeat (first | exact trivial | refine ⟨rfl,?_⟩)) (by kernel_rfl))) ?_);simp (disch:=omega) only [go_sem,seval,hd,cb,tnPK,tnMK,z11,x11]
  (repeat (first | apply j0 | refine j6 rfl ?_ | refine z7 rfl ?_ | apply z6 | (refine j4 fun K hK => ?_) | (refine z5 fun K hK => ?_) | ((first | apply x5 | apply j5 | ((first | refine z3 (hK _ ?_) | refine x4 (hK _ _ z4 ?_));clear hK K));(first | show AWP _ _ _ _ _ | ((try simp only [x6]);first | show loopQ _ _ _ _ _ _ | show cutQ _ _ _ _ | show AWP _ _ _ _ _))) | ((first | refine x7 [] rfl ?_ | refine j7 [] rfl ?_);simp (disch:=omega) only [go_sem,seval,hd,cb,tnPK,tnMK,z11,x11];(repeat (first | refine ⟨by omega,?_⟩ | refine ⟨True.intro,?_⟩)))))
  have se := x33 (key := key) a n z
  have so := j33 (key := key) a n z
  refine x12 (sbBK key x n gen g) (fun s => n - s.val.1) ⟨(20,stab key a n z),by simp,by simp,hse.trans (se.widen (Nat.zero_le _) ha (Nat.le_refl _)),hbs.more (by omega) hm (by omega) (fun k hk => se.out k (by omega)) so⟩ ?_ (fun s => ?_)
  ·unfold sbBK
   refine Weak.list ?_ ?_;(all_goals simp (disch:=omega) only [AllF,AllL,q10,z10,j9,exists_eq_left',go_sem,seval,hd,cb,tnPK,tnMK,z11,x11]);(all_goals (repeat' (with_reducible apply And.intro)));(all_goals try (first | exact q8 rfl | (refine x10 ?_;omega) | (refine q8 ?_;simp;done)))
  clear se so hbs hse hm ha h
  obtain ⟨⟨k,u⟩,hk,hk2,hse,hbs⟩ := s
  unfold sbBK
  simp only [] at hk hk2 hse hbs
  by_cases hkn : k < n
  ·(repeat (first | apply j0 | refine j6 rfl ?_ | refine z7 rfl ?_ | apply z6 | (refine j4 fun K hK => ?_) | (refine z5 fun K hK => ?_) | ((first | apply x5 | apply j5 | ((first | refine z3 (hK _ ?_) | refine x4 (hK _ _ z4 ?_));clear hK K));(first | show AWP _ _ _ _ _ | ((try simp only [x6]);first | show loopQ _ _ _ _ _ _ | show cutQ _ _ _ _ | show AWP _ _ _ _ _))) | ((first | refine x7 [] rfl ?_ | refine j7 [] rfl ?_);simp (disch:=omega) only [go_sem,seval,hd,cb,tnPK,tnMK,z11,x11];(repeat (first | refine ⟨by omega,?_⟩ | refine ⟨True.intro,?_⟩)))))
   refine x12 (sbCK key x n gen k g) (fun s => n - s.val.1) ⟨(0,u),by simp,by simp,hse,fun i j h1 h2 h3 => by simp only [] at h3;omega,hbs⟩ ?_ (fun s => ?_)
   ·unfold sbCK
    refine Weak.list ?_ ?_;(all_goals simp (disch:=omega) only [AllF,AllL,q10,z10,j9,exists_eq_left',go_sem,seval,hd,cb,tnPK,tnMK,z11,x11]);(all_goals (repeat' (with_reducible apply And.intro)));(all_goals try (first | exact q8 rfl | (refine x10 ?_;omega) | (refine q8 ?_;simp;done)))
   obtain ⟨⟨a,z⟩,ha,hm,hse,hb2,hb1⟩ := s
   unfold sbCK
   simp only [] at ha hm hse hb2 hb1
   have hm1 := z162 hm
   by_cases h : a + 2 * k ≤ n
   ·(repeat (first | apply j0 | refine j6 rfl ?_ | refine z7 rfl ?_ | apply z6 | (refine j4 fun K hK => ?_) | (refine z5 fun K hK => ?_) | ((first | apply x5 | apply j5 | ((first | refine z3 (hK _ ?_) | refine x4 (hK _ _ z4 ?_));clear hK K));(first | show AWP _ _ _ _ _ | ((try simp only [x6]);first | show loopQ _ _ _ _ _ _ | show cutQ _ _ _ _ | show AWP _ _ _ _ _))) | ((first | refine x7 [] rfl ?_ | refine j7 [] rfl ?_);simp (disch:=omega) only [go_sem,seval,hd,cb,tnPK,tnMK,z11,x11];(repeat (first | refine ⟨by omega,?_⟩ | refine ⟨True.intro,?_⟩)))))
    (refine q16 _ (x16 [(1000,1000)] rfl rfl rfl rfl rfl rfl (z101 hc n gen hn _ z _ a (a + k) (a + 2 * k) _ _ _ (Nat.le_refl _) rfl (by omega) (by omega) (by omega) (by omega) h (hb1.srt hk hm1 (Nat.le_refl _) (by omega) (by omega)) (hb1.srt hk (q54 hm1) (by omega) (by omega) (by omega)) rfl) rfl (j16 (by repeat (first | exact trivial | refine ⟨rfl,?_⟩)) (by kernel_rfl))) ?_);simp (disch:=omega) only [go_sem,seval,hd,cb,tnPK,tnMK,z11,x11]
    (repeat (first | apply j0 | refine j6 rfl ?_ | refine z7 rfl ?_ | apply z6 | (refine j4 fun K hK => ?_) | (refine z5 fun K hK => ?_) | ((first | apply x5 | apply j5 | ((first | refine z3 (hK _ ?_) | refine x4 (hK _ _ z4 ?_));clear hK K));(first | show AWP _ _ _ _ _ | ((try simp only [x6]);first | show loopQ _ _ _ _ _ _ | show cutQ _ _ _ _ | show AWP _ _ _ _ _))) | ((first | refine x7 [] rfl ?_ | refine j7 [] rfl ?_);simp (disch:=omega) only [go_sem,seval,hd,cb,tnPK,tnMK,z11,x11];(repeat (first | refine ⟨by omega,?_⟩ | refine ⟨True.intro,?_⟩)))))
    have se := x33 (key := key) a (a + 2 * k) z
    have so := j33 (key := key) a (a + 2 * k) z
    refine ⟨⟨(a + 2 * k,stab key a (a + 2 * k) z),h,q54 hm,hse.trans (se.widen (Nat.zero_le _) (by omega) h),hb2.more (by omega) hm (Nat.le_refl _) (fun k hk => se.out k (by omega)) so,hb1.drop (by omega) (Nat.le_refl _) (fun k k1 k2 => se.out k (by omega))⟩,by simp only [];omega,?_⟩
    refine Weak.list ?_ ?_;(all_goals simp (disch:=omega) only [AllF,AllL,q10,z10,j9,exists_eq_left',go_sem,seval,hd,cb,tnPK,tnMK,z11,x11]);(all_goals (repeat' (with_reducible apply And.intro)));(all_goals try (first | exact q8 rfl | (refine x10 ?_;omega) | (refine q8 ?_;simp;done)))
   ·by_cases hmn : a + k < n
    ·(repeat (first | apply j0 | refine j6 rfl ?_ | refine z7 rfl ?_ | apply z6 | (refine j4 fun K hK => ?_) | (refine z5 fun K hK => ?_) | ((first | apply x5 | apply j5 | ((first | refine z3 (hK _ ?_) | refine x4 (hK _ _ z4 ?_));clear hK K));(first | show AWP _ _ _ _ _ | ((try simp only [x6]);first | show loopQ _ _ _ _ _ _ | show cutQ _ _ _ _ | show AWP _ _ _ _ _))) | ((first | refine x7 [] rfl ?_ | refine j7 [] rfl ?_);simp (disch:=omega) only [go_sem,seval,hd,cb,tnPK,tnMK,z11,x11];(repeat (first | refine ⟨by omega,?_⟩ | refine ⟨True.intro,?_⟩)))))
     (refine q16 _ (x16 [(1000,1000)] rfl rfl rfl rfl rfl rfl (z101 hc n gen hn _ z _ a (a + k) n _ _ _ (Nat.le_refl _) rfl (by omega) rfl (by omega) (by omega) (Nat.le_refl _) (hb1.srt hk hm1 (Nat.le_refl _) (by omega) (by omega)) (hb1.srt hk (q54 hm1) (by omega) (by omega) (by omega)) rfl) rfl (j16 (by repeat (first | exact trivial | refine ⟨rfl,?_⟩)) (by kernel_rfl))) ?_);simp (disch:=omega) only [go_sem,seval,hd,cb,tnPK,tnMK,z11,x11]
     (repeat (first | apply j0 | refine j6 rfl ?_ | refine z7 rfl ?_ | apply z6 | (refine j4 fun K hK => ?_) | (refine z5 fun K hK => ?_) | ((first | apply x5 | apply j5 | ((first | refine z3 (hK _ ?_) | refine x4 (hK _ _ z4 ?_));clear hK K));(first | show AWP _ _ _ _ _ | ((try simp only [x6]);first | show loopQ _ _ _ _ _ _ | show cutQ _ _ _ _ | show AWP _ _ _ _ _))) | ((first | refine x7 [] rfl ?_ | refine j7 [] rfl ?_);simp (disch:=omega) only [go_sem,seval,hd,cb,tnPK,tnMK,z11,x11];(repeat (first | refine ⟨by omega,?_⟩ | refine ⟨True.intro,?_⟩)))))
     have se := x33 (key := key) a n z
     have so := j33 (key := key) a n z
     refine ⟨⟨(2 * k,stab key a n z),by simp only [];omega,by simp only [];omega,hse.trans (se.widen (Nat.zero_le _) (by omega) (Nat.le_refl _)),hb2.more (by omega) hm (by omega) (fun k hk => se.out k (by omega)) so⟩,by simp only [];omega,?_⟩
     refine Weak.list ?_ ?_;(all_goals simp (disch:=omega) only [AllF,AllL,q10,z10,j9,exists_eq_left',go_sem,seval,hd,cb,tnPK,tnMK,z11,x11]);(all_goals (repeat' (with_reducible apply And.intro)));(all_goals try (first | exact q8 rfl | (refine x10 ?_;omega) | (refine q8 ?_;simp;done)))
    ·(repeat (first | apply j0 | refine j6 rfl ?_ | refine z7 rfl ?_ | apply z6 | (refine j4 fun K hK => ?_) | (refine z5 fun K hK => ?_) | ((first | apply x5 | apply j5 | ((first | refine z3 (hK _ ?_) | refine x4 (hK _ _ z4 ?_));clear hK K));(first | show AWP _ _ _ _ _ | ((try simp only [x6]);first | show loopQ _ _ _ _ _ _ | show cutQ _ _ _ _ | show AWP _ _ _ _ _))) | ((first | refine x7 [] rfl ?_ | refine j7 [] rfl ?_);simp (disch:=omega) only [go_sem,seval,hd,cb,tnPK,tnMK,z11,x11];(repeat (first | refine ⟨by omega,?_⟩ | refine ⟨True.intro,?_⟩)))))
     refine ⟨⟨(2 * k,z),by simp only [];omega,by simp only [];omega,hse,hb2.more (by omega) hm (by omega) (fun k hk => rfl) (hb1.srt hk hm1 (Nat.le_refl _) (Nat.le_refl _) (by omega))⟩,by simp only [];omega,?_⟩
     refine Weak.list ?_ ?_;(all_goals simp (disch:=omega) only [AllF,AllL,q10,z10,j9,exists_eq_left',go_sem,seval,hd,cb,tnPK,tnMK,z11,x11]);(all_goals (repeat' (with_reducible apply And.intro)));(all_goals try (first | exact q8 rfl | (refine x10 ?_;omega) | (refine q8 ?_;simp;done)))
  ·(repeat (first | apply j0 | refine j6 rfl ?_ | refine z7 rfl ?_ | apply z6 | (refine j4 fun K hK => ?_) | (refine z5 fun K hK => ?_) | ((first | apply x5 | apply j5 | ((first | refine z3 (hK _ ?_) | refine x4 (hK _ _ z4 ?_));clear hK K));(first | show AWP _ _ _ _ _ | ((try simp only [x6]);first | show loopQ _ _ _ _ _ _ | show cutQ _ _ _ _ | show AWP _ _ _ _ _))) | ((first | refine x7 [] rfl ?_ | refine j7 [] rfl ?_);simp (disch:=omega) only [go_sem,seval,hd,cb,tnPK,tnMK,z11,x11];(repeat (first | refine ⟨by omega,?_⟩ | refine ⟨True.intro,?_⟩)))))
   have ey := funext (z33 hse (hbs.end (by omega)))
   rw [← ey]
   (first | (refine z3 (hK _ ?_);exact (j14 rfl rfl ⟨rfl,rfl⟩).1) | (refine j5 ?_;exact (j14 rfl rfl ⟨rfl,rfl⟩).1) | (refine x5 ?_;exact (j14 rfl rfl ⟨rfl,rfl⟩).1) | (refine x8 ?_;exact (j14 rfl rfl ⟨rfl,rfl⟩).2) | exact (j14 rfl rfl ⟨rfl,rfl⟩).1)
set_option maxRecDepth 100000 in
theorem j162 {key : Cube → Int} {c : Cube → Cube → Int} {g : FuncId} (hc : CmpK Try.prog g key c) (x : Nat → Cube) (n gen : Nat) (hn : n ≤ 1099511627776) :
  MCalls Try.prog 61 [.ow 1000 gen 4 n,.p (.fn (.func g) [] [])] [(1000,.own 27 4 n gen (rowFK x))]
   (fun rs M => rs = [] ∧ M = [(1000,.own 27 4 n gen (rowFK (stab key 0 n x)))]) := by
 refine j18 Try.func61 rfl (by decide +kernel) (by rw [Try.ntmps61];simp) (fun l X h => by simp only [AL.look] at h;(repeat' split at h);all_goals first | omega | cases h) ?_;rw [Try.ntmps61];simp only [frA]
 (repeat (first | apply j0 | refine j6 rfl ?_ | refine z7 rfl ?_ | apply z6 | (refine j4 fun K hK => ?_) | (refine z5 fun K hK => ?_) | ((first | apply x5 | apply j5 | ((first | refine z3 (hK _ ?_) | refine x4 (hK _ _ z4 ?_));clear hK K));(first | show AWP _ _ _ _ _ | ((try simp only [x6]);first | show loopQ _ _ _ _ _ _ | show cutQ _ _ _ _ | show AWP _ _ _ _ _))) | ((first | refine x7 [] rfl ?_ | refine j7 [] rfl ?_);simp (disch:=omega) only [go_sem,seval,hd,cb,tnPK,tnMK,z11,x11];(repeat (first | refine ⟨by omega,?_⟩ | refine ⟨True.intro,?_⟩)))))
 (refine q16 _ (x16 [(1000,1000)] rfl rfl rfl rfl rfl rfl (x162 hc x _ n gen _ rfl hn rfl) rfl (j16 (by repeat (first | exact trivial | refine ⟨rfl,?_⟩)) (by kernel_rfl))) ?_);simp (disch:=omega) only [go_sem,seval,hd,cb,tnPK,tnMK,z11,x11]
 (repeat (first | apply j0 | refine j6 rfl ?_ | refine z7 rfl ?_ | apply z6 | (refine j4 fun K hK => ?_) | (refine z5 fun K hK => ?_) | ((first | apply x5 | apply j5 | ((first | refine z3 (hK _ ?_) | refine x4 (hK _ _ z4 ?_));clear hK K));(first | show AWP _ _ _ _ _ | ((try simp only [x6]);first | show loopQ _ _ _ _ _ _ | show cutQ _ _ _ _ | show AWP _ _ _ _ _))) | ((first | refine x7 [] rfl ?_ | refine j7 [] rfl ?_);simp (disch:=omega) only [go_sem,seval,hd,cb,tnPK,tnMK,z11,x11];(repeat (first | refine ⟨by omega,?_⟩ | refine ⟨True.intro,?_⟩)))))
 (first | (refine z3 (hK _ ?_);exact (j14 rfl rfl ⟨rfl,rfl⟩).1) | (refine j5 ?_;exact (j14 rfl rfl ⟨rfl,rfl⟩).1) | (refine x5 ?_;exact (j14 rfl rfl ⟨rfl,rfl⟩).1) | (refine x8 ?_;exact (j14 rfl rfl ⟨rfl,rfl⟩).2) | exact (j14 rfl rfl ⟨rfl,rfl⟩).1)
end Go.Proofs.Ytbamjcnhmmgnlaa
namespace Go.Proofs.Ytbamjcnhmmgnlaa.AL
open Go
theorem Weak.ownCell (A : ASt) (l0 l j sz : Nat) (e e' : TypeId) (cs : List AV) (f : Nat → List Dat) (hl0 : look A.locs l0 = some (.cells e cs)) (hj : cs[j]? = some (.p (.d (.v (.slice none 0 0))))) (hne : l0 ≠ l)
  (hu : unusedB A l = true) (hn : look A.locs l = none) : Weak A ⟨A.fr,(l,.own e' sz 0 0 f) :: (l0,.cells e (cs.set j (.ow l 0 sz 0))) :: A.locs⟩ := by
 intro w0 g0 nt h a w r
 let h' : Gh := { h with κ := fun k => if k = l then .slice none 0 0 else h.κ k,μ := fun k => if k = l then 0 else h.μ k }
 have un := q31 hu
 have tr : Trans w0.O w h w h' (fun _ => False) (some l) true := by
  refine ⟨BelowS.refl _ _,fun b _ _ => ⟨rfl,rfl⟩,⟨fun b => Nat.le_refl _,fun b o _ => rfl⟩,r.gz,fun b _ => rfl,fun _ _ => rfl,fun k hk => ?_,fun k _ hf => by cases hf⟩
  have : k ≠ l := fun e => hk (by rw [e])
  simp [h',this]
 have nl : h'.κ l = .slice none 0 0 := by simp [h']
 have nm : h'.μ l = 0 := by simp [h']
 have old : ∀ k L,k ≠ l → look A.locs k = some L → LocOK w0.O w h' k L ∧ inB h' k L = inB h k L := fun k L hk hL =>
  LocOK.trans tr (fun e => hk (by cases e;rfl)) (fun _ l' hl' hm => by cases hl';exact un.2.1 k L hL hm) (fun b _ => by simp) (r.locs k L hL)
 have cell0 : LocOK w0.O w h' l0 (.cells e (cs.set j (.ow l 0 sz 0))) := by
  obtain ⟨arr,c1,c2,c3,c4,c5⟩ := (old l0 _ hne hl0).1
  refine ⟨arr,c1,c2,by simpa using c3,c4,fun i v x hv hx => ?_⟩
  by_cases hi : i = j
  ·subst hi
   have hlt := (List.getElem?_eq_some_iff.1 hj).1
   rw [List.getElem?_set_self hlt] at hx
   cases hx
   obtain ⟨k1,k2⟩ := c5 i v _ hv hj
   have hv0 := q88 k1
   refine ⟨?_,k2⟩
   rw [hv0]
   exact ⟨by omega,⟨_,_,rfl,fun hh => by omega⟩,fun _ => nl.symm⟩
  ·rw [List.getElem?_set_ne (fun e => hi e.symm)] at hx
   exact c5 i v x hv hx
 refine ⟨h',r.size,r.defers,fun u y hy => ?_,fun k L hL => ?_,fun k k' L L' b hne2 hL hL' hbk => ?_,r.ext,fun k hk => ?_⟩
 ·exact RelA.trans tr (fun _ l' hl' hm => by cases hl';exact un.1 u y hy hm) (r.fr u y hy)
 ·simp only [look] at hL
  split at hL
  ·rename_i e2;subst e2;cases hL
   exact ⟨nm,⟨[],by rw [nl];exact World.ownsRow_nil _ _ _ _,fun i hi => by omega,fun i j d hi => by omega⟩,fun b hb => by rw [nl] at hb;simp [Value.ownBlock] at hb⟩
  ·rename_i hk
   split at hL
   ·rename_i e2;subst e2;cases hL;exact cell0
   ·exact (old k L (fun e => hk e.symm) hL).1
 ·have two : ∀ {k : Nat} {L : LV},look ((l,LV.own e' sz 0 0 f) :: (l0,.cells e (cs.set j (.ow l 0 sz 0))) :: A.locs) k = some L → inB h' k L b → k ≠ l ∧ ∃ L0,look A.locs k = some L0 ∧ inB h k L0 b := by
   intro k L hL hb
   simp only [look] at hL
   split at hL
   ·rename_i e2;subst e2;cases hL
    simp [inB,nl,Value.ownBlock] at hb
   ·rename_i hk
    refine ⟨fun e => hk e.symm,?_⟩
    split at hL
    ·rename_i e2;subst e2;cases hL
     exact ⟨_,hl0,hb⟩
    ·exact ⟨L,hL,by rw [← (old k L (fun e => hk e.symm) hL).2];exact hb⟩
  intro hin
  obtain ⟨a1,L1,a2,a3⟩ := two hL hbk
  obtain ⟨b1,L2,b2,b3⟩ := two hL' hin
  exact r.sep k k' L1 L2 b hne2 a2 b2 a3 b3
 ·have : k ≠ l := by have := un.2.2;omega
  simp only [h',if_neg this]
  exact r.pin k hk
theorem x101 {P : Program} {nt : Nat} {c : Code} {Q : Exit → ASt → Prop} {A : ASt} (l0 l j sz : Nat) (e' : TypeId) (f : Nat → List Dat) {e : TypeId} {cs : List AV} (hl0 : look A.locs l0 = some (.cells e cs)) (hj : cs[j]? = some (.p (.d (.v (.slice none 0 0))))) (hne : l0 ≠ l)
  (hu : unusedB A l = true) (hn : look A.locs l = none) (h : AWP P nt c Q ⟨A.fr,(l,.own e' sz 0 0 f) :: (l0,.cells e (cs.set j (.ow l 0 sz 0))) :: A.locs⟩) : AWP P nt c Q A := q24 (Weak.ownCell A l0 l j sz e e' cs f hl0 hj hne hu hn) h
def LLes (M M2 : List (Nat × LV)) : Prop := ∀ l X2,look M2 l = some X2 → ∃ X,look M l = some X ∧ LLe X X2
theorem LLes.nil (M : List (Nat × LV)) : LLes M [] := fun l X2 h => by simp [look] at h
theorem LLes.cons {M M2 : List (Nat × LV)} {l : Nat} {X X2 : LV} (h : look M l = some X) (hl : LLe X X2) (t : LLes M M2) : LLes M ((l,X2) :: M2) := fun k Y hk => by
 simp only [look] at hk
 split at hk
 ·rename_i e;subst e;cases hk;exact ⟨X,h,hl⟩
 ·exact t k Y hk
theorem LLe.refl (X : LV) : LLe X X := of_eq_true (j9 X)
theorem MCalls.out {P : Program} {f : FuncId} {xs : List AV} {L M M2 : List (Nat × LV)} {rs : List AV} (h : MCalls P f xs L (fun r M' => r = rs ∧ M' = M)) (hM : LLes M M2) : MCalls P f xs L (fun r M' => r = rs ∧ M' = M2) := by
 intro w g vs hz hr hl
 have key := h w g vs hz hr hl
 have fin : ∀ v w',(∃ h' r M',(r = rs ∧ M' = M) ∧ RelRA w' h' v r ∧ LocsOK (fun _ => True) w' h' M' ∧ Chg L M' w g w' h') → ∃ h' r M',(r = rs ∧ M' = M2) ∧ RelRA w' h' v r ∧ LocsOK (fun _ => True) w' h' M' ∧ Chg L M' w g w' h' := by
  rintro v w' ⟨h',r,M',⟨rfl,rfl⟩,h1,h2,h3⟩
  refine ⟨h',_,M2,⟨rfl,rfl⟩,h1,⟨fun l X2 hX => ?_,fun l l' X X' b hne e1 e2 hb hb' => ?_⟩,⟨h3.below,h3.gam,h3.gz,h3.keep,h3.ρ,h3.up,fun b hb => ?_⟩⟩
  ·obtain ⟨X,e1,e2⟩ := hM l X2 hX
   exact (x26 e2 (h2.1 l X e1)).1
  ·obtain ⟨Y,y1,y2⟩ := hM l X e1
   obtain ⟨Y',z1,z2⟩ := hM l' X' e2
   rw [(x26 y2 (h2.1 l Y y1)).2] at hb
   rw [(x26 z2 (h2.1 l' Y' z1)).2] at hb'
   exact h2.2 l l' Y Y' b hne y1 z1 hb hb'
  ·obtain ⟨l,X2,e1,e2⟩ := hb
   obtain ⟨Y,y1,y2⟩ := hM l X2 e1
   rw [(x26 y2 (h2.1 l Y y1)).2] at e2
   exact h3.own b ⟨l,Y,y1,e2⟩
 unfold CallRes at *
 split at key
 ·exact key.mono fun e w' ⟨v,he,hh⟩ => ⟨v,he,fin v w' hh⟩
 ·exact fin _ _ key
 ·exact key.elim
end Go.Proofs.Ytbamjcnhmmgnlaa.AL
namespace Go.Proofs.Ytbamjcnhmmgnlaa
open Go Go.RowKit Go.Proofs.Ytbamjcnhmmgnlaa.AL
theorem j101 : ∀ (a b : List Int),eqI a b = decide (a = b)
 | [],[] => by simp [eqI]
 | [],_ :: _ => by simp [eqI]
 | _ :: _,[] => by simp [eqI]
 |x :: a,y :: b => by
  simp only [eqI,j101 a b,List.cons.injEq]
  by_cases h : x = y <;> by_cases h2 : a = b <;> simp [h,h2]
theorem q102 : ∀ (ks : List IntKind) (xs : List Int),List.zipWith Value.int ks xs = ints ks xs
 | [],_ => by simp [ints]
 | _ :: _,[] => by simp [ints]
 |k :: ks,x :: xs => by
  have := q102 ks xs
  simp only [List.zipWith_cons_cons,this]
  rfl
theorem z102 {k k' : IntKind} {ks : List IntKind} (xs : List Int) : keyVal (k :: k' :: ks) xs = .agg (ints (k :: k' :: ks) xs).toArray := by
 rw [← q102]
 unfold keyVal
 split
 ·rename_i h2;simp at h2
 ·rfl
theorem x102 {P : Program} {kt : TypeId} {k k' : IntKind} {ks : List IntKind} (hE : EqTy P kt (k :: k' :: ks)) (w : World) (xs : List Int) (hx : xs.length = (k :: k' :: ks).length) : ∀ (es : List MapEntry) (yss : List (List Int)) (i0 : Nat),es.length = yss.length →
  (∀ (i : Nat) e ys,es[i]? = some e → yss[i]? = some ys → e.key = keyVal (k :: k' :: ks) ys ∧ ys.length = (k :: k' :: ks).length) →
  (Instr.findAsking kt (keyVal (k :: k' :: ks) xs) es i0).run P w = .ok ((findI xs yss).bind fun i => es[i]?.map fun e => (i0 + i,e.val)) w
 | [],[],i0,_,_ => by simp [Instr.findAsking,findI]
 |e :: es,ys :: yss,i0,hl,h => by
  obtain ⟨h1,h2⟩ := h 0 e ys rfl rfl
  have ih := x102 hE w xs hx es yss (i0 + 1) (by simpa using hl) fun i e ys he hy => h (i + 1) e ys (by simpa using he) (by simpa using hy)
  have he := hE.2 w xs ys hx h2
  rw [z102] at h1 ih ⊢
  unfold Instr.findAsking
  rw [h1]
  simp only [Sem.run_bind,he,Result.andThen_ok]
  rw [j101]
  unfold findI
  by_cases hxy : ys = xs
  ·subst hxy;simp
  ·rw [if_neg hxy]
   have : ¬ xs = ys := fun e => hxy e.symm
   simp only [decide_eq_false this,Bool.false_eq_true,if_false,ih]
   cases findI xs yss with
   | none => rfl
   |some i =>
    simp only [Option.map_some,Option.bind_some,List.getElem?_cons_succ]
    cases es[i]? with
    | none => rfl
    | some e => simp only [Option.map_some];congr 3;omega
theorem q163 {P : Program} {kt : TypeId} {k k' : IntKind} {ks : List IntKind} {fs : Array Field} (hu : P.underlying kt = some (.struct fs)) (hE : EqTy P kt (k :: k' :: ks))
  (hc : ∀ (e : Bool) (xs : List Int) (w : World),xs.length = (k :: k' :: ks).length → (Instr.checkKey e 10000 kt (keyVal (k :: k' :: ks) xs)).run P w = .ok () w) : KeyTy P kt (k :: k' :: ks) where
 check := hc
 find := fun w xs es yss hx hl h => by
  have fa := x102 hE w xs hx es yss 0 hl h
  simp only [Nat.zero_add] at fa
  unfold Instr.findKey
  simp only [Sem.run_bind,run_underlying hu,Result.andThen_ok]
  cases es with
  |nil =>
   cases yss with
   | nil => simp [Instr.findNow,findI]
   | cons => simp at hl
  |cons e es =>
   rw [z102] at fa ⊢
   simp only [Instr.findNow,Instr.sameNow]
   exact fa
theorem z15 : KeyTy Try.prog 27 [.u64,.u64,.u64,.u64] := by
 refine q163 Try.underlying27 z8 fun e xs w hx => ?_
 obtain ⟨a,b,c,d,rfl⟩ : ∃ a b c d,xs = [a,b,c,d] := by
  match xs,hx with
  | [a,b,c,d],_ => exact ⟨a,b,c,d,rfl⟩
 have key : ∀ n,(Instr.checkKey e (n + 1 + 1 + 1) 27 (.agg #[.int .u64 a,.int .u64 b,.int .u64 c,.int .u64 d])).run Try.prog w = .ok () w := by
  intro n
  simp [Instr.checkKey,run_underlying Try.underlying27,run_underlying Try.underlying25,run_underlying Try.underlying23,part,Try.isAgg25,Try.isAgg23,Try.sizeOf25,Try.sizeOf23]
 exact key 9997
end Go.Proofs.Ytbamjcnhmmgnlaa
namespace Go.Proofs.Ytbamjcnhmmgnlaa.AL
variable {P : Program} {nt : Nat} {Q : Exit → ASt → Prop} {A : ASt}
def cutQ {ι : Type} (I : ι → ASt) (Q : Exit → ASt → Prop) : Exit → ASt → Prop
 | .normal,A => ∃ i,Weak A (I i)
 | e,A => Q e A
attribute [irreducible] cutQ
theorem x70 {α : Type} {M : List (Nat × α)} : ∀ {L : List (Nat × α)},(∀ p ∈ L,look M p.1 = some p.2) → ∀ l X,look L l = some X → look M l = some X
 | [],_,l,X,h => by cases h
 |p :: r,hl,l,X,h => by
  simp only [look] at h
  split at h
  ·rename_i e;subst e;cases h;exact hl p (by simp)
  ·exact x70 (fun q hq => hl q (by simp [hq])) l X h
theorem retM_of {fn : Func} {Q : List AV → List (Nat × LV) → Prop} (rs : List AV) (L : List (Nat × LV)) (hr : ResVarsA P A fn.results.toList rs) (hl : ∀ p ∈ L,look A.locs p.1 = some p.2) (hq : Q rs L) : retM P fn Q .ret A :=
 ⟨rs,L,hr,x70 hl,hq⟩
theorem q34 {fn : Func} {Q : List AV → List (Nat × LV) → Prop} (rs : List AV) (L : List (Nat × LV)) (hr : ResVarsA P A fn.results.toList rs) (hl : ∀ p ∈ L,look A.locs p.1 = some p.2) (hq : Q rs L) : retM P fn Q .normal A :=
 ⟨rs,L,hr,x70 hl,hq⟩
end Go.Proofs.Ytbamjcnhmmgnlaa.AL
namespace Go.Proofs.Ytbamjcnhmmgnlaa.AL
variable {P : Program} {nt : Nat} {Q : Exit → ASt → Prop} {A : ASt}
end Go.Proofs.Ytbamjcnhmmgnlaa.AL
namespace Go.Proofs.Ytbamjcnhmmgnlaa
open Go.Proofs.Ytbamjcnhmmgnlaa.AL
theorem z163 (out : List Cube) (c : Cube) (i : Nat) (hlt : i < out.length + 1) : catF out.length (rowC out) (fun i => [cb c].getD i []) i = rowC (out ++ [c]) i := by
 unfold catF rowC
 by_cases h : i < out.length
 ·rw [if_pos h,List.getD_eq_getElem?_getD,List.getD_eq_getElem?_getD,List.getElem?_append_left h]
 ·have : i = out.length := by omega
  subst this
  simp
theorem z23 (L : List Cube) (i : Nat) : rowC L i = cb (L.getD i ⟨0,0⟩) := rfl
theorem j102 (n : Nat) (f : Nat → List Dat) (hn : n ≤ 140737488355328) : ACalls Try.prog 54 [.d (.sl 4 n f)] (· = [.d (.sl 4 n f)]) := by
 refine q11 Try.func54 rfl (by decide +kernel) (by rw [Try.ntmps54];simp) ?_;rw [Try.ntmps54];simp only [frOf]
 (repeat (first | apply j0 | refine j6 rfl ?_ | refine z7 rfl ?_ | apply z6 | (refine j4 fun K hK => ?_) | (refine z5 fun K hK => ?_) | ((first | apply x5 | apply j5 | ((first | refine z3 (hK _ ?_) | refine x4 (hK _ _ z4 ?_));clear hK K));(first | show AWP _ _ _ _ _ | ((try simp only [x6]);first | show loopQ _ _ _ _ _ _ | show cutQ _ _ _ _ | show AWP _ _ _ _ _))) | ((first | refine x7 [] rfl ?_ | refine j7 [] rfl ?_);simp (disch:=omega) only [go_sem,seval,hd,cb,j11,z8];(repeat (first | refine ⟨by omega,?_⟩ | refine ⟨True.intro,?_⟩)))))
 refine x8 ⟨_,?_,rfl⟩;rw [Try.results54];simp (disch:=omega) only [ResVars,ResVar,ptrLoc,go_sem,seval,hd,cb,j11,z8]
 rfl
theorem z54 (a b : Cube) : eqI [hi a.v,lo a.v,hi a.c,lo a.c] [hi b.v,lo b.v,hi b.c,lo b.c] = (a == b) := by
 have h1 := j13 a.v b.v
 have h2 := j13 a.c b.c
 simp only [eqI,Bool.and_true] at h1 h2 ⊢
 rw [← Bool.and_assoc,h1,h2]
 cases a;cases b
 rw [Bool.eq_iff_iff]
 simp
theorem q103 (out : List Cube) (c : Cube) (i : Nat) (hlt : i < out.length + 1) : catF out.length (rowC out) (fun i => [cb c].getD i []) i = rowC (out ++ [c]) i := by
 unfold catF rowC
 by_cases h : i < out.length
 ·simp only [if_pos h,List.getD_eq_getElem?_getD,List.getElem?_append_left h]
 ·have : i = out.length := by omega
  subst this
  simp
end Go.Proofs.Ytbamjcnhmmgnlaa
namespace Go.Proofs.Ytbamjcnhmmgnlaa
open Go Go.Proofs.Ytbamjcnhmmgnlaa.AL
def addC (L : List Cube) (k : Cube) : List Cube := if L.contains k then L else L ++ [k]
def keyC (k : Cube) : List Int := [hi k.v,lo k.v,hi k.c,lo k.c]
def seenM (L : List Cube) : List (List Int × PV) := L.map fun k => (keyC k,.d (.v (.bool true)))
def lstA (L : List Cube) : LV := .cells 127 [.ow 1002 L.length 4 L.length,.mp 1001]
def lstL (L : List Cube) : List (Nat × LV) := [(1000,lstA L),(1001,.map [.u64,.u64,.u64,.u64] (seenM L)),(1002,.own 27 4 L.length L.length (rowC L))]
theorem j70 : ∀ l : List Int,eqI l l = true
 | [] => rfl
 | x :: l => by simp [eqI,j70 l]
theorem z103 {a b : Cube} (h : keyC a = keyC b) : a = b := by
 have e := z54 a b
 have h' : [hi a.v,lo a.v,hi a.c,lo a.c] = [hi b.v,lo b.v,hi b.c,lo b.c] := h
 rw [h',j70] at e
 simpa using e.symm
theorem x103 {k : Cube} : ∀ {L : List Cube},k ∉ L → findM (keyC k) (seenM L) = none
 | [],_ => rfl
 |x :: L,h => by
  have ih := x103 (k := k) (L := L) (fun e => h (by simp [e]))
  unfold seenM at ih ⊢
  simp only [List.map_cons,findM]
  rw [if_neg (fun e => h (by simp [z103 e]))]
  exact ih
theorem j103 {k : Cube} : ∀ {L : List Cube},k ∈ L → findM (keyC k) (seenM L) = some (.d (.v (.bool true)))
 |x :: L,h => by
  unfold seenM
  simp only [List.map_cons,findM]
  split
  ·rfl
  ·rename_i e
   have : k ∈ L := by
    rcases List.mem_cons.1 h with h | h
    ·exact absurd (by rw [h]) e
    ·exact h
   exact j103 this
theorem q104 {k : Cube} : ∀ {L : List Cube},k ∉ L → putM (keyC k) (.d (.v (.bool true))) (seenM L) = seenM (L ++ [k])
 | [],_ => rfl
 |x :: L,h => by
  have ih := q104 (k := k) (L := L) (fun e => h (by simp [e]))
  unfold seenM at ih ⊢
  simp only [List.map_cons,List.cons_append,putM]
  rw [if_neg (fun e => h (by simp [z103 e])),ih]
set_option maxRecDepth 100000 in
theorem add_old (L : List Cube) (k : Cube) (h : k ∈ L) : MCalls Try.prog 51 [.loc 1000 0,.p (.agg (cb k))] (lstL L) (fun rs M => rs = [] ∧ M = lstL L) := by
 have hf := j103 h
 unfold keyC at hf
 unfold lstL lstA
 refine j18 Try.func51 rfl (by decide +kernel) (by rw [Try.ntmps51];simp) (fun l X h => by simp only [AL.look] at h;(repeat' split at h);all_goals first | omega | cases h) ?_;rw [Try.ntmps51];simp only [frA]
 (repeat (first | apply j0 | refine j6 rfl ?_ | refine z7 rfl ?_ | apply z6 | (refine j4 fun K hK => ?_) | (refine z5 fun K hK => ?_) | ((first | apply x5 | apply j5 | ((first | refine z3 (hK _ ?_) | refine x4 (hK _ _ z4 ?_));clear hK K));(first | show AWP _ _ _ _ _ | ((try simp only [x6]);first | show loopQ _ _ _ _ _ _ | show cutQ _ _ _ _ | show AWP _ _ _ _ _))) | ((first | refine x7 [] rfl ?_ | refine j7 [] rfl ?_);simp (disch:=omega) only [go_sem,seval,hd,cb,hf];(repeat (first | refine ⟨by omega,?_⟩ | refine ⟨z15,?_⟩)))))
 refine x5 (q34 [] (lstL L) trivial ?_ ⟨rfl,rfl⟩)
 simp [AL.look,lstL,lstA]
set_option maxRecDepth 100000 in
theorem add_new (L : List Cube) (k : Cube) (h : k ∉ L) (hl : L.length ≤ 1073741824) : MCalls Try.prog 51 [.loc 1000 0,.p (.agg (cb k))] (lstL L) (fun rs M => rs = [] ∧ M = lstL (L ++ [k])) := by
 have hf := x103 h
 have hp := q104 h
 have hn : (L ++ [k]).length = L.length + 1 := by simp
 refine MCalls.out (M := [(1000,.cells 127 [.ow 1002 (L.length + 1) 4 (L.length + 1),.mp 1001]),(1001,.map [.u64,.u64,.u64,.u64] (seenM (L ++ [k]))),(1002,.own 27 4 (L.length + 1) (L.length + 1) (catF L.length (rowC L) fun i => [cb k].getD i []))]) ?_ ?_
 ·unfold keyC at hf hp
  unfold lstL lstA
  refine j18 Try.func51 rfl (by decide +kernel) (by rw [Try.ntmps51];simp) (fun l X h => by simp only [AL.look] at h;(repeat' split at h);all_goals first | omega | cases h) ?_;rw [Try.ntmps51];simp only [frA]
  (repeat (first | apply j0 | refine j6 rfl ?_ | refine z7 rfl ?_ | apply z6 | (refine j4 fun K hK => ?_) | (refine z5 fun K hK => ?_) | ((first | apply x5 | apply j5 | ((first | refine z3 (hK _ ?_) | refine x4 (hK _ _ z4 ?_));clear hK K));(first | show AWP _ _ _ _ _ | ((try simp only [x6]);first | show loopQ _ _ _ _ _ _ | show cutQ _ _ _ _ | show AWP _ _ _ _ _))) | ((first | refine x7 [] rfl ?_ | refine j7 [] rfl ?_);simp (disch:=omega) only [go_sem,seval,hd,cb,hf,hp];(repeat (first | refine ⟨by omega,?_⟩ | refine ⟨z15,?_⟩)))))
  refine x4 (hK _ _ (z4 (by kernel_rfl)) ?_)
  refine q34 [] _ trivial ?_ ⟨rfl,rfl⟩
  simp [AL.look,cb]
 ·unfold lstL lstA
  rw [hn]
  exact .cons rfl (LLe.refl _) (.cons rfl (LLe.refl _) (.cons rfl (j28 rfl rfl fun i hi => q103 L k i hi) (.nil _)))
set_option maxRecDepth 100000 in
theorem x54 (L : List Cube) (k : Cube) (hl : L.length ≤ 1073741824) : MCalls Try.prog 51 [.loc 1000 0,.p (.agg (cb k))] (lstL L) (fun rs M => rs = [] ∧ M = lstL (addC L k)) := by
 unfold addC
 by_cases h : k ∈ L
 ·rw [if_pos (by simpa using h)];exact add_old L k h
 ·rw [if_neg (by simpa using h)];exact add_new L k h hl
theorem j20 (L : List Cube) (k : Cube) : (addC L k).length ≤ L.length + 1 := by
 unfold addC;split <;> simp
end Go.Proofs.Ytbamjcnhmmgnlaa
