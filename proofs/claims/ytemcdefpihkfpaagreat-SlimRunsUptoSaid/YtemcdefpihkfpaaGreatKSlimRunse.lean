/- Part 5 of a proof: lemmas beneath the theorem that the last text bears. Conditions: none. -/
import Derived.Test.YtemcdefpihkfpaaGreatKSlimRunsd
import Derived.Shelf.Spec.SlicesGrow
set_option maxHeartbeats 64000000
set_option linter.unusedSimpArgs false
set_option linter.unusedVariables false
namespace Go.Proofs.YtemcdefpihkfpaaGreat
open Go.Proofs.YtemcdefpihkfpaaGreat.AL
theorem x171 (out : List Cube) (c : Cube) (i : Nat) (hlt : i < out.length + 1) : catF out.length (rowC out) (fun i => [cb c].getD i []) i = rowC (out ++ [c]) i := by
 unfold catF rowC
 by_cases h : i < out.length
 ·rw [if_pos h,List.getD_eq_getElem?_getD,List.getD_eq_getElem?_getD,List.getElem?_append_left h]
 ·have : i = out.length := by omega
  subst this
  simp
structure LessS where
 k : Nat
 out : List Cube
 r : Cube
def lessI (a b : Cube) (L : List Cube) (s : {s : LessS // s.k ≤ 128 ∧ s.out.length + s.k ≤ 128 ∧ s.out ++ lessGo b (b.c &&& ~~~a.c) s.k s.r = L}) : ASt :=
 ⟨[(10,.p (.d (.v (.int .i64 ((s.val.k : Int) - 1))))),(9,.loc 9 0),(8,.loc 8 0),(7,.gr 7 s.val.out.length 4 s.val.out.length (rowC s.val.out)),(4,.p (.d (.v (.slice none 0 0)))),(3,.p (.d (.bx (cb b)))),(2,.p (.d (.bx (cb a))))],
  [(9,.cells 53 [.p (.d (.v (.int .u64 (hi s.val.r.v)))),.p (.d (.v (.int .u64 (lo s.val.r.v)))),.p (.d (.v (.int .u64 (hi s.val.r.c)))),.p (.d (.v (.int .u64 (lo s.val.r.c))))]),
  (8,.cells 25 [.p (.d (.v (.int .u64 (hi (b.c &&& ~~~a.c))))),.p (.d (.v (.int .u64 (lo (b.c &&& ~~~a.c)))))]),(7,.grow 53 4 s.val.out.length s.val.out.length)]⟩
theorem j171 (a b : Cube) (L : List Cube) (hL : lessL a b = L) : ACalls Tryz.prog 105 [.agg (cb a),.agg (cb b)] (· = [.d (.sl 4 L.length (rowC L))]) := by
 unfold lessL at hL
 cases h : a.sound
 ·simp only [h,Bool.false_and,Bool.false_eq_true,if_false] at hL
  subst hL
  refine q12 Tryz.func105 rfl (by decide +kernel) (by rw [Tryz.ntmps105];simp) ?_;rw [Tryz.ntmps105];simp only [frOf]
  (repeat refine j0 ?_);(first | refine x5 fun K hK => ?_ | refine x8 fun K hK => ?_);(first | refine j11 [] _ _ ?_ | refine x13 [] _ _ _ ?_);simp (disch:=omega) only [go_sem,seval,hd,cb,x9,z10,x12,j12,h];(repeat refine ⟨by omega,?_⟩);(first | (refine j4 (hK _ ?_);clear hK K;show AWP _ _ _ _ _) | (refine q9 (hK _ _ j8 ?_);clear hK K;show AWP _ _ _ _ _))
  (repeat refine j0 ?_);(first | refine x5 fun K hK => ?_ | refine x8 fun K hK => ?_)
  (first | refine j11 [] _ _ ?_ | refine x13 [] _ _ _ ?_);simp (disch:=omega) only [go_sem,seval,hd,cb,x9,z10,x12,j12,h];(repeat refine ⟨by omega,?_⟩)
  (first | refine x10 rfl rfl rfl ?_ | refine q13 rfl rfl rfl ?_);simp (disch:=omega) only [go_sem,seval,hd,cb,x9,z10,x12,j12,h]
  refine ⟨_,q19 a,?_⟩
  (first | refine j11 [] _ _ ?_ | refine x13 [] _ _ _ ?_);simp (disch:=omega) only [go_sem,seval,hd,cb,x9,z10,x12,j12,h];(repeat refine ⟨by omega,?_⟩)
  (first | (refine j4 (hK _ ?_);clear hK K;show AWP _ _ _ _ _) | (refine q9 (hK _ _ j8 ?_);clear hK K;show AWP _ _ _ _ _))
  (repeat refine j0 ?_);refine j15 rfl (fun _ => ?_) (fun ht => absurd ht (by decide))
  (repeat refine j0 ?_);(first | refine x5 fun K hK => ?_ | refine x8 fun K hK => ?_);(first | refine j11 [] _ _ ?_ | refine x13 [] _ _ _ ?_);simp (disch:=omega) only [go_sem,seval,hd,cb,x9,z10,x12,j12,h];(repeat refine ⟨by omega,?_⟩);(first | (refine j4 (hK _ ?_);clear hK K;show AWP _ _ _ _ _) | (refine q9 (hK _ _ j8 ?_);clear hK K;show AWP _ _ _ _ _))
  refine q17 4 _ (.p (.d (.sl 4 0 (rowC [])))) rfl (z27 4 _ _ rfl) ?_
  refine j9 ⟨_,?_,rfl⟩;rw [Tryz.results105];simp (disch:=omega) only [ResVars,ResVar,ptrLoc,go_sem,seval,hd,cb,x9,z10,x12,j12,h]
 ·cases h2 : b.sound
  ·simp only [h,h2,Bool.and_false,Bool.false_eq_true,if_false] at hL
   subst hL
   refine q12 Tryz.func105 rfl (by decide +kernel) (by rw [Tryz.ntmps105];simp) ?_;rw [Tryz.ntmps105];simp only [frOf]
   (repeat refine j0 ?_);(first | refine x5 fun K hK => ?_ | refine x8 fun K hK => ?_);(first | refine j11 [] _ _ ?_ | refine x13 [] _ _ _ ?_);simp (disch:=omega) only [go_sem,seval,hd,cb,x9,z10,x12,j12,h,h2];(repeat refine ⟨by omega,?_⟩);(first | (refine j4 (hK _ ?_);clear hK K;show AWP _ _ _ _ _) | (refine q9 (hK _ _ j8 ?_);clear hK K;show AWP _ _ _ _ _))
   (repeat refine j0 ?_);(first | refine x5 fun K hK => ?_ | refine x8 fun K hK => ?_)
   (first | refine j11 [] _ _ ?_ | refine x13 [] _ _ _ ?_);simp (disch:=omega) only [go_sem,seval,hd,cb,x9,z10,x12,j12,h,h2];(repeat refine ⟨by omega,?_⟩)
   (first | refine x10 rfl rfl rfl ?_ | refine q13 rfl rfl rfl ?_);simp (disch:=omega) only [go_sem,seval,hd,cb,x9,z10,x12,j12,h,h2]
   refine ⟨_,q19 a,?_⟩
   (first | refine j11 [] _ _ ?_ | refine x13 [] _ _ _ ?_);simp (disch:=omega) only [go_sem,seval,hd,cb,x9,z10,x12,j12,h,h2];(repeat refine ⟨by omega,?_⟩)
   (first | refine x10 rfl rfl rfl ?_ | refine q13 rfl rfl rfl ?_);simp (disch:=omega) only [go_sem,seval,hd,cb,x9,z10,x12,j12,h,h2]
   refine ⟨_,q19 b,?_⟩
   (first | refine j11 [] _ _ ?_ | refine x13 [] _ _ _ ?_);simp (disch:=omega) only [go_sem,seval,hd,cb,x9,z10,x12,j12,h,h2];(repeat refine ⟨by omega,?_⟩)
   (first | (refine j4 (hK _ ?_);clear hK K;show AWP _ _ _ _ _) | (refine q9 (hK _ _ j8 ?_);clear hK K;show AWP _ _ _ _ _))
   (repeat refine j0 ?_);refine j15 rfl (fun _ => ?_) (fun ht => absurd ht (by decide))
   (repeat refine j0 ?_);(first | refine x5 fun K hK => ?_ | refine x8 fun K hK => ?_);(first | refine j11 [] _ _ ?_ | refine x13 [] _ _ _ ?_);simp (disch:=omega) only [go_sem,seval,hd,cb,x9,z10,x12,j12,h,h2];(repeat refine ⟨by omega,?_⟩);(first | (refine j4 (hK _ ?_);clear hK K;show AWP _ _ _ _ _) | (refine q9 (hK _ _ j8 ?_);clear hK K;show AWP _ _ _ _ _))
   refine q17 4 _ (.p (.d (.sl 4 0 (rowC [])))) rfl (z27 4 _ _ rfl) ?_
   refine j9 ⟨_,?_,rfl⟩;rw [Tryz.results105];simp (disch:=omega) only [ResVars,ResVar,ptrLoc,go_sem,seval,hd,cb,x9,z10,x12,j12,h,h2]
  ·cases h3 : meetO a b
   all_goals
    simp only [h,h2,h3,Bool.and_self,Bool.false_eq_true,if_false,if_true] at hL
    refine q12 Tryz.func105 rfl (by decide +kernel) (by rw [Tryz.ntmps105];simp) ?_;rw [Tryz.ntmps105];simp only [frOf]
    (repeat refine j0 ?_);(first | refine x5 fun K hK => ?_ | refine x8 fun K hK => ?_);(first | refine j11 [] _ _ ?_ | refine x13 [] _ _ _ ?_);simp (disch:=omega) only [go_sem,seval,hd,cb,x9,z10,x12,j12,h,h2,h3];(repeat refine ⟨by omega,?_⟩);(first | (refine j4 (hK _ ?_);clear hK K;show AWP _ _ _ _ _) | (refine q9 (hK _ _ j8 ?_);clear hK K;show AWP _ _ _ _ _))
    (repeat refine j0 ?_);(first | refine x5 fun K hK => ?_ | refine x8 fun K hK => ?_)
    (first | refine j11 [] _ _ ?_ | refine x13 [] _ _ _ ?_);simp (disch:=omega) only [go_sem,seval,hd,cb,x9,z10,x12,j12,h,h2,h3];(repeat refine ⟨by omega,?_⟩)
    (first | refine x10 rfl rfl rfl ?_ | refine q13 rfl rfl rfl ?_);simp (disch:=omega) only [go_sem,seval,hd,cb,x9,z10,x12,j12,h,h2,h3]
    refine ⟨_,q19 a,?_⟩
    (first | refine j11 [] _ _ ?_ | refine x13 [] _ _ _ ?_);simp (disch:=omega) only [go_sem,seval,hd,cb,x9,z10,x12,j12,h,h2,h3];(repeat refine ⟨by omega,?_⟩)
    (first | refine x10 rfl rfl rfl ?_ | refine q13 rfl rfl rfl ?_);simp (disch:=omega) only [go_sem,seval,hd,cb,x9,z10,x12,j12,h,h2,h3]
    refine ⟨_,q19 b,?_⟩
    (first | refine j11 [] _ _ ?_ | refine x13 [] _ _ _ ?_);simp (disch:=omega) only [go_sem,seval,hd,cb,x9,z10,x12,j12,h,h2,h3];(repeat refine ⟨by omega,?_⟩)
    (first | (refine j4 (hK _ ?_);clear hK K;show AWP _ _ _ _ _) | (refine q9 (hK _ _ j8 ?_);clear hK K;show AWP _ _ _ _ _))
    (repeat refine j0 ?_);refine j15 rfl (fun ht => absurd ht (by decide)) (fun _ => ?_);refine j5 ?_;show AWP _ _ _ _ _
    (repeat refine j0 ?_);(first | refine x5 fun K hK => ?_ | refine x8 fun K hK => ?_)
    (first | refine j11 [] _ _ ?_ | refine x13 [] _ _ _ ?_);simp (disch:=omega) only [go_sem,seval,hd,cb,x9,z10,x12,j12,h,h2,h3];(repeat refine ⟨by omega,?_⟩)
    (first | refine x10 rfl rfl rfl ?_ | refine q13 rfl rfl rfl ?_);simp (disch:=omega) only [go_sem,seval,hd,cb,x9,z10,x12,j12,h,h2,h3]
    refine ⟨_,z101 a b,?_⟩
    (first | refine j11 [] _ _ ?_ | refine x13 [] _ _ _ ?_);simp (disch:=omega) only [go_sem,seval,hd,cb,x9,z10,x12,j12,h,h2,h3];(repeat refine ⟨by omega,?_⟩)
    (first | (refine j4 (hK _ ?_);clear hK K;show AWP _ _ _ _ _) | (refine q9 (hK _ _ j8 ?_);clear hK K;show AWP _ _ _ _ _))
    (repeat refine j0 ?_);(first | refine x5 fun K hK => ?_ | refine x8 fun K hK => ?_);(first | refine j11 [] _ _ ?_ | refine x13 [] _ _ _ ?_);simp (disch:=omega) only [go_sem,seval,hd,cb,x9,z10,x12,j12,h,h2,h3];(repeat refine ⟨by omega,?_⟩);(first | (refine j4 (hK _ ?_);clear hK K;show AWP _ _ _ _ _) | (refine q9 (hK _ _ j8 ?_);clear hK K;show AWP _ _ _ _ _))
   ·(repeat refine j0 ?_);refine j15 rfl (fun _ => ?_) (fun ht => absurd ht (by decide))
    (repeat refine j0 ?_);(first | refine x5 fun K hK => ?_ | refine x8 fun K hK => ?_);(first | refine j11 [] _ _ ?_ | refine x13 [] _ _ _ ?_);simp (disch:=omega) only [go_sem,seval,hd,cb,x9,z10,x12,j12,h,h2,h3];(repeat refine ⟨by omega,?_⟩);(first | (refine j4 (hK _ ?_);clear hK K;show AWP _ _ _ _ _) | (refine q9 (hK _ _ j8 ?_);clear hK K;show AWP _ _ _ _ _))
    subst hL
    refine q17 4 _ _ rfl (le_sl (n' := 1) (f' := rowC [a]) rfl (fun i hlt => ?_)) ?_
    ·have : i = 0 := by omega
     subst this;rfl
    refine j9 ⟨_,?_,rfl⟩;rw [Tryz.results105];simp (disch:=omega) only [ResVars,ResVar,ptrLoc,go_sem,seval,hd,cb,x9,z10,x12,j12,h,h2,h3]
   ·(repeat refine j0 ?_);refine j15 rfl (fun ht => absurd ht (by decide)) (fun _ => ?_);refine j5 ?_;show AWP _ _ _ _ _
    (repeat refine j0 ?_);(first | refine x5 fun K hK => ?_ | refine x8 fun K hK => ?_);(first | refine j11 [] _ _ ?_ | refine x13 [] _ _ _ ?_);simp (disch:=omega) only [go_sem,seval,hd,cb,x9,z10,x12,j12,h,h2,h3];(repeat refine ⟨by omega,?_⟩);(first | (refine j4 (hK _ ?_);clear hK K;show AWP _ _ _ _ _) | (refine q9 (hK _ _ j8 ?_);clear hK K;show AWP _ _ _ _ _))
    (repeat refine j0 ?_);(first | refine x5 fun K hK => ?_ | refine x8 fun K hK => ?_)
    (first | refine j11 [] _ _ ?_ | refine x13 [] _ _ _ ?_);simp (disch:=omega) only [go_sem,seval,hd,cb,x9,z10,x12,j12,h,h2,h3];(repeat refine ⟨by omega,?_⟩)
    (first | refine x10 rfl rfl rfl ?_ | refine q13 rfl rfl rfl ?_);simp (disch:=omega) only [go_sem,seval,hd,cb,x9,z10,x12,j12,h,h2,h3]
    refine ⟨_,x58 b.c a.c,?_⟩
    (first | refine j11 [] _ _ ?_ | refine x13 [] _ _ _ ?_);simp (disch:=omega) only [go_sem,seval,hd,cb,x9,z10,x12,j12,h,h2,h3];(repeat refine ⟨by omega,?_⟩)
    (first | (refine j4 (hK _ ?_);clear hK K;show AWP _ _ _ _ _) | (refine q9 (hK _ _ j8 ?_);clear hK K;show AWP _ _ _ _ _))
    (repeat refine j0 ?_);(first | refine x5 fun K hK => ?_ | refine x8 fun K hK => ?_);(first | refine j11 [] _ _ ?_ | refine x13 [] _ _ _ ?_);simp (disch:=omega) only [go_sem,seval,hd,cb,x9,z10,x12,j12,h,h2,h3];(repeat refine ⟨by omega,?_⟩);(first | (refine j4 (hK _ ?_);clear hK K;show AWP _ _ _ _ _) | (refine q9 (hK _ _ j8 ?_);clear hK K;show AWP _ _ _ _ _))
    (repeat refine j0 ?_);(first | refine x5 fun K hK => ?_ | refine x8 fun K hK => ?_);(first | refine j11 [] _ _ ?_ | refine x13 [] _ _ _ ?_);simp (disch:=omega) only [go_sem,seval,hd,cb,x9,z10,x12,j12,h,h2,h3];(repeat refine ⟨by omega,?_⟩);(first | (refine j4 (hK _ ?_);clear hK K;show AWP _ _ _ _ _) | (refine q9 (hK _ _ j8 ?_);clear hK K;show AWP _ _ _ _ _))
    refine j32 7 7 4 53 (rowC []) rfl (by kernel_rfl) rfl ?_
    refine j6 (j13 (lessI a b L) (fun s => s.val.k) ⟨⟨128,[],a⟩,by simp,by simp,by rw [List.nil_append];exact hL⟩ ?_ (fun s => ?_))
    ·unfold lessI
     refine Weak.list ?_ ?_;(all_goals simp (disch:=omega) only [AllF,AllL,q11,z11,j10,exists_eq_left',go_sem,seval,hd,cb,x9,z10,x12,j12,h,h2,h3]);(all_goals (repeat' (with_reducible apply And.intro)));(all_goals try (first | exact q8 rfl | (refine x11 ?_;omega) | (refine q8 ?_;simp;done)))
    obtain ⟨⟨k,out,r⟩,hk,hl,he⟩ := s
    unfold lessI
    simp only [] at hk hl he
    cases k with
    |zero =>
     (repeat refine j0 ?_);(first | refine x5 fun K hK => ?_ | refine x8 fun K hK => ?_);(first | refine j11 [] _ _ ?_ | refine x13 [] _ _ _ ?_);simp (disch:=omega) only [go_sem,seval,hd,cb,x9,z10,x12,j12,h,h2,h3];(repeat refine ⟨by omega,?_⟩);(first | (refine j4 (hK _ ?_);clear hK K;show AWP _ _ _ _ _) | (refine q9 (hK _ _ j8 ?_);clear hK K;show AWP _ _ _ _ _))
     refine j15 rfl (fun ht => absurd ht (by decide)) (fun _ => ?_)
     refine x6 ?_
     show AWP _ _ _ _ _
     (repeat refine j0 ?_);(first | refine x5 fun K hK => ?_ | refine x8 fun K hK => ?_);(first | refine j11 [] _ _ ?_ | refine x13 [] _ _ _ ?_);simp (disch:=omega) only [go_sem,seval,hd,cb,x9,z10,x12,j12,h,h2,h3];(repeat refine ⟨by omega,?_⟩);(first | (refine j4 (hK _ ?_);clear hK K;show AWP _ _ _ _ _) | (refine q9 (hK _ _ j8 ?_);clear hK K;show AWP _ _ _ _ _))
     refine q17 4 _ (.p (.d (.sl 4 L.length (rowC L)))) rfl ?_ ?_
     ·simp only [lessGo,List.append_nil] at he
      rw [← he]
      exact q22 rfl (fun _ _ => rfl)
     refine j9 ⟨_,?_,rfl⟩;rw [Tryz.results105];simp (disch:=omega) only [ResVars,ResVar,ptrLoc,go_sem,seval,hd,cb,x9,z10,x12,j12,h,h2,h3]
    |succ n =>
     have bit := Bit_c (b.c &&& ~~~a.c) (n : Int)
     rw [if_pos ⟨by omega,by omega⟩,Int.toNat_natCast] at bit
     simp only [cs1]
     cases hb : (b.c &&& ~~~a.c).getLsbD n
     all_goals
      rw [hb] at bit
      (repeat refine j0 ?_);(first | refine x5 fun K hK => ?_ | refine x8 fun K hK => ?_);(first | refine j11 [] _ _ ?_ | refine x13 [] _ _ _ ?_);simp (disch:=omega) only [go_sem,seval,hd,cb,x9,z10,x12,j12,h,h2,h3];(repeat refine ⟨by omega,?_⟩);(first | (refine j4 (hK _ ?_);clear hK K;show AWP _ _ _ _ _) | (refine q9 (hK _ _ j8 ?_);clear hK K;show AWP _ _ _ _ _))
      (repeat refine j0 ?_);refine j15 rfl (fun _ => ?_) (fun ht => absurd ht (by decide))
      refine j5 ?_;show AWP _ _ _ _ _
      refine j0 (j6 ?_)
      (repeat refine j0 ?_);(first | refine x5 fun K hK => ?_ | refine x8 fun K hK => ?_)
      (first | refine j11 [] _ _ ?_ | refine x13 [] _ _ _ ?_);simp (disch:=omega) only [go_sem,seval,hd,cb,x9,z10,x12,j12,h,h2,h3];(repeat refine ⟨by omega,?_⟩)
      (first | refine x10 rfl rfl rfl ?_ | refine q13 rfl rfl rfl ?_);simp (disch:=omega) only [go_sem,seval,hd,cb,x9,z10,x12,j12,h,h2,h3]
      refine ⟨_,bit,?_⟩
      (first | refine j11 [] _ _ ?_ | refine x13 [] _ _ _ ?_);simp (disch:=omega) only [go_sem,seval,hd,cb,x9,z10,x12,j12,h,h2,h3];(repeat refine ⟨by omega,?_⟩)
      (first | (refine j4 (hK _ ?_);clear hK K;show AWP _ _ _ _ _) | (refine q9 (hK _ _ j8 ?_);clear hK K;show AWP _ _ _ _ _))
     ·refine j15 rfl (fun _ => ?_) (fun ht => absurd ht (by decide))
      refine x6 ?_
      show AWP _ _ _ _ _
      (repeat refine j0 ?_);(first | refine x5 fun K hK => ?_ | refine x8 fun K hK => ?_)
      (first | refine j11 [] _ _ ?_ | refine x13 [] _ _ _ ?_);simp (disch:=omega) only [go_sem,seval,hd,cb,x9,z10,x12,j12,h,h2,h3];(repeat refine ⟨by omega,?_⟩)
      (first | (refine j4 (hK _ ?_);clear hK K;show loopQ _ _ _ _ _ _) | (refine q9 (hK _ _ j8 ?_);clear hK K;show loopQ _ _ _ _ _ _))
      refine ⟨⟨⟨n,out,r⟩,by simp only [];omega,by simp only [];omega,?_⟩,by simp only [];omega,?_⟩
      ·simpa [lessGo,hb] using he
      ·refine Weak.list ?_ ?_;(all_goals simp (disch:=omega) only [AllF,AllL,q11,z11,j10,exists_eq_left',go_sem,seval,hd,cb,x9,z10,x12,j12,h,h2,h3]);(all_goals (repeat' (with_reducible apply And.intro)));(all_goals try (first | exact q8 rfl | (refine x11 ?_;omega) | (refine q8 ?_;simp;done)))
     ·(repeat refine j0 ?_);refine j15 rfl (fun ht => absurd ht (by decide)) (fun _ => ?_);refine j5 ?_;show AWP _ _ _ _ _
      have mask := Mask_c (n : Int) 1 (by omega)
      obtain ⟨bt,hbt⟩ : ∃ bt,ones 1 <<< n = bt := ⟨_,rfl⟩
      rw [show fieldB (n : Int) 1 128 = true from by simp [fieldB];omega,if_pos rfl,if_pos rfl,Int.toNat_natCast,show Int.toNat 1 = 1 from rfl,hbt] at mask
      (repeat refine j0 ?_);(first | refine x5 fun K hK => ?_ | refine x8 fun K hK => ?_)
      (first | refine j11 [] _ _ ?_ | refine x13 [] _ _ _ ?_);simp (disch:=omega) only [go_sem,seval,hd,cb,x9,z10,x12,j12,h,h2,h3];(repeat refine ⟨by omega,?_⟩)
      (first | refine x10 rfl rfl rfl ?_ | refine q13 rfl rfl rfl ?_);simp (disch:=omega) only [go_sem,seval,hd,cb,x9,z10,x12,j12,h,h2,h3]
      refine ⟨_,mask,?_⟩
      (first | refine j11 [] _ _ ?_ | refine x13 [] _ _ _ ?_);simp (disch:=omega) only [go_sem,seval,hd,cb,x9,z10,x12,j12,h,h2,h3];(repeat refine ⟨by omega,?_⟩)
      (first | (refine j4 (hK _ ?_);clear hK K;show AWP _ _ _ _ _) | (refine q9 (hK _ _ j8 ?_);clear hK K;show AWP _ _ _ _ _))
      (repeat refine j0 ?_);(first | refine x5 fun K hK => ?_ | refine x8 fun K hK => ?_)
      (first | refine j11 [] _ _ ?_ | refine x13 [] _ _ _ ?_);simp (disch:=omega) only [go_sem,seval,hd,cb,x9,z10,x12,j12,h,h2,h3];(repeat refine ⟨by omega,?_⟩)
      (first | refine x10 rfl rfl rfl ?_ | refine q13 rfl rfl rfl ?_);simp (disch:=omega) only [go_sem,seval,hd,cb,x9,z10,x12,j12,h,h2,h3]
      refine ⟨_,And_c b.v _,?_⟩
      (first | refine j11 [] _ _ ?_ | refine x13 [] _ _ _ ?_);simp (disch:=omega) only [go_sem,seval,hd,cb,x9,z10,x12,j12,h,h2,h3];(repeat refine ⟨by omega,?_⟩)
      (first | refine x10 rfl rfl rfl ?_ | refine q13 rfl rfl rfl ?_);simp (disch:=omega) only [go_sem,seval,hd,cb,x9,z10,x12,j12,h,h2,h3]
      refine ⟨_,Or_c r.v _,?_⟩
      (first | refine j11 [] _ _ ?_ | refine x13 [] _ _ _ ?_);simp (disch:=omega) only [go_sem,seval,hd,cb,x9,z10,x12,j12,h,h2,h3];(repeat refine ⟨by omega,?_⟩)
      (first | refine x10 rfl rfl rfl ?_ | refine q13 rfl rfl rfl ?_);simp (disch:=omega) only [go_sem,seval,hd,cb,x9,z10,x12,j12,h,h2,h3]
      refine ⟨_,Or_c r.c _,?_⟩
      (first | refine j11 [] _ _ ?_ | refine x13 [] _ _ _ ?_);simp (disch:=omega) only [go_sem,seval,hd,cb,x9,z10,x12,j12,h,h2,h3];(repeat refine ⟨by omega,?_⟩)
      (first | (refine j4 (hK _ ?_);clear hK K;show AWP _ _ _ _ _) | (refine q9 (hK _ _ j8 ?_);clear hK K;show AWP _ _ _ _ _))
      (repeat refine j0 ?_);(first | refine x5 fun K hK => ?_ | refine x8 fun K hK => ?_)
      (first | refine j11 [] _ _ ?_ | refine x13 [] _ _ _ ?_);simp (disch:=omega) only [go_sem,seval,hd,cb,x9,z10,x12,j12,h,h2,h3];(repeat refine ⟨by omega,?_⟩)
      (first | refine x10 rfl rfl rfl ?_ | refine q13 rfl rfl rfl ?_);simp (disch:=omega) only [go_sem,seval,hd,cb,x9,z10,x12,j12,h,h2,h3]
      refine ⟨_,Xor_c _ _,?_⟩
      (first | refine j11 [] _ _ ?_ | refine x13 [] _ _ _ ?_);simp (disch:=omega) only [go_sem,seval,hd,cb,x9,z10,x12,j12,h,h2,h3];(repeat refine ⟨by omega,?_⟩)
      (first | (refine j4 (hK _ ?_);clear hK K;show AWP _ _ _ _ _) | (refine q9 (hK _ _ j8 ?_);clear hK K;show AWP _ _ _ _ _))
      (repeat refine j0 ?_);(first | refine x5 fun K hK => ?_ | refine x8 fun K hK => ?_);(first | refine j11 [] _ _ ?_ | refine x13 [] _ _ _ ?_);simp (disch:=omega) only [go_sem,seval,hd,cb,x9,z10,x12,j12,h,h2,h3];(repeat refine ⟨by omega,?_⟩);(first | (refine j4 (hK _ ?_);clear hK K;show AWP _ _ _ _ _) | (refine q9 (hK _ _ j8 ?_);clear hK K;show AWP _ _ _ _ _))
      (repeat refine j0 ?_);(first | refine x5 fun K hK => ?_ | refine x8 fun K hK => ?_)
      (first | refine j11 [] _ _ ?_ | refine x13 [] _ _ _ ?_);simp (disch:=omega) only [go_sem,seval,hd,cb,x9,z10,x12,j12,h,h2,h3];(repeat refine ⟨by omega,?_⟩)
      (first | (refine j4 (hK _ ?_);clear hK K;show loopQ _ _ _ _ _ _) | (refine q9 (hK _ _ j8 ?_);clear hK K;show loopQ _ _ _ _ _ _))
      refine ⟨⟨⟨n,out ++ [⟨(r.v ||| b.v &&& bt) ^^^ bt,r.c ||| bt⟩],⟨r.v ||| b.v &&& bt,r.c ||| bt⟩⟩,by simp only [];omega,by simp;omega,?_⟩,by simp only [];omega,?_⟩
      ·simpa [lessGo,hb,hbt] using he
      ·refine Weak.list ?_ ?_;(all_goals simp (disch:=omega) only [AllF,AllL,q11,z11,j10,exists_eq_left',go_sem,seval,hd,cb,x9,z10,x12,j12,h,h2,h3]);(all_goals (repeat' (with_reducible apply And.intro)));(all_goals try (first | exact q8 rfl | (refine x11 ?_;omega) | (refine q8 ?_;simp;done)))
       ·exact z26 (by simp) (by simp) (fun i hlt => x171 out ⟨(r.v ||| b.v &&& bt) ^^^ bt,r.c ||| bt⟩ i hlt)
       ·exact ⟨rfl,rfl,by simp,by simp⟩
theorem q172 (a b : Cube) : ACalls Tryz.prog 105 [.agg (cb a),.agg (cb b)] (· = [.d (.sl 4 (lessL a b).length (rowC (lessL a b)))]) := j171 a b _ rfl
theorem x30 (L : List Cube) (i : Nat) : rowC L i = cb (L.getD i ⟨0,0⟩) := rfl
def idxF {α : Type} (p : α → Bool) : List α → Nat → Int
 | [],_ => -1
 | x :: r,k => if p x then (k : Int) else idxF p r (k + 1)
theorem z76 {α : Type} (p : α → Bool) : ∀ (l : List α) (k : Nat),decide (idxF p l k ≥ 0) = l.any p
 | [],k => rfl
 |x :: r,k => by
  unfold idxF
  cases h : p x
  ·simp only [Bool.false_eq_true,if_false,List.any_cons,h,Bool.false_or];exact z76 p r (k + 1)
  ·simp only [if_true,List.any_cons,h,Bool.true_or];exact decide_eq_true (by omega)
def indexI (l : List Cube) (g : FuncId) (caps : List PV) (p : Cube → Bool) (R : Int) (s : {i : Nat // i ≤ l.length ∧ idxF p (l.drop i) i = R}) : ASt :=
 ⟨[(8,.p (.d (.v (.int .i64 (s.val : Int))))),(7,.p (.d (.v (.int .i64 (l.length : Int))))),(1,.p (.fn (.func g) [] caps)),(0,.p (.d (.sl 4 l.length (rowC l))))],[]⟩
theorem z172 (g : FuncId) (caps : List PV) (p : Cube → Bool) (l : List Cube) (hl : l.length ≤ 140737488355328) (hp : ∀ k ∈ l,ACalls Tryz.prog g (.agg (cb k) :: caps) (· = [.d (.v (.bool (p k)))])) :
  ACalls Tryz.prog 84 [.d (.sl 4 l.length (rowC l)),.fn (.func g) [] caps] (· = [.d (.v (.int .i64 (idxF p l 0)))]) := by
 obtain ⟨R,hR⟩ : ∃ R,idxF p l 0 = R := ⟨_,rfl⟩
 rw [hR]
 refine q12 Tryz.func84 rfl (by decide +kernel) (by rw [Tryz.ntmps84];simp) ?_;rw [Tryz.ntmps84];simp only [frOf]
 (repeat (first | apply j0 | refine z7 rfl ?_ | refine x7 rfl ?_ | apply j6 | (refine x5 fun K hK => ?_) | ((first | apply j5 | apply x6 | (refine j4 (hK _ ?_);clear hK K));(first | show AWP _ _ _ _ _ | ((try simp only [z8]);first | show loopQ _ _ _ _ _ _ | show AWP _ _ _ _ _))) | (refine j7 [] rfl ?_;simp (disch:=omega) only [go_sem,seval,hd,cb,x9,z10];(repeat refine ⟨by omega,?_⟩))))
 refine j13 (indexI l g caps p R) (fun s => l.length - s.val) ⟨0,by omega,by rw [List.drop_zero];exact hR⟩ ?_ (fun s => ?_)
 ·unfold indexI
  refine Weak.list ?_ ?_;(all_goals simp (disch:=omega) only [AllF,AllL,q11,z11,j10,exists_eq_left',go_sem,seval,hd,cb,x9,z10]);(all_goals (repeat' (with_reducible apply And.intro)));(all_goals try (first | exact q8 rfl | (refine x11 ?_;omega) | (refine q8 ?_;simp;done)))
 obtain ⟨i,hi,he⟩ := s
 unfold indexI
 by_cases hn : i < l.length
 ·rw [x33 l i ⟨0,0⟩ hn] at he
  have r1 := x30 l i
  have hk := hp _ (q23 hn ⟨0,0⟩)
  generalize l.getD i ⟨0,0⟩ = K at he r1 hk
  unfold idxF at he
  cases hb : p K
  all_goals
   rw [hb] at he hk
   simp only [Bool.false_eq_true,if_false,if_true] at he
   (repeat (first | apply j0 | refine z7 rfl ?_ | refine x7 rfl ?_ | apply j6 | (refine x5 fun K hK => ?_) | ((first | apply j5 | apply x6 | (refine j4 (hK _ ?_);clear hK K));(first | show AWP _ _ _ _ _ | ((try simp only [z8]);first | show loopQ _ _ _ _ _ _ | show AWP _ _ _ _ _))) | (refine x10 rfl rfl rfl ?_;simp (disch:=omega) only [go_sem,seval,hd,cb,x9,z10,r1];(first | refine ⟨_,hk,?_⟩)) | (refine j7 [] rfl ?_;simp (disch:=omega) only [go_sem,seval,hd,cb,x9,z10,r1];(repeat refine ⟨by omega,?_⟩))))
  ·refine ⟨⟨i + 1,by omega,he⟩,by simp only [];omega,?_⟩
   refine Weak.list ?_ ?_;(all_goals simp (disch:=omega) only [AllF,AllL,q11,z11,j10,exists_eq_left',go_sem,seval,hd,cb,x9,z10,r1]);(all_goals (repeat' (with_reducible apply And.intro)));(all_goals try (first | exact q8 rfl | (refine x11 ?_;omega) | (refine q8 ?_;simp;done)))
  ·refine j9 ⟨_,?_,rfl⟩;rw [Tryz.results84];simp (disch:=omega) only [ResVars,ResVar,ptrLoc,go_sem,seval,hd,cb,x9,z10,r1]
   rw [he]
 ·have : i = l.length := by omega
  subst this
  rw [List.drop_length] at he
  unfold idxF at he
  (repeat (first | apply j0 | refine z7 rfl ?_ | refine x7 rfl ?_ | apply j6 | (refine x5 fun K hK => ?_) | ((first | apply j5 | apply x6 | (refine j4 (hK _ ?_);clear hK K));(first | show AWP _ _ _ _ _ | ((try simp only [z8]);first | show loopQ _ _ _ _ _ _ | show AWP _ _ _ _ _))) | (refine j7 [] rfl ?_;simp (disch:=omega) only [go_sem,seval,hd,cb,x9,z10];(repeat refine ⟨by omega,?_⟩))))
  refine j9 ⟨_,?_,rfl⟩;rw [Tryz.results84];simp (disch:=omega) only [ResVars,ResVar,ptrLoc,go_sem,seval,hd,cb,x9,z10]
  rw [he]
theorem x172 (g : FuncId) (caps : List PV) (p : Cube → Bool) (l : List Cube) (hl : l.length ≤ 140737488355328) (hp : ∀ k ∈ l,ACalls Tryz.prog g (.agg (cb k) :: caps) (· = [.d (.v (.bool (p k)))])) :
  ACalls Tryz.prog 40 [.d (.sl 4 l.length (rowC l)),.fn (.func g) [] caps] (· = [.d (.v (.bool (l.any p)))]) := by
 have ix := z172 g caps p l hl hp
 have ia := z76 p l 0
 generalize idxF p l 0 = R at ix ia
 refine q12 Tryz.func40 rfl (by decide +kernel) (by rw [Tryz.ntmps40];simp) ?_;rw [Tryz.ntmps40];simp only [frOf]
 (repeat (first | apply j0 | refine z7 rfl ?_ | refine x7 rfl ?_ | apply j6 | (refine x5 fun K hK => ?_) | ((first | apply j5 | apply x6 | (refine j4 (hK _ ?_);clear hK K));show AWP _ _ _ _ _) | (refine x10 rfl rfl rfl ?_;simp (disch:=omega) only [go_sem,seval,hd,cb,x9,z10];(first | refine ⟨_,ix,?_⟩)) | (refine j7 [] rfl ?_;simp (disch:=omega) only [go_sem,seval,hd,cb,x9,z10];(repeat refine ⟨by omega,?_⟩))))
 refine j9 ⟨_,?_,rfl⟩;rw [Tryz.results40];simp (disch:=omega) only [ResVars,ResVar,ptrLoc,go_sem,seval,hd,cb,x9,z10]
 rw [ia]
theorem j172 (k : Cube) : ACalls Tryz.prog 134 [.agg (cb k)] (· = [.d (.v (.bool (!k.sound)))]) := by
 refine q12 Tryz.func134 rfl (by decide +kernel) (by rw [Tryz.ntmps134];simp) ?_;rw [Tryz.ntmps134];simp only [frOf]
 (repeat (first | apply j0 | refine z7 rfl ?_ | refine x7 rfl ?_ | apply j6 | (refine x5 fun K hK => ?_) | ((first | apply j5 | apply x6 | (refine j4 (hK _ ?_);clear hK K));show AWP _ _ _ _ _) | (refine x10 rfl rfl rfl ?_;simp (disch:=omega) only [go_sem,seval,hd,cb,x9,z10];(first | refine ⟨_,q19 k,?_⟩)) | (refine j7 [] rfl ?_;simp (disch:=omega) only [go_sem,seval,hd,cb,x9,z10];(repeat refine ⟨by omega,?_⟩))))
 refine j9 ⟨_,?_,rfl⟩;rw [Tryz.results134];simp (disch:=omega) only [ResVars,ResVar,ptrLoc,go_sem,seval,hd,cb,x9,z10]
def soundP (l : List Cube) : Bool := decide (l.length ≤ 200) && l.all Cube.sound
theorem any_not {α : Type} (p : α → Bool) (l : List α) : (l.any fun x => !p x) = !l.all p := by
 induction l with
 | nil => rfl
 | cons x l ih => simp only [List.any_cons,List.all_cons,ih,Bool.not_and]
theorem j106 (l : List Cube) (hl : l.length ≤ 140737488355328) : ACalls Tryz.prog 93 [.d (.sl 4 l.length (rowC l))] (· = [.d (.v (.bool (soundP l)))]) := by
 have cf := x172 134 [] (fun k => !k.sound) l hl (fun k _ => j172 k)
 rw [any_not] at cf
 unfold soundP
 by_cases h : l.length ≤ 200
 ·rw [decide_eq_true h,Bool.true_and]
  refine q12 Tryz.func93 rfl (by decide +kernel) (by rw [Tryz.ntmps93];simp) ?_;rw [Tryz.ntmps93];simp only [frOf]
  (repeat (first | apply j0 | refine z7 rfl ?_ | refine x7 rfl ?_ | apply j6 | (refine x5 fun K hK => ?_) | ((first | apply j5 | apply x6 | (refine j4 (hK _ ?_);clear hK K));show AWP _ _ _ _ _) | (refine x10 rfl rfl rfl ?_;simp (disch:=omega) only [go_sem,seval,hd,cb,x9,z10];(first | refine ⟨_,cf,?_⟩)) | (refine j7 [] rfl ?_;simp (disch:=omega) only [go_sem,seval,hd,cb,x9,z10];(repeat refine ⟨by omega,?_⟩))))
  refine j9 ⟨_,?_,rfl⟩;rw [Tryz.results93];simp (disch:=omega) only [ResVars,ResVar,ptrLoc,go_sem,seval,hd,cb,x9,z10]
  rw [Bool.not_not]
 ·rw [decide_eq_false h,Bool.false_and]
  refine q12 Tryz.func93 rfl (by decide +kernel) (by rw [Tryz.ntmps93];simp) ?_;rw [Tryz.ntmps93];simp only [frOf]
  (repeat (first | apply j0 | refine z7 rfl ?_ | refine x7 rfl ?_ | apply j6 | (refine x5 fun K hK => ?_) | ((first | apply j5 | apply x6 | (refine j4 (hK _ ?_);clear hK K));show AWP _ _ _ _ _) | (refine x10 rfl rfl rfl ?_;simp (disch:=omega) only [go_sem,seval,hd,cb,x9,z10];(first | refine ⟨_,cf,?_⟩)) | (refine j7 [] rfl ?_;simp (disch:=omega) only [go_sem,seval,hd,cb,x9,z10];(repeat refine ⟨by omega,?_⟩))))
  refine j9 ⟨_,?_,rfl⟩;rw [Tryz.results93];simp (disch:=omega) only [ResVars,ResVar,ptrLoc,go_sem,seval,hd,cb,x9,z10]
def hasP (l : List Cube) (h : BitVec 128) : Bool := l.any (hasC · h)
theorem q107 (n : Nat) (f : Nat → List Dat) (hn : n ≤ 140737488355328) : ACalls Tryz.prog 62 [.d (.sl 4 n f)] (· = [.d (.sl 4 n f)]) := by
 refine q12 Tryz.func62 rfl (by decide +kernel) (by rw [Tryz.ntmps62];simp) ?_;rw [Tryz.ntmps62];simp only [frOf]
 (repeat (first | apply j0 | refine z7 rfl ?_ | refine x7 rfl ?_ | apply j6 | (refine x5 fun K hK => ?_) | ((first | apply j5 | apply x6 | (refine j4 (hK _ ?_);clear hK K));show AWP _ _ _ _ _) | (refine j7 [] rfl ?_;simp (disch:=omega) only [go_sem,seval,hd,cb,x9,z10];(repeat refine ⟨by omega,?_⟩))))
 refine j9 ⟨_,?_,rfl⟩;rw [Tryz.results62];simp (disch:=omega) only [ResVars,ResVar,ptrLoc,go_sem,seval,hd,cb,x9,z10]
 rfl
def spareBy (l : List Cube) (n i : Nat) : Bool := i != n && (withinC (l.getD n ⟨0,0⟩) (l.getD i ⟨0,0⟩) && (l.getD n ⟨0,0⟩ != l.getD i ⟨0,0⟩ || decide (i < n)))
def spareP (l : List Cube) (n : Nat) : Bool := (List.range l.length).any (spareBy l n) || !(l.getD n ⟨0,0⟩).sound
theorem z107 (a b : Cube) : eqI [hi a.v,lo a.v,hi a.c,lo a.c] [hi b.v,lo b.v,hi b.c,lo b.c] = (a == b) := by
 have h1 := x12 a.v b.v
 have h2 := x12 a.c b.c
 simp only [eqI,Bool.and_true] at h1 h2 ⊢
 rw [← Bool.and_assoc,h1,h2]
 cases a;cases b
 rw [Bool.eq_iff_iff]
 simp
def spareI (l : List Cube) (n : Nat) (s : {i : Nat // i ≤ l.length ∧ ∀ j,j < i → spareBy l n j = false}) : ASt :=
 ⟨[(9,.p (.d (.v (.int .i64 (s.val : Int))))),(8,.p (.d (.v (.int .i64 (l.length : Int))))),(7,.p (.d (.sl 4 l.length (rowC l)))),(1,.p (.d (.v (.int .i64 (n : Int))))),(0,.p (.d (.sl 4 l.length (rowC l))))],[]⟩
set_option maxRecDepth 100000 in
theorem spare_c (l : List Cube) (n : Nat) (hl : l.length ≤ 140737488355328) (hn : n < l.length) : ACalls Tryz.prog 162 [.d (.sl 4 l.length (rowC l)),.d (.v (.int .i64 (n : Int)))] (· = [.d (.v (.bool (spareP l n)))]) := by
 have rn := x30 l n
 obtain ⟨N,hN⟩ : ∃ N,l.getD n ⟨0,0⟩ = N := ⟨_,rfl⟩
 rw [hN] at rn
 refine q12 Tryz.func162 rfl (by decide +kernel) (by rw [Tryz.ntmps162];simp) ?_;rw [Tryz.ntmps162];simp only [frOf]
 (repeat (first | apply j0 | refine z7 rfl ?_ | refine x7 rfl ?_ | apply j6 | (refine x5 fun K hK => ?_) | (refine x8 fun K hK => ?_) | ((first | apply j5 | apply x6 | ((first | refine j4 (hK _ ?_) | refine q9 (hK _ _ j8 ?_));clear hK K));(first | show AWP _ _ _ _ _ | ((try simp only [z8]);first | show loopQ _ _ _ _ _ _ | show cutQ _ _ _ _ | show AWP _ _ _ _ _))) | ((first | refine j7 [] rfl ?_ | refine q10 [] rfl ?_);simp (disch:=omega) only [go_sem,seval,hd,cb,x9,z10];(repeat (first | refine ⟨by omega,?_⟩ | refine ⟨True.intro,?_⟩)))))
 refine j13 (spareI l n) (fun s => l.length - s.val) ⟨0,by omega,fun j hj => by omega⟩ ?_ (fun s => ?_)
 ·unfold spareI
  refine Weak.list ?_ ?_;(all_goals simp (disch:=omega) only [AllF,AllL,q11,z11,j10,exists_eq_left',go_sem,seval,hd,cb,x9,z10]);(all_goals (repeat' (with_reducible apply And.intro)));(all_goals try (first | exact q8 rfl | (refine x11 ?_;omega) | (refine q8 ?_;simp;done)))
 obtain ⟨i,hi,he⟩ := s
 unfold spareI
 by_cases hlt : i < l.length
 ·have ri := x30 l i
  have sp : spareBy l n i = (i != n && (withinC N (l.getD i ⟨0,0⟩) && (N != l.getD i ⟨0,0⟩ || decide (i < n)))) := by unfold spareBy;rw [hN]
  have step : spareBy l n i = false → ∀ j,j < i + 1 → spareBy l n j = false := fun h j hj => by
   by_cases e : j = i
   ·subst e;exact h
   ·exact he j (by omega)
  have stop : spareBy l n i = true → spareP l n = true := fun h => by
   unfold spareP
   rw [List.any_eq_true.2 ⟨i,List.mem_range.2 hlt,h⟩];rfl
  generalize l.getD i ⟨0,0⟩ = K at ri sp
  have wc := x159 N K
  by_cases hin : i = n
  ·have h0 : spareBy l n i = false := by rw [sp,hin];simp
   have q : ((i : Int) != (n : Int)) = false := by simp [hin]
   (repeat (first | apply j0 | refine z7 rfl ?_ | refine x7 rfl ?_ | apply j6 | (refine x5 fun K hK => ?_) | (refine x8 fun K hK => ?_) | ((first | apply j5 | apply x6 | ((first | refine j4 (hK _ ?_) | refine q9 (hK _ _ j8 ?_));clear hK K));(first | show AWP _ _ _ _ _ | ((try simp only [z8]);first | show loopQ _ _ _ _ _ _ | show cutQ _ _ _ _ | show AWP _ _ _ _ _))) | ((first | refine x10 rfl rfl rfl ?_ | refine q13 rfl rfl rfl ?_);simp (disch:=omega) only [go_sem,seval,hd,cb,x9,z10,rn,ri,q];(first | refine ⟨_,wc,?_⟩)) | ((first | refine j7 [] rfl ?_ | refine q10 [] rfl ?_);simp (disch:=omega) only [go_sem,seval,hd,cb,x9,z10,rn,ri,q];(repeat (first | refine ⟨by omega,?_⟩ | refine ⟨True.intro,?_⟩)))))
   refine ⟨⟨i + 1,by omega,step h0⟩,by simp only [];omega,?_⟩
   refine Weak.list ?_ ?_;(all_goals simp (disch:=omega) only [AllF,AllL,q11,z11,j10,exists_eq_left',go_sem,seval,hd,cb,x9,z10,rn,ri,q]);(all_goals (repeat' (with_reducible apply And.intro)));(all_goals try (first | exact q8 rfl | (refine x11 ?_;omega) | (refine q8 ?_;simp;done)))
  ·have q : ((i : Int) != (n : Int)) = true := by simp;omega
   have q2 : (i != n) = true := by simpa using hin
   rw [q2,Bool.true_and] at sp
   cases hw : withinC N K
   ·rw [hw] at wc sp
    (repeat (first | apply j0 | refine z7 rfl ?_ | refine x7 rfl ?_ | apply j6 | (refine x5 fun K hK => ?_) | (refine x8 fun K hK => ?_) | ((first | apply j5 | apply x6 | ((first | refine j4 (hK _ ?_) | refine q9 (hK _ _ j8 ?_));clear hK K));(first | show AWP _ _ _ _ _ | ((try simp only [z8]);first | show loopQ _ _ _ _ _ _ | show cutQ _ _ _ _ | show AWP _ _ _ _ _))) | ((first | refine x10 rfl rfl rfl ?_ | refine q13 rfl rfl rfl ?_);simp (disch:=omega) only [go_sem,seval,hd,cb,x9,z10,rn,ri,q];(first | refine ⟨_,wc,?_⟩)) | ((first | refine j7 [] rfl ?_ | refine q10 [] rfl ?_);simp (disch:=omega) only [go_sem,seval,hd,cb,x9,z10,rn,ri,q];(repeat (first | refine ⟨by omega,?_⟩ | refine ⟨True.intro,?_⟩)))))
    refine ⟨⟨i + 1,by omega,step sp⟩,by simp only [];omega,?_⟩
    refine Weak.list ?_ ?_;(all_goals simp (disch:=omega) only [AllF,AllL,q11,z11,j10,exists_eq_left',go_sem,seval,hd,cb,x9,z10,rn,ri,q]);(all_goals (repeat' (with_reducible apply And.intro)));(all_goals try (first | exact q8 rfl | (refine x11 ?_;omega) | (refine q8 ?_;simp;done)))
   ·rw [hw,Bool.true_and] at sp
    rw [hw] at wc
    have eq := z107 N K
    have nb : (N != K) = !(N == K) := rfl
    rw [nb] at sp
    cases hq : (N == K)
    ·rw [hq] at eq sp
     (repeat (first | apply j0 | refine z7 rfl ?_ | refine x7 rfl ?_ | apply j6 | (refine x5 fun K hK => ?_) | (refine x8 fun K hK => ?_) | ((first | apply j5 | apply x6 | ((first | refine j4 (hK _ ?_) | refine q9 (hK _ _ j8 ?_));clear hK K));(first | show AWP _ _ _ _ _ | ((try simp only [z8]);first | show loopQ _ _ _ _ _ _ | show cutQ _ _ _ _ | show AWP _ _ _ _ _))) | ((first | refine x10 rfl rfl rfl ?_ | refine q13 rfl rfl rfl ?_);simp (disch:=omega) only [go_sem,seval,hd,cb,x9,z10,rn,ri,q,eq];(first | refine ⟨_,wc,?_⟩)) | ((first | refine j7 [] rfl ?_ | refine q10 [] rfl ?_);simp (disch:=omega) only [go_sem,seval,hd,cb,x9,z10,rn,ri,q,eq];(repeat (first | refine ⟨by omega,?_⟩ | refine ⟨True.intro,?_⟩)))))
     rw [stop sp]
     refine j9 ⟨_,?_,rfl⟩;rw [Tryz.results162];simp (disch:=omega) only [ResVars,ResVar,ptrLoc,go_sem,seval,hd,cb,x9,z10,rn,ri,q,eq]
    ·rw [hq] at eq sp
     by_cases hl2 : i < n
     ·rw [decide_eq_true hl2] at sp
      (repeat (first | apply j0 | refine z7 rfl ?_ | refine x7 rfl ?_ | apply j6 | (refine x5 fun K hK => ?_) | (refine x8 fun K hK => ?_) | ((first | apply j5 | apply x6 | ((first | refine j4 (hK _ ?_) | refine q9 (hK _ _ j8 ?_));clear hK K));(first | show AWP _ _ _ _ _ | ((try simp only [z8]);first | show loopQ _ _ _ _ _ _ | show cutQ _ _ _ _ | show AWP _ _ _ _ _))) | ((first | refine x10 rfl rfl rfl ?_ | refine q13 rfl rfl rfl ?_);simp (disch:=omega) only [go_sem,seval,hd,cb,x9,z10,rn,ri,q,eq];(first | refine ⟨_,wc,?_⟩)) | ((first | refine j7 [] rfl ?_ | refine q10 [] rfl ?_);simp (disch:=omega) only [go_sem,seval,hd,cb,x9,z10,rn,ri,q,eq];(repeat (first | refine ⟨by omega,?_⟩ | refine ⟨True.intro,?_⟩)))))
      rw [stop sp]
      refine j9 ⟨_,?_,rfl⟩;rw [Tryz.results162];simp (disch:=omega) only [ResVars,ResVar,ptrLoc,go_sem,seval,hd,cb,x9,z10,rn,ri,q,eq]
     ·rw [decide_eq_false hl2] at sp
      (repeat (first | apply j0 | refine z7 rfl ?_ | refine x7 rfl ?_ | apply j6 | (refine x5 fun K hK => ?_) | (refine x8 fun K hK => ?_) | ((first | apply j5 | apply x6 | ((first | refine j4 (hK _ ?_) | refine q9 (hK _ _ j8 ?_));clear hK K));(first | show AWP _ _ _ _ _ | ((try simp only [z8]);first | show loopQ _ _ _ _ _ _ | show cutQ _ _ _ _ | show AWP _ _ _ _ _))) | ((first | refine x10 rfl rfl rfl ?_ | refine q13 rfl rfl rfl ?_);simp (disch:=omega) only [go_sem,seval,hd,cb,x9,z10,rn,ri,q,eq];(first | refine ⟨_,wc,?_⟩)) | ((first | refine j7 [] rfl ?_ | refine q10 [] rfl ?_);simp (disch:=omega) only [go_sem,seval,hd,cb,x9,z10,rn,ri,q,eq];(repeat (first | refine ⟨by omega,?_⟩ | refine ⟨True.intro,?_⟩)))))
      refine ⟨⟨i + 1,by omega,step sp⟩,by simp only [];omega,?_⟩
      refine Weak.list ?_ ?_;(all_goals simp (disch:=omega) only [AllF,AllL,q11,z11,j10,exists_eq_left',go_sem,seval,hd,cb,x9,z10,rn,ri,q,eq]);(all_goals (repeat' (with_reducible apply And.intro)));(all_goals try (first | exact q8 rfl | (refine x11 ?_;omega) | (refine q8 ?_;simp;done)))
 ·have : i = l.length := by omega
  subst this
  have h0 : (List.range l.length).any (spareBy l n) = false := by
   rw [List.any_eq_false]
   intro j hj
   rw [he j (List.mem_range.1 hj)];simp
  have sd := q19 N
  (repeat (first | apply j0 | refine z7 rfl ?_ | refine x7 rfl ?_ | apply j6 | (refine x5 fun K hK => ?_) | (refine x8 fun K hK => ?_) | ((first | apply j5 | apply x6 | ((first | refine j4 (hK _ ?_) | refine q9 (hK _ _ j8 ?_));clear hK K));(first | show AWP _ _ _ _ _ | ((try simp only [z8]);first | show loopQ _ _ _ _ _ _ | show cutQ _ _ _ _ | show AWP _ _ _ _ _))) | ((first | refine x10 rfl rfl rfl ?_ | refine q13 rfl rfl rfl ?_);simp (disch:=omega) only [go_sem,seval,hd,cb,x9,z10,rn];(first | refine ⟨_,sd,?_⟩)) | ((first | refine j7 [] rfl ?_ | refine q10 [] rfl ?_);simp (disch:=omega) only [go_sem,seval,hd,cb,x9,z10,rn];(repeat (first | refine ⟨by omega,?_⟩ | refine ⟨True.intro,?_⟩)))))
  refine j9 ⟨_,?_,rfl⟩;rw [Tryz.results162];simp (disch:=omega) only [ResVars,ResVar,ptrLoc,go_sem,seval,hd,cb,x9,z10,rn]
  unfold spareP
  rw [h0,Bool.false_or,hN]
theorem Clone_c (l : List Cube) (hl : l.length ≤ 1099511627776) : ACalls Tryz.prog 63 [.d (.sl 4 l.length (rowC l))] (· = [.d (.sl 4 l.length (rowC l))]) := by
 by_cases h : l.length = 0
 ·rw [h]
  refine x42 fun a c => ?_
  cases a with
  |none =>
   refine q12 Tryz.func63 rfl (by decide +kernel) (by rw [Tryz.ntmps63];simp) ?_;rw [Tryz.ntmps63];simp only [frOf]
   (repeat (first | apply j0 | refine z7 rfl ?_ | refine x7 rfl ?_ | apply j6 | (refine x5 fun K hK => ?_) | ((first | apply j5 | apply x6 | (refine j4 (hK _ ?_);clear hK K));show AWP _ _ _ _ _) | (refine j7 [5] rfl ?_;simp (disch:=omega) only [go_sem,seval,hd,cb,x9,z10];(repeat refine ⟨by omega,?_⟩))))
   refine q17 2 _ (.p (.d (.sl 4 0 (rowC l)))) rfl z23 ?_
   refine j9 ⟨_,?_,rfl⟩;rw [Tryz.results63];simp (disch:=omega) only [ResVars,ResVar,ptrLoc,go_sem,seval,hd,cb,x9,z10]
  |some a =>
   refine q12 Tryz.func63 rfl (by decide +kernel) (by rw [Tryz.ntmps63];simp) ?_;rw [Tryz.ntmps63];simp only [frOf]
   (repeat ((fail_if_success (show AWP _ _ (.region 3 _ _) _ _));first | apply j0 | refine z7 rfl ?_ | refine x7 rfl ?_ | apply j6 | (refine x5 fun K hK => ?_) | ((first | apply j5 | apply x6 | (refine j4 (hK _ ?_);clear hK K));show AWP _ _ _ _ _) | (refine j7 [5] rfl ?_;simp (disch:=omega) only [go_sem,seval,hd,cb,x9,z10];(repeat refine ⟨by omega,?_⟩))))
   refine q17 0 _ (.p (.d (.sl 4 0 (rowC l)))) rfl z23 ?_
   (repeat (first | apply j0 | refine z7 rfl ?_ | refine x7 rfl ?_ | apply j6 | (refine x5 fun K hK => ?_) | ((first | apply j5 | apply x6 | (refine j4 (hK _ ?_);clear hK K));show AWP _ _ _ _ _) | (refine j7 [5] rfl ?_;simp (disch:=omega) only [go_sem,seval,hd,cb,x9,z10];(repeat refine ⟨by omega,?_⟩))))
   refine q17 2 _ (.p (.d (.sl 4 0 (rowC l)))) rfl (q22 rfl (fun i hi => by omega)) ?_
   refine j9 ⟨_,?_,rfl⟩;rw [Tryz.results63];simp (disch:=omega) only [ResVars,ResVar,ptrLoc,go_sem,seval,hd,cb,x9,z10]
 ·refine q12 Tryz.func63 rfl (by decide +kernel) (by rw [Tryz.ntmps63];simp) ?_;rw [Tryz.ntmps63];simp only [frOf]
  (repeat (first | apply j0 | refine z7 rfl ?_ | refine x7 rfl ?_ | apply j6 | (refine x5 fun K hK => ?_) | ((first | apply j5 | apply x6 | (refine j4 (hK _ ?_);clear hK K));show AWP _ _ _ _ _) | (refine j7 [5] rfl ?_;simp (disch:=omega) only [go_sem,seval,hd,cb,x9,z10];(repeat refine ⟨by omega,?_⟩))))
  refine q17 2 _ (.p (.d (.sl 4 l.length (rowC l)))) rfl (q22 (by omega) (fun i hi => by unfold catF;rw [if_neg (by omega)];rfl)) ?_
  refine j9 ⟨_,?_,rfl⟩;rw [Tryz.results63];simp (disch:=omega) only [ResVars,ResVar,ptrLoc,go_sem,seval,hd,cb,x9,z10]
def ixRI (l : List Rule) (g : FuncId) (caps : List PV) (p : Rule → Bool) (R : Int) (s : {i : Nat // i ≤ l.length ∧ idxF p (l.drop i) i = R}) : ASt :=
 ⟨[(8,.p (.d (.v (.int .i64 (s.val : Int))))),(7,.p (.d (.v (.int .i64 (l.length : Int))))),(1,.p (.fn (.func g) [] caps)),(0,.p (.d (.sl 12 l.length (rowR l))))],[]⟩
theorem q173 (g : FuncId) (caps : List PV) (p : Rule → Bool) (l : List Rule) (hl : l.length ≤ 140737488355328) (hp : ∀ k ∈ l,ACalls Tryz.prog g (.agg (ruleD k) :: caps) (· = [.d (.v (.bool (p k)))])) :
  ACalls Tryz.prog 107 [.d (.sl 12 l.length (rowR l)),.fn (.func g) [] caps] (· = [.d (.v (.int .i64 (idxF p l 0)))]) := by
 obtain ⟨R,hR⟩ : ∃ R,idxF p l 0 = R := ⟨_,rfl⟩
 rw [hR]
 refine q12 Tryz.func107 rfl (by decide +kernel) (by rw [Tryz.ntmps107];simp) ?_;rw [Tryz.ntmps107];simp only [frOf]
 (repeat (first | apply j0 | refine z7 rfl ?_ | refine x7 rfl ?_ | apply j6 | (refine x5 fun K hK => ?_) | ((first | apply j5 | apply x6 | (refine j4 (hK _ ?_);clear hK K));(first | show AWP _ _ _ _ _ | ((try simp only [z8]);first | show loopQ _ _ _ _ _ _ | show AWP _ _ _ _ _))) | (refine j7 [] rfl ?_;simp (disch:=omega) only [go_sem,seval,hd,cb,ruleD];(repeat refine ⟨by omega,?_⟩))))
 refine j13 (ixRI l g caps p R) (fun s => l.length - s.val) ⟨0,by omega,by rw [List.drop_zero];exact hR⟩ ?_ (fun s => ?_)
 ·unfold ixRI
  refine Weak.list ?_ ?_;(all_goals simp (disch:=omega) only [AllF,AllL,q11,z11,j10,exists_eq_left',go_sem,seval,hd,cb,ruleD]);(all_goals (repeat' (with_reducible apply And.intro)));(all_goals try (first | exact q8 rfl | (refine x11 ?_;omega) | (refine q8 ?_;simp;done)))
 obtain ⟨i,hi,he⟩ := s
 unfold ixRI
 by_cases hn : i < l.length
 ·rw [x33 l i r0 hn] at he
  have r1 := x21 l i
  have hk := hp _ (q23 hn r0)
  generalize l.getD i r0 = K at he r1 hk
  unfold idxF at he
  cases hb : p K
  all_goals
   rw [hb] at he hk
   simp only [Bool.false_eq_true,if_false,if_true] at he
   (repeat (first | apply j0 | refine z7 rfl ?_ | refine x7 rfl ?_ | apply j6 | (refine x5 fun K hK => ?_) | ((first | apply j5 | apply x6 | (refine j4 (hK _ ?_);clear hK K));(first | show AWP _ _ _ _ _ | ((try simp only [z8]);first | show loopQ _ _ _ _ _ _ | show AWP _ _ _ _ _))) | (refine x10 rfl rfl rfl ?_;simp (disch:=omega) only [go_sem,seval,hd,cb,ruleD,r1];(first | refine ⟨_,hk,?_⟩)) | (refine j7 [] rfl ?_;simp (disch:=omega) only [go_sem,seval,hd,cb,ruleD,r1];(repeat refine ⟨by omega,?_⟩))))
  ·refine ⟨⟨i + 1,by omega,he⟩,by simp only [];omega,?_⟩
   refine Weak.list ?_ ?_;(all_goals simp (disch:=omega) only [AllF,AllL,q11,z11,j10,exists_eq_left',go_sem,seval,hd,cb,ruleD,r1]);(all_goals (repeat' (with_reducible apply And.intro)));(all_goals try (first | exact q8 rfl | (refine x11 ?_;omega) | (refine q8 ?_;simp;done)))
  ·refine j9 ⟨_,?_,rfl⟩;rw [Tryz.results107];simp (disch:=omega) only [ResVars,ResVar,ptrLoc,go_sem,seval,hd,cb,ruleD,r1]
   rw [he]
 ·have : i = l.length := by omega
  subst this
  rw [List.drop_length] at he
  unfold idxF at he
  (repeat (first | apply j0 | refine z7 rfl ?_ | refine x7 rfl ?_ | apply j6 | (refine x5 fun K hK => ?_) | ((first | apply j5 | apply x6 | (refine j4 (hK _ ?_);clear hK K));(first | show AWP _ _ _ _ _ | ((try simp only [z8]);first | show loopQ _ _ _ _ _ _ | show AWP _ _ _ _ _))) | (refine j7 [] rfl ?_;simp (disch:=omega) only [go_sem,seval,hd,cb,ruleD];(repeat refine ⟨by omega,?_⟩))))
  refine j9 ⟨_,?_,rfl⟩;rw [Tryz.results107];simp (disch:=omega) only [ResVars,ResVar,ptrLoc,go_sem,seval,hd,cb,ruleD]
  rw [he]
theorem x107 (g : FuncId) (caps : List PV) (p : Rule → Bool) (l : List Rule) (hl : l.length ≤ 140737488355328) (hp : ∀ k ∈ l,ACalls Tryz.prog g (.agg (ruleD k) :: caps) (· = [.d (.v (.bool (p k)))])) :
  ACalls Tryz.prog 72 [.d (.sl 12 l.length (rowR l)),.fn (.func g) [] caps] (· = [.d (.v (.bool (l.any p)))]) := by
 have ix := q173 g caps p l hl hp
 have ia := z76 p l 0
 generalize idxF p l 0 = R at ix ia
 refine q12 Tryz.func72 rfl (by decide +kernel) (by rw [Tryz.ntmps72];simp) ?_;rw [Tryz.ntmps72];simp only [frOf]
 (repeat (first | apply j0 | refine z7 rfl ?_ | refine x7 rfl ?_ | apply j6 | (refine x5 fun K hK => ?_) | ((first | apply j5 | apply x6 | (refine j4 (hK _ ?_);clear hK K));show AWP _ _ _ _ _) | (refine x10 rfl rfl rfl ?_;simp (disch:=omega) only [go_sem,seval,hd,cb,ruleD];(first | refine ⟨_,ix,?_⟩)) | (refine j7 [] rfl ?_;simp (disch:=omega) only [go_sem,seval,hd,cb,ruleD];(repeat refine ⟨by omega,?_⟩))))
 refine j9 ⟨_,?_,rfl⟩;rw [Tryz.results72];simp (disch:=omega) only [ResVars,ResVar,ptrLoc,go_sem,seval,hd,cb,ruleD]
 rw [ia]
theorem j107 (out : List Cube) (c : Cube) (i : Nat) (hlt : i < out.length + 1) : catF out.length (rowC out) (fun i => [cb c].getD i []) i = rowC (out ++ [c]) i := by
 unfold catF rowC
 by_cases h : i < out.length
 ·simp only [if_pos h,List.getD_eq_getElem?_getD,List.getElem?_append_left h]
 ·have : i = out.length := by omega
  subst this
  simp
theorem z173 (a b : List Cube) (i : Nat) : catF a.length (rowC a) (rowC b) i = rowC (a ++ b) i := by
 unfold catF rowC
 by_cases h : i < a.length
 ·simp only [if_pos h,List.getD_eq_getElem?_getD,List.getElem?_append_left h]
 ·simp only [if_neg h,List.getD_eq_getElem?_getD,List.getElem?_append_right (Nat.le_of_not_lt h)]
def leanTo (l : List Cube) (i : Nat) : List Cube := (List.range i).filterMap fun n => if spareP l n then none else some (l.getD n ⟨0,0⟩)
def leanP (l : List Cube) : List Cube := leanTo l l.length
theorem x173 (l : List Cube) (i : Nat) : leanTo l (i + 1) = leanTo l i ++ if spareP l i then [] else [l.getD i ⟨0,0⟩] := by
 unfold leanTo
 rw [List.range_succ,List.filterMap_append]
 congr 1
 cases h : spareP l i <;> simp [h]
theorem q108 (l : List Cube) (i : Nat) : (leanTo l i).length ≤ i := by
 unfold leanTo
 exact Nat.le_trans (List.length_filterMap_le _ _) (by simp)
def leanI (l : List Cube) (s : {s : Nat × List Cube // s.1 ≤ l.length ∧ s.2 = leanTo l s.1}) : ASt :=
 ⟨[(8,.p (.d (.v (.int .i64 (s.val.1 : Int))))),(7,.p (.d (.v (.int .i64 (l.length : Int))))),(6,.p (.d (.sl 4 l.length (rowC l)))),(3,.gr 3 s.val.2.length 4 s.val.2.length (rowC s.val.2)),(0,.p (.d (.sl 4 l.length (rowC l))))],
  [(3,.grow 53 4 s.val.2.length s.val.2.length)]⟩
theorem Lean_c (l : List Cube) (hl : l.length ≤ 1099511627776) : ACalls Tryz.prog 135 [.d (.sl 4 l.length (rowC l))] (· = [.d (.sl 4 (leanP l).length (rowC (leanP l)))]) := by
 refine q12 Tryz.func135 rfl (by decide +kernel) (by rw [Tryz.ntmps135];simp) ?_;rw [Tryz.ntmps135];simp only [frOf]
 (repeat (first | apply j0 | refine z7 rfl ?_ | refine x7 rfl ?_ | apply j6 | (refine x5 fun K hK => ?_) | ((first | apply j5 | apply x6 | (refine j4 (hK _ ?_);clear hK K));(first | show AWP _ _ _ _ _ | ((try simp only [z8]);first | show loopQ _ _ _ _ _ _ | show AWP _ _ _ _ _))) | (refine j7 [] rfl ?_;simp (disch:=omega) only [go_sem,seval,hd,cb,x9,z10];(repeat refine ⟨by omega,?_⟩))))
 refine j32 3 3 4 53 (rowC []) rfl (by kernel_rfl) rfl ?_
 refine j13 (leanI l) (fun s => l.length - s.val.1) ⟨(0,[]),by simp,by simp [leanTo]⟩ ?_ (fun s => ?_)
 ·unfold leanI
  refine Weak.list ?_ ?_;(all_goals simp (disch:=omega) only [AllF,AllL,q11,z11,j10,exists_eq_left',go_sem,seval,hd,cb,x9,z10]);(all_goals (repeat' (with_reducible apply And.intro)));(all_goals try (first | exact q8 rfl | (refine x11 ?_;omega) | (refine q8 ?_;simp;done)))
 obtain ⟨⟨i,out⟩,hi,he⟩ := s
 unfold leanI
 simp only [] at hi he
 have ho := q108 l i
 rw [← he] at ho
 by_cases hn : i < l.length
 ·have sp := spare_c l i (by omega) hn
  have st := x173 l i
  rw [← he] at st
  have r1 := x30 l i
  generalize l.getD i ⟨0,0⟩ = K at r1 st
  cases h : spareP l i
  all_goals
   rw [h] at sp st
   simp only [Bool.false_eq_true,if_false,if_true] at st
   (repeat (first | apply j0 | refine z7 rfl ?_ | refine x7 rfl ?_ | apply j6 | (refine x5 fun K hK => ?_) | ((first | apply j5 | apply x6 | (refine j4 (hK _ ?_);clear hK K));(first | show AWP _ _ _ _ _ | ((try simp only [z8]);first | show loopQ _ _ _ _ _ _ | show AWP _ _ _ _ _))) | (refine x10 rfl rfl rfl ?_;simp (disch:=omega) only [go_sem,seval,hd,cb,x9,z10,r1];(first | refine ⟨_,sp,?_⟩)) | (refine j7 [] rfl ?_;simp (disch:=omega) only [go_sem,seval,hd,cb,x9,z10,r1];(repeat refine ⟨by omega,?_⟩))))
  ·refine ⟨⟨(i + 1,out ++ [K]),by simp only [];omega,st.symm⟩,by simp only [];omega,?_⟩
   refine Weak.list ?_ ?_;(all_goals simp (disch:=omega) only [AllF,AllL,q11,z11,j10,exists_eq_left',go_sem,seval,hd,cb,x9,z10,r1]);(all_goals (repeat' (with_reducible apply And.intro)));(all_goals try (first | exact q8 rfl | (refine x11 ?_;omega) | (refine q8 ?_;simp;done)))
   ·exact z26 (by simp) (by simp) (fun j hj => j107 out K j hj)
   ·exact q33 (by simp) (by simp)
  ·rw [List.append_nil] at st
   refine ⟨⟨(i + 1,out),by simp only [];omega,st.symm⟩,by simp only [];omega,?_⟩
   refine Weak.list ?_ ?_;(all_goals simp (disch:=omega) only [AllF,AllL,q11,z11,j10,exists_eq_left',go_sem,seval,hd,cb,x9,z10,r1]);(all_goals (repeat' (with_reducible apply And.intro)));(all_goals try (first | exact q8 rfl | (refine x11 ?_;omega) | (refine q8 ?_;simp;done)))
 ·have hil : i = l.length := by omega
  subst hil
  (repeat (first | apply j0 | refine z7 rfl ?_ | refine x7 rfl ?_ | apply j6 | (refine x5 fun K hK => ?_) | ((first | apply j5 | apply x6 | (refine j4 (hK _ ?_);clear hK K));(first | show AWP _ _ _ _ _ | ((try simp only [z8]);first | show loopQ _ _ _ _ _ _ | show AWP _ _ _ _ _))) | (refine j7 [] rfl ?_;simp (disch:=omega) only [go_sem,seval,hd,cb,x9,z10];(repeat refine ⟨by omega,?_⟩))))
  refine q17 2 _ (.p (.d (.sl 4 (leanP l).length (rowC (leanP l))))) rfl ?_ ?_
  ·unfold leanP
   rw [← he]
   exact q22 rfl (fun _ _ => rfl)
  refine j9 ⟨_,?_,rfl⟩;rw [Tryz.results135];simp (disch:=omega) only [ResVars,ResVar,ptrLoc,go_sem,seval,hd,cb,x9,z10]
def leanE (l : List Cube) : Int := if (leanP l).length > 200 then 10 else 0
def leanV (l : List Cube) : List Cube := if (leanP l).length > 200 then [] else leanP l
theorem z108 (l : List Cube) (hl : l.length ≤ 1099511627776) : ACalls Tryz.prog 97 [.d (.sl 4 l.length (rowC l))] (· = [.d (.sl 4 (leanV l).length (rowC (leanV l))),.d (.v (.int .i64 (leanE l)))]) := by
 have le := Lean_c l hl
 have hlen : (leanP l).length ≤ l.length := q108 l _
 unfold leanE leanV
 generalize leanP l = m at le hlen
 have cl := q107 m.length (rowC m) (by omega)
 by_cases h : m.length > 200
 ·rw [if_pos h,if_pos h]
  refine q12 Tryz.func97 rfl (by decide +kernel) (by rw [Tryz.ntmps97];simp) ?_;rw [Tryz.ntmps97];simp only [frOf]
  (repeat (first | apply j0 | refine z7 rfl ?_ | refine x7 rfl ?_ | apply j6 | (refine x5 fun K hK => ?_) | ((first | apply j5 | apply x6 | (refine j4 (hK _ ?_);clear hK K));show AWP _ _ _ _ _) | (refine x10 rfl rfl rfl ?_;simp (disch:=omega) only [go_sem,seval,hd,cb,x9,z10];(first | refine ⟨_,le,?_⟩ | refine ⟨_,cl,?_⟩)) | (refine j7 [] rfl ?_;simp (disch:=omega) only [go_sem,seval,hd,cb,x9,z10];(repeat refine ⟨by omega,?_⟩))))
  refine q17 2 _ (.p (.d (.sl 4 ([] : List Cube).length (rowC [])))) rfl (z27 4 _ _ rfl) ?_
  refine j9 ⟨_,?_,rfl⟩;rw [Tryz.results97];simp (disch:=omega) only [ResVars,ResVar,ptrLoc,go_sem,seval,hd,cb,x9,z10]
 ·rw [if_neg h,if_neg h]
  refine q12 Tryz.func97 rfl (by decide +kernel) (by rw [Tryz.ntmps97];simp) ?_;rw [Tryz.ntmps97];simp only [frOf]
  (repeat (first | apply j0 | refine z7 rfl ?_ | refine x7 rfl ?_ | apply j6 | (refine x5 fun K hK => ?_) | ((first | apply j5 | apply x6 | (refine j4 (hK _ ?_);clear hK K));show AWP _ _ _ _ _) | (refine x10 rfl rfl rfl ?_;simp (disch:=omega) only [go_sem,seval,hd,cb,x9,z10];(first | refine ⟨_,le,?_⟩ | refine ⟨_,cl,?_⟩)) | (refine j7 [] rfl ?_;simp (disch:=omega) only [go_sem,seval,hd,cb,x9,z10];(repeat refine ⟨by omega,?_⟩))))
  refine j9 ⟨_,?_,rfl⟩;rw [Tryz.results97];simp (disch:=omega) only [ResVars,ResVar,ptrLoc,go_sem,seval,hd,cb,x9,z10]
def pairE (a b : List Cube) : Int := if soundP a && soundP b then 0 else 2
theorem x108 (a b : List Cube) (ha : a.length ≤ 1099511627776) (hb : b.length ≤ 1099511627776) : ACalls Tryz.prog 96 [.d (.sl 4 a.length (rowC a)),.d (.sl 4 b.length (rowC b))] (· = [.d (.v (.int .i64 (pairE a b)))]) := by
 have s1 := j106 a (by omega)
 have s2 := j106 b (by omega)
 unfold pairE
 cases h1 : soundP a <;> cases h2 : soundP b
 all_goals
  rw [h1] at s1
  rw [h2] at s2
  refine q12 Tryz.func96 rfl (by decide +kernel) (by rw [Tryz.ntmps96];simp) ?_;rw [Tryz.ntmps96];simp only [frOf]
  (repeat (first | apply j0 | refine z7 rfl ?_ | refine x7 rfl ?_ | apply j6 | (refine x5 fun K hK => ?_) | ((first | apply j5 | apply x6 | (refine j4 (hK _ ?_);clear hK K));show AWP _ _ _ _ _) | (refine x10 rfl rfl rfl ?_;simp (disch:=omega) only [go_sem,seval,hd,cb,x9,z10];(first | refine ⟨_,s1,?_⟩ | refine ⟨_,s2,?_⟩)) | (refine j7 [] rfl ?_;simp (disch:=omega) only [go_sem,seval,hd,cb,x9,z10];(repeat refine ⟨by omega,?_⟩))))
  refine j9 ⟨_,?_,rfl⟩;rw [Tryz.results96];simp (disch:=omega) only [ResVars,ResVar,ptrLoc,go_sem,seval,hd,cb,x9,z10]
def cbA (k : Cube) : List AV := [.p (.d (.v (.int .u64 (hi k.v)))),.p (.d (.v (.int .u64 (lo k.v)))),.p (.d (.v (.int .u64 (hi k.c)))),.p (.d (.v (.int .u64 (lo k.c))))]
def meetOne (x y : Cube) : Option Cube := if meetO x y then some (meetV x y) else none
def meetRow (b : List Cube) (x : Cube) : List Cube := b.filterMap (meetOne x)
def meetsP (a b : List Cube) : List Cube := a.flatMap (meetRow b)
def meetPI (a b : List Cube) (s : {s : Nat × List Cube // s.1 ≤ a.length ∧ s.2 = (a.take s.1).flatMap (meetRow b) ∧ s.2.length ≤ s.1 * b.length}) : ASt :=
 ⟨[(22,.p (.d (.v (.int .i64 (s.val.1 : Int))))),(21,.p (.d (.v (.int .i64 (a.length : Int))))),(20,.p (.d (.sl 4 a.length (rowC a)))),(7,.gr 7 s.val.2.length 4 s.val.2.length (rowC s.val.2)),(1,.p (.d (.sl 4 b.length (rowC b))))],
  [(7,.grow 53 4 s.val.2.length s.val.2.length)]⟩
def meetPJ (a b : List Cube) (x : Cube) (i : Nat) (pre : List Cube) (s : {s : Nat × List Cube // s.1 ≤ b.length ∧ s.2 = pre ++ (b.take s.1).filterMap (meetOne x) ∧ s.2.length ≤ pre.length + s.1}) : ASt :=
 ⟨[(28,.p (.d (.v (.int .i64 (s.val.1 : Int))))),(27,.p (.d (.v (.int .i64 (b.length : Int))))),(26,.p (.d (.sl 4 b.length (rowC b)))),(9,.loc 9 0),(22,.p (.d (.v (.int .i64 (i : Int))))),(21,.p (.d (.v (.int .i64 (a.length : Int))))),(20,.p (.d (.sl 4 a.length (rowC a)))),
  (7,.gr 7 s.val.2.length 4 s.val.2.length (rowC s.val.2)),(1,.p (.d (.sl 4 b.length (rowC b))))],
  [(9,.cells 53 (cbA x)),(7,.grow 53 4 s.val.2.length s.val.2.length)]⟩
theorem x61 {a : List Cube} (h : soundP a = true) : a.length ≤ 200 := by
 unfold soundP at h
 rw [Bool.and_eq_true] at h
 exact of_decide_eq_true h.1
set_option maxRecDepth 100000 in
theorem MeetP_c (a b : List Cube) (ha : a.length ≤ 1099511627776) (hb : b.length ≤ 1099511627776) : ACalls Tryz.prog 67 [.d (.sl 4 a.length (rowC a)),.d (.sl 4 b.length (rowC b))]
  (· = [.d (.sl 4 (if soundP a && soundP b then leanV (meetsP a b) else []).length (rowC (if soundP a && soundP b then leanV (meetsP a b) else []))),.d (.v (.int .i64 (if soundP a && soundP b then leanE (meetsP a b) else 2)))]) := by
 have pr := x108 a b ha hb
 unfold pairE at pr
 cases hs : (soundP a && soundP b)
 ·rw [hs] at pr
  simp only [Bool.false_eq_true,if_false] at pr ⊢
  refine q12 Tryz.func67 rfl (by decide +kernel) (by rw [Tryz.ntmps67];simp) ?_;rw [Tryz.ntmps67];simp only [frOf]
  (repeat (first | apply j0 | refine z7 rfl ?_ | refine x7 rfl ?_ | apply j6 | (refine x5 fun K hK => ?_) | ((first | apply j5 | apply x6 | (refine j4 (hK _ ?_);clear hK K));(first | show AWP _ _ _ _ _ | ((try simp only [z8]);first | show loopQ _ _ _ _ _ _ | show AWP _ _ _ _ _))) | (refine x10 rfl rfl rfl ?_;simp (disch:=omega) only [go_sem,seval,hd,cb,x9,z10];(first | refine ⟨_,pr,?_⟩)) | (refine j7 [] rfl ?_;simp (disch:=omega) only [go_sem,seval,hd,cb,x9,z10];(repeat refine ⟨by omega,?_⟩))))
  refine q17 4 _ (.p (.d (.sl 4 ([] : List Cube).length (rowC [])))) rfl (z27 4 _ _ rfl) ?_
  refine j9 ⟨_,?_,rfl⟩;rw [Tryz.results67];simp (disch:=omega) only [ResVars,ResVar,ptrLoc,go_sem,seval,hd,cb,x9,z10]
 ·rw [hs] at pr
  simp only [if_true] at pr ⊢
  rw [Bool.and_eq_true] at hs
  have h1 := x61 hs.1
  have h2 := x61 hs.2
  refine q12 Tryz.func67 rfl (by decide +kernel) (by rw [Tryz.ntmps67];simp) ?_;rw [Tryz.ntmps67];simp only [frOf]
  (repeat (first | apply j0 | refine z7 rfl ?_ | refine x7 rfl ?_ | apply j6 | (refine x5 fun K hK => ?_) | ((first | apply j5 | apply x6 | (refine j4 (hK _ ?_);clear hK K));(first | show AWP _ _ _ _ _ | ((try simp only [z8]);first | show loopQ _ _ _ _ _ _ | show AWP _ _ _ _ _))) | (refine x10 rfl rfl rfl ?_;simp (disch:=omega) only [go_sem,seval,hd,cb,x9,z10];(first | refine ⟨_,pr,?_⟩)) | (refine j7 [] rfl ?_;simp (disch:=omega) only [go_sem,seval,hd,cb,x9,z10];(repeat refine ⟨by omega,?_⟩))))
  refine j32 7 7 4 53 (rowC []) rfl (by kernel_rfl) rfl ?_
  refine j13 (meetPI a b) (fun s => a.length - s.val.1) ⟨(0,[]),by simp,by simp,by simp⟩ ?_ (fun s => ?_)
  ·unfold meetPI
   refine Weak.list ?_ ?_;(all_goals simp (disch:=omega) only [AllF,AllL,q11,z11,j10,exists_eq_left',go_sem,seval,hd,cb,x9,z10]);(all_goals (repeat' (with_reducible apply And.intro)));(all_goals try (first | exact q8 rfl | (refine x11 ?_;omega) | (refine q8 ?_;simp;done)))
  obtain ⟨⟨i,out⟩,hi,he,ho⟩ := s
  unfold meetPI
  simp only [] at hi he ho
  have hio : i * b.length ≤ 200 * 200 := Nat.mul_le_mul (by omega) h2
  by_cases hn : i < a.length
  ·have r1 := x30 a i
   have st := q73 a i ⟨0,0⟩ hn
   generalize a.getD i ⟨0,0⟩ = X at r1 st
   (repeat (first | apply j0 | refine z7 rfl ?_ | refine x7 rfl ?_ | apply j6 | (refine x5 fun K hK => ?_) | ((first | apply j5 | apply x6 | (refine j4 (hK _ ?_);clear hK K));(first | show AWP _ _ _ _ _ | ((try simp only [z8]);first | show loopQ _ _ _ _ _ _ | show AWP _ _ _ _ _))) | (refine j7 [] rfl ?_;simp (disch:=omega) only [go_sem,seval,hd,cb,x9,z10,r1];(repeat refine ⟨by omega,?_⟩))))
   refine j13 (meetPJ a b X i out) (fun s => b.length - s.val.1) ⟨(0,out),by simp,by simp,by simp⟩ ?_ (fun s => ?_)
   ·unfold meetPJ cbA
    refine Weak.list ?_ ?_;(all_goals simp (disch:=omega) only [AllF,AllL,q11,z11,j10,exists_eq_left',go_sem,seval,hd,cb,x9,z10,r1]);(all_goals (repeat' (with_reducible apply And.intro)));(all_goals try (first | exact q8 rfl | (refine x11 ?_;omega) | (refine q8 ?_;simp;done)))
   obtain ⟨⟨j,ou2⟩,hj,he2,ho2⟩ := s
   unfold meetPJ cbA
   simp only [] at hj he2 ho2
   by_cases hm : j < b.length
   ·have r2 := x30 b j
    have st2 := q73 b j ⟨0,0⟩ hm
    generalize b.getD j ⟨0,0⟩ = Y at r2 st2
    have mt := z101 X Y
    have so : (b.take (j + 1)).filterMap (meetOne X) = (b.take j).filterMap (meetOne X) ++ (if meetO X Y then [meetV X Y] else []) := by
     rw [st2,List.filterMap_append]
     congr 1
     cases h : meetO X Y <;> simp [meetOne,h]
    generalize meetV X Y = V at mt so
    cases h : meetO X Y
    all_goals
     rw [h] at mt so
     simp only [Bool.false_eq_true,if_false,if_true] at so
     (repeat (first | apply j0 | refine z7 rfl ?_ | refine x7 rfl ?_ | apply j6 | (refine x5 fun K hK => ?_) | ((first | apply j5 | apply x6 | (refine j4 (hK _ ?_);clear hK K));(first | show AWP _ _ _ _ _ | ((try simp only [z8]);first | show loopQ _ _ _ _ _ _ | show AWP _ _ _ _ _))) | (refine x10 rfl rfl rfl ?_;simp (disch:=omega) only [go_sem,seval,hd,cb,x9,z10,r1,r2];(first | refine ⟨_,mt,?_⟩)) | (refine j7 [] rfl ?_;simp (disch:=omega) only [go_sem,seval,hd,cb,x9,z10,r1,r2];(repeat refine ⟨by omega,?_⟩))))
    ·refine ⟨⟨(j + 1,ou2),by simp only [];omega,by rw [so,List.append_nil];exact he2,by simp only [];omega⟩,by simp only [];omega,?_⟩
     refine Weak.list ?_ ?_;(all_goals simp (disch:=omega) only [AllF,AllL,q11,z11,j10,exists_eq_left',go_sem,seval,hd,cb,x9,z10,r1,r2]);(all_goals (repeat' (with_reducible apply And.intro)));(all_goals try (first | exact q8 rfl | (refine x11 ?_;omega) | (refine q8 ?_;simp;done)))
    ·refine ⟨⟨(j + 1,ou2 ++ [V]),by simp only [];omega,by rw [so,← List.append_assoc,← he2],by simp;omega⟩,by simp only [];omega,?_⟩
     refine Weak.list ?_ ?_;(all_goals simp (disch:=omega) only [AllF,AllL,q11,z11,j10,exists_eq_left',go_sem,seval,hd,cb,x9,z10,r1,r2]);(all_goals (repeat' (with_reducible apply And.intro)));(all_goals try (first | exact q8 rfl | (refine x11 ?_;omega) | (refine q8 ?_;simp;done)))
     ·exact z26 (by simp) (by simp) (fun j hj => j107 ou2 V j hj)
     ·exact q33 (by simp) (by simp)
   ·have hjl : j = b.length := by omega
    subst hjl
    (repeat (first | apply j0 | refine z7 rfl ?_ | refine x7 rfl ?_ | apply j6 | (refine x5 fun K hK => ?_) | ((first | apply j5 | apply x6 | (refine j4 (hK _ ?_);clear hK K));(first | show AWP _ _ _ _ _ | ((try simp only [z8]);first | show loopQ _ _ _ _ _ _ | show AWP _ _ _ _ _))) | (refine j7 [] rfl ?_;simp (disch:=omega) only [go_sem,seval,hd,cb,x9,z10,r1];(repeat refine ⟨by omega,?_⟩))))
    refine ⟨⟨(i + 1,ou2),by simp only [];omega,?_,?_⟩,by simp only [];omega,?_⟩
    ·rw [st,List.flatMap_append,← he,he2,List.take_length]
     simp [meetRow]
    ·simp only []
     rw [Nat.add_mul,Nat.one_mul];omega
    refine Weak.list ?_ ?_;(all_goals simp (disch:=omega) only [AllF,AllL,q11,z11,j10,exists_eq_left',go_sem,seval,hd,cb,x9,z10,r1]);(all_goals (repeat' (with_reducible apply And.intro)));(all_goals try (first | exact q8 rfl | (refine x11 ?_;omega) | (refine q8 ?_;simp;done)))
  ·have hil : i = a.length := by omega
   subst hil
   rw [List.take_length] at he
   have ln := z108 out (by omega)
   have : out = meetsP a b := he
   rw [← this]
   (repeat (first | apply j0 | refine z7 rfl ?_ | refine x7 rfl ?_ | apply j6 | (refine x5 fun K hK => ?_) | ((first | apply j5 | apply x6 | (refine j4 (hK _ ?_);clear hK K));(first | show AWP _ _ _ _ _ | ((try simp only [z8]);first | show loopQ _ _ _ _ _ _ | show AWP _ _ _ _ _))) | (refine x10 rfl rfl rfl ?_;simp (disch:=omega) only [go_sem,seval,hd,cb,x9,z10];(first | refine ⟨_,ln,?_⟩)) | (refine j7 [] rfl ?_;simp (disch:=omega) only [go_sem,seval,hd,cb,x9,z10];(repeat refine ⟨by omega,?_⟩))))
   refine j9 ⟨_,?_,rfl⟩;rw [Tryz.results67];simp (disch:=omega) only [ResVars,ResVar,ptrLoc,go_sem,seval,hd,cb,x9,z10]
def lessRest (out : List Cube) (y : Cube) : List Cube := out.flatMap fun x => lessL x y
def lessP : List Cube → List Cube → List Cube × Int
 | [],out => (out,0)
 | y :: r,out => if leanE (lessRest out y) = 0 then lessP r (leanV (lessRest out y)) else ([],leanE (lessRest out y))
theorem j108 (l : List Cube) : (leanV l).length ≤ 200 := by
 unfold leanV
 split
 ·simp
 ·omega
def lessPI (b : List Cube) (R : List Cube × Int) (s : {s : Nat × List Cube // s.1 ≤ b.length ∧ lessP (b.drop s.1) s.2 = R ∧ s.2.length ≤ 200}) : ASt :=
 ⟨[(24,.p (.d (.v (.int .i64 (s.val.1 : Int))))),(23,.p (.d (.v (.int .i64 (b.length : Int))))),(22,.p (.d (.sl 4 b.length (rowC b)))),(7,.p (.d (.sl 4 s.val.2.length (rowC s.val.2))))],[]⟩
def lessPJ (b out : List Cube) (y : Cube) (i : Nat) (s : {s : Nat × List Cube // s.1 ≤ out.length ∧ s.2 = (out.take s.1).flatMap (fun x => lessL x y) ∧ s.2.length ≤ s.1 * 128}) : ASt :=
 ⟨[(30,.p (.d (.v (.int .i64 (s.val.1 : Int))))),(29,.p (.d (.v (.int .i64 (out.length : Int))))),(28,.p (.d (.sl 4 out.length (rowC out)))),(9,.loc 9 0),(10,.gr 10 s.val.1 4 s.val.2.length (rowC s.val.2)),
  (24,.p (.d (.v (.int .i64 (i : Int))))),(23,.p (.d (.v (.int .i64 (b.length : Int))))),(22,.p (.d (.sl 4 b.length (rowC b))))],
  [(9,.cells 53 (cbA y)),(10,.grow 53 4 s.val.2.length s.val.1)]⟩
theorem j173 (a b : Cube) : (lessL a b).length ≤ 128 := by
 have go : ∀ (more : BitVec 128) (n : Nat) (r : Cube),(lessGo b more n r).length ≤ n := by
  intro more n
  induction n with
  | zero => intro r;simp [lessGo]
  |succ n ih =>
   intro r
   unfold lessGo
   split
   ·have := ih ⟨r.v ||| b.v &&& ones 1 <<< n,r.c ||| ones 1 <<< n⟩;simp;omega
   ·have := ih r;omega
 unfold lessL
 split
 ·split
  ·exact go _ _ _
  ·simp
 ·simp
set_option maxRecDepth 100000 in
theorem q174 (a b : List Cube) (ha : a.length ≤ 1099511627776) (hb : b.length ≤ 1099511627776) (R : List Cube × Int) (hR : (if soundP a && soundP b then lessP b a else ([],2)) = R) : ACalls Tryz.prog 68 [.d (.sl 4 a.length (rowC a)),.d (.sl 4 b.length (rowC b))]
  (· = [.d (.sl 4 R.1.length (rowC R.1)),.d (.v (.int .i64 R.2))]) := by
 have pr := x108 a b ha hb
 unfold pairE at pr
 cases hs : (soundP a && soundP b)
 ·rw [hs] at pr hR
  simp only [Bool.false_eq_true,if_false] at pr hR
  subst hR
  refine q12 Tryz.func68 rfl (by decide +kernel) (by rw [Tryz.ntmps68];simp) ?_;rw [Tryz.ntmps68];simp only [frOf]
  (repeat (first | apply j0 | refine z7 rfl ?_ | refine x7 rfl ?_ | apply j6 | (refine x5 fun K hK => ?_) | ((first | apply j5 | apply x6 | (refine j4 (hK _ ?_);clear hK K));(first | show AWP _ _ _ _ _ | ((try simp only [z8]);first | show loopQ _ _ _ _ _ _ | show AWP _ _ _ _ _))) | (refine x10 rfl rfl rfl ?_;simp (disch:=omega) only [go_sem,seval,hd,cb,x9,z10];(first | refine ⟨_,pr,?_⟩)) | (refine j7 [] rfl ?_;simp (disch:=omega) only [go_sem,seval,hd,cb,x9,z10];(repeat refine ⟨by omega,?_⟩))))
  refine q17 4 _ (.p (.d (.sl 4 ([] : List Cube).length (rowC [])))) rfl (z27 4 _ _ rfl) ?_
  refine j9 ⟨_,?_,rfl⟩;rw [Tryz.results68];simp (disch:=omega) only [ResVars,ResVar,ptrLoc,go_sem,seval,hd,cb,x9,z10]
 ·rw [hs] at pr hR
  simp only [if_true] at pr hR
  rw [Bool.and_eq_true] at hs
  have h1 := x61 hs.1
  have h2 := x61 hs.2
  have cl := Clone_c a ha
  refine q12 Tryz.func68 rfl (by decide +kernel) (by rw [Tryz.ntmps68];simp) ?_;rw [Tryz.ntmps68];simp only [frOf]
  (repeat (first | apply j0 | refine z7 rfl ?_ | refine x7 rfl ?_ | apply j6 | (refine x5 fun K hK => ?_) | ((first | apply j5 | apply x6 | (refine j4 (hK _ ?_);clear hK K));(first | show AWP _ _ _ _ _ | ((try simp only [z8]);first | show loopQ _ _ _ _ _ _ | show AWP _ _ _ _ _))) | (refine x10 rfl rfl rfl ?_;simp (disch:=omega) only [go_sem,seval,hd,cb,x9,z10];(first | refine ⟨_,pr,?_⟩ | refine ⟨_,cl,?_⟩)) | (refine j7 [] rfl ?_;simp (disch:=omega) only [go_sem,seval,hd,cb,x9,z10];(repeat refine ⟨by omega,?_⟩))))
  refine j13 (lessPI b R) (fun s => b.length - s.val.1) ⟨(0,a),by simp,by rw [List.drop_zero];exact hR,h1⟩ ?_ (fun s => ?_)
  ·unfold lessPI
   refine Weak.list ?_ ?_;(all_goals simp (disch:=omega) only [AllF,AllL,q11,z11,j10,exists_eq_left',go_sem,seval,hd,cb,x9,z10]);(all_goals (repeat' (with_reducible apply And.intro)));(all_goals try (first | exact q8 rfl | (refine x11 ?_;omega) | (refine q8 ?_;simp;done)))
  obtain ⟨⟨i,out⟩,hi,he,ho⟩ := s
  unfold lessPI
  simp only [] at hi he ho
  by_cases hn : i < b.length
  ·have r1 := x30 b i
   rw [x33 b i ⟨0,0⟩ hn] at he
   generalize b.getD i ⟨0,0⟩ = Y at r1 he
   (repeat ((fail_if_success (show AWP _ _ (.region 9 _ _) _ _));first | apply j0 | refine z7 rfl ?_ | refine x7 rfl ?_ | apply j6 | (refine x5 fun K hK => ?_) | ((first | apply j5 | apply x6 | (refine j4 (hK _ ?_);clear hK K));(first | show AWP _ _ _ _ _ | ((try simp only [z8]);first | show loopQ _ _ _ _ _ _ | show AWP _ _ _ _ _))) | (refine j7 [] rfl ?_;simp (disch:=omega) only [go_sem,seval,hd,cb,x9,z10,r1];(repeat refine ⟨by omega,?_⟩))))
   refine j32 10 10 4 53 (rowC []) rfl (by kernel_rfl) rfl ?_
   (repeat (first | apply j0 | refine z7 rfl ?_ | refine x7 rfl ?_ | apply j6 | (refine x5 fun K hK => ?_) | ((first | apply j5 | apply x6 | (refine j4 (hK _ ?_);clear hK K));(first | show AWP _ _ _ _ _ | ((try simp only [z8]);first | show loopQ _ _ _ _ _ _ | show AWP _ _ _ _ _))) | (refine j7 [] rfl ?_;simp (disch:=omega) only [go_sem,seval,hd,cb,x9,z10,r1];(repeat refine ⟨by omega,?_⟩))))
   refine j13 (lessPJ b out Y i) (fun s => out.length - s.val.1) ⟨(0,[]),by simp,by simp,by simp⟩ ?_ (fun s => ?_)
   ·unfold lessPJ cbA
    refine Weak.list ?_ ?_;(all_goals simp (disch:=omega) only [AllF,AllL,q11,z11,j10,exists_eq_left',go_sem,seval,hd,cb,x9,z10,r1]);(all_goals (repeat' (with_reducible apply And.intro)));(all_goals try (first | exact q8 rfl | (refine x11 ?_;omega) | (refine q8 ?_;simp;done)))
   obtain ⟨⟨j,rest⟩,hj,he2,ho2⟩ := s
   unfold lessPJ cbA
   simp only [] at hj he2 ho2
   by_cases hm : j < out.length
   ·have r2 := x30 out j
    have st2 := q73 out j ⟨0,0⟩ hm
    generalize out.getD j ⟨0,0⟩ = X at r2 st2
    have ls := q172 X Y
    have ll := j173 X Y
    have so : (out.take (j + 1)).flatMap (fun x => lessL x Y) = (out.take j).flatMap (fun x => lessL x Y) ++ lessL X Y := by
     rw [st2,List.flatMap_append];simp
    generalize lessL X Y = M at ls ll so
    (repeat (first | apply j0 | refine z7 rfl ?_ | refine x7 rfl ?_ | apply j6 | (refine x5 fun K hK => ?_) | ((first | apply j5 | apply x6 | (refine j4 (hK _ ?_);clear hK K));(first | show AWP _ _ _ _ _ | ((try simp only [z8]);first | show loopQ _ _ _ _ _ _ | show AWP _ _ _ _ _))) | (refine x10 rfl rfl rfl ?_;simp (disch:=omega) only [go_sem,seval,hd,cb,x9,z10,r1,r2];(first | refine ⟨_,ls,?_⟩)) | (refine j7 [] rfl ?_;simp (disch:=omega) only [go_sem,seval,hd,cb,x9,z10,r1,r2];(repeat refine ⟨by omega,?_⟩))))
    refine ⟨⟨(j + 1,rest ++ M),by simp only [];omega,by rw [so,← he2],by simp;omega⟩,by simp only [];omega,?_⟩
    refine Weak.list ?_ ?_;(all_goals simp (disch:=omega) only [AllF,AllL,q11,z11,j10,exists_eq_left',go_sem,seval,hd,cb,x9,z10,r1,r2]);(all_goals (repeat' (with_reducible apply And.intro)));(all_goals try (first | exact q8 rfl | (refine x11 ?_;omega) | (refine q8 ?_;simp;done)))
    ·exact z26 rfl (by simp) (fun k hk => z173 rest M k)
    ·exact q33 (by simp) rfl
   ·have hjl : j = out.length := by omega
    subst hjl
    rw [List.take_length] at he2
    have hre : rest = lessRest out Y := he2
    have ln := z108 rest (by omega)
    unfold lessP at he
    rw [← hre] at he
    have hv := j108 rest
    generalize leanV rest = V at ln he hv
    by_cases h0 : leanE rest = 0
    ·rw [if_pos h0] at he
     rw [h0] at ln
     (repeat (first | apply j0 | refine z7 rfl ?_ | refine x7 rfl ?_ | apply j6 | (refine x5 fun K hK => ?_) | ((first | apply j5 | apply x6 | (refine j4 (hK _ ?_);clear hK K));(first | show AWP _ _ _ _ _ | ((try simp only [z8]);first | show loopQ _ _ _ _ _ _ | show AWP _ _ _ _ _))) | (refine x10 rfl rfl rfl ?_;simp (disch:=omega) only [go_sem,seval,hd,cb,x9,z10,r1];(first | refine ⟨_,ln,?_⟩)) | (refine j7 [] rfl ?_;simp (disch:=omega) only [go_sem,seval,hd,cb,x9,z10,r1];(repeat refine ⟨by omega,?_⟩))))
     refine ⟨⟨(i + 1,V),by simp only [];omega,he,hv⟩,by simp only [];omega,?_⟩
     refine Weak.list ?_ ?_;(all_goals simp (disch:=omega) only [AllF,AllL,q11,z11,j10,exists_eq_left',go_sem,seval,hd,cb,x9,z10,r1]);(all_goals (repeat' (with_reducible apply And.intro)));(all_goals try (first | exact q8 rfl | (refine x11 ?_;omega) | (refine q8 ?_;simp;done)))
    ·rw [if_neg h0] at he
     have h10 : leanE rest = 10 := by unfold leanE at h0 ⊢;split <;> simp_all
     rw [h10] at ln he
     subst he
     (repeat (first | apply j0 | refine z7 rfl ?_ | refine x7 rfl ?_ | apply j6 | (refine x5 fun K hK => ?_) | ((first | apply j5 | apply x6 | (refine j4 (hK _ ?_);clear hK K));(first | show AWP _ _ _ _ _ | ((try simp only [z8]);first | show loopQ _ _ _ _ _ _ | show AWP _ _ _ _ _))) | (refine x10 rfl rfl rfl ?_;simp (disch:=omega) only [go_sem,seval,hd,cb,x9,z10,r1];(first | refine ⟨_,ln,?_⟩)) | (refine j7 [] rfl ?_;simp (disch:=omega) only [go_sem,seval,hd,cb,x9,z10,r1];(repeat refine ⟨by omega,?_⟩))))
     refine q17 4 _ (.p (.d (.sl 4 ([] : List Cube).length (rowC [])))) rfl (z27 4 _ _ rfl) ?_
     refine j9 ⟨_,?_,rfl⟩;rw [Tryz.results68];simp (disch:=omega) only [ResVars,ResVar,ptrLoc,go_sem,seval,hd,cb,x9,z10,r1]
  ·have hil : i = b.length := by omega
   subst hil
   rw [List.drop_length] at he
   unfold lessP at he
   subst he
   have cp := q107 out.length (rowC out) (by omega)
   (repeat (first | apply j0 | refine z7 rfl ?_ | refine x7 rfl ?_ | apply j6 | (refine x5 fun K hK => ?_) | ((first | apply j5 | apply x6 | (refine j4 (hK _ ?_);clear hK K));(first | show AWP _ _ _ _ _ | ((try simp only [z8]);first | show loopQ _ _ _ _ _ _ | show AWP _ _ _ _ _))) | (refine x10 rfl rfl rfl ?_;simp (disch:=omega) only [go_sem,seval,hd,cb,x9,z10];(first | refine ⟨_,cp,?_⟩)) | (refine j7 [] rfl ?_;simp (disch:=omega) only [go_sem,seval,hd,cb,x9,z10];(repeat refine ⟨by omega,?_⟩))))
   refine j9 ⟨_,?_,rfl⟩;rw [Tryz.results68];simp (disch:=omega) only [ResVars,ResVar,ptrLoc,go_sem,seval,hd,cb,x9,z10]
def lessPR (a b : List Cube) : List Cube × Int := if soundP a && soundP b then lessP b a else ([],2)
theorem LessP_c (a b : List Cube) (ha : a.length ≤ 1099511627776) (hb : b.length ≤ 1099511627776) : ACalls Tryz.prog 68 [.d (.sl 4 a.length (rowC a)),.d (.sl 4 b.length (rowC b))]
  (· = [.d (.sl 4 (lessPR a b).1.length (rowC (lessPR a b).1)),.d (.v (.int .i64 (lessPR a b).2))]) := q174 a b ha hb _ rfl
theorem q109 : ∀ (b a : List Cube),(lessP b a).2 = 0 ∨ (lessP b a).2 = 10 ∧ (lessP b a).1 = []
 | [],a => .inl rfl
 |y :: r,a => by
  unfold lessP
  split
  ·exact q109 r _
  ·rename_i h
   refine .inr ⟨?_,rfl⟩
   unfold leanE at h ⊢
   simp only []
   split <;> simp_all
def findO (l : List Rule) (h : BitVec 128) : List Nat → Option Nat
 | [] => none
 | n :: r => if hasC (l.getD n r0).mt h then some n else findO l h r
def findR (l : List Rule) (h : BitVec 128) : Option Nat := findO l h (orderR l)
theorem z174 (r : Rule) : ACalls Tryz.prog 163 [.agg (ruleD r)] (· = [.d (.v (.bool (!r.mt.sound)))]) := by
 have k := q19 r.mt
 unfold cb at k
 unfold ruleD
 refine q12 Tryz.func163 rfl (by decide +kernel) (by rw [Tryz.ntmps163];simp) ?_;rw [Tryz.ntmps163];simp only [frOf]
 (repeat (first | apply j0 | refine z7 rfl ?_ | refine x7 rfl ?_ | apply j6 | (refine x5 fun K hK => ?_) | ((first | apply j5 | apply x6 | (refine j4 (hK _ ?_);clear hK K));show AWP _ _ _ _ _) | (refine x10 rfl rfl rfl ?_;simp (disch:=omega) only [go_sem,seval,hd,cb,ruleD];(first | refine ⟨_,k,?_⟩)) | (refine j7 [] rfl ?_;simp (disch:=omega) only [go_sem,seval,hd,cb,ruleD];(repeat refine ⟨by omega,?_⟩))))
 refine j9 ⟨_,?_,rfl⟩;rw [Tryz.results163];simp (disch:=omega) only [ResVars,ResVar,ptrLoc,go_sem,seval,hd,cb,ruleD]
def soundL (l : List Rule) : Bool := l.all fun r => r.mt.sound
theorem x174 (l : List Rule) (hl : l.length ≤ 1099511627776) : ACalls Tryz.prog 138 [.d (.sl 12 l.length (rowR l))] (· = [.d (.v (.bool (soundL l)))]) := by
 have k := x107 163 [] (fun r => !r.mt.sound) l (by omega) (fun k _ => z174 k)
 have e : (!l.any fun r => !r.mt.sound) = soundL l := by unfold soundL;rw [List.all_eq_not_any_not]
 refine q12 Tryz.func138 rfl (by decide +kernel) (by rw [Tryz.ntmps138];simp) ?_;rw [Tryz.ntmps138];simp only [frOf]
 (repeat (first | apply j0 | refine z7 rfl ?_ | refine x7 rfl ?_ | apply j6 | (refine x5 fun K hK => ?_) | ((first | apply j5 | apply x6 | (refine j4 (hK _ ?_);clear hK K));show AWP _ _ _ _ _) | (refine x10 rfl rfl rfl ?_;simp (disch:=omega) only [go_sem,seval,hd,cb,ruleD];(first | refine ⟨_,k,?_⟩)) | (refine j7 [] rfl ?_;simp (disch:=omega) only [go_sem,seval,hd,cb,ruleD];(repeat refine ⟨by omega,?_⟩))))
 refine j9 ⟨_,?_,rfl⟩;rw [Tryz.results138];simp (disch:=omega) only [ResVars,ResVar,ptrLoc,go_sem,seval,hd,cb,ruleD]
 rw [e]
end Go.Proofs.YtemcdefpihkfpaaGreat
namespace Go.Proofs.YtemcdefpihkfpaaGreat
open Go.Proofs.YtemcdefpihkfpaaGreat.AL Go.RowKit
end Go.Proofs.YtemcdefpihkfpaaGreat
namespace Go.Proofs.YtemcdefpihkfpaaGreat
open Go.Proofs.YtemcdefpihkfpaaGreat.AL
theorem j61 (n j : Nat) (hn : n < 128) (hj : j < 128) : (ones 1 <<< n).getLsbD j = decide (j = n) := by
 rw [BitVec.getLsbD_shiftLeft,show ones 1 = 1#128 from rfl,BitVec.getLsbD_one]
 by_cases h : j = n
 ·subst h;simp [hj]
 ·by_cases h2 : j < n
  ·simp [h,h2]
  ·simp [h,h2];omega
def plus (r b : Cube) (n : Nat) : Cube := ⟨r.v ||| (b.v &&& (ones 1 <<< n)),r.c ||| (ones 1 <<< n)⟩
def other (r b : Cube) (n : Nat) : Cube := ⟨(r.v ||| (b.v &&& (ones 1 <<< n))) ^^^ (ones 1 <<< n),r.c ||| (ones 1 <<< n)⟩
theorem j38 {r b : Cube} {n j : Nat} (hn : n < 128) (hj : j < 128) : (plus r b n).c.getLsbD j = (r.c.getLsbD j || decide (j = n)) := by
 simp only [plus,BitVec.getLsbD_or,j61 n j hn hj]
theorem j45 {r b : Cube} {n j : Nat} (hn : n < 128) (hj : j < 128) : (plus r b n).v.getLsbD j = (r.v.getLsbD j || (b.v.getLsbD j && decide (j = n))) := by
 simp only [plus,BitVec.getLsbD_or,BitVec.getLsbD_and,j61 n j hn hj]
theorem q62 {r b : Cube} {n j : Nat} (hn : n < 128) (hj : j < 128) : (other r b n).c.getLsbD j = (r.c.getLsbD j || decide (j = n)) := by
 simp only [other,BitVec.getLsbD_or,j61 n j hn hj]
theorem z62 {r b : Cube} {n j : Nat} (hn : n < 128) (hj : j < 128) : (other r b n).v.getLsbD j = ((r.v.getLsbD j || (b.v.getLsbD j && decide (j = n))) ^^ decide (j = n)) := by
 simp only [other,BitVec.getLsbD_xor,BitVec.getLsbD_or,BitVec.getLsbD_and,j61 n j hn hj]
theorem j174 (b : Cube) (more : BitVec 128) (n : Nat) (r : Cube) : lessGo b more (n + 1) r = if more.getLsbD n then other r b n :: lessGo b more n (plus r b n) else lessGo b more n r := rfl
theorem z109 {r b : Cube} {n : Nat} (hn : n < 128) (hr : r.sound = true) : (plus r b n).sound = true := by
 refine (j19 _).2 fun i hi hv => ?_
 rw [j45 hn hi] at hv
 rw [j38 hn hi]
 cases h : r.v.getLsbD i
 ·rw [h] at hv;simp at hv;simp [hv.2]
 ·rw [(j19 r).1 hr i hi h];rfl
theorem q175 {r b : Cube} {n : Nat} (hn : n < 128) (hr : r.sound = true) : (other r b n).sound = true := by
 refine (j19 _).2 fun i hi hv => ?_
 rw [z62 hn hi] at hv
 rw [q62 hn hi]
 by_cases h : i = n
 ·simp [h]
 ·simp only [h,decide_false,Bool.and_false,Bool.or_false,Bool.xor_false] at hv ⊢
  exact (j19 r).1 hr i hi hv
theorem z175 (a b : Cube) (j : Nat) (hj : j < 128) (h : (b.c &&& ~~~a.c).getLsbD j = true) : a.c.getLsbD j = false := by
 rw [BitVec.getLsbD_and,BitVec.getLsbD_not,decide_eq_true hj,Bool.true_and] at h
 cases hc : a.c.getLsbD j
 ·rfl
 ·rw [hc] at h;simp at h
theorem x109 {a b : Cube} (ha : a.sound = true) (hb : b.sound = true) : withinC a b = true ↔ ∀ i,i < 128 → b.c.getLsbD i = true → a.c.getLsbD i = true ∧ a.v.getLsbD i = b.v.getLsbD i := by
 rw [← j162];unfold withinC withinT;rw [ha,hb];rfl
theorem x25 {k : Cube} (hk : k.sound = true) (h : BitVec 128) : hasC k h = true ↔ ∀ i,i < 128 → k.c.getLsbD i = true → h.getLsbD i = k.v.getLsbD i := by
 unfold hasC
 rw [hk,Bool.true_and,beq_iff_eq]
 constructor
 ·intro e i hi hc
  have := congrArg (fun z => z.getLsbD i) e
  simpa [hc] using this
 ·intro e
  apply BitVec.eq_of_getLsbD_eq
  intro i hi
  rw [BitVec.getLsbD_and]
  cases hc : k.c.getLsbD i
  ·cases hv : k.v.getLsbD i
   ·simp
   ·rw [(j19 k).1 hk i hi hv] at hc;cases hc
  ·rw [e i hi hc,Bool.and_true]
theorem q39 {x y : Bool} (h : x = true ↔ y = true) : x = y := by cases x <;> cases y <;> simp at h <;> rfl
theorem x175 {r b : Cube} {n : Nat} (hn : n < 128) (hr : r.sound = true) (hc : r.c.getLsbD n = false) (h : BitVec 128) : hasC (plus r b n) h = (hasC r h && (h.getLsbD n == b.v.getLsbD n)) := by
 have hv : r.v.getLsbD n = false := by
  cases hv : r.v.getLsbD n
  ·rfl
  ·rw [(j19 r).1 hr n hn hv] at hc;cases hc
 apply q39
 rw [Bool.and_eq_true,x25 (z109 hn hr),x25 hr,beq_iff_eq]
 constructor
 ·intro e
  refine ⟨fun i hi hci => ?_,?_⟩
  ·have hne : i ≠ n := fun e => by subst e;rw [hc] at hci;cases hci
   rw [e i hi (by rw [j38 hn hi,hci];rfl),j45 hn hi]
   simp [hne]
  ·rw [e n hn (by rw [j38 hn hn];simp),j45 hn hn,hv];simp
 ·rintro ⟨e1,e2⟩ i hi hci
  rw [j45 hn hi]
  by_cases hne : i = n
  ·subst hne;rw [hv];simpa using e2
  ·rw [j38 hn hi] at hci
   simp only [hne,decide_false,Bool.or_false] at hci
   rw [e1 i hi hci];simp [hne]
theorem j175 {r b : Cube} {n : Nat} (hn : n < 128) (hr : r.sound = true) (hc : r.c.getLsbD n = false) (h : BitVec 128) : hasC (other r b n) h = (hasC r h && !(h.getLsbD n == b.v.getLsbD n)) := by
 have hv : r.v.getLsbD n = false := by
  cases hv : r.v.getLsbD n
  ·rfl
  ·rw [(j19 r).1 hr n hn hv] at hc;cases hc
 apply q39
 rw [Bool.and_eq_true,x25 (q175 hn hr),x25 hr]
 constructor
 ·intro e
  refine ⟨fun i hi hci => ?_,?_⟩
  ·have hne : i ≠ n := fun e => by subst e;rw [hc] at hci;cases hci
   rw [e i hi (by rw [q62 hn hi,hci];rfl),z62 hn hi]
   simp [hne]
  ·rw [e n hn (by rw [q62 hn hn];simp),z62 hn hn,hv];cases b.v.getLsbD n <;> simp
 ·rintro ⟨e1,e2⟩ i hi hci
  rw [z62 hn hi]
  by_cases hne : i = n
  ·subst hne;rw [hv];revert e2;cases h.getLsbD i <;> cases b.v.getLsbD i <;> simp
  ·rw [q62 hn hi] at hci
   simp only [hne,decide_false,Bool.or_false] at hci
   rw [e1 i hi hci];simp [hne]
def lessEnd (b : Cube) (more : BitVec 128) : Nat → Cube → Cube
 | 0,r => r
 | n + 1,r => if more.getLsbD n then lessEnd b more n (plus r b n) else lessEnd b more n r
theorem x62 (b : Cube) (more : BitVec 128) : ∀ (n : Nat) (r : Cube),n ≤ 128 → ∀ j,j < 128 → (lessEnd b more n r).c.getLsbD j = (r.c.getLsbD j || (more.getLsbD j && decide (j < n))) ∧ (lessEnd b more n r).v.getLsbD j = (r.v.getLsbD j || (b.v.getLsbD j && (more.getLsbD j && decide (j < n))))
 | 0,r,_,j,hj => by simp [lessEnd]
 |n + 1,r,hn,j,hj => by
  unfold lessEnd
  split
  ·rename_i hm
   obtain ⟨h1,h2⟩ := x62 b more n (plus r b n) (by omega) j hj
   rw [h1,h2,j38 (by omega) hj,j45 (by omega) hj]
   by_cases e : j = n
   ·subst e;simp [hm]
   ·have : decide (j < n + 1) = decide (j < n) := decide_eq_decide.2 (by omega)
    rw [this];simp [e]
  ·rename_i hm
   obtain ⟨h1,h2⟩ := x62 b more n r (by omega) j hj
   rw [h1,h2]
   by_cases e : j = n
   ·subst e;simp [hm]
   ·have : decide (j < n + 1) = decide (j < n) := decide_eq_decide.2 (by omega)
    rw [this];simp
theorem j109 {x y : Cube} (hc : ∀ j,j < 128 → x.c.getLsbD j = y.c.getLsbD j) (hv : ∀ j,j < 128 → x.v.getLsbD j = y.v.getLsbD j) : x = y := by
 obtain ⟨a,b⟩ := x
 obtain ⟨c,d⟩ := y
 have h1 : a = c := BitVec.eq_of_getLsbD_eq hv
 have h2 : b = d := BitVec.eq_of_getLsbD_eq hc
 rw [h1,h2]
theorem q176 {a b : Cube} (h : meetO a b = true) : lessEnd b (b.c &&& ~~~a.c) 128 a = meetV a b := by
 have hm := h
 unfold meetO at h
 simp only [Bool.and_eq_true] at h
 obtain ⟨⟨ha,hb⟩,hap⟩ := h
 have hap := (q60 a b).1 hap
 have e : meetV a b = ⟨a.v ||| b.v,a.c ||| b.c⟩ := by unfold meetV;rw [hm];rfl
 rw [e]
 refine j109 (fun j hj => ?_) (fun j hj => ?_)
 ·rw [(x62 b _ 128 a (Nat.le_refl _) j hj).1]
  simp only [BitVec.getLsbD_and,BitVec.getLsbD_or,BitVec.getLsbD_not,hj,decide_true,Bool.true_and,Bool.and_true]
  cases a.c.getLsbD j <;> cases b.c.getLsbD j <;> rfl
 ·rw [(x62 b _ 128 a (Nat.le_refl _) j hj).2]
  have h1 := (j19 a).1 ha j hj;have h2 := (j19 b).1 hb j hj;have h3 := hap j hj
  simp only [BitVec.getLsbD_and,BitVec.getLsbD_or,BitVec.getLsbD_not,hj,decide_true,Bool.true_and,Bool.and_true]
  revert h1 h2 h3
  cases a.c.getLsbD j <;> cases b.c.getLsbD j <;> cases a.v.getLsbD j <;> cases b.v.getLsbD j <;> simp
def cnt (x : Bool) : Nat := if x then 1 else 0
theorem x76 (b : Cube) (more : BitVec 128) (h : BitVec 128) : ∀ (n : Nat) (r : Cube),n ≤ 128 → r.sound = true → (∀ j,j < n → more.getLsbD j = true → r.c.getLsbD j = false) →
  (lessGo b more n r).countP (hasC · h) + cnt (hasC (lessEnd b more n r) h) = cnt (hasC r h)
 | 0,r,_,_,_ => by simp [lessGo,lessEnd]
 |n + 1,r,hn,hr,hm => by
  rw [j174]
  unfold lessEnd
  split
  ·rename_i hmn
   have hc := hm n (by omega) hmn
   have ih := x76 b more h n (plus r b n) (by omega) (z109 (by omega) hr) (fun j hj hmj => by rw [j38 (by omega) (by omega),hm j (by omega) hmj];simp;omega)
   rw [List.countP_cons]
   rw [x175 (by omega) hr hc] at ih
   simp only [j175 (show n < 128 by omega) hr hc]
   generalize cnt (hasC (lessEnd b more n (plus r b n)) h) = e at ih ⊢
   generalize List.countP (hasC · h) (lessGo b more n (plus r b n)) = c at ih ⊢
   revert ih
   cases hasC r h <;> cases (h.getLsbD n == b.v.getLsbD n) <;> simp [cnt] <;> omega
  ·exact x76 b more h n r (by omega) hr (fun j hj => hm j (by omega))
theorem z176 {a b : Cube} (ha : a.sound = true) (hb : b.sound = true) (h : BitVec 128) : cnt (meetO a b && hasC (meetV a b) h) + (lessL a b).countP (hasC · h) = cnt (hasC a h) := by
 unfold lessL
 rw [ha,hb]
 cases hm : meetO a b
 ·simp [cnt,List.countP_cons]
 ·have := x76 b (b.c &&& ~~~a.c) h 128 a (Nat.le_refl _) ha (fun j hj hh => z175 a b j hj hh)
  rw [q176 hm] at this
  simp only [Bool.and_self,if_true,Bool.true_and]
  omega
theorem x176 {k : Cube} (hk : k.sound = true) (h : BitVec 128) : hasT k h = hasC k h := by
 have a : k.v &&& k.c = k.v := by
  have := (j19 k).1 hk
  apply BitVec.eq_of_getLsbD_eq
  intro i hlt
  rw [BitVec.getLsbD_and]
  cases hv : k.v.getLsbD i
  ·rfl
  ·rw [this i hlt hv];rfl
 unfold hasT hasC
 rw [hk,a,Bool.true_and]
def leanR : List Cube → List Cube → List Cube
 | _,[] => []
 | pre,x :: s => if x.sound && !(pre.any (withinC x)) && !(s.any fun y => withinC x y && x != y) then x :: leanR (pre ++ [x]) s else leanR (pre ++ [x]) s
theorem q110 (pre s : List Cube) (x : Cube) : leanR pre (x :: s) = if x.sound && !(pre.any (withinC x)) && !(s.any fun y => withinC x y && x != y) then x :: leanR (pre ++ [x]) s else leanR (pre ++ [x]) s := rfl
theorem j176 {α : Type} (l : List α) (z : α) : (List.range l.length).map (fun i => l.getD i z) = l := by
 apply List.ext_getElem
 ·simp
 ·intro i h1 h2
  simp at h1
  simp [h1]
theorem z110 {α : Type} (P : α → Bool) (l : List α) (z : α) : (List.range l.length).any (fun i => P (l.getD i z)) = l.any P := by
 have := congrArg (List.any · P) (j176 l z)
 simp only [List.any_map] at this
 exact this
theorem j76 {α : Type} {p q : α → Bool} {l : List α} (h : ∀ x ∈ l,p x = q x) : l.any p = l.any q := by
 induction l with
 | nil => rfl
 | cons x l ih => rw [List.any_cons,List.any_cons,h x (by simp),ih fun y hy => h y (by simp [hy])]
theorem q177 (pre s : List Cube) (x : Cube) : spareP (pre ++ x :: s) pre.length = (pre.any (withinC x) || (s.any (fun y => withinC x y && x != y)) || !x.sound) := by
 unfold spareP
 have e0 : (pre ++ x :: s).getD pre.length ⟨0,0⟩ = x := by simp
 rw [e0]
 congr 1
 have hl : (pre ++ x :: s).length = pre.length + (1 + s.length) := by simp;omega
 rw [hl,List.range_add,List.any_append,List.range_add,List.map_append,List.any_append,List.any_map,List.any_map,List.any_map]
 have e1 : (List.range pre.length).any (spareBy (pre ++ x :: s) pre.length) = pre.any (withinC x) := by
  rw [← z110 (withinC x) pre ⟨0,0⟩]
  refine j76 fun i hi => ?_
  have hi := List.mem_range.1 hi
  unfold spareBy
  have eg : (pre ++ x :: s).getD i ⟨0,0⟩ = pre.getD i ⟨0,0⟩ := by rw [List.getD_eq_getElem?_getD,List.getD_eq_getElem?_getD,List.getElem?_append_left hi]
  rw [e0,eg]
  have : (i != pre.length) = true := by simp;omega
  rw [this,decide_eq_true hi,Bool.or_true,Bool.and_true,Bool.true_and]
 have e2 : (List.range 1).any (spareBy (pre ++ x :: s) pre.length ∘ fun y => pre.length + y) = false := by
  simp [spareBy,List.range_succ]
 have e3 : (List.range s.length).any ((spareBy (pre ++ x :: s) pre.length ∘ fun y => pre.length + y) ∘ fun y => 1 + y) = s.any (fun y => withinC x y && x != y) := by
  rw [← z110 (fun y => withinC x y && x != y) s ⟨0,0⟩]
  refine j76 fun i hi => ?_
  have hi := List.mem_range.1 hi
  simp only [Function.comp]
  unfold spareBy
  have eg : (pre ++ x :: s).getD (pre.length + (1 + i)) ⟨0,0⟩ = s.getD i ⟨0,0⟩ := by rw [List.getD_eq_getElem?_getD,List.getD_eq_getElem?_getD,List.getElem?_append_right (by omega),show pre.length + (1 + i) - pre.length = i + 1 from by omega,List.getElem?_cons_succ]
  rw [e0,eg]
  have : (pre.length + (1 + i) != pre.length) = true := by simp
  rw [this,decide_eq_false (show ¬ pre.length + (1 + i) < pre.length by omega),Bool.or_false,Bool.true_and]
 rw [e1,e2,e3,Bool.false_or]
theorem z177 (s : List Cube) : ∀ pre,(List.range' pre.length s.length).filterMap (fun n => if spareP (pre ++ s) n then none else some ((pre ++ s).getD n ⟨0,0⟩)) = leanR pre s := by
 induction s with
 | nil => intro pre;rfl
 |cons x s ih =>
  intro pre
  have ih := ih (pre ++ [x])
  have e : pre ++ [x] ++ s = pre ++ x :: s := by simp
  rw [e,show (pre ++ [x]).length = pre.length + 1 from by simp] at ih
  rw [List.length_cons,List.range'_succ,List.filterMap_cons,ih,q177]
  have e0 : (pre ++ x :: s).getD pre.length ⟨0,0⟩ = x := by simp
  rw [q110,e0]
  cases x.sound <;> cases pre.any (withinC x) <;> cases s.any (fun y => withinC x y && x != y) <;> rfl
theorem x177 (l : List Cube) : leanP l = leanR [] l := by
 have := z177 l []
 rw [← this]
 unfold leanP leanTo
 rw [List.range_eq_range']
 rfl
theorem x110 {x y : Cube} (h : withinC x y = true) : y.sound = true := by
 unfold withinC at h
 simp only [Bool.and_eq_true] at h
 exact h.1.1.2
theorem q77 : ∀ (s pre : List Cube),∀ k ∈ leanR pre s,k ∈ s ∧ k.sound = true
 | [],pre,k,h => by simp [leanR] at h
 |x :: s,pre,k,h => by
  rw [q110] at h
  split at h
  ·rename_i hc
   rcases List.mem_cons.1 h with rfl | h
   ·simp only [Bool.and_eq_true] at hc;exact ⟨by simp,hc.1.1⟩
   ·obtain ⟨h1,h2⟩ := q77 s _ k h;exact ⟨by simp [h1],h2⟩
  ·obtain ⟨h1,h2⟩ := q77 s _ k h;exact ⟨by simp [h1],h2⟩
theorem j110 {l : List Cube} {k : Cube} (h : k ∈ leanP l) : k ∈ l ∧ k.sound = true := by
 rw [x177] at h;exact q77 l [] k h
theorem q46 {k : Cube} {h : BitVec 128} (e : hasC k h = true) : k.sound = true := by unfold hasC at e;rw [Bool.and_eq_true] at e;exact e.1
theorem j177 {x y : Cube} {h : BitVec 128} (w : withinC x y = true) (hx : hasC x h = true) : hasC y h = true := by
 have sx := q46 hx
 have sy := x110 w
 refine (x25 sy h).2 fun i hi hc => ?_
 obtain ⟨h1,h2⟩ := (x109 sx sy).1 w i hi hc
 rw [← h2];exact (x25 sx h).1 hx i hi h1
theorem q178 {x y : Cube} (w : withinC x y = true) (hx : x.sound = true) : y.c.toNat ≤ x.c.toNat ∧ (y.c.toNat = x.c.toNat → x = y) := by
 have sy := x110 w
 have wi := (x109 hx sy).1 w
 have e : y.c = y.c &&& x.c := by
  apply BitVec.eq_of_getLsbD_eq
  intro i hi
  rw [BitVec.getLsbD_and]
  cases hc : y.c.getLsbD i
  ·rfl
  ·rw [(wi i hi hc).1];rfl
 refine ⟨?_,fun q => ?_⟩
 ·rw [e,BitVec.toNat_and];exact Nat.and_le_right
 ·have hc : x.c = y.c := (BitVec.eq_of_toNat_eq q).symm
  refine j109 (fun j _ => by rw [hc]) (fun j hj => ?_)
  cases hcj : y.c.getLsbD j
  ·have a := (j19 x).1 hx j hj
   have b := (j19 y).1 sy j hj
   rw [hc,hcj] at a
   rw [hcj] at b
   cases hv : x.v.getLsbD j
   ·cases hv2 : y.v.getLsbD j
    ·rfl
    ·exact absurd (b hv2) (by decide)
   ·exact absurd (a hv) (by decide)
  ·exact (wi j hj hcj).2
theorem q111 {α : Type} (p : α → Bool) (m : α → Nat) (z : α) : ∀ (l : List α),l.any p = true → ∃ n,n < l.length ∧ p (l.getD n z) = true ∧ ∀ i,i < l.length → p (l.getD i z) = true → m (l.getD n z) ≤ m (l.getD i z) ∧ (i < n → m (l.getD n z) < m (l.getD i z))
 | [],h => by simp at h
 |x :: l,h => by
  by_cases hl : l.any p = true
  ·obtain ⟨n,hn,hp,hm⟩ := q111 p m z l hl
   by_cases hx : p x = true ∧ m x ≤ m (l.getD n z)
   ·refine ⟨0,by simp,by simpa using hx.1,fun i hi hpi => ⟨?_,by omega⟩⟩
    cases i with
    | zero => exact Nat.le_refl _
    |succ i =>
     rw [List.getD_cons_succ] at hpi
     rw [List.getD_cons_zero,List.getD_cons_succ]
     exact Nat.le_trans hx.2 (hm i (by simpa using hi) hpi).1
   ·refine ⟨n + 1,by simpa using hn,by simpa using hp,fun i hi hpi => ?_⟩
    rw [List.getD_cons_succ]
    cases i with
    |zero =>
     rw [List.getD_cons_zero] at hpi ⊢
     have : m (l.getD n z) < m x := Nat.lt_of_not_le fun hle => hx ⟨hpi,hle⟩
     exact ⟨Nat.le_of_lt this,fun _ => this⟩
    |succ i =>
     rw [List.getD_cons_succ] at hpi ⊢
     have := hm i (by simpa using hi) hpi
     exact ⟨this.1,fun h => this.2 (by omega)⟩
  ·have hx : p x = true := by simpa [hl] using h
   refine ⟨0,by simp,by simpa using hx,fun i hi hpi => ⟨?_,by omega⟩⟩
   cases i with
   | zero => exact Nat.le_refl _
   |succ i =>
    rw [List.getD_cons_succ] at hpi
    exact absurd (List.any_eq_true.2 ⟨l.getD i z,q23 (by simpa using hi) z,hpi⟩) hl
theorem z178 {l : List Cube} {n : Nat} (hn : n < l.length) (hs : spareP l n = false) : l.getD n ⟨0,0⟩ ∈ leanP l := by
 unfold leanP leanTo
 exact List.mem_filterMap.2 ⟨n,List.mem_range.2 hn,by rw [hs];rfl⟩
theorem z111 (l : List Cube) (h : BitVec 128) : hasP (leanP l) h = hasP l h := by
 apply q39
 unfold hasP
 constructor
 ·intro e
  obtain ⟨k,hk,hh⟩ := List.any_eq_true.1 e
  exact List.any_eq_true.2 ⟨k,(j110 hk).1,hh⟩
 ·intro e
  obtain ⟨n,hn,hp,hm⟩ := q111 (hasC · h) (fun k => k.c.toNat) ⟨0,0⟩ l e
  refine List.any_eq_true.2 ⟨_,z178 hn ?_,hp⟩
  have sx := q46 hp
  cases hs : spareP l n
  ·rfl
  unfold spareP at hs
  rw [sx,Bool.not_true,Bool.or_false] at hs
  obtain ⟨i,hi,hb⟩ := List.any_eq_true.1 hs
  have hi := List.mem_range.1 hi
  unfold spareBy at hb
  simp only [Bool.and_eq_true,Bool.or_eq_true,bne_iff_ne,ne_eq,decide_eq_true_eq] at hb
  obtain ⟨hne,hw,ho⟩ := hb
  have hh := j177 hw hp
  obtain ⟨h1,h2⟩ := q178 hw sx
  obtain ⟨h3,h4⟩ := hm i hi hh
  have q := h2 (by omega)
  rcases ho with ho | ho
  ·exact absurd q ho
  ·have := h4 ho
   rw [q] at this
   omega
theorem z77 (x y : Cube) (h : BitVec 128) : (meetO x y && hasC (meetV x y) h) = (hasC x h && hasC y h) := by
 apply q39
 rw [Bool.and_eq_true,Bool.and_eq_true]
 constructor
 ·rintro ⟨hm,hh⟩
  have hm' := hm
  unfold meetO at hm'
  simp only [Bool.and_eq_true] at hm'
  obtain ⟨⟨sx,sy⟩,ha⟩ := hm'
  have ha := (q60 x y).1 ha
  have sm := q46 hh
  have hh := (x25 sm h).1 hh
  have e : meetV x y = ⟨x.v ||| y.v,x.c ||| y.c⟩ := by unfold meetV;rw [hm];rfl
  rw [e] at hh
  simp only [BitVec.getLsbD_or,Bool.or_eq_true] at hh
  constructor
  ·refine (x25 sx h).2 fun i hi hc => ?_
   rw [hh i hi (.inl hc)]
   cases hy : y.v.getLsbD i
   ·simp
   ·have hcy := (j19 y).1 sy i hi hy
    rw [ha i hi hc hcy,hy];rfl
  ·refine (x25 sy h).2 fun i hi hc => ?_
   rw [hh i hi (.inr hc)]
   cases hx : x.v.getLsbD i
   ·simp
   ·have hcx := (j19 x).1 sx i hi hx
    rw [← ha i hi hcx hc,hx];rfl
 ·rintro ⟨hx,hy⟩
  have sx := q46 hx
  have sy := q46 hy
  have ex := (x25 sx h).1 hx
  have ey := (x25 sy h).1 hy
  have hm : meetO x y = true := by
   unfold meetO
   rw [sx,sy,Bool.true_and,Bool.true_and]
   exact (q60 x y).2 fun i hi h1 h2 => by rw [← ex i hi h1,← ey i hi h2]
  refine ⟨hm,?_⟩
  have e : meetV x y = ⟨x.v ||| y.v,x.c ||| y.c⟩ := by unfold meetV;rw [hm];rfl
  have sm : (meetV x y).sound = true := by
   rw [e]
   refine (j19 _).2 fun i hi hv => ?_
   simp only [BitVec.getLsbD_or,Bool.or_eq_true] at hv ⊢
   rcases hv with hv | hv
   ·exact .inl ((j19 x).1 sx i hi hv)
   ·exact .inr ((j19 y).1 sy i hi hv)
  refine (x25 sm h).2 fun i hi hc => ?_
  rw [e] at hc ⊢
  simp only [BitVec.getLsbD_or,Bool.or_eq_true] at hc ⊢
  have z : ∀ (k : Cube),k.sound = true → k.c.getLsbD i = false → k.v.getLsbD i = false := by
   intro k sk hc
   cases hv : k.v.getLsbD i
   ·rfl
   ·rw [(j19 k).1 sk i hi hv] at hc;cases hc
  cases hcx : x.c.getLsbD i
  ·rw [hcx] at hc
   simp only [Bool.false_eq_true,false_or] at hc
   rw [z x sx hcx,ey i hi hc];simp
  ·cases hcy : y.c.getLsbD i
   ·rw [z y sy hcy,ex i hi hcx];simp
   ·rw [← ex i hi hcx,← ey i hi hcy];simp
theorem x178 (a b : List Cube) (h : BitVec 128) : hasP (meetsP a b) h = (hasP a h && hasP b h) := by
 apply q39
 unfold hasP meetsP meetRow
 rw [Bool.and_eq_true]
 constructor
 ·intro e
  obtain ⟨k,hk,hh⟩ := List.any_eq_true.1 e
  obtain ⟨x,hx,hk⟩ := List.mem_flatMap.1 hk
  obtain ⟨y,hy,hk⟩ := List.mem_filterMap.1 hk
  unfold meetOne at hk
  split at hk
  ·rename_i hm
   have hk := Option.some.inj hk
   have mh := z77 x y h
   rw [hm,hk,hh] at mh
   have mh := mh.symm
   rw [Bool.and_self,Bool.and_eq_true] at mh
   exact ⟨List.any_eq_true.2 ⟨x,hx,mh.1⟩,List.any_eq_true.2 ⟨y,hy,mh.2⟩⟩
  ·cases hk
 ·rintro ⟨e1,e2⟩
  obtain ⟨x,hx,h1⟩ := List.any_eq_true.1 e1
  obtain ⟨y,hy,h2⟩ := List.any_eq_true.1 e2
  have mh := z77 x y h
  rw [h1,h2,Bool.and_self,Bool.and_eq_true] at mh
  refine List.any_eq_true.2 ⟨meetV x y,List.mem_flatMap.2 ⟨x,hx,List.mem_filterMap.2 ⟨y,hy,?_⟩⟩,mh.2⟩
  unfold meetOne;rw [mh.1];rfl
theorem j178 {α : Type} (p : α → Bool) (l : List α) : l.any p = decide (l.countP p ≠ 0) := by
 apply q39
 rw [List.any_eq_true,decide_eq_true_eq,← List.countP_pos_iff]
 omega
theorem q179 {x y : Cube} (hx : x.sound = true) (hy : y.sound = true) (h : BitVec 128) : (lessL x y).any (hasC · h) = (hasC x h && !hasC y h) := by
 have pc := z176 hx hy h
 rw [z77] at pc
 rw [j178]
 generalize (lessL x y).countP (hasC · h) = c at pc ⊢
 revert pc
 cases hasC x h <;> cases hasC y h <;> simp [cnt] <;> omega
theorem z179 {out : List Cube} {y : Cube} (hs : ∀ k ∈ out,k.sound = true) (hy : y.sound = true) (h : BitVec 128) : hasP (lessRest out y) h = (hasP out h && !hasC y h) := by
 unfold hasP lessRest
 rw [List.any_flatMap]
 have : ∀ x ∈ out,((lessL x y).any (hasC · h)) = (hasC x h && !hasC y h) := fun x hx => q179 (hs x hx) hy h
 rw [j76 this]
 induction out with
 | nil => rfl
 |cons x out ih =>
  rw [List.any_cons,List.any_cons,ih (fun k hk => hs k (by simp [hk])) (fun k hk => this k (by simp [hk]))]
  cases hasC x h <;> cases hasC y h <;> simp
theorem x77 (l : List Cube) (h : leanE l = 0) : leanV l = leanP l := by
 unfold leanE at h
 unfold leanV
 split at h
 ·cases h
 ·rename_i h2;rw [if_neg h2]
theorem x179 (l : List Cube) : leanE l = 0 ∨ leanE l = 10 ∧ leanV l = [] := by
 unfold leanE leanV
 split
 ·exact .inr ⟨rfl,rfl⟩
 ·exact .inl rfl
theorem j62 (h : BitVec 128) : ∀ (b out : List Cube),(∀ k ∈ b,k.sound = true) → (∀ k ∈ out,k.sound = true) → (lessP b out).2 = 0 → (hasP (lessP b out).1 h = (hasP out h && !hasP b h) ∧ ∀ k ∈ (lessP b out).1,k.sound = true)
 | [],out,_,hs,_ => by unfold lessP;exact ⟨by simp [hasP],hs⟩
 |y :: r,out,hb,hs,he => by
  unfold lessP at he ⊢
  split
  ·rename_i h0
   rw [if_pos h0] at he
   have sv : ∀ k ∈ leanV (lessRest out y),k.sound = true := by
    rw [x77 _ h0]
    exact fun k hk => (j110 hk).2
   obtain ⟨h1,h2⟩ := j62 h r _ (fun k hk => hb k (by simp [hk])) sv he
   refine ⟨?_,h2⟩
   rw [h1,x77 _ h0,z111,z179 hs (hb y (by simp))]
   unfold hasP
   rw [List.any_cons]
   cases hasC y h <;> simp
  ·rename_i h0
   rw [if_neg h0] at he
   exact absurd he h0
def meetPV (a b : List Cube) : List Cube := if soundP a && soundP b then leanV (meetsP a b) else []
def meetPE (a b : List Cube) : Int := if soundP a && soundP b then leanE (meetsP a b) else 2
theorem z39 : ∀ (b out : List Cube),out.length ≤ 200 → (lessP b out).1.length ≤ 200
 | [],out,h => h
 |y :: r,out,h => by
  unfold lessP
  split
  ·exact z39 r _ (j108 _)
  ·simp
theorem q63 : ∀ (b a : List Cube),(lessP b a).2 = 0 ∨ (lessP b a).2 = 10 ∧ (lessP b a).1 = [] := q109
def woGo (l : List Rule) : List Nat → List Cube → List Cube × Int
 | [],p => (p,0)
 | n :: r,p => if (lessP [(l.getD n r0).mt] p).2 = 0 then woGo l r (lessP [(l.getD n r0).mt] p).1 else ([],(lessP [(l.getD n r0).mt] p).2)
def withoutR (l : List Rule) (ids : List Nat) (p : List Cube) : List Cube × Int := if soundL l then woGo l ids p else ([],2)
theorem x28 {l : List Rule} (h : soundL l = true) {n : Nat} (hn : n < l.length) : (l.getD n r0).mt.sound = true := by
 unfold soundL at h
 rw [List.all_eq_true] at h
 exact h _ (q23 hn r0)
theorem j179 {p : List Cube} {c : Cube} (hp : ∀ k ∈ p,k.sound = true) (hl : p.length ≤ 200) (hc : c.sound = true) : lessPR p [c] = lessP [c] p := by
 unfold lessPR
 have h1 : soundP p = true := by
  unfold soundP;rw [Bool.and_eq_true,List.all_eq_true];exact ⟨by simpa using hl,hp⟩
 have h2 : soundP [c] = true := by unfold soundP;simp [hc]
 rw [h1,h2];rfl
theorem x111 (p : List Cube) (c : Cube) (hp : ∀ k ∈ p,k.sound = true) (hl : p.length ≤ 200) (hc : c.sound = true) : ACalls Tryz.prog 68 [.d (.sl 4 p.length (rowC p)),.d (.sl 4 1 fun i => [cb c].getD i [])]
  (· = [.d (.sl 4 (lessP [c] p).1.length (rowC (lessP [c] p).1)),.d (.v (.int .i64 (lessP [c] p).2))]) := by
 have k := LessP_c p [c] (by omega) (by simp)
 rw [j179 hp hl hc] at k
 refine x37 (.cons (j42 _) (.cons (z37 rfl fun i hi => ?_) .nil)) k
 have : i = 0 := by simp at hi;exact hi
 subst this;rfl
theorem x46 {p : List Cube} {c : Cube} (hp : ∀ k ∈ p,k.sound = true) (hc : c.sound = true) (h : (lessP [c] p).2 = 0) : ∀ k ∈ (lessP [c] p).1,k.sound = true :=
 (j62 0 [c] p (by simp [hc]) hp h).2
def woI (l : List Rule) (ids : List Nat) (R : List Cube × Int) (s : {s : Nat × List Cube // s.1 ≤ ids.length ∧ s.2.length ≤ 200 ∧ (∀ k ∈ s.2,k.sound = true) ∧ woGo l (ids.drop s.1) s.2 = R}) : ASt :=
 ⟨[(16,.p (.d (.v (.int .i64 (s.val.1 : Int))))),(15,.p (.d (.v (.int .i64 (ids.length : Int))))),(14,.p (.d (.sl 1 ids.length (rowI ids)))),(2,.p (.d (.sl 4 s.val.2.length (rowC s.val.2)))),(0,.p (.d (.sl 12 l.length (rowR l))))],[]⟩
set_option maxRecDepth 100000 in
theorem q180 (l : List Rule) (ids : List Nat) (p : List Cube) (hl : l.length ≤ 1099511627776) (hi : ∀ n ∈ ids,n < l.length) (hil : ids.length ≤ 1099511627776) (hp : p.length ≤ 200) (hps : soundL l = true → ∀ k ∈ p,k.sound = true) :
  ACalls Tryz.prog 100 [.d (.sl 12 l.length (rowR l)),.d (.sl 1 ids.length (rowI ids)),.d (.sl 4 p.length (rowC p))] (· = [.d (.sl 4 (withoutR l ids p).1.length (rowC (withoutR l ids p).1)),.d (.v (.int .i64 (withoutR l ids p).2))]) := by
 have ks := x174 l hl
 unfold withoutR
 cases hs : soundL l
 ·rw [hs] at ks
  simp only [Bool.false_eq_true,if_false]
  refine q12 Tryz.func100 rfl (by decide +kernel) (by rw [Tryz.ntmps100];simp) ?_;rw [Tryz.ntmps100];simp only [frOf]
  (repeat (first | apply j0 | refine z7 rfl ?_ | refine x7 rfl ?_ | apply j6 | (refine x5 fun K hK => ?_) | ((first | apply j5 | apply x6 | (refine j4 (hK _ ?_);clear hK K));(first | show AWP _ _ _ _ _ | ((try simp only [z8]);first | show loopQ _ _ _ _ _ _ | show AWP _ _ _ _ _))) | (refine x10 rfl rfl rfl ?_;simp (disch:=omega) only [go_sem,seval,hd,cb,ruleD];(first | refine ⟨_,ks,?_⟩)) | (refine j7 [] rfl ?_;simp (disch:=omega) only [go_sem,seval,hd,cb,ruleD];(repeat refine ⟨by omega,?_⟩))))
  refine q17 6 _ (.p (.d (.sl 4 0 (rowC [])))) rfl (z27 _ _ _ rfl) ?_
  refine j9 ⟨_,?_,rfl⟩;rw [Tryz.results100];simp (disch:=omega) only [ResVars,ResVar,ptrLoc,go_sem,seval,hd,cb,ruleD]
 ·rw [hs] at ks
  simp only [if_true]
  obtain ⟨R,hR⟩ : ∃ R,woGo l ids p = R := ⟨_,rfl⟩
  rw [hR]
  refine q12 Tryz.func100 rfl (by decide +kernel) (by rw [Tryz.ntmps100];simp) ?_;rw [Tryz.ntmps100];simp only [frOf]
  (repeat (first | apply j0 | refine z7 rfl ?_ | refine x7 rfl ?_ | apply j6 | (refine x5 fun K hK => ?_) | ((first | apply j5 | apply x6 | (refine j4 (hK _ ?_);clear hK K));(first | show AWP _ _ _ _ _ | ((try simp only [z8]);first | show loopQ _ _ _ _ _ _ | show AWP _ _ _ _ _))) | (refine x10 rfl rfl rfl ?_;simp (disch:=omega) only [go_sem,seval,hd,cb,ruleD];(first | refine ⟨_,ks,?_⟩)) | (refine j7 [] rfl ?_;simp (disch:=omega) only [go_sem,seval,hd,cb,ruleD];(repeat refine ⟨by omega,?_⟩))))
  refine j13 (woI l ids R) (fun s => ids.length - s.val.1) ⟨(0,p),by simp,hp,hps hs,by rw [List.drop_zero];exact hR⟩ ?_ (fun s => ?_)
  ·unfold woI
   refine Weak.list ?_ ?_;(all_goals simp (disch:=omega) only [AllF,AllL,q11,z11,j10,exists_eq_left',go_sem,seval,hd,cb,ruleD]);(all_goals (repeat' (with_reducible apply And.intro)));(all_goals try (first | exact q8 rfl | (refine x11 ?_;omega) | (refine q8 ?_;simp;done)))
  obtain ⟨⟨i,q⟩,h1,h2,h3,he⟩ := s
  unfold woI
  simp only [] at h1 h2 h3 he
  by_cases hn : i < ids.length
  ·rw [x33 ids i 0 hn] at he
   have r0' := z75 ids i
   have hk := hi _ (q23 hn 0)
   generalize ids.getD i 0 = k at he r0' hk
   have r1 := x21 l k
   have hms := x28 hs hk
   unfold woGo at he
   generalize l.getD k r0 = x at he r1 hms
   have kl := x111 q x.mt h3 h2 hms
   have kk := x46 (p := q) h3 hms
   have kn := z39 [x.mt] q h2
   have ko := q63 [x.mt] q
   generalize lessP [x.mt] q = u at he kl kk kn ko
   obtain ⟨u,e⟩ := u
   simp only [] at he kl kk kn ko
   unfold cb at kl
   rcases ko with rfl | ⟨rfl,rfl⟩
   ·rw [if_pos rfl] at he
    (repeat (first | apply j0 | refine z7 rfl ?_ | refine x7 rfl ?_ | apply j6 | (refine x5 fun K hK => ?_) | ((first | apply j5 | apply x6 | (refine j4 (hK _ ?_);clear hK K));(first | show AWP _ _ _ _ _ | ((try simp only [z8]);first | show loopQ _ _ _ _ _ _ | show AWP _ _ _ _ _))) | (refine x10 rfl rfl rfl ?_;simp (disch:=omega) only [go_sem,seval,hd,cb,ruleD,r0',r1];(first | refine ⟨_,kl,?_⟩)) | (refine j7 [] rfl ?_;simp (disch:=omega) only [go_sem,seval,hd,cb,ruleD,r0',r1];(repeat refine ⟨by omega,?_⟩))))
    refine ⟨⟨(i + 1,u),by simp only [];omega,kn,kk rfl,he⟩,by simp only [];omega,?_⟩
    refine Weak.list ?_ ?_;(all_goals simp (disch:=omega) only [AllF,AllL,q11,z11,j10,exists_eq_left',go_sem,seval,hd,cb,ruleD,r0',r1]);(all_goals (repeat' (with_reducible apply And.intro)));(all_goals try (first | exact q8 rfl | (refine x11 ?_;omega) | (refine q8 ?_;simp;done)))
   ·rw [if_neg (by decide)] at he
    subst he
    (repeat (first | apply j0 | refine z7 rfl ?_ | refine x7 rfl ?_ | apply j6 | (refine x5 fun K hK => ?_) | ((first | apply j5 | apply x6 | (refine j4 (hK _ ?_);clear hK K));(first | show AWP _ _ _ _ _ | ((try simp only [z8]);first | show loopQ _ _ _ _ _ _ | show AWP _ _ _ _ _))) | (refine x10 rfl rfl rfl ?_;simp (disch:=omega) only [go_sem,seval,hd,cb,ruleD,r0',r1];(first | refine ⟨_,kl,?_⟩)) | (refine j7 [] rfl ?_;simp (disch:=omega) only [go_sem,seval,hd,cb,ruleD,r0',r1];(repeat refine ⟨by omega,?_⟩))))
    refine q17 6 _ (.p (.d (.sl 4 0 (rowC [])))) rfl (z27 _ _ _ rfl) ?_
    refine j9 ⟨_,?_,rfl⟩;rw [Tryz.results100];simp (disch:=omega) only [ResVars,ResVar,ptrLoc,go_sem,seval,hd,cb,ruleD,r0',r1]
  ·have : i = ids.length := by omega
   subst this
   rw [List.drop_length] at he
   unfold woGo at he
   subst he
   (repeat (first | apply j0 | refine z7 rfl ?_ | refine x7 rfl ?_ | apply j6 | (refine x5 fun K hK => ?_) | ((first | apply j5 | apply x6 | (refine j4 (hK _ ?_);clear hK K));(first | show AWP _ _ _ _ _ | ((try simp only [z8]);first | show loopQ _ _ _ _ _ _ | show AWP _ _ _ _ _))) | (refine j7 [] rfl ?_;simp (disch:=omega) only [go_sem,seval,hd,cb,ruleD];(repeat refine ⟨by omega,?_⟩))))
   refine j9 ⟨_,?_,rfl⟩;rw [Tryz.results100];simp (disch:=omega) only [ResVars,ResVar,ptrLoc,go_sem,seval,hd,cb,ruleD]
theorem z180 (o : List Nat) (n : Nat) (hn : n ∈ o) (hl : o.length ≤ 1099511627776) : ACalls Tryz.prog 101 [.d (.sl 1 o.length (rowI o)),.d (.v (.int .i64 (n : Int)))] (· = [.d (.v (.int .i64 (o.idxOf n : Int)))]) := by
 have hlt := List.idxOf_lt_length_of_mem hn
 have hge := List.getElem_idxOf hlt
 have hno : ∀ i,i < o.idxOf n → o.getD i 0 ≠ n := fun i hi e => by
  rw [List.getD_eq_getElem?_getD,List.getElem?_eq_getElem (by omega)] at e
  have h2 := List.not_of_lt_findIdx (p := (· == n)) hi
  simp at e h2
  exact h2 e
 generalize o.idxOf n = k at *
 refine q12 Tryz.func101 rfl (by decide +kernel) (by rw [Tryz.ntmps101];simp) ?_;rw [Tryz.ntmps101];simp only [frOf]
 (repeat (first | apply j0 | refine z7 rfl ?_ | refine x7 rfl ?_ | apply j6 | (refine x5 fun K hK => ?_) | ((first | apply j5 | apply x6 | (refine j4 (hK _ ?_);clear hK K));(first | show AWP _ _ _ _ _ | ((try simp only [z8]);first | show loopQ _ _ _ _ _ _ | show AWP _ _ _ _ _))) | (refine j7 [] rfl ?_;simp (disch:=omega) only [go_sem,seval,hd,cb,ruleD];(repeat refine ⟨by omega,?_⟩))))
 refine j13 (fun i : {i : Nat // i ≤ k} => ⟨[(8,.p (.d (.v (.int .i64 (i.val : Int))))),(7,.p (.d (.v (.int .i64 (o.length : Int))))),(1,.p (.d (.v (.int .i64 (n : Int))))),(0,.p (.d (.sl 1 o.length (rowI o))))],[]⟩) (fun i => k - i.val) ⟨0,by omega⟩ ?_ (fun s => ?_)
 ·refine Weak.list ?_ ?_;(all_goals simp (disch:=omega) only [AllF,AllL,q11,z11,j10,exists_eq_left',go_sem,seval,hd,cb,ruleD]);(all_goals (repeat' (with_reducible apply And.intro)));(all_goals try (first | exact q8 rfl | (refine x11 ?_;omega) | (refine q8 ?_;simp;done)))
 obtain ⟨i,hi⟩ := s
 have r1 := z75 o i
 simp only []
 by_cases h : i < k
 ·have hne := hno i h
  generalize o.getD i 0 = m at r1 hne
  have q : ((n : Int) == (m : Int)) = false := z14 (by omega)
  (repeat (first | apply j0 | refine z7 rfl ?_ | refine x7 rfl ?_ | apply j6 | (refine x5 fun K hK => ?_) | ((first | apply j5 | apply x6 | (refine j4 (hK _ ?_);clear hK K));(first | show AWP _ _ _ _ _ | ((try simp only [z8]);first | show loopQ _ _ _ _ _ _ | show AWP _ _ _ _ _))) | (refine j7 [] rfl ?_;simp (disch:=omega) only [go_sem,seval,hd,cb,ruleD,r1,q];(repeat refine ⟨by omega,?_⟩))))
  refine ⟨⟨i + 1,by omega⟩,by simp only [];omega,?_⟩
  refine Weak.list ?_ ?_;(all_goals simp (disch:=omega) only [AllF,AllL,q11,z11,j10,exists_eq_left',go_sem,seval,hd,cb,ruleD,r1,q]);(all_goals (repeat' (with_reducible apply And.intro)));(all_goals try (first | exact q8 rfl | (refine x11 ?_;omega) | (refine q8 ?_;simp;done)))
 ·have : i = k := by omega
  subst this
  rw [List.getD_eq_getElem?_getD,List.getElem?_eq_getElem hlt,Option.getD_some,hge] at r1
  have q : ((n : Int) == (n : Int)) = true := j14 rfl
  (repeat (first | apply j0 | refine z7 rfl ?_ | refine x7 rfl ?_ | apply j6 | (refine x5 fun K hK => ?_) | ((first | apply j5 | apply x6 | (refine j4 (hK _ ?_);clear hK K));(first | show AWP _ _ _ _ _ | ((try simp only [z8]);first | show loopQ _ _ _ _ _ _ | show AWP _ _ _ _ _))) | (refine j7 [] rfl ?_;simp (disch:=omega) only [go_sem,seval,hd,cb,ruleD,r1,q];(repeat refine ⟨by omega,?_⟩))))
  refine j9 ⟨_,?_,rfl⟩;rw [Tryz.results101];simp (disch:=omega) only [ResVars,ResVar,ptrLoc,go_sem,seval,hd,cb,ruleD,r1,q]
def seenR (l : List Rule) (n : Nat) : List Cube × Int := withoutR l ((orderR l).take ((orderR l).idxOf n)) [(l.getD n r0).mt]
theorem x180 (o : List Nat) (k i : Nat) (hi : i < k) : rowI o i = rowI (o.take k) i := by
 unfold rowI
 rw [List.getD_eq_getElem?_getD,List.getD_eq_getElem?_getD,List.getElem?_take_of_lt hi]
theorem j111 (c : Cube) (i : Nat) (hi : i < 1) : (fun i => [cb c].getD i []) i = rowC [c] i := by
 have : i = 0 := by omega
 subst this;rfl
theorem j180 (l : List Rule) (n : Nat) (hl : l.length ≤ 1099511627776) (hn : n < l.length) :
  ACalls Tryz.prog 100 [.d (.sl 12 l.length (rowR l)),.d (.sl 1 ((orderR l).idxOf n) (rowI (orderR l))),.d (.sl 4 1 fun i => [cb (l.getD n r0).mt].getD i [])] (· = [.d (.sl 4 (seenR l n).1.length (rowC (seenR l n).1)),.d (.v (.int .i64 (seenR l n).2))]) := by
 have hk : (orderR l).idxOf n ≤ (orderR l).length := List.idxOf_le_length
 have e : ((orderR l).take ((orderR l).idxOf n)).length = (orderR l).idxOf n := by rw [List.length_take];exact Nat.min_eq_left hk
 have k := q180 l ((orderR l).take ((orderR l).idxOf n)) [(l.getD n r0).mt] hl (fun n hn => x34 (List.mem_of_mem_take hn)) (by rw [e];rw [z30] at hk;omega) (by simp) (fun hs k hk => by simp at hk;subst hk;exact x28 hs hn)
 rw [e] at k
 exact x37 (.cons (j42 _) (.cons (z37 rfl fun i hi => x180 _ _ i hi) (.cons (z37 rfl fun i hi => j111 _ i hi) .nil))) k
set_option maxRecDepth 100000 in
theorem Seen_c (l : List Rule) (n : Nat) (hl : l.length ≤ 1099511627776) (hn : n < l.length) :
  ACalls Tryz.prog 65 [.d (.sl 12 l.length (rowR l)),.d (.v (.int .i64 (n : Int)))] (· = [.d (.sl 4 (seenR l n).1.length (rowC (seenR l n).1)),.d (.v (.int .i64 (seenR l n).2))]) := by
 have k1 := Look_c l hl
 have k2 := z180 (orderR l) n (z25.2 hn) (by rw [z30];omega)
 rw [z30] at k2
 have k3 := j180 l n hl hn
 have hk : (orderR l).idxOf n ≤ l.length := by have := List.idxOf_le_length (l := orderR l) (a := n);rw [z30] at this;exact this
 have r1 := x21 l n
 generalize l.getD n r0 = x at r1 k3
 generalize seenR l n = R at k3 ⊢
 generalize (orderR l).idxOf n = m at *
 unfold cb at k3
 refine q12 Tryz.func65 rfl (by decide +kernel) (by rw [Tryz.ntmps65];simp) ?_;rw [Tryz.ntmps65];simp only [frOf]
 (repeat (first | apply j0 | refine z7 rfl ?_ | refine x7 rfl ?_ | apply j6 | (refine x5 fun K hK => ?_) | (refine x8 fun K hK => ?_) | ((first | apply j5 | apply x6 | ((first | refine j4 (hK _ ?_) | refine q9 (hK _ _ j8 ?_));clear hK K));show AWP _ _ _ _ _) | ((first | refine x10 rfl rfl rfl ?_ | refine q13 rfl rfl rfl ?_);simp (disch:=omega) only [go_sem,seval,hd,cb,ruleD,r1];(first | refine ⟨_,k1,?_⟩ | refine ⟨_,k2,?_⟩ | refine ⟨_,k3,?_⟩)) | ((first | refine j7 [] rfl ?_ | refine q10 [] rfl ?_);simp (disch:=omega) only [go_sem,seval,hd,cb,ruleD,r1];(repeat (first | refine ⟨by omega,?_⟩ | refine ⟨True.intro,?_⟩)))))
 refine j9 ⟨_,?_,rfl⟩;rw [Tryz.results65];simp (disch:=omega) only [ResVars,ResVar,ptrLoc,go_sem,seval,hd,cb,ruleD,r1]
def bestH (l : List Rule) (h : BitVec 128) (i : Nat) : Option Nat := bestTo (fun i => !hasC (l.getD i r0).mt h) (fun i => l.getD i r0) i
def rfI (l : List Rule) (h : BitVec 128) (i : {i : Nat // i ≤ l.length}) : ASt :=
 ⟨[(7,.p (.d (.v (.int .i64 (i.val : Int))))),(6,.p (.d (.v (.int .i64 (bestI (bestH l h i.val)))))),(3,.p (.d (.bx (hd h)))),(0,.p (.d (.sl 12 l.length (rowR l))))],[]⟩
theorem q112 {l : List Rule} {h : BitVec 128} {i b : Nat} (e : bestH l h i = some b) : b < i := by
 have sp := z38 (fun i => !hasC (l.getD i r0).mt h) (fun i => l.getD i r0) i
 unfold bestH at e
 rw [e] at sp
 exact sp.1
theorem q181 (l : List Rule) (h : BitVec 128) (i : Nat) : bestH l h (i + 1) = match bestH l h i with
  | none => if hasC (l.getD i r0).mt h then some i else none
  | some b => if hasC (l.getD i r0).mt h then (if (l.getD b r0).pr < (l.getD i r0).pr then some i else some b) else some b := by
 unfold bestH
 rw [x166]
 cases bestTo (fun i => !hasC (l.getD i r0).mt h) (fun i => l.getD i r0) i <;> cases hasC (l.getD i r0).mt h <;> rfl
set_option maxRecDepth 100000 in
theorem z181 (l : List Rule) (h : BitVec 128) (hl : l.length ≤ 1099511627776) : ACalls Tryz.prog 33 [.d (.sl 12 l.length (rowR l)),.agg (hd h)]
  (· = [.d (.v (.int .i64 (((bestH l h l.length).getD 0 : Nat) : Int))),.d (.v (.bool (bestH l h l.length).isSome))]) := by
 refine q12 Tryz.func33 rfl (by decide +kernel) (by rw [Tryz.ntmps33];simp) ?_;rw [Tryz.ntmps33];simp only [frOf]
 (repeat (first | apply j0 | refine z7 rfl ?_ | refine x7 rfl ?_ | apply j6 | (refine x5 fun K hK => ?_) | (refine x8 fun K hK => ?_) | ((first | apply j5 | apply x6 | ((first | refine j4 (hK _ ?_) | refine q9 (hK _ _ j8 ?_));clear hK K));(first | show AWP _ _ _ _ _ | ((try simp only [z8]);first | show loopQ _ _ _ _ _ _ | show cutQ _ _ _ _ | show AWP _ _ _ _ _))) | ((first | refine j7 [] rfl ?_ | refine q10 [] rfl ?_);simp (disch:=omega) only [go_sem,seval,hd,cb,ruleD];(repeat (first | refine ⟨by omega,?_⟩ | refine ⟨True.intro,?_⟩)))))
 refine j13 (rfI l h) (fun s => l.length - s.val) ⟨0,by omega⟩ ?_ (fun s => ?_)
 ·unfold rfI
  refine Weak.list ?_ ?_;(all_goals simp (disch:=omega) only [AllF,AllL,q11,z11,j10,exists_eq_left',go_sem,seval,hd,cb,ruleD]);(all_goals (repeat' (with_reducible apply And.intro)));(all_goals try (first | exact q8 rfl | (refine x11 ?_;omega) | (refine q8 ?_;simp;done)))
 obtain ⟨i,hi⟩ := s
 unfold rfI
 have sc := q181 l h i
 have lt := fun b => @q112 l h i b
 by_cases hn : i < l.length
 ·have r1 := x21 l i
  have lk : ∀ b,rowR l b = ruleD (l.getD b r0) := x21 l
  generalize l.getD i r0 = x at r1 sc
  have tc := z74 x.mt
  unfold cb at tc
  cases hs : x.mt.sound
  ·have hh : hasC x.mt h = false := by unfold hasC;rw [hs];rfl
   rw [hs] at tc
   rw [hh] at sc
   simp only [Bool.false_eq_true,if_false] at tc sc
   have sc' : bestH l h (i + 1) = bestH l h i := by rw [sc];cases bestH l h i <;> rfl
   (repeat (first | apply j0 | refine z7 rfl ?_ | refine x7 rfl ?_ | apply j6 | (refine x5 fun K hK => ?_) | (refine x8 fun K hK => ?_) | ((first | apply j5 | apply x6 | ((first | refine j4 (hK _ ?_) | refine q9 (hK _ _ j8 ?_));clear hK K));(first | show AWP _ _ _ _ _ | ((try simp only [z8]);first | show loopQ _ _ _ _ _ _ | show cutQ _ _ _ _ | show AWP _ _ _ _ _))) | ((first | refine x10 rfl rfl rfl ?_ | refine q13 rfl rfl rfl ?_);simp (disch:=omega) only [go_sem,seval,hd,cb,ruleD,r1];(first | refine ⟨_,tc,?_⟩)) | ((first | refine j7 [] rfl ?_ | refine q10 [] rfl ?_);simp (disch:=omega) only [go_sem,seval,hd,cb,ruleD,r1];(repeat (first | refine ⟨by omega,?_⟩ | refine ⟨True.intro,?_⟩)))))
   refine ⟨⟨i + 1,by omega⟩,by simp only [];omega,?_⟩
   simp only [sc']
   refine Weak.list ?_ ?_;(all_goals simp (disch:=omega) only [AllF,AllL,q11,z11,j10,exists_eq_left',go_sem,seval,hd,cb,ruleD,r1]);(all_goals (repeat' (with_reducible apply And.intro)));(all_goals try (first | exact q8 rfl | (refine x11 ?_;omega) | (refine q8 ?_;simp;done)))
  ·rw [hs] at tc
   simp only [if_true] at tc
   have hc := Hast_c x.mt h
   rw [x176 hs] at hc
   cases hh : hasC x.mt h
   ·rw [hh] at sc hc
    simp only [Bool.false_eq_true,if_false] at sc
    have sc' : bestH l h (i + 1) = bestH l h i := by rw [sc];cases bestH l h i <;> rfl
    generalize txt x.mt = tx at tc hc
    (repeat (first | apply j0 | refine z7 rfl ?_ | refine x7 rfl ?_ | apply j6 | (refine x5 fun K hK => ?_) | (refine x8 fun K hK => ?_) | ((first | apply j5 | apply x6 | ((first | refine j4 (hK _ ?_) | refine q9 (hK _ _ j8 ?_));clear hK K));(first | show AWP _ _ _ _ _ | ((try simp only [z8]);first | show loopQ _ _ _ _ _ _ | show cutQ _ _ _ _ | show AWP _ _ _ _ _))) | ((first | refine x10 rfl rfl rfl ?_ | refine q13 rfl rfl rfl ?_);simp (disch:=omega) only [go_sem,seval,hd,cb,ruleD,r1];(first | refine ⟨_,tc,?_⟩ | refine ⟨_,hc,?_⟩)) | ((first | refine j7 [] rfl ?_ | refine q10 [] rfl ?_);simp (disch:=omega) only [go_sem,seval,hd,cb,ruleD,r1];(repeat (first | refine ⟨by omega,?_⟩ | refine ⟨True.intro,?_⟩)))))
    refine ⟨⟨i + 1,by omega⟩,by simp only [];omega,?_⟩
    simp only [sc']
    refine Weak.list ?_ ?_;(all_goals simp (disch:=omega) only [AllF,AllL,q11,z11,j10,exists_eq_left',go_sem,seval,hd,cb,ruleD,r1]);(all_goals (repeat' (with_reducible apply And.intro)));(all_goals try (first | exact q8 rfl | (refine x11 ?_;omega) | (refine q8 ?_;simp;done)))
   ·rw [hh] at sc hc
    simp only [if_true] at sc
    generalize txt x.mt = tx at tc hc
    cases hb : bestH l h i with
    |none =>
     rw [hb] at sc
     simp only [] at sc
     (repeat (first | apply j0 | refine z7 rfl ?_ | refine x7 rfl ?_ | apply j6 | (refine x5 fun K hK => ?_) | (refine x8 fun K hK => ?_) | ((first | apply j5 | apply x6 | ((first | refine j4 (hK _ ?_) | refine q9 (hK _ _ j8 ?_));clear hK K));(first | show AWP _ _ _ _ _ | ((try simp only [z8]);first | show loopQ _ _ _ _ _ _ | show cutQ _ _ _ _ | show AWP _ _ _ _ _))) | ((first | refine x10 rfl rfl rfl ?_ | refine q13 rfl rfl rfl ?_);simp (disch:=omega) only [go_sem,seval,hd,cb,ruleD,r1,bestI];(first | refine ⟨_,tc,?_⟩ | refine ⟨_,hc,?_⟩)) | ((first | refine j7 [] rfl ?_ | refine q10 [] rfl ?_);simp (disch:=omega) only [go_sem,seval,hd,cb,ruleD,r1,bestI];(repeat (first | refine ⟨by omega,?_⟩ | refine ⟨True.intro,?_⟩)))))
     refine ⟨⟨i + 1,by omega⟩,by simp only [];omega,?_⟩
     simp only [sc]
     refine Weak.list ?_ ?_;(all_goals simp (disch:=omega) only [AllF,AllL,q11,z11,j10,exists_eq_left',go_sem,seval,hd,cb,ruleD,r1,bestI]);(all_goals (repeat' (with_reducible apply And.intro)));(all_goals try (first | exact q8 rfl | (refine x11 ?_;omega) | (refine q8 ?_;simp;done)))
    |some b =>
     have hlt := lt b hb
     rw [hb] at sc
     simp only [] at sc
     have r2 := lk b
     generalize l.getD b r0 = y at r2 sc
     by_cases hp : y.pr < x.pr
     ·rw [if_pos hp] at sc
      (repeat (first | apply j0 | refine z7 rfl ?_ | refine x7 rfl ?_ | apply j6 | (refine x5 fun K hK => ?_) | (refine x8 fun K hK => ?_) | ((first | apply j5 | apply x6 | ((first | refine j4 (hK _ ?_) | refine q9 (hK _ _ j8 ?_));clear hK K));(first | show AWP _ _ _ _ _ | ((try simp only [z8]);first | show loopQ _ _ _ _ _ _ | show cutQ _ _ _ _ | show AWP _ _ _ _ _))) | ((first | refine x10 rfl rfl rfl ?_ | refine q13 rfl rfl rfl ?_);simp (disch:=omega) only [go_sem,seval,hd,cb,ruleD,r1,r2,bestI];(first | refine ⟨_,tc,?_⟩ | refine ⟨_,hc,?_⟩)) | ((first | refine j7 [] rfl ?_ | refine q10 [] rfl ?_);simp (disch:=omega) only [go_sem,seval,hd,cb,ruleD,r1,r2,bestI];(repeat (first | refine ⟨by omega,?_⟩ | refine ⟨True.intro,?_⟩)))))
      refine ⟨⟨i + 1,by omega⟩,by simp only [];omega,?_⟩
      simp only [sc]
      refine Weak.list ?_ ?_;(all_goals simp (disch:=omega) only [AllF,AllL,q11,z11,j10,exists_eq_left',go_sem,seval,hd,cb,ruleD,r1,r2,bestI]);(all_goals (repeat' (with_reducible apply And.intro)));(all_goals try (first | exact q8 rfl | (refine x11 ?_;omega) | (refine q8 ?_;simp;done)))
     ·rw [if_neg hp] at sc
      (repeat (first | apply j0 | refine z7 rfl ?_ | refine x7 rfl ?_ | apply j6 | (refine x5 fun K hK => ?_) | (refine x8 fun K hK => ?_) | ((first | apply j5 | apply x6 | ((first | refine j4 (hK _ ?_) | refine q9 (hK _ _ j8 ?_));clear hK K));(first | show AWP _ _ _ _ _ | ((try simp only [z8]);first | show loopQ _ _ _ _ _ _ | show cutQ _ _ _ _ | show AWP _ _ _ _ _))) | ((first | refine x10 rfl rfl rfl ?_ | refine q13 rfl rfl rfl ?_);simp (disch:=omega) only [go_sem,seval,hd,cb,ruleD,r1,r2,bestI];(first | refine ⟨_,tc,?_⟩ | refine ⟨_,hc,?_⟩)) | ((first | refine j7 [] rfl ?_ | refine q10 [] rfl ?_);simp (disch:=omega) only [go_sem,seval,hd,cb,ruleD,r1,r2,bestI];(repeat (first | refine ⟨by omega,?_⟩ | refine ⟨True.intro,?_⟩)))))
      refine ⟨⟨i + 1,by omega⟩,by simp only [];omega,?_⟩
      simp only [sc]
      refine Weak.list ?_ ?_;(all_goals simp (disch:=omega) only [AllF,AllL,q11,z11,j10,exists_eq_left',go_sem,seval,hd,cb,ruleD,r1,r2,bestI]);(all_goals (repeat' (with_reducible apply And.intro)));(all_goals try (first | exact q8 rfl | (refine x11 ?_;omega) | (refine q8 ?_;simp;done)))
 ·have : i = l.length := by omega
  subst this
  cases hb : bestH l h l.length with
  |none =>
   (repeat (first | apply j0 | refine z7 rfl ?_ | refine x7 rfl ?_ | apply j6 | (refine x5 fun K hK => ?_) | (refine x8 fun K hK => ?_) | ((first | apply j5 | apply x6 | ((first | refine j4 (hK _ ?_) | refine q9 (hK _ _ j8 ?_));clear hK K));(first | show AWP _ _ _ _ _ | ((try simp only [z8]);first | show loopQ _ _ _ _ _ _ | show cutQ _ _ _ _ | show AWP _ _ _ _ _))) | ((first | refine j7 [] rfl ?_ | refine q10 [] rfl ?_);simp (disch:=omega) only [go_sem,seval,hd,cb,ruleD,bestI];(repeat (first | refine ⟨by omega,?_⟩ | refine ⟨True.intro,?_⟩)))))
   refine j9 ⟨_,?_,rfl⟩;rw [Tryz.results33];simp (disch:=omega) only [ResVars,ResVar,ptrLoc,go_sem,seval,hd,cb,ruleD,bestI]
  |some b =>
   have q : decide ((b : Int) < 0) = false := decide_eq_false (by omega)
   (repeat (first | apply j0 | refine z7 rfl ?_ | refine x7 rfl ?_ | apply j6 | (refine x5 fun K hK => ?_) | (refine x8 fun K hK => ?_) | ((first | apply j5 | apply x6 | ((first | refine j4 (hK _ ?_) | refine q9 (hK _ _ j8 ?_));clear hK K));(first | show AWP _ _ _ _ _ | ((try simp only [z8]);first | show loopQ _ _ _ _ _ _ | show cutQ _ _ _ _ | show AWP _ _ _ _ _))) | ((first | refine j7 [] rfl ?_ | refine q10 [] rfl ?_);simp (disch:=omega) only [go_sem,seval,hd,cb,ruleD,bestI];(repeat (first | refine ⟨by omega,?_⟩ | refine ⟨True.intro,?_⟩)))))
   refine j9 ⟨_,?_,rfl⟩;rw [Tryz.results33];simp (disch:=omega) only [ResVars,ResVar,ptrLoc,go_sem,seval,hd,cb,ruleD,bestI]
theorem j77 (l : List Rule) (h : BitVec 128) : findR l h = bestH l h l.length := by
 have sp := z38 (fun i => !hasC (l.getD i r0).mt h) (fun i => l.getD i r0) l.length
 unfold findR bestH
 have go : ∀ o : List Nat,o.Pairwise (ltR l) → (∀ q,q < l.length → hasC (l.getD q r0).mt h = true → q ∈ o) → (∀ q ∈ o,q < l.length) → findO l h o = bestTo (fun i => !hasC (l.getD i r0).mt h) (fun i => l.getD i r0) l.length := by
  intro o
  induction o with
  |nil =>
   intro _ h2 _
   unfold findO
   cases hb : bestTo (fun i => !hasC (l.getD i r0).mt h) (fun i => l.getD i r0) l.length with
   | none => rfl
   |some p =>
    rw [hb] at sp
    have := h2 p sp.1 (by simpa using sp.2.1)
    cases this
  |cons n r ih =>
   intro h1 h2 h3
   obtain ⟨p1,p2⟩ := List.pairwise_cons.1 h1
   unfold findO
   cases hn : hasC (l.getD n r0).mt h
   ·simp only [Bool.false_eq_true,if_false]
    refine ih p2 (fun q hq hq2 => ?_) (fun q hq => h3 q (by simp [hq]))
    rcases List.mem_cons.1 (h2 q hq hq2) with e | e
    ·subst e;rw [hn] at hq2;cases hq2
    ·exact e
   ·simp only [if_true]
    cases hb : bestTo (fun i => !hasC (l.getD i r0).mt h) (fun i => l.getD i r0) l.length with
    |none =>
     rw [hb] at sp
     have := sp n (h3 n (by simp))
     rw [hn] at this;cases this
    |some p =>
     rw [hb] at sp
     obtain ⟨s1,s2,s3⟩ := sp
     have hp : hasC (l.getD p r0).mt h = true := by simpa using s2
     rcases List.mem_cons.1 (h2 p s1 hp) with e | e
     ·rw [e]
     ·have l1 := p1 p e
      have := s3 n (h3 n (by simp)) (by rw [hn];rfl)
      unfold ltR at l1
      omega
 exact go _ (j44 l) (fun q hq _ => z25.2 hq) (fun q hq => x34 hq)
def rsI (l : List Rule) (n : Nat) (i : {i : Nat // i ≤ (orderR l).idxOf n}) : ASt :=
 ⟨[(7,.p (.d (.v (.int .i64 (i.val : Int))))),(6,.p (.d (.sl 1 l.length (rowI (orderR l))))),(1,.p (.d (.v (.int .i64 (n : Int))))),(0,.p (.d (.sl 12 l.length (rowR l))))],[]⟩
end Go.Proofs.YtemcdefpihkfpaaGreat
namespace Go.Proofs.YtemcdefpihkfpaaGreat
open Go Go.Proofs.YtemcdefpihkfpaaGreat.AL
def DLe (x y : Dat) : Prop := ∀ (w : World) (g : Nat → Nat) (v : Value),RelD w g v x → RelD w g v y
inductive DLes : List Dat → List Dat → Prop
 | nil : DLes [] []
 | cons {x y : Dat} {xs ys : List Dat} (h : DLe x y) (t : DLes xs ys) : DLes (x :: xs) (y :: ys)
theorem q78 (x : Dat) : DLe x x := fun _ _ _ h => h
theorem DLes.refl : ∀ xs : List Dat,DLes xs xs
 | [] => .nil
 | x :: xs => .cons (q78 x) (DLes.refl xs)
theorem DLes.of_eq {xs ys : List Dat} (h : xs = ys) : DLes xs ys := h ▸ DLes.refl xs
theorem DLes.length {xs ys : List Dat} (h : DLes xs ys) : xs.length = ys.length := by
 induction h with
 | nil => rfl
 | cons _ _ ih => simp [ih]
theorem DLes.at {xs ys : List Dat} (h : DLes xs ys) : ∀ {j : Nat} {y : Dat},ys[j]? = some y → ∃ x,xs[j]? = some x ∧ DLe x y := by
 induction h with
 | nil => intro j y h;simp at h
 |cons h t ih =>
  intro j y hy
  cases j with
  | zero => simp at hy;subst hy;exact ⟨_,by simp,h⟩
  | succ j => simp at hy;obtain ⟨x,h1,h2⟩ := ih hy;exact ⟨x,by simpa using h1,h2⟩
theorem x39 {sz n n' : Nat} {f f' : Nat → List Dat} (hn : n = n') (hf : ∀ i,i < n → DLes (f i) (f' i)) : DLe (.sl sz n f) (.sl sz n' f') := by
 subst hn
 intro w g v r
 cases r with
 | sl0 a c sz f => exact .sl0 _ _ _ _
 |sl b off n c sz f u h1 h2 h3 h4 h5 =>
  refine .sl b off n c sz f' u h1 (fun i hi => by rw [← (hf i hi).length];exact h2 i hi) h3 h4 (fun i j y hi hy => ?_)
  obtain ⟨x,k1,k2⟩ := (hf i hi).at hy
  exact k2 _ _ _ (h5 i j x hi k1)
theorem j39 {a : Option Addr} {c sz : Nat} {f : Nat → List Dat} : DLe (.v (.slice a 0 c)) (.sl sz 0 f) := by
 intro w g v r
 cases r
 exact .sl0 _ _ _ _
theorem z78 {xs ys : List Dat} (h : DLes xs ys) : PLe (.agg xs) (.agg ys) := by
 intro w g v r
 cases r with
 |agg vs _ h1 h2 =>
  refine .agg vs ys (by rw [h1,h.length]) (fun j v y hv hy => ?_)
  obtain ⟨x,k1,k2⟩ := h.at hy
  exact k2 _ _ _ (h2 j v x hv k1)
theorem x181 {P : Program} {f : FuncId} {xs : List PV} {ds ds' : List Dat} (h : DLes ds ds') (c : ACalls P f xs (· = [.agg ds])) : ACalls P f xs (· = [.agg ds']) := by
 refine q26.2 fun w g vs hz hr => ?_
 have := q26.1 c w g vs hz hr
 unfold CallRes at *
 split at this
 ·refine this.mono fun e w' ⟨v,he,g',rs,h1,h2,h3⟩ => ?_
  subst h2
  exact ⟨v,he,g',_,h1,rfl,z78 h _ _ _ h3⟩
 ·obtain ⟨g',rs,h1,h2,h3⟩ := this
  subst h2
  exact ⟨g',_,h1,rfl,z78 h _ _ _ h3⟩
 ·exact this.elim
end Go.Proofs.YtemcdefpihkfpaaGreat
namespace Go.Proofs.YtemcdefpihkfpaaGreat
open Go.Proofs.YtemcdefpihkfpaaGreat.AL
theorem hd3 : hd 3#128 = [.v (.int .u64 0),.v (.int .u64 3)] := by unfold hd;rw [show hi 3#128 = 0 from by decide,show lo 3#128 = 3 from by decide]
theorem hd2 : hd 2#128 = [.v (.int .u64 0),.v (.int .u64 2)] := by unfold hd;rw [show hi 2#128 = 0 from by decide,show lo 2#128 = 2 from by decide]
theorem z112 {l : List Rule} (hs : soundL l = true) : ∀ (ids : List Nat) (p : List Cube),(∀ n ∈ ids,n < l.length) → (∀ k ∈ p,k.sound = true) → (woGo l ids p).2 = 0 →
  (∀ k ∈ (woGo l ids p).1,k.sound = true) ∧ ∀ h,hasP (woGo l ids p).1 h = (hasP p h && ids.all fun n => !hasC (l.getD n r0).mt h)
 | [],p,_,hp,_ => ⟨hp,fun h => by simp [woGo]⟩
 |n :: r,p,hi,hp,he => by
  have hn := x28 hs (hi n (by simp))
  unfold woGo at he ⊢
  split at he
  ·rename_i h0
   rw [if_pos h0]
   have hh := fun h => j62 h [(l.getD n r0).mt] p (fun k hk => by rw [List.mem_singleton] at hk;subst hk;exact hn) hp h0
   obtain ⟨a1,a2⟩ := z112 hs r _ (fun k hk => hi k (by simp [hk])) (hh 0).2 he
   refine ⟨a1,fun h => ?_⟩
   rw [a2,(hh h).1,List.all_cons]
   unfold hasP
   simp [Bool.and_assoc]
  ·rename_i h0
   exact absurd he h0
theorem j181 {l : List Rule} {ids : List Nat} {p : List Cube} (hi : ∀ n ∈ ids,n < l.length) (hp : soundL l = true → ∀ k ∈ p,k.sound = true) (he : (withoutR l ids p).2 = 0) :
  (∀ k ∈ (withoutR l ids p).1,k.sound = true) ∧ ∀ h,hasP (withoutR l ids p).1 h = (hasP p h && ids.all fun n => !hasC (l.getD n r0).mt h) := by
 unfold withoutR at *
 split at he
 ·rename_i hs
  rw [if_pos hs]
  exact z112 hs ids p hi (hp hs) he
 ·cases he
structure IsBest (l : List Rule) (h : BitVec 128) (p : Nat) : Prop where
 lt : p < l.length
 has : hasC (l.getD p r0).mt h = true
 top : ∀ q,q < l.length → hasC (l.getD q r0).mt h = true → (l.getD q r0).pr ≤ (l.getD p r0).pr ∧ (q < p → (l.getD q r0).pr < (l.getD p r0).pr)
theorem IsBest.uniq {l : List Rule} {h : BitVec 128} {p p' : Nat} (a : IsBest l h p) (b : IsBest l h p') : p = p' := by
 have h1 := a.top p' b.lt b.has
 have h2 := b.top p a.lt a.has
 apply Classical.byContradiction
 intro hne
 rcases Nat.lt_or_gt_of_ne hne with hlt | hlt
 ·have := h2.2 hlt;omega
 ·have := h1.2 hlt;omega
theorem j46 (l : List Rule) (h : BitVec 128) : match findR l h with
  | none => ∀ q,q < l.length → hasC (l.getD q r0).mt h = false
  | some p => IsBest l h p := by
 rw [j77]
 have sp := z38 (fun i => !hasC (l.getD i r0).mt h) (fun i => l.getD i r0) l.length
 unfold bestH
 cases hb : bestTo (fun i => !hasC (l.getD i r0).mt h) (fun i => l.getD i r0) l.length with
 | none => rw [hb] at sp;intro q hq;simpa using sp q hq
 |some p =>
  rw [hb] at sp
  obtain ⟨s1,s2,s3⟩ := sp
  exact ⟨s1,by simpa using s2,fun q hq hq2 => s3 q hq (by rw [hq2];rfl)⟩
theorem x78 {l : List Rule} {h : BitVec 128} {p : Nat} (b : IsBest l h p) : findR l h = some p := by
 have sp := j46 l h
 cases hf : findR l h with
 | none => rw [hf] at sp;have := sp p b.lt;rw [b.has] at this;cases this
 | some q => rw [hf] at sp;rw [IsBest.uniq sp b]
theorem q182 {l : List Rule} {h : BitVec 128} (b : ∀ q,q < l.length → hasC (l.getD q r0).mt h = false) : findR l h = none := by
 have sp := j46 l h
 cases hf : findR l h with
 | none => rfl
 | some q => rw [hf] at sp;have := b q sp.lt;rw [sp.has] at this;cases this
theorem x112 {l : List Rule} {n k : Nat} (hn : n < l.length) : k ∈ (orderR l).take ((orderR l).idxOf n) ↔ k < l.length ∧ ltR l k n := by
 have hnm := z25.2 hn
 have hlt := List.idxOf_lt_length_of_mem hnm
 constructor
 ·intro hk
  have hkl := x34 (List.mem_of_mem_take hk)
  refine ⟨hkl,?_⟩
  obtain ⟨i,hi,e⟩ := List.mem_iff_getElem.1 hk
  rw [List.length_take] at hi
  rw [List.getElem_take] at e
  have := List.pairwise_iff_getElem.1 (j44 l) i _ (by omega) hlt (by omega)
  rw [e,List.getElem_idxOf hlt] at this
  exact this
 ·rintro ⟨h1,h2⟩
  have := (z45 h1 hn).2 h2
  unfold keyO at this
  have hk := List.idxOf_lt_length_of_mem (z25.2 h1)
  refine List.mem_iff_getElem.2 ⟨(orderR l).idxOf k,by rw [List.length_take];omega,?_⟩
  rw [List.getElem_take,List.getElem_idxOf hk]
theorem z182 {l : List Rule} {n : Nat} (hn : n < l.length) (he : (seenR l n).2 = 0) (h : BitVec 128) : hasP (seenR l n).1 h = decide (findR l h = some n) := by
 have hs := (j181 (fun k hk => x34 (List.mem_of_mem_take hk)) (fun hs k hk => by simp at hk;subst hk;exact x28 hs hn) he).2 h
 change hasP (seenR l n).1 h = _ at hs
 rw [hs,Bool.eq_iff_iff,decide_eq_true_iff,Bool.and_eq_true,List.all_eq_true]
 constructor
 ·rintro ⟨h1,h2⟩
  refine x78 ⟨hn,by unfold hasP at h1;simpa using h1,fun q hq hq2 => ?_⟩
  have hno : ¬ ltR l q n := fun hlt => by
   have := h2 q ((x112 hn).2 ⟨hq,hlt⟩)
   rw [hq2] at this;cases this
  unfold ltR at hno
  omega
 ·intro hf
  have sp := j46 l h
  rw [hf] at sp
  refine ⟨by unfold hasP;simpa using sp.has,fun k hk => ?_⟩
  obtain ⟨k1,k2⟩ := (x112 hn).1 hk
  cases hb : hasC (l.getD k r0).mt h with
  | false => rfl
  |true =>
   have := sp.top k k1 hb
   unfold ltR at k2
   omega
def outR (l : List Rule) (n : Nat) : List Rule := l.take n ++ l.drop (n + 1)
def shiftN (n a : Nat) : Nat := if a < n then a else a - 1
theorem j112 {l : List Rule} {n : Nat} (hn : n < l.length) : (outR l n).length + 1 = l.length := by
 unfold outR;rw [List.length_append,List.length_take,List.length_drop];omega
theorem j28 {l : List Rule} {n : Nat} (hn : n < l.length) (k : Nat) : (outR l n).getD k r0 = l.getD (if k < n then k else k + 1) r0 := by
 unfold outR
 rw [List.getD_eq_getElem?_getD,List.getD_eq_getElem?_getD]
 by_cases h : k < n
 ·rw [if_pos h,List.getElem?_append_left (by rw [List.length_take];omega),List.getElem?_take_of_lt h]
 ·rw [if_neg h,List.getElem?_append_right (by rw [List.length_take];omega),List.length_take,List.getElem?_drop]
  congr 2;omega
theorem x182 {l : List Rule} {n : Nat} (hn : n < l.length) {h : BitVec 128} (hne : findR l h ≠ some n) : findR (outR l n) h = (findR l h).map (shiftN n) := by
 have sp := j46 l h
 have ol := j112 hn
 cases hf : findR l h with
 |none =>
  rw [hf] at sp
  refine q182 fun q hq => ?_
  rw [j28 hn]
  exact sp _ (by split <;> omega)
 |some a =>
  rw [hf] at sp hne
  have han : a ≠ n := fun e => hne (by rw [e])
  have sa : (if shiftN n a < n then shiftN n a else shiftN n a + 1) = a := by
   unfold shiftN
   by_cases h1 : a < n
   ·rw [if_pos h1,if_pos h1]
   ·rw [if_neg h1,if_neg (by omega)];omega
  have lt := sp.lt
  refine x78 ⟨by unfold shiftN;split <;> omega,by rw [j28 hn,sa];exact sp.has,fun q hq hq2 => ?_⟩
  rw [j28 hn] at hq2 ⊢
  rw [j28 hn,sa]
  have t := sp.top _ (by split <;> omega) hq2
  refine ⟨t.1,fun hlt => t.2 ?_⟩
  unfold shiftN at hlt
  split at hlt <;> split <;> omega
theorem cmpO_gt {l : List Rule} {a b : Nat} : 0 < cmpO l a b ↔ ltR l b a := by
 unfold cmpO orI cmpI ltR
 generalize (l.getD b r0).pr = x
 generalize (l.getD a r0).pr = y
 by_cases h1 : x < y
 ·rw [if_pos h1,if_neg (by omega)];omega
 ·rw [if_neg h1]
  by_cases h2 : y < x
  ·rw [if_pos h2,if_neg (by omega)];omega
  ·rw [if_neg h2,if_pos rfl]
   by_cases h3 : a < b
   ·rw [if_pos (by omega)];omega
   ·rw [if_neg (by omega)]
    split <;> omega
def behTo (l : List Rule) (n k : Nat) : List Nat := (List.range k).filter fun j => decide (0 < cmpO l j n)
def behR (l : List Rule) (n : Nat) : List Nat := (orderR l).drop ((orderR l).idxOf n + 1)
def nthN (l : List Nat) : Nat → Nat := fun i => l.getD i 0
theorem j182 (l : List Rule) (n k : Nat) : behTo l n (k + 1) = behTo l n k ++ if 0 < cmpO l k n then [k] else [] := by
 unfold behTo
 rw [List.range_succ,List.filter_append]
 congr 1
 by_cases h : 0 < cmpO l k n <;> simp [h]
theorem q183 {l : List Rule} {n k j : Nat} (h : j ∈ behTo l n k) : j < k := by
 unfold behTo at h
 exact List.mem_range.1 (List.mem_filter.1 h).1
theorem q113 (l : List Rule) (n k : Nat) : (behTo l n k).length ≤ k := by
 unfold behTo
 have := List.length_filter_le (fun j => decide (0 < cmpO l j n)) (List.range k)
 rwa [List.length_range] at this
theorem z113 (l : List Rule) (n k : Nat) : (behTo l n k).Nodup := List.Nodup.sublist List.filter_sublist List.nodup_range
theorem x113 (l : List Nat) : seg (nthN l) 0 l.length = l := by
 apply List.ext_getElem
 ·simp [seg]
 ·intro i h1 h2
  simp [seg,nthN,h2]
theorem j113 (l : List Rule) (n : Nat) : Dom (behTo l n l.length).length l.length (nthN (behTo l n l.length)) := by
 refine ⟨fun k hk => ?_,by rw [x113];exact z113 _ _ _⟩
 unfold nthN
 exact q183 (q23 hk 0)
theorem q40 {l : List Rule} {n j : Nat} (hn : n < l.length) : j ∈ behR l n ↔ j < l.length ∧ ltR l n j := by
 have i1 := List.idxOf_lt_length_of_mem (z25.2 hn)
 have e1 := List.getElem_idxOf i1
 unfold behR
 rw [List.mem_drop_iff_getElem]
 constructor
 ·rintro ⟨i,hi,rfl⟩
  refine ⟨x34 (List.getElem_mem _),?_⟩
  have := List.pairwise_iff_getElem.1 (j44 l) _ _ i1 (show (orderR l).idxOf n + 1 + i < (orderR l).length by omega) (by omega)
  rw [e1] at this
  simpa [Nat.add_comm] using this
 ·rintro ⟨hj,hlt⟩
  have i2 := List.idxOf_lt_length_of_mem (z25.2 hj)
  have e2 := List.getElem_idxOf i2
  have : (orderR l).idxOf n < (orderR l).idxOf j := by
   have := (z45 hn hj).2 hlt
   unfold keyO at this;omega
  refine ⟨(orderR l).idxOf j - ((orderR l).idxOf n + 1),by omega,?_⟩
  have e : (orderR l).idxOf n + 1 + ((orderR l).idxOf j - ((orderR l).idxOf n + 1)) = (orderR l).idxOf j := by omega
  simp only [e]
  exact e2
theorem j78 (l : List Rule) (n : Nat) : (behR l n).Pairwise (ltR l) := (j44 l).sublist (List.drop_sublist _ _)
theorem q114 {l : List Rule} {n : Nat} (hn : n < l.length) : (behR l n).Perm (behTo l n l.length) := by
 refine (List.perm_ext_iff_of_nodup ?_ (z113 _ _ _)).2 fun j => ?_
 ·unfold List.Nodup;exact (j78 l n).imp fun {a b} h => fun e => by subst e;exact x75 h
 ·rw [q40 hn]
  unfold behTo
  rw [List.mem_filter,List.mem_range,decide_eq_true_eq,cmpO_gt]
theorem z114 {l : List Rule} {n : Nat} (hn : n < l.length) : (behR l n).length = (behTo l n l.length).length := (q114 hn).length_eq
theorem z183 {l : List Rule} {n : Nat} (hn : n < l.length) {y : Nat → Nat} (hp : PE 0 (behTo l n l.length).length (nthN (behTo l n l.length)) y) (hs : Srt (keyO l) 0 (behTo l n l.length).length y) :
  ∀ i,i < (behR l n).length → y i = (behR l n).getD i 0 := by
 have hl := z114 hn
 have dy := (j113 l n).pe hp (Nat.zero_le _) (Nat.le_refl _)
 have p1 : (seg y 0 (behTo l n l.length).length).Perm (behR l n) := by
  have := hp.perm
  rw [x113] at this
  exact List.Perm.trans (by first | exact this | exact this.symm) (q114 hn).symm
 have s1 : (seg y 0 (behTo l n l.length).length).Pairwise (ltR l) := by
  rw [List.pairwise_iff_getElem]
  intro i j hi hj hij
  have li : i < (behTo l n l.length).length := by simpa [seg] using hi
  have lj : j < (behTo l n l.length).length := by simpa [seg] using hj
  have h1 := hs i j (Nat.zero_le _) hij lj
  have h2 : keyO l (y i) ≠ keyO l (y j) := fun e => by
   have := dy.inj li lj (q45 (dy.lt i li) (dy.lt j lj) e);omega
  have := (z45 (dy.lt i li) (dy.lt j lj)).1 (by omega)
  simpa [seg] using this
 have e := List.Perm.eq_of_pairwise (fun a b _ _ h1 h2 => absurd h2 (z105 h1)) s1 (j78 l n) p1
 intro i hi
 rw [← e]
 have : i < (behTo l n l.length).length := by omega
 simp [seg,this]
end Go.Proofs.YtemcdefpihkfpaaGreat
namespace Go.Proofs.YtemcdefpihkfpaaGreat
open Go Go.Proofs.YtemcdefpihkfpaaGreat.AL
theorem x114 (l : List Rule) (a b : Nat) (ha : a < l.length) (hb : b < l.length) (hl : l.length ≤ 1099511627776) : ACalls Tryz.prog 102 [.d (.sl 12 l.length (rowR l)),.d (.v (.int .i64 (a : Int))),.d (.v (.int .i64 (b : Int)))] (· = [.d (.v (.int .i64 (cmpO l a b)))]) := by
 have r1 := x21 l a
 have r2 := x21 l b
 unfold cmpO
 generalize l.getD a r0 = x at r1
 generalize l.getD b r0 = y at r2
 have k1 := j58 y.pr x.pr
 have k2 := j58 (a : Int) (b : Int)
 generalize cmpI y.pr x.pr = c1 at k1
 generalize cmpI (a : Int) (b : Int) = c2 at k2
 have k3 := OrI_c c1 c2
 refine q12 Tryz.func102 rfl (by decide +kernel) (by rw [Tryz.ntmps102];simp) ?_;rw [Tryz.ntmps102];simp only [frOf]
 (repeat (first | apply j0 | refine z7 rfl ?_ | refine x7 rfl ?_ | apply j6 | (refine x5 fun K hK => ?_) | (refine x8 fun K hK => ?_) | ((first | apply j5 | apply x6 | ((first | refine j4 (hK _ ?_) | refine q9 (hK _ _ j8 ?_));clear hK K));show AWP _ _ _ _ _) | ((first | refine x10 rfl rfl rfl ?_ | refine q13 rfl rfl rfl ?_);simp (disch:=omega) only [go_sem,seval,hd,cb,ruleD,r1,r2];(first | refine ⟨_,k1,?_⟩ | refine ⟨_,k2,?_⟩ | refine ⟨_,k3,?_⟩)) | ((first | refine j7 [] rfl ?_ | refine q10 [] rfl ?_);simp (disch:=omega) only [go_sem,seval,hd,cb,ruleD,r1,r2];(repeat (first | refine ⟨by omega,?_⟩ | refine ⟨True.intro,?_⟩)))))
 refine j9 ⟨_,?_,rfl⟩;rw [Tryz.results102];simp (disch:=omega) only [ResVars,ResVar,ptrLoc,go_sem,seval,hd,cb,ruleD,r1,r2]
theorem cmpN_S (l : List Rule) (hl : l.length ≤ 1099511627776) : CmpN Tryz.prog 102 (.d (.sl 12 l.length (rowR l))) l.length (keyO l) (cmpO l) where
 call p q hp hq := x114 l p q hp hq hl
 lt p q hp hq := cmpO_lt.trans (z45 hp hq).symm
 inj p q hp hq := q45 hp hq
def behI (l : List Rule) (n : Nat) (k : Fin (l.length + 1)) : ASt :=
 ⟨[(9,.p (.d (.v (.int .i64 (k.val : Int))))),(8,.p (.d (.v (.int .i64 (l.length : Int))))),(5,.ow 5 (behTo l n k.val).length 1 (behTo l n k.val).length),(1,.p (.d (.v (.int .i64 (n : Int))))),(0,.p (.d (.sl 12 l.length (rowR l))))],
  [(5,.own 3 1 (behTo l n k.val).length (behTo l n k.val).length (rowN (nthN (behTo l n k.val))))]⟩
theorem x183 (L : List Nat) (j i : Nat) (hi : i < L.length + 1) : catF L.length (rowN (nthN L)) (fun i => [[Dat.v (.int .i64 (j : Int))]].getD i []) i = rowN (nthN (L ++ [j])) i := by
 unfold catF rowN nthN
 split
 ·rename_i h
  rw [List.getD_eq_getElem?_getD,List.getD_eq_getElem?_getD,List.getElem?_append_left h]
 ·have : i = L.length := by omega
  subst this
  rw [Nat.sub_self,List.getD_eq_getElem?_getD (l := L ++ [j]),List.getElem?_append_right (Nat.le_refl _),Nat.sub_self]
  rfl
set_option maxRecDepth 100000 in
theorem j183 (l : List Rule) (n : Nat) (hn : n < l.length) (hl : l.length ≤ 1099511627776) : ACalls Tryz.prog 66 [.d (.sl 12 l.length (rowR l)),.d (.v (.int .i64 (n : Int)))] (· = [.d (.sl 1 (behR l n).length (rowI (behR l n)))]) := by
 have hc := cmpN_S l hl
 refine q12 Tryz.func66 rfl (by decide +kernel) (by rw [Tryz.ntmps66];simp) ?_;rw [Tryz.ntmps66];simp only [frOf]
 (repeat ((fail_if_success (show AWP _ _ (.region 2 _ _) _ _));first | apply j0 | refine z7 rfl ?_ | refine x7 rfl ?_ | apply j6 | (refine x5 fun K hK => ?_) | ((first | apply j5 | apply x6 | (refine j4 (hK _ ?_);clear hK K));(first | show AWP _ _ _ _ _ | ((try simp only [z8]);first | show loopQ _ _ _ _ _ _ | show AWP _ _ _ _ _))) | (refine j7 [] rfl ?_;simp (disch:=omega) only [go_sem,seval,hd,cb,ruleD];(repeat refine ⟨by omega,?_⟩))))
 refine j94 5 5 1 3 (rowN (nthN [])) rfl (by kernel_rfl) rfl ?_
 (repeat (first | apply j0 | refine z7 rfl ?_ | refine x7 rfl ?_ | apply j6 | (refine x5 fun K hK => ?_) | ((first | apply j5 | apply x6 | (refine j4 (hK _ ?_);clear hK K));(first | show AWP _ _ _ _ _ | ((try simp only [z8]);first | show loopQ _ _ _ _ _ _ | show AWP _ _ _ _ _))) | (refine j7 [] rfl ?_;simp (disch:=omega) only [go_sem,seval,hd,cb,ruleD];(repeat refine ⟨by omega,?_⟩))))
 refine j13 (behI l n) (fun s => l.length - s.val) ⟨0,by omega⟩ ?_ (fun s => ?_)
 ·unfold behI
  refine Weak.list ?_ ?_;(all_goals simp (disch:=omega) only [AllF,AllL,q11,z11,j10,exists_eq_left',go_sem,seval,hd,cb,ruleD]);(all_goals (repeat' (with_reducible apply And.intro)));(all_goals try (first | exact q8 rfl | (refine x11 ?_;omega) | (refine q8 ?_;simp;done)))
  exact z20 rfl rfl (fun i hi => absurd hi (Nat.not_lt_zero _))
 obtain ⟨k,hk⟩ := s
 unfold behI
 by_cases h : k < l.length
 ·have kc := x114 l k n h hn hl
  have es := j182 l n k
  have hbl := q113 l n k
  generalize behTo l n k = B at es hbl
  generalize cmpO l k n = c at kc es
  by_cases hcp : 0 < c
  ·rw [if_pos hcp] at es
   have hgt := dgt hcp
   (repeat (first | apply j0 | refine z7 rfl ?_ | refine x7 rfl ?_ | apply j6 | (refine x5 fun K hK => ?_) | ((first | apply j5 | apply x6 | (refine j4 (hK _ ?_);clear hK K));(first | show AWP _ _ _ _ _ | ((try simp only [z8]);first | show loopQ _ _ _ _ _ _ | show AWP _ _ _ _ _))) | (refine x10 rfl rfl rfl ?_;simp (disch:=omega) only [go_sem,seval,hd,cb,ruleD,hgt];(first | refine ⟨_,kc,?_⟩)) | (refine j7 [] rfl ?_;simp (disch:=omega) only [go_sem,seval,hd,cb,ruleD,hgt];(repeat refine ⟨by omega,?_⟩))))
   refine ⟨⟨k + 1,by omega⟩,by simp only [];omega,?_⟩
   simp only [es,List.length_append,List.length_cons,List.length_nil]
   refine Weak.list ?_ ?_;(all_goals simp (disch:=omega) only [AllF,AllL,q11,z11,j10,exists_eq_left',go_sem,seval,hd,cb,ruleD,hgt]);(all_goals (repeat' (with_reducible apply And.intro)));(all_goals try (first | exact q8 rfl | (refine x11 ?_;omega) | (refine q8 ?_;simp;done)))
   ·exact z20 rfl rfl (fun i hi => x183 B k i hi)
  ·rw [if_neg hcp,List.append_nil] at es
   have hgt := dngt hcp
   (repeat (first | apply j0 | refine z7 rfl ?_ | refine x7 rfl ?_ | apply j6 | (refine x5 fun K hK => ?_) | ((first | apply j5 | apply x6 | (refine j4 (hK _ ?_);clear hK K));(first | show AWP _ _ _ _ _ | ((try simp only [z8]);first | show loopQ _ _ _ _ _ _ | show AWP _ _ _ _ _))) | (refine x10 rfl rfl rfl ?_;simp (disch:=omega) only [go_sem,seval,hd,cb,ruleD,hgt];(first | refine ⟨_,kc,?_⟩)) | (refine j7 [] rfl ?_;simp (disch:=omega) only [go_sem,seval,hd,cb,ruleD,hgt];(repeat refine ⟨by omega,?_⟩))))
   refine ⟨⟨k + 1,by omega⟩,by simp only [];omega,?_⟩
   simp only [es]
   refine Weak.list ?_ ?_;(all_goals simp (disch:=omega) only [AllF,AllL,q11,z11,j10,exists_eq_left',go_sem,seval,hd,cb,ruleD,hgt]);(all_goals (repeat' (with_reducible apply And.intro)));(all_goals try (first | exact q8 rfl | (refine x11 ?_;omega) | (refine q8 ?_;simp;done)))
 ·have : k = l.length := by omega
  subst this
  have hbl := q113 l n l.length
  have hrl := z114 hn
  have hb := @z183 l n hn
  have d0 := j113 l n
  have sc := x106 hc (nthN (behTo l n l.length)) (behTo l n l.length).length (behTo l n l.length).length (by omega) d0
  generalize (behTo l n l.length).length = m at *
  generalize nthN (behTo l n l.length) = x0 at *
  (repeat (first | apply j0 | refine z7 rfl ?_ | refine x7 rfl ?_ | apply j6 | (refine x5 fun K hK => ?_) | ((first | apply j5 | apply x6 | (refine j4 (hK _ ?_);clear hK K));(first | show AWP _ _ _ _ _ | ((try simp only [z8]);first | show loopQ _ _ _ _ _ _ | show AWP _ _ _ _ _))) | (refine j7 [] rfl ?_;simp (disch:=omega) only [go_sem,seval,hd,cb,ruleD];(repeat refine ⟨by omega,?_⟩))))
  (refine z18 (x17 [(1000,5)] rfl rfl rfl rfl rfl rfl (sc) (fun _ => rfl) (q15 (by repeat (first | exact trivial | refine ⟨rfl,?_⟩)) (by kernel_rfl)) (fun _ => (q15 (by repeat (first | exact trivial | refine ⟨rfl,?_⟩)) (by kernel_rfl)))) ?_);rintro ⟨y,hy,hy2⟩;simp (disch:=omega) only [go_sem,seval,hd,cb,ruleD]
  (repeat (first | apply j0 | refine z7 rfl ?_ | refine x7 rfl ?_ | apply j6 | (refine x5 fun K hK => ?_) | ((first | apply j5 | apply x6 | (refine j4 (hK _ ?_);clear hK K));(first | show AWP _ _ _ _ _ | ((try simp only [z8]);first | show loopQ _ _ _ _ _ _ | show AWP _ _ _ _ _))) | (refine j7 [] rfl ?_;simp (disch:=omega) only [go_sem,seval,hd,cb,ruleD];(repeat refine ⟨by omega,?_⟩))))
  refine q95 4 5 m 1 m 3 _ rfl rfl ?_
  refine q17 4 _ (.p (.d (.sl 1 (behR l n).length (rowI (behR l n))))) rfl (le_sl hrl.symm fun i hi => ?_) ?_
  ·unfold rowN rowI
   rw [hb hy hy2 i (by omega)]
  refine j9 ⟨_,?_,rfl⟩;rw [Tryz.results66];simp (disch:=omega) only [ResVars,ResVar,ptrLoc,go_sem,seval,hd,cb,ruleD]
def doEq (x y : Rule) : Bool := x.kd == y.kd && (x.pt == y.pt && (x.tb == y.tb && x.st == y.st))
theorem eqI_do (x y : Rule) : eqI [x.kd,x.pt,x.tb,hi x.st.v,lo x.st.v,hi x.st.c,lo x.st.c] [y.kd,y.pt,y.tb,hi y.st.v,lo y.st.v,hi y.st.c,lo y.st.c] = doEq x y := by
 have h := z107 x.st y.st
 unfold doEq
 rw [← h]
 rfl
theorem len0 (l : List Cube) : ((l.length : Int) == 0) = l.isEmpty := by cases l <;> simp;omega
theorem q184 (p : List Cube) (c : Cube) (hp : p.length ≤ 1099511627776) : ACalls Tryz.prog 67 [.d (.sl 4 p.length (rowC p)),.d (.sl 4 1 fun i => [cb c].getD i [])]
  (· = [.d (.sl 4 (meetPV p [c]).length (rowC (meetPV p [c]))),.d (.v (.int .i64 (meetPE p [c])))]) := by
 have k := MeetP_c p [c] hp (by simp)
 exact x37 (.cons (j42 _) (.cons (z37 rfl fun i hi => j111 _ i hi) .nil)) k
theorem j114 {p : List Cube} {c : Cube} (hp : ∀ k ∈ p,k.sound = true) (hl : p.length ≤ 200) (hc : c.sound = true) : meetPE p [c] = 0 ∨ meetPE p [c] = 10 := by
 have h1 : soundP p = true := by
  unfold soundP;rw [Bool.and_eq_true,List.all_eq_true];exact ⟨by simpa using hl,hp⟩
 have h2 : soundP [c] = true := by unfold soundP;simp [hc]
 unfold meetPE
 rw [h1,h2]
 simp only [Bool.and_self,if_true]
 rcases x179 (meetsP p [c]) with h | h
 ·exact .inl h
 ·exact .inr h.1
def spGo (l : List Rule) (n : Nat) : List Nat → List Cube → Bool → Bool × Int
 | [],p,b => (b && p.isEmpty,0)
 | k :: r,p,b => if meetPE p [(l.getD k r0).mt] = 0 then (if (lessP [(l.getD k r0).mt] p).2 = 0 then spGo l n r (lessP [(l.getD k r0).mt] p).1 (b && ((meetPV p [(l.getD k r0).mt]).isEmpty || doEq (l.getD k r0) (l.getD n r0))) else (false,(lessP [(l.getD k r0).mt] p).2)) else (false,meetPE p [(l.getD k r0).mt])
def spareR (l : List Rule) (n : Nat) : Bool × Int := if (seenR l n).2 = 0 then spGo l n (behR l n) (seenR l n).1 true else (false,(seenR l n).2)
theorem wo_ok {l : List Rule} (hs : soundL l = true) : ∀ (ids : List Nat) (p : List Cube),(∀ n ∈ ids,n < l.length) → p.length ≤ 200 → (∀ k ∈ p,k.sound = true) → (woGo l ids p).2 = 0 → (woGo l ids p).1.length ≤ 200 ∧ ∀ k ∈ (woGo l ids p).1,k.sound = true
 | [],p,_,hl,hp,_ => ⟨hl,hp⟩
 |n :: r,p,hi,hl,hp,h => by
  unfold woGo at h ⊢
  split at h
  ·rename_i h0
   rw [if_pos h0]
   exact wo_ok hs r _ (fun k hk => hi k (List.mem_cons_of_mem _ hk)) (z39 _ _ hl) (x46 hp (x28 hs (hi n (List.mem_cons_self ..))) h0) h
  ·rename_i h0;exact absurd h h0
theorem q79 {l : List Rule} {n : Nat} (hn : n < l.length) (h : (seenR l n).2 = 0) : soundL l = true ∧ (seenR l n).1.length ≤ 200 ∧ ∀ k ∈ (seenR l n).1,k.sound = true := by
 unfold seenR withoutR at h ⊢
 split at h
 ·rename_i hs
  rw [if_pos hs]
  have := wo_ok hs ((orderR l).take ((orderR l).idxOf n)) [(l.getD n r0).mt] (fun k hk => x34 (List.mem_of_mem_take hk)) (by simp) (fun k hk => by simp at hk;subst hk;exact x28 hs hn) h
  exact ⟨hs,this⟩
 ·exact absurd h (by decide)
theorem z184 (l : List Rule) (n : Nat) (hn : n < l.length) : (seenR l n).2 = 0 ∨ (seenR l n).2 ≠ 0 ∧ ((seenR l n).2 != 0) = true := by
 by_cases h : (seenR l n).2 = 0
 ·exact .inl h
 ·exact .inr ⟨h,q14 h⟩
def spI (l : List Rule) (n : Nat) (R : Bool × Int) (s : {s : Nat × List Cube × Bool // s.1 ≤ (behR l n).length ∧ s.2.1.length ≤ 200 ∧ (∀ k ∈ s.2.1,k.sound = true) ∧ spGo l n ((behR l n).drop s.1) s.2.1 s.2.2 = R}) : ASt :=
 ⟨[(27,.p (.d (.v (.int .i64 (s.val.1 : Int))))),(26,.p (.d (.v (.int .i64 ((behR l n).length : Int))))),(25,.p (.d (.sl 1 (behR l n).length (rowI (behR l n))))),(8,.p (.d (.v (.bool s.val.2.2)))),(6,.p (.d (.sl 4 s.val.2.1.length (rowC s.val.2.1)))),(1,.p (.d (.v (.int .i64 (n : Int))))),(0,.p (.d (.sl 12 l.length (rowR l))))],[]⟩
set_option maxRecDepth 100000 in
theorem q115 (l : List Rule) (n : Nat) (hn : n < l.length) (hl : l.length ≤ 1099511627776) : ACalls Tryz.prog 28 [.d (.sl 12 l.length (rowR l)),.d (.v (.int .i64 (n : Int)))] (· = [.d (.v (.bool (spareR l n).1)),.d (.v (.int .i64 (spareR l n).2))]) := by
 have ks := Seen_c l n hl hn
 have kb := j183 l n hn hl
 have hbm : ∀ k ∈ behR l n,k < l.length := fun k hk => ((q40 hn).1 hk).1
 have hbl : (behR l n).length ≤ l.length := by
  unfold behR;rw [List.length_drop,z30];omega
 have hok := q79 hn
 obtain ⟨R,hR⟩ : ∃ R,spareR l n = R := ⟨_,rfl⟩
 rw [hR]
 unfold spareR at hR
 rcases z184 l n hn with he | ⟨he,heb⟩
 ·obtain ⟨hs,h200,hps⟩ := hok he
  rw [if_pos he] at hR
  rw [he] at ks
  generalize (seenR l n).1 = p at *
  refine q12 Tryz.func28 rfl (by decide +kernel) (by rw [Tryz.ntmps28];simp) ?_;rw [Tryz.ntmps28];simp only [frOf]
  (repeat (first | apply j0 | refine z7 rfl ?_ | refine x7 rfl ?_ | apply j6 | (refine x5 fun K hK => ?_) | (refine x8 fun K hK => ?_) | ((first | apply j5 | apply x6 | ((first | refine j4 (hK _ ?_) | refine q9 (hK _ _ j8 ?_));clear hK K));(first | show AWP _ _ _ _ _ | ((try simp only [z8]);first | show loopQ _ _ _ _ _ _ | show cutQ _ _ _ _ | show AWP _ _ _ _ _))) | ((first | refine x10 rfl rfl rfl ?_ | refine q13 rfl rfl rfl ?_);simp (disch:=omega) only [go_sem,seval,hd,cb,ruleD,z17];(first | refine ⟨_,ks,?_⟩ | refine ⟨_,kb,?_⟩)) | ((first | refine j7 [] rfl ?_ | refine q10 [] rfl ?_);simp (disch:=omega) only [go_sem,seval,hd,cb,ruleD,z17];(repeat (first | refine ⟨by omega,?_⟩ | refine ⟨True.intro,?_⟩)))))
  refine j13 (spI l n R) (fun s => (behR l n).length - s.val.1) ⟨(0,p,true),by simp,h200,hps,by rw [List.drop_zero];exact hR⟩ ?_ (fun s => ?_)
  ·unfold spI
   refine Weak.list ?_ ?_;(all_goals simp (disch:=omega) only [AllF,AllL,q11,z11,j10,exists_eq_left',go_sem,seval,hd,cb,ruleD,z17]);(all_goals (repeat' (with_reducible apply And.intro)));(all_goals try (first | exact q8 rfl | (refine x11 ?_;omega) | (refine q8 ?_;simp;done)))
  obtain ⟨⟨i,p,b⟩,h1,h2,h3,hG⟩ := s
  unfold spI
  simp only [] at h1 h2 h3 hG
  have rn := x21 l n
  by_cases hi : i < (behR l n).length
  ·rw [x33 (behR l n) i 0 hi] at hG
   have r1 := z75 (behR l n) i
   have hkl := hbm _ (q23 hi 0)
   generalize (behR l n).getD i 0 = k at hG r1 hkl
   have rk := x21 l k
   have hms := x28 hs hkl
   unfold spGo at hG
   generalize l.getD n r0 = z at hG rn
   generalize l.getD k r0 = x at hG rk hms
   have km := q184 p x.mt (by omega)
   have kl := x111 p x.mt h3 h2 hms
   have kk := x46 (p := p) h3 hms
   have kn := z39 [x.mt] p h2
   have ko := q63 [x.mt] p
   have mo := j114 (p := p) h3 h2 hms
   have qd := eqI_do x z
   generalize lessP [x.mt] p = u at hG kl kk kn ko
   obtain ⟨u,e⟩ := u
   generalize meetPV p [x.mt] = m at hG km
   generalize meetPE p [x.mt] = me at hG km mo
   generalize doEq x z = de at hG qd
   simp only [] at hG kl kk kn ko
   have qm := len0 m
   unfold cb at kl km
   rcases mo with rfl | rfl
   ·rw [if_pos rfl] at hG
    generalize m.isEmpty = em at hG qm
    have out : ∀ b',(if e = 0 then spGo l n ((behR l n).drop (i + 1)) u b' else (false,e)) = R → (e = 0 ∧ spGo l n ((behR l n).drop (i + 1)) u b' = R) ∨ (e = 10 ∧ R = (false,10)) := by
     intro b' hb
     rcases ko with rfl | ⟨rfl,_⟩
     ·exact .inl ⟨rfl,by rw [if_pos rfl] at hb;exact hb⟩
     ·exact .inr ⟨rfl,by rw [if_neg (by decide)] at hb;exact hb.symm⟩
    rcases out _ hG with ⟨rfl,hG⟩ | ⟨rfl,rfl⟩
    ·cases b with
     |false =>
      (repeat (first | apply j0 | refine z7 rfl ?_ | refine x7 rfl ?_ | apply j6 | (refine x5 fun K hK => ?_) | (refine x8 fun K hK => ?_) | ((first | apply j5 | apply x6 | ((first | refine j4 (hK _ ?_) | refine q9 (hK _ _ j8 ?_));clear hK K));(first | show AWP _ _ _ _ _ | ((try simp only [z8]);first | show loopQ _ _ _ _ _ _ | show cutQ _ _ _ _ | show AWP _ _ _ _ _))) | ((first | refine x10 rfl rfl rfl ?_ | refine q13 rfl rfl rfl ?_);simp (disch:=omega) only [go_sem,seval,hd,cb,ruleD,z17,r1,rk,rn,qm];(first | refine ⟨_,km,?_⟩ | refine ⟨_,kl,?_⟩)) | ((first | refine j7 [] rfl ?_ | refine q10 [] rfl ?_);simp (disch:=omega) only [go_sem,seval,hd,cb,ruleD,z17,r1,rk,rn,qm];(repeat (first | refine ⟨by omega,?_⟩ | refine ⟨True.intro,?_⟩)))))
      refine ⟨⟨(i + 1,u,false),by simp only [];omega,kn,kk rfl,hG⟩,by simp only [];omega,?_⟩
      refine Weak.list ?_ ?_;(all_goals simp (disch:=omega) only [AllF,AllL,q11,z11,j10,exists_eq_left',go_sem,seval,hd,cb,ruleD,z17,r1,rk,rn,qm]);(all_goals (repeat' (with_reducible apply And.intro)));(all_goals try (first | exact q8 rfl | (refine x11 ?_;omega) | (refine q8 ?_;simp;done)))
     |true =>
      cases em with
      |true =>
       (repeat (first | apply j0 | refine z7 rfl ?_ | refine x7 rfl ?_ | apply j6 | (refine x5 fun K hK => ?_) | (refine x8 fun K hK => ?_) | ((first | apply j5 | apply x6 | ((first | refine j4 (hK _ ?_) | refine q9 (hK _ _ j8 ?_));clear hK K));(first | show AWP _ _ _ _ _ | ((try simp only [z8]);first | show loopQ _ _ _ _ _ _ | show cutQ _ _ _ _ | show AWP _ _ _ _ _))) | ((first | refine x10 rfl rfl rfl ?_ | refine q13 rfl rfl rfl ?_);simp (disch:=omega) only [go_sem,seval,hd,cb,ruleD,z17,r1,rk,rn,qm];(first | refine ⟨_,km,?_⟩ | refine ⟨_,kl,?_⟩)) | ((first | refine j7 [] rfl ?_ | refine q10 [] rfl ?_);simp (disch:=omega) only [go_sem,seval,hd,cb,ruleD,z17,r1,rk,rn,qm];(repeat (first | refine ⟨by omega,?_⟩ | refine ⟨True.intro,?_⟩)))))
       refine ⟨⟨(i + 1,u,true),by simp only [];omega,kn,kk rfl,hG⟩,by simp only [];omega,?_⟩
       refine Weak.list ?_ ?_;(all_goals simp (disch:=omega) only [AllF,AllL,q11,z11,j10,exists_eq_left',go_sem,seval,hd,cb,ruleD,z17,r1,rk,rn,qm]);(all_goals (repeat' (with_reducible apply And.intro)));(all_goals try (first | exact q8 rfl | (refine x11 ?_;omega) | (refine q8 ?_;simp;done)))
      |false =>
       (repeat (first | apply j0 | refine z7 rfl ?_ | refine x7 rfl ?_ | apply j6 | (refine x5 fun K hK => ?_) | (refine x8 fun K hK => ?_) | ((first | apply j5 | apply x6 | ((first | refine j4 (hK _ ?_) | refine q9 (hK _ _ j8 ?_));clear hK K));(first | show AWP _ _ _ _ _ | ((try simp only [z8]);first | show loopQ _ _ _ _ _ _ | show cutQ _ _ _ _ | show AWP _ _ _ _ _))) | ((first | refine x10 rfl rfl rfl ?_ | refine q13 rfl rfl rfl ?_);simp (disch:=omega) only [go_sem,seval,hd,cb,ruleD,z17,r1,rk,rn,qm,qd];(first | refine ⟨_,km,?_⟩ | refine ⟨_,kl,?_⟩)) | ((first | refine j7 [] rfl ?_ | refine q10 [] rfl ?_);simp (disch:=omega) only [go_sem,seval,hd,cb,ruleD,z17,r1,rk,rn,qm,qd];(repeat (first | refine ⟨by omega,?_⟩ | refine ⟨True.intro,?_⟩)))))
       refine ⟨⟨(i + 1,u,de),by simp only [];omega,kn,kk rfl,hG⟩,by simp only [];omega,?_⟩
       refine Weak.list ?_ ?_;(all_goals simp (disch:=omega) only [AllF,AllL,q11,z11,j10,exists_eq_left',go_sem,seval,hd,cb,ruleD,z17,r1,rk,rn,qm,qd]);(all_goals (repeat' (with_reducible apply And.intro)));(all_goals try (first | exact q8 rfl | (refine x11 ?_;omega) | (refine q8 ?_;simp;done)))
    ·cases b with
     |false =>
      (repeat (first | apply j0 | refine z7 rfl ?_ | refine x7 rfl ?_ | apply j6 | (refine x5 fun K hK => ?_) | (refine x8 fun K hK => ?_) | ((first | apply j5 | apply x6 | ((first | refine j4 (hK _ ?_) | refine q9 (hK _ _ j8 ?_));clear hK K));(first | show AWP _ _ _ _ _ | ((try simp only [z8]);first | show loopQ _ _ _ _ _ _ | show cutQ _ _ _ _ | show AWP _ _ _ _ _))) | ((first | refine x10 rfl rfl rfl ?_ | refine q13 rfl rfl rfl ?_);simp (disch:=omega) only [go_sem,seval,hd,cb,ruleD,z17,r1,rk,rn,qm];(first | refine ⟨_,km,?_⟩ | refine ⟨_,kl,?_⟩)) | ((first | refine j7 [] rfl ?_ | refine q10 [] rfl ?_);simp (disch:=omega) only [go_sem,seval,hd,cb,ruleD,z17,r1,rk,rn,qm];(repeat (first | refine ⟨by omega,?_⟩ | refine ⟨True.intro,?_⟩)))))
      refine j9 ⟨_,?_,rfl⟩;rw [Tryz.results28];simp (disch:=omega) only [ResVars,ResVar,ptrLoc,go_sem,seval,hd,cb,ruleD,z17,r1,rk,rn,qm]
     |true =>
      cases em with
      |true =>
       (repeat (first | apply j0 | refine z7 rfl ?_ | refine x7 rfl ?_ | apply j6 | (refine x5 fun K hK => ?_) | (refine x8 fun K hK => ?_) | ((first | apply j5 | apply x6 | ((first | refine j4 (hK _ ?_) | refine q9 (hK _ _ j8 ?_));clear hK K));(first | show AWP _ _ _ _ _ | ((try simp only [z8]);first | show loopQ _ _ _ _ _ _ | show cutQ _ _ _ _ | show AWP _ _ _ _ _))) | ((first | refine x10 rfl rfl rfl ?_ | refine q13 rfl rfl rfl ?_);simp (disch:=omega) only [go_sem,seval,hd,cb,ruleD,z17,r1,rk,rn,qm];(first | refine ⟨_,km,?_⟩ | refine ⟨_,kl,?_⟩)) | ((first | refine j7 [] rfl ?_ | refine q10 [] rfl ?_);simp (disch:=omega) only [go_sem,seval,hd,cb,ruleD,z17,r1,rk,rn,qm];(repeat (first | refine ⟨by omega,?_⟩ | refine ⟨True.intro,?_⟩)))))
       refine j9 ⟨_,?_,rfl⟩;rw [Tryz.results28];simp (disch:=omega) only [ResVars,ResVar,ptrLoc,go_sem,seval,hd,cb,ruleD,z17,r1,rk,rn,qm]
      |false =>
       (repeat (first | apply j0 | refine z7 rfl ?_ | refine x7 rfl ?_ | apply j6 | (refine x5 fun K hK => ?_) | (refine x8 fun K hK => ?_) | ((first | apply j5 | apply x6 | ((first | refine j4 (hK _ ?_) | refine q9 (hK _ _ j8 ?_));clear hK K));(first | show AWP _ _ _ _ _ | ((try simp only [z8]);first | show loopQ _ _ _ _ _ _ | show cutQ _ _ _ _ | show AWP _ _ _ _ _))) | ((first | refine x10 rfl rfl rfl ?_ | refine q13 rfl rfl rfl ?_);simp (disch:=omega) only [go_sem,seval,hd,cb,ruleD,z17,r1,rk,rn,qm,qd];(first | refine ⟨_,km,?_⟩ | refine ⟨_,kl,?_⟩)) | ((first | refine j7 [] rfl ?_ | refine q10 [] rfl ?_);simp (disch:=omega) only [go_sem,seval,hd,cb,ruleD,z17,r1,rk,rn,qm,qd];(repeat (first | refine ⟨by omega,?_⟩ | refine ⟨True.intro,?_⟩)))))
       refine j9 ⟨_,?_,rfl⟩;rw [Tryz.results28];simp (disch:=omega) only [ResVars,ResVar,ptrLoc,go_sem,seval,hd,cb,ruleD,z17,r1,rk,rn,qm,qd]
   ·rw [if_neg (by decide)] at hG
    subst hG
    (repeat (first | apply j0 | refine z7 rfl ?_ | refine x7 rfl ?_ | apply j6 | (refine x5 fun K hK => ?_) | (refine x8 fun K hK => ?_) | ((first | apply j5 | apply x6 | ((first | refine j4 (hK _ ?_) | refine q9 (hK _ _ j8 ?_));clear hK K));(first | show AWP _ _ _ _ _ | ((try simp only [z8]);first | show loopQ _ _ _ _ _ _ | show cutQ _ _ _ _ | show AWP _ _ _ _ _))) | ((first | refine x10 rfl rfl rfl ?_ | refine q13 rfl rfl rfl ?_);simp (disch:=omega) only [go_sem,seval,hd,cb,ruleD,z17,r1,rk,rn];(first | refine ⟨_,km,?_⟩)) | ((first | refine j7 [] rfl ?_ | refine q10 [] rfl ?_);simp (disch:=omega) only [go_sem,seval,hd,cb,ruleD,z17,r1,rk,rn];(repeat (first | refine ⟨by omega,?_⟩ | refine ⟨True.intro,?_⟩)))))
    refine j9 ⟨_,?_,rfl⟩;rw [Tryz.results28];simp (disch:=omega) only [ResVars,ResVar,ptrLoc,go_sem,seval,hd,cb,ruleD,z17,r1,rk,rn]
  ·have : i = (behR l n).length := by omega
   subst this
   rw [List.drop_length] at hG
   unfold spGo at hG
   subst hG
   have q0 := len0 p
   cases b with
   |false =>
    (repeat (first | apply j0 | refine z7 rfl ?_ | refine x7 rfl ?_ | apply j6 | (refine x5 fun K hK => ?_) | (refine x8 fun K hK => ?_) | ((first | apply j5 | apply x6 | ((first | refine j4 (hK _ ?_) | refine q9 (hK _ _ j8 ?_));clear hK K));(first | show AWP _ _ _ _ _ | ((try simp only [z8]);first | show loopQ _ _ _ _ _ _ | show cutQ _ _ _ _ | show AWP _ _ _ _ _))) | ((first | refine j7 [] rfl ?_ | refine q10 [] rfl ?_);simp (disch:=omega) only [go_sem,seval,hd,cb,ruleD,z17,q0,Bool.true_and,Bool.false_and];(repeat (first | refine ⟨by omega,?_⟩ | refine ⟨True.intro,?_⟩)))))
    refine j9 ⟨_,?_,rfl⟩;rw [Tryz.results28];simp (disch:=omega) only [ResVars,ResVar,ptrLoc,go_sem,seval,hd,cb,ruleD,z17,q0,Bool.true_and,Bool.false_and]
   |true =>
    (repeat (first | apply j0 | refine z7 rfl ?_ | refine x7 rfl ?_ | apply j6 | (refine x5 fun K hK => ?_) | (refine x8 fun K hK => ?_) | ((first | apply j5 | apply x6 | ((first | refine j4 (hK _ ?_) | refine q9 (hK _ _ j8 ?_));clear hK K));(first | show AWP _ _ _ _ _ | ((try simp only [z8]);first | show loopQ _ _ _ _ _ _ | show cutQ _ _ _ _ | show AWP _ _ _ _ _))) | ((first | refine j7 [] rfl ?_ | refine q10 [] rfl ?_);simp (disch:=omega) only [go_sem,seval,hd,cb,ruleD,z17,q0,Bool.true_and,Bool.false_and];(repeat (first | refine ⟨by omega,?_⟩ | refine ⟨True.intro,?_⟩)))))
    refine j9 ⟨_,?_,rfl⟩;rw [Tryz.results28];simp (disch:=omega) only [ResVars,ResVar,ptrLoc,go_sem,seval,hd,cb,ruleD,z17,q0,Bool.true_and,Bool.false_and]
 ·rw [if_neg he] at hR
  subst hR
  generalize seenR l n = S at *
  obtain ⟨p,e⟩ := S
  simp only [] at ks heb
  refine q12 Tryz.func28 rfl (by decide +kernel) (by rw [Tryz.ntmps28];simp) ?_;rw [Tryz.ntmps28];simp only [frOf]
  (repeat (first | apply j0 | refine z7 rfl ?_ | refine x7 rfl ?_ | apply j6 | (refine x5 fun K hK => ?_) | (refine x8 fun K hK => ?_) | ((first | apply j5 | apply x6 | ((first | refine j4 (hK _ ?_) | refine q9 (hK _ _ j8 ?_));clear hK K));(first | show AWP _ _ _ _ _ | ((try simp only [z8]);first | show loopQ _ _ _ _ _ _ | show cutQ _ _ _ _ | show AWP _ _ _ _ _))) | ((first | refine x10 rfl rfl rfl ?_ | refine q13 rfl rfl rfl ?_);simp (disch:=omega) only [go_sem,seval,hd,cb,ruleD,z17,heb];(first | refine ⟨_,ks,?_⟩)) | ((first | refine j7 [] rfl ?_ | refine q10 [] rfl ?_);simp (disch:=omega) only [go_sem,seval,hd,cb,ruleD,z17,heb];(repeat (first | refine ⟨by omega,?_⟩ | refine ⟨True.intro,?_⟩)))))
  refine j9 ⟨_,?_,rfl⟩;rw [Tryz.results28];simp (disch:=omega) only [ResVars,ResVar,ptrLoc,go_sem,seval,hd,cb,ruleD,z17,heb]
end Go.Proofs.YtemcdefpihkfpaaGreat
namespace Go.Proofs.YtemcdefpihkfpaaGreat.AL
open Go
def LLes (M M2 : List (Nat × LV)) : Prop := ∀ l X2,look M2 l = some X2 → ∃ X,look M l = some X ∧ LLe X X2
theorem LLes.nil (M : List (Nat × LV)) : LLes M [] := fun l X2 h => by simp [look] at h
theorem LLes.cons {M M2 : List (Nat × LV)} {l : Nat} {X X2 : LV} (h : look M l = some X) (hl : LLe X X2) (t : LLes M M2) : LLes M ((l,X2) :: M2) := fun k Y hk => by
 simp only [look] at hk
 split at hk
 ·rename_i e;subst e;cases hk;exact ⟨X,h,hl⟩
 ·exact t k Y hk
theorem LLe.refl (X : LV) : LLe X X := of_eq_true (j10 X)
theorem MCalls.out {P : Program} {f : FuncId} {xs : List AV} {L M M2 : List (Nat × LV)} {rs : List AV} (h : MCalls P f xs L (fun r M' => r = rs ∧ M' = M)) (hM : LLes M M2) : MCalls P f xs L (fun r M' => r = rs ∧ M' = M2) := by
 intro w g vs hz hr hl
 have key := h w g vs hz hr hl
 have fin : ∀ v w',(∃ h' r M',(r = rs ∧ M' = M) ∧ RelRA w' h' v r ∧ LocsOK (fun _ => True) w' h' M' ∧ Chg L M' w g w' h') → ∃ h' r M',(r = rs ∧ M' = M2) ∧ RelRA w' h' v r ∧ LocsOK (fun _ => True) w' h' M' ∧ Chg L M' w g w' h' := by
  rintro v w' ⟨h',r,M',⟨rfl,rfl⟩,h1,h2,h3⟩
  refine ⟨h',_,M2,⟨rfl,rfl⟩,h1,⟨fun l X2 hX => ?_,fun l l' X X' b hne e1 e2 hb hb' => ?_⟩,⟨h3.below,h3.gam,h3.gz,h3.keep,h3.ρ,h3.up,fun b hb => ?_⟩⟩
  ·obtain ⟨X,e1,e2⟩ := hM l X2 hX
   exact (x32 e2 (h2.1 l X e1)).1
  ·obtain ⟨Y,y1,y2⟩ := hM l X e1
   obtain ⟨Y',z1,z2⟩ := hM l' X' e2
   rw [(x32 y2 (h2.1 l Y y1)).2] at hb
   rw [(x32 z2 (h2.1 l' Y' z1)).2] at hb'
   exact h2.2 l l' Y Y' b hne y1 z1 hb hb'
  ·obtain ⟨l,X2,e1,e2⟩ := hb
   obtain ⟨Y,y1,y2⟩ := hM l X2 e1
   rw [(x32 y2 (h2.1 l Y y1)).2] at e2
   exact h3.own b ⟨l,Y,y1,e2⟩
 unfold CallRes at *
 split at key
 ·exact key.mono fun e w' ⟨v,he,hh⟩ => ⟨v,he,fin v w' hh⟩
 ·exact fin _ _ key
 ·exact key.elim
end Go.Proofs.YtemcdefpihkfpaaGreat.AL
namespace Go.Proofs.YtemcdefpihkfpaaGreat.AL
open Go.RowKit
variable {P : Program}
def WeakX (A : ASt) (S : ASt → Prop) : Prop := ∀ (w0 : Base) (g0 : Nat → Nat) (nt : Nat) (h : Gh) (a : Act) (w : World),Rel w0 g0 nt A h a w → ∃ A' h',S A' ∧ Rel w0 g0 nt A' h' a w
theorem z115 {nt : Nat} {c : Code} {Q : Exit → ASt → Prop} {A : ASt} {S : ASt → Prop} (hw : WeakX A S) (h : ∀ A',S A' → AWP P nt c Q A') : AWP P nt c Q A := by
 rw [j70]
 intro w0 g0 h' a w r
 obtain ⟨A',h2,hs,r'⟩ := hw w0 g0 nt h' a w r
 exact j70.1 (h A' hs) w0 g0 h2 a w r'
def noM : Nat → Option Ent := fun _ => none
theorem Weak.arena (A : ASt) (hn : look A.locs 1999 = none) : Weak A ⟨A.fr,(1999,.raw noM) :: A.locs⟩ := by
 intro w0 g0 nt h a w r
 have hin : ∀ b,¬ inB h 1999 (.raw noM) b := fun b hb => hb rfl
 refine ⟨h,r.size,r.defers,r.fr,fun l L hL => ?_,fun l l' L L' b hne hL hL' hb hb' => ?_,r.ext,r.pin⟩
 ·simp only [look] at hL
  split at hL
  ·rename_i e;subst e;cases hL;intro b E hb;cases hb
  ·exact r.locs l L hL
 ·simp only [look] at hL hL'
  split at hL
  ·rename_i e;subst e;cases hL;exact hin b hb
  ·split at hL'
   ·rename_i e;subst e;cases hL';exact hin b hb'
   ·exact r.sep l l' L L' b hne hL hL' hb hb'
theorem x115 {nt : Nat} {c : Code} {Q : Exit → ASt → Prop} {A : ASt} (hn : look A.locs 1999 = none) (h : AWP P nt c Q ⟨A.fr,(1999,.raw noM) :: A.locs⟩) : AWP P nt c Q A := q18 (Weak.arena A hn) h
def PackR (M : Nat → Option Ent) (e : TypeId) (sz n : Nat) (f : Nat → List Dat) (v : Value) (M' : Nat → Option Ent) : Prop :=
 (n = 0 ∧ v = .slice none 0 0 ∧ M' = M) ∨ ∃ b c,n ≤ c ∧ M b = none ∧ v = .slice (some ⟨b,0,none⟩) n c ∧ M' = setM M b (some ⟨e,sz,c,n,f⟩)
theorem z63 {l : Nat} {L : List (Nat × LV)} {k : Nat} {X : LV} (h : look (dropL l L) k = some X) : k ≠ l ∧ look L k = some X := by
 rw [z22] at h
 split at h
 ·cases h
 ·exact ⟨‹_›,h⟩
theorem Rel.into {w0 : Base} {g0 : Nat → Nat} {nt : Nat} {A : ASt} {h : Gh} {a : Act} {w : World} (r : Rel w0 g0 nt A h a w) {l b : Nat} {X : LV} {M : Nat → Option Ent} {E : Ent} {fr : List (Nat × AV)}
  (hl : look A.locs l = some X) (hM : look A.locs 1999 = some (.raw M)) (hne : l ≠ 1999) (hb : inB h l X b) (hO : w0.O b) (hE : EntOK w h.g b E) (hg : h.g b = 0)
  (hfr : ∀ t x,look fr t = some x → RelA w h (a.tmps.getD t undef) x) : M b = none ∧ Rel w0 g0 nt ⟨fr,(1999,.raw (setM M b (some E))) :: dropL l A.locs⟩ h a w := by
 have hMb : M b = none := by
  have := r.sep l 1999 X _ b hne hl hM hb
  simp only [inB] at this
  exact Classical.byContradiction fun e => this e
 have old : ∀ k L,look ((1999,LV.raw (setM M b (some E))) :: dropL l A.locs) k = some L → (k = 1999 ∧ L = .raw (setM M b (some E))) ∨ (k ≠ 1999 ∧ k ≠ l ∧ look A.locs k = some L) := by
  intro k L hk
  simp only [look] at hk
  split at hk
  ·rename_i e;cases hk;exact .inl ⟨e.symm,rfl⟩
  ·rename_i e
   obtain ⟨k1,k2⟩ := z63 hk
   exact .inr ⟨fun e' => e e'.symm,k1,k2⟩
 have hin : ∀ b',inB h 1999 (.raw (setM M b (some E))) b' → b' = b ∨ inB h 1999 (.raw M) b' := by
  intro b' hb'
  simp only [inB,setM] at hb' ⊢
  split at hb'
  ·exact .inl ‹_›
  ·exact .inr hb'
 refine ⟨hMb,r.size,r.defers,hfr,fun k L hk => ?_,fun k k' L L' b' hkk hk hk' hb1 hb2 => ?_,r.ext,r.pin⟩
 ·rcases old k L hk with ⟨rfl,rfl⟩ | ⟨_,_,h3⟩
  ·intro b' E' hE'
   simp only [setM] at hE'
   split at hE'
   ·rename_i e;subst e;cases hE';exact ⟨hO,hE,hg⟩
   ·exact r.locs 1999 _ hM b' E' hE'
  ·exact r.locs k L h3
 ·rcases old k L hk with ⟨rfl,rfl⟩ | ⟨n1,n2,h3⟩ <;> rcases old k' L' hk' with ⟨rfl,rfl⟩ | ⟨n1',n2',h3'⟩
  ·exact hkk rfl
  ·rcases hin b' hb1 with rfl | hb1
   ·exact r.sep l k' X L' b' (fun e => n2' e.symm) hl h3' hb hb2
   ·exact r.sep 1999 k' _ L' b' (fun e => n1' e.symm) hM h3' hb1 hb2
  ·rcases hin b' hb2 with rfl | hb2
   ·exact r.sep l k X L b' (fun e => n2 e.symm) hl h3 hb hb1
   ·exact r.sep 1999 k _ L b' (fun e => n1 e.symm) hM h3 hb2 hb1
  ·exact r.sep k k' L L' b' hkk h3 h3' hb1 hb2
theorem WeakX.packRow (A : ASt) (t l gen sz n : Nat) (e : TypeId) (f : Nat → List Dat) (M : Nat → Option Ent) (ht : look A.fr t = some (.ow l gen sz n)) (hl : look A.locs l = some (.own e sz n gen f)) (hM : look A.locs 1999 = some (.raw M)) (hne : l ≠ 1999) :
  WeakX A (fun A' => ∃ v M',PackR M e sz n f v M' ∧ A' = ⟨(t,.p (.d (.v v))) :: A.fr,(1999,.raw M') :: dropL l A.locs⟩) := by
 intro w0 g0 nt h a w r
 have hL := r.locs l _ hl
 obtain ⟨q1,⟨va,vc,q2,q2'⟩,q3⟩ := r.fr t _ ht
 have hv := q3 hL.1
 have hfr : ∀ v,a.tmps.getD t undef = v → v.oneCell' = true → ∀ u y,look ((t,AV.p (.d (.v v))) :: A.fr) u = some y → RelA w h (a.tmps.getD u undef) y := by
  intro v hv h1 u y hy
  simp only [look] at hy
  split at hy
  ·rename_i e;subst e;cases hy;rw [hv];exact z19 h1
  ·exact r.fr u y hy
 by_cases hn : (h.κ l).ownBlock = none
 ·obtain ⟨n0,hk⟩ : n = 0 ∧ h.κ l = .slice none 0 0 := by
   obtain ⟨_,⟨xs,⟨_,⟨h0,h1⟩ | ⟨gb,cap,cur,h0,_⟩⟩,_⟩,_⟩ := hL
   ·exact ⟨h1,h0⟩
   ·rw [h0] at hn;simp [Value.ownBlock] at hn
  subst n0
  refine ⟨_,h,⟨.slice none 0 0,M,.inl ⟨rfl,rfl,rfl⟩,rfl⟩,r.size,r.defers,hfr _ (hv.trans hk) rfl,fun k L hk => ?_,fun k k' L L' b' hkk hk hk' => ?_,r.ext,r.pin⟩
  ·simp only [look] at hk
   split at hk
   ·rename_i e;subst e;cases hk;exact r.locs 1999 _ hM
   ·exact r.locs k L (z63 hk).2
  ·have old : ∀ k L,look ((1999,LV.raw M) :: dropL l A.locs) k = some L → look A.locs k = some L := by
    intro k L hk
    simp only [look] at hk
    split at hk
    ·rename_i e;subst e;cases hk;exact hM
    ·exact (z63 hk).2
   exact r.sep k k' L L' b' hkk (old k L hk) (old k' L' hk')
 ·obtain ⟨b,hb⟩ := Option.ne_none_iff_exists'.1 hn
  obtain ⟨cap,cur,c1,c2,c3,c4,c5,c6,c7,c8⟩ := q53 hL hb
  obtain ⟨m1,m2⟩ := r.into hl hM hne (E := ⟨e,sz,cap,n,f⟩) (b := b) (by simp [inB,hb]) c7 ⟨cur,c2,c5,c3,c4,c8⟩ c6 (hfr _ (hv.trans c1) rfl)
  exact ⟨_,h,⟨_,_,.inr ⟨b,cap,c3,m1,rfl,rfl⟩,rfl⟩,m2⟩
end Go.Proofs.YtemcdefpihkfpaaGreat.AL
namespace Go.Proofs.YtemcdefpihkfpaaGreat.AL
open Go.RowKit
variable {P : Program}
def RCalls (P : Program) (f : FuncId) (xs : List AV) (L : List (Nat × LV)) (x : AV) : Prop :=
 ∀ (w : World) (h : Gh) (vs : List Value),GZ w h.g → RelAs w h vs xs → LocsOK (fun _ => True) w h L →
  CallRes P (fun v w' => ∃ g',Ext w h.g w' g' ∧ RelA w' { h with g := g' } v x) ((callFunc f vs.toArray).run P w)
inductive XAV : AV → Prop
 | is (u : Value) : XAV (.is (· = u))
 | mp (l : Nat) : XAV (.mp l)
theorem XAV.same {x : AV} (hx : XAV x) {w w' : World} {h h' : Gh} (hρ : ∀ l ∈ x.mentions,h'.ρ l = h.ρ l) {v v' : Value} (r : RelA w h v x) (r' : RelA w' h' v' x) : v' = v := by
 cases hx with
 | is u => exact (show v' = u from r').trans (show v = u from r).symm
 |mp l =>
  have e1 : v = .map (some (h.ρ l)) := r
  have e2 : v' = .map (some (h'.ρ l)) := r'
  rw [e1,e2,hρ l (by simp [AV.mentions])]
inductive XLV : LV → Prop
 | cells (e : TypeId) (cs : List AV) (h : ∀ c ∈ cs,XAV c) : XLV (.cells e cs)
 | obj (o : Obj) : XLV (.obj o)
theorem XLV.same {X : LV} (hx : XLV X) {O : Nat → Prop} {w w' : World} {h h' : Gh} {l : Nat} (hρl : h'.ρ l = h.ρ l) (hρ : ∀ k ∈ X.mentions,h'.ρ k = h.ρ k) (r : LocOK O w h l X) (r' : LocOK O w' h' l X) {b : Nat} (hb : inB h l X b) :
  w'.heap[b]? = w.heap[b]? ∧ h'.g b = h.g b := by
 cases hx with
 |cells e cs hcs =>
  obtain ⟨arr,_,h2,h3,h4,h5⟩ := r
  obtain ⟨arr',_,k2,k3,k4,k5⟩ := r'
  simp [inB] at hb
  subst hb
  rw [hρl] at k2 k4
  refine ⟨?_,by rw [h4,k4]⟩
  rw [h2,k2]
  congr 2
  apply Array.ext
  ·rw [h3,k3]
  ·intro i hi1 hi2
   have hic : i < cs.length := by omega
   have e1 := (h5 i arr[i] cs[i] (by simp [hi2]) (List.getElem?_eq_getElem hic)).1
   have e2 := (k5 i arr'[i] cs[i] (by simp [hi1]) (List.getElem?_eq_getElem hic)).1
   exact (hcs _ (List.getElem_mem hic)).same (fun k hk => hρ k (List.mem_flatMap.2 ⟨_,List.getElem_mem hic,hk⟩)) e1 e2
 |obj o =>
  obtain ⟨_,h2,h4⟩ := r
  obtain ⟨_,k2,k4⟩ := r'
  simp [inB] at hb
  subst hb
  rw [hρl] at k2 k4
  exact ⟨by rw [h2,k2],by rw [h4,k4]⟩
end Go.Proofs.YtemcdefpihkfpaaGreat.AL
namespace Go.Proofs.YtemcdefpihkfpaaGreat.AL
open Go.RowKit
variable {P : Program}
inductive RdD (M : Nat → Option Ent) : Dat → Dat → Prop
 | refl (d : Dat) : RdD M d d
 | sl (sz n : Nat) (f f' : Nat → List Dat) (hl : ∀ i,i < n → (f' i).length = (f i).length) (hr : ∀ (i j : Nat) (x y : Dat),i < n → (f i)[j]? = some x → (f' i)[j]? = some y → RdD M x y) : RdD M (.sl sz n f) (.sl sz n f')
 | row (b n c : Nat) (E : Ent) (f' : Nat → List Dat) (hM : M b = some E) (hn : n ≤ E.n) (hc : n ≤ c) (hl : ∀ i,i < n → (f' i).length = (E.f i).length)
   (hr : ∀ (i j : Nat) (x y : Dat),i < n → (E.f i)[j]? = some x → (f' i)[j]? = some y → RdD M x y) : RdD M (.v (.slice (some ⟨b,0,none⟩) n c)) (.sl E.sz n f')
 | nil (a : Option Addr) (c sz : Nat) (f : Nat → List Dat) : RdD M (.v (.slice a 0 c)) (.sl sz 0 f)
 | box (b : Nat) (E : Ent) (ds : List Dat) (hM : M b = some E) (hn : 0 < E.n) (hl : ds.length = E.sz)
   (hr : ∀ (j : Nat) (x y : Dat),(E.f 0)[j]? = some x → ds[j]? = some y → RdD M x y) : RdD M (.v (.pointer (some ⟨b,0,none⟩))) (.bx ds)
inductive RdP (M : Nat → Option Ent) : PV → PV → Prop
 | refl (x : PV) : RdP M x x
 | d {x y : Dat} (h : RdD M x y) : RdP M (.d x) (.d y)
 | agg (cs ds : List Dat) (hl : cs.length = ds.length) (hr : ∀ (j : Nat) x y,cs[j]? = some x → ds[j]? = some y → RdD M x y) : RdP M (.agg cs) (.agg ds)
def iced (g : Nat → Nat) (M : Nat → Option Ent) (b : Nat) : Nat := match M b with
 | some E => E.cap * E.sz
 | none => g b
def lowered (g : Nat → Nat) (M : Nat → Option Ent) (b : Nat) : Nat := match M b with
 | some _ => 0
 | none => g b
structure Arena (w : World) (g : Nat → Nat) (M : Nat → Option Ent) : Prop where
 ok : ∀ b E,M b = some E → EntOK w g b E
 g0 : ∀ b E,M b = some E → g b = 0
section
variable {w : World} {g : Nat → Nat} {M : Nat → Option Ent}
theorem z40 (hA : Arena w g M) : Keep w g w (iced g M) := by
 refine ⟨fun b => ?_,fun b o _ => rfl⟩
 unfold iced
 split
 ·rename_i E hE;rw [hA.g0 b E hE];exact Nat.zero_le _
 ·exact Nat.le_refl _
theorem Arena.lt (hA : Arena w g M) {b : Nat} {E : Ent} (h : M b = some E) : b < w.heap.size := by
 obtain ⟨cur,hh,_⟩ := hA.ok b E h;exact (Array.getElem?_eq_some_iff.1 hh).1
theorem x63 (hA : Arena w g M) (hz : GZ w g) : GZ w (iced g M) := by
 intro b hb
 unfold iced
 split
 ·rename_i E hE;have := hA.lt hE;omega
 ·exact hz b hb
theorem j115 (hA : Arena w g M) {x y : Dat} (h : RdD M x y) : ∀ {v : Value},RelD w g v x → RelD w (iced g M) v y := by
 induction h with
 | refl d => intro v r;exact r.keep (z40 hA)
 |sl sz n f f' hl hr ih =>
  intro v r
  cases r with
  | sl0 a c => exact .sl0 _ _ _ _
  |sl b off _ c _ _ u hn hl2 hc hg hr2 =>
   refine .sl b off n c sz f' u hn (fun i hi => (hl i hi).trans (hl2 i hi)) hc (Nat.le_trans hg ((z40 hA).gam b)) (fun i j y hi hy => ?_)
   have hj : j < (f i).length := by rw [← hl i hi];exact (List.getElem?_eq_some_iff.1 hy).1
   exact ih i j _ y hi (List.getElem?_eq_getElem hj) hy (hr2 i j _ hi (List.getElem?_eq_getElem hj))
 |row b n c E f' hM hn hc hl hr ih =>
  intro v r
  cases r
  obtain ⟨cur,q1,q2,q3,q4,q5⟩ := hA.ok b E hM
  have hnE : n * E.sz ≤ E.n * E.sz := Nat.mul_le_mul_right _ hn
  have hcE : E.n * E.sz ≤ E.cap * E.sz := Nat.mul_le_mul_right _ q3
  refine .sl b 0 n c E.sz f' (fun i j => (cur[i * E.sz + j]?).getD undef) hc (fun i hi => (hl i hi).trans (q5.1 i (by omega))) (fun i j hi hj => ?_) ?_ (fun i j y hi hy => ?_)
  ·obtain ⟨u,d,k1,k2,k3⟩ := q5.at (i := i) (j := j) (by omega) hj
   rw [Nat.zero_add,x19 q1,k2];rfl
  ·simp only [iced,hM];omega
  ·have hj : j < (E.f i).length := by rw [← hl i hi];exact (List.getElem?_eq_some_iff.1 hy).1
   obtain ⟨u,k1,k2⟩ := q5.cell (i := i) (j := j) (by omega) (by rw [← q5.1 i (by omega)];exact hj) (List.getElem?_eq_getElem hj)
   rw [k1]
   exact ih i j _ y hi (List.getElem?_eq_getElem hj) hy k2
 | nil a c sz f => intro v r;cases r;exact .sl0 _ _ _ _
 |box b E ds hM hn hl hr ih =>
  intro v r
  cases r
  obtain ⟨cur,q1,q2,q3,q4,q5⟩ := hA.ok b E hM
  have hcE : 1 * E.sz ≤ E.cap * E.sz := Nat.mul_le_mul_right _ (by omega)
  have hf := q5.1 0 hn
  refine .bx b 0 ds (fun j => (cur[j]?).getD undef) (fun j hj => ?_) ?_ (fun j y hy => ?_)
  ·obtain ⟨u,d,k1,k2,k3⟩ := q5.at (i := 0) (j := j) hn (by omega)
   rw [Nat.zero_mul,Nat.zero_add] at k2
   rw [Nat.zero_add,x19 q1,k2];rfl
  ·simp only [iced,hM];omega
  ·have hj : j < (E.f 0).length := by rw [hf,← hl];exact (List.getElem?_eq_some_iff.1 hy).1
   obtain ⟨u,k1,k2⟩ := q5.cell (i := 0) (j := j) hn (by rw [← hf];exact hj) (List.getElem?_eq_getElem hj)
   rw [Nat.zero_mul,Nat.zero_add] at k1
   rw [k1]
   exact ih j _ y (List.getElem?_eq_getElem hj) hy k2
theorem x184 (hA : Arena w g M) {x y : PV} (h : RdP M x y) {v : Value} (r : RelP w g v x) : RelP w (iced g M) v y := by
 cases h with
 | refl x => exact r.keep (z40 hA)
 | d h => cases r with | d _ _ r => exact .d _ _ (j115 hA h r)
 |agg cs ds hl hr =>
  cases r with
  |agg vs _ hl2 hr2 =>
   refine .agg vs ds (hl2.trans hl) fun j v y hv hy => ?_
   have hj : j < cs.length := by rw [hl];exact (List.getElem?_eq_some_iff.1 hy).1
   exact j115 hA (hr j _ y (List.getElem?_eq_getElem hj) hy) (hr2 j v _ hv (List.getElem?_eq_getElem hj))
end
def Dat.flat : Dat → Prop
 | .v _ => True
 | _ => False
def PV.flat : PV → Prop
 | .d x => x.flat
 | .agg cs => ∀ c ∈ cs,c.flat
 | _ => False
def AV.flat : AV → Prop
 | .p x => x.flat
 | .gr .. => False
 | .tup xs => ∀ x ∈ xs,x.flat
 | .cl .. => False
 | .ag _ => False
 | _ => True
def LV.flat : LV → Prop
 | .cells _ cs => ∀ c ∈ cs,c.flat
 | .own _ _ n _ f => ∀ i,i < n → ∀ d ∈ f i,d.flat
 | _ => False
theorem z79 {w w' : World} {g g' : Nat → Nat} {v : Value} {d : Dat} (hd : d.flat) (r : RelD w g v d) : RelD w' g' v d := by
 cases r with
 | v _ h => exact .v _ h
 | _ => exact hd.elim
theorem x79 {w w' : World} {g g' : Nat → Nat} {v : Value} {x : PV} (hx : x.flat) (r : RelP w g v x) : RelP w' g' v x := by
 cases r with
 | d _ _ r => exact .d _ _ (z79 hx r)
 | agg vs cs hl hr => exact .agg vs cs hl fun j v x hv hc => z79 ((show ∀ c ∈ cs,c.flat from hx) x (List.mem_of_getElem? hc)) (hr j v x hv hc)
 | _ => exact hx.elim
theorem q116 {w w' : World} {h h' : Gh} {v : Value} {x : AV} (hx : x.flat) (e1 : h'.ρ = h.ρ) (e2 : h'.κ = h.κ) (e3 : h'.μ = h.μ) (r : RelA w h v x) : RelA w' h' v x := by
 cases x with
 | p x => exact x79 hx r
 | gr => exact hx.elim
 | cl => exact hx.elim
 | ag => exact hx.elim
 |tup xs =>
  obtain ⟨vs,hv,hl,hr⟩ := r
  exact ⟨vs,hv,hl,fun j v x hv hc => x79 ((show ∀ x ∈ xs,x.flat from hx) x (List.mem_of_getElem? hc)) (hr j v x hv hc)⟩
 | _ => first | exact r | (simp only [RelA,RelOw,e1,e2,e3] at *;exact r)
theorem j184 {O : Nat → Prop} {w : World} {h h' : Gh} {l : Nat} {X : LV} (hX : X.flat) (e1 : h'.ρ = h.ρ) (e2 : h'.κ = h.κ) (e3 : h'.μ = h.μ) (hg : ∀ b,inB h l X b → h'.g b = h.g b) (r : LocOK O w h l X) : LocOK O w h' l X := by
 cases X with
 |cells e cs =>
  obtain ⟨arr,h1,h2,h3,h4,h5⟩ := r
  refine ⟨arr,by rw [e1];exact h1,by rw [e1];exact h2,h3,by rw [e1,hg _ rfl];exact h4,fun i v x hv hx => ⟨q116 ((show ∀ c ∈ cs,c.flat from hX) x (List.mem_of_getElem? hx)) e1 e2 e3 (h5 i v x hv hx).1,(h5 i v x hv hx).2⟩⟩
 |own e sz n gen f =>
  obtain ⟨h1,⟨xs,h2,h3⟩,h4⟩ := r
  refine ⟨by rw [e3];exact h1,⟨xs,by rw [e2];exact h2,h3.1,fun i j d hi hj hd => ?_⟩,fun b hb => ?_⟩
  ·obtain ⟨u,k1,k2⟩ := h3.2 i j d hi hj hd
   exact ⟨u,k1,z79 ((show ∀ i,i < n → ∀ d ∈ f i,d.flat from hX) i hi d (List.mem_of_getElem? hd)) k2⟩
  ·rw [e2] at hb
   rw [hg b (by simpa [inB] using hb)]
   exact h4 b hb
 | _ => exact hX.elim
def RdA (M : Nat → Option Ent) : AV → AV → Prop
 | .p x,.p y => RdP M x y
 | x,y => x = y
theorem RdA.refl (M : Nat → Option Ent) (x : AV) : RdA M x x := by cases x <;> first | rfl | exact RdP.refl _
theorem RdA.p {M : Nat → Option Ent} {x y : PV} (h : RdP M x y) : RdA M (.p x) (.p y) := h
inductive RdAs (M : Nat → Option Ent) : List AV → List AV → Prop
 | nil : RdAs M [] []
 | cons {x y : AV} {xs ys : List AV} (h : RdA M x y) (t : RdAs M xs ys) : RdAs M (x :: xs) (y :: ys)
theorem RdAs.refl (M : Nat → Option Ent) : ∀ xs,RdAs M xs xs
 | [] => .nil
 | x :: xs => .cons (RdA.refl M x) (RdAs.refl M xs)
theorem z116 {w : World} {h : Gh} {M : Nat → Option Ent} (hA : Arena w h.g M) {v : Value} {x : AV} (r : RelA w h v x) : RelA w { h with g := iced h.g M } v x := by
 have k := z40 hA
 have kc : ∀ (vs : List Value) (cs : List CV),RelCs w h vs cs → RelCs w { h with g := iced h.g M } vs cs := by
  intro vs cs r
  refine ⟨r.1,fun j v c hv hc => ?_⟩
  have r := r.2 j v c hv hc
  cases c with
  | p x => exact RelP.keep k r
  | _ => exact r
 cases x with
 | p x => exact RelP.keep k r
 | gr l gen sz n f => exact ⟨r.1.keep k,r.2⟩
 | cl f a b => obtain ⟨vs,us,e,h1,h2⟩ := r;exact ⟨vs,us,e,kc _ _ h1,kc _ _ h2⟩
 | ag cs => obtain ⟨vs,h1,h2,h3⟩ := r;exact ⟨vs,h1,kc _ _ h2,h3⟩
 | tup xs => obtain ⟨vs,hv,hr⟩ := r;exact ⟨vs,hv,hr.keep k⟩
 | _ => exact r
theorem x116 {w : World} {h : Gh} {M : Nat → Option Ent} (hA : Arena w h.g M) {x y : AV} (hx : RdA M x y) {v : Value} (r : RelA w h v x) : RelA w { h with g := iced h.g M } v y := by
 cases x with
 |p x =>
  cases y with
  | p y => exact x184 hA hx r
  | _ => cases hx
 |_ =>
  unfold RdA at hx
  subst hx
  exact z116 hA r
theorem j116 {w : World} {h : Gh} {M : Nat → Option Ent} (hA : Arena w h.g M) {xs ys : List AV} (hx : RdAs M xs ys) : ∀ {vs : List Value},RelAs w h vs xs → RelAs w { h with g := iced h.g M } vs ys := by
 induction hx with
 | nil => intro vs r;exact ⟨r.1,fun j v x hv hx => by simp at hx⟩
 |cons hx t ih =>
  intro vs r
  cases vs with
  | nil => simp [RelAs] at r
  |cons v vs =>
   have r2 := ih r.tail
   refine ⟨by simpa using r2.1,fun j u z hu hz => ?_⟩
   cases j with
   | zero => simp at hu hz;subst hu;subst hz;exact x116 hA hx (r.2 0 v _ rfl rfl)
   | succ j => exact r2.2 j u z (by simpa using hu) (by simpa using hz)
theorem j79 {O : Nat → Prop} {w : World} {h : Gh} {l : Nat} {M : Nat → Option Ent} (k : LocOK O w h l (.raw M)) : Arena w h.g M := ⟨fun b E hb => (k b E hb).2.1,fun b E hb => (k b E hb).2.2⟩
theorem q185 {B : Nat → Prop} {w : World} {h : Gh} {M : Nat → Option Ent} (hA : Arena w h.g M) (hz : GZ w h.g) (hO : ∀ b E,M b = some E → B b) : Trans B w h w { h with g := iced h.g M } (fun b => M b ≠ none) none false := by
 refine ⟨BelowS.refl _ _,fun b _ hb => ⟨rfl,?_⟩,z40 hA,x63 hA hz,fun b hb => ?_,fun _ _ => rfl,fun _ _ => ⟨rfl,rfl⟩,fun l hl => by cases hl⟩
 ·have : M b = none := Classical.byContradiction hb
  simp [iced,this]
 ·have : M b = none := by
   cases hM : M b with
   | none => rfl
   | some E => exact absurd (hO b E hM) hb
  simp [iced,this]
theorem LocOK.iced {B : Nat → Prop} {w : World} {h : Gh} {M : Nat → Option Ent} (hA : Arena w h.g M) (hz : GZ w h.g) (hO : ∀ b E,M b = some E → B b) {l : Nat} {X : LV} (hX : ∀ b,inB h l X b → M b = none) (k : LocOK B w h l X) : LocOK B w { h with g := iced h.g M } l X :=
 (LocOK.trans (q185 hA hz hO) (by simp) (fun hf => by cases hf) (fun b hb => by simp [hX b hb]) k).1
theorem q47 {g : Nat → Nat} {M : Nat → Option Ent} {b : Nat} (h : M b = none) : lowered g M b = g b := by simp [lowered,h]
theorem z47 {h : Gh} {g : Nat → Nat} {l : Nat} {X : LV} : inB { h with g := g } l X = inB h l X := by cases X <;> rfl
theorem MCalls.borrow {f : FuncId} {xs ys : List AV} {L : List (Nat × LV)} {Q : List AV → List (Nat × LV) → Prop} {M : Nat → Option Ent} (hc : MCalls P f ys L Q) (hx : RdAs M xs ys) (hL9 : look L 1999 = none)
  (hQ : ∀ rs L',Q rs L' → (∀ x ∈ rs,x.flat ∧ 1999 ∉ x.mentions) ∧ look L' 1999 = none ∧ ∀ l X,look L' l = some X → X.flat ∧ 1999 ∉ X.mentions) :
  MCalls P f xs ((1999,.raw M) :: L) (fun rs L2 => ∃ L',Q rs L' ∧ L2 = (1999,.raw M) :: L') := by
 intro w h vs hz hr hl
 have hA := j79 (hl.1 1999 (.raw M) (by simp [look]))
 let h2 : Gh := { h with g := iced h.g M }
 have hsub : ∀ l X,look L l = some X → look ((1999,LV.raw M) :: L) l = some X ∧ l ≠ 1999 := by
  intro l X hX
  have : l ≠ 1999 := fun e => by subst e;rw [hL9] at hX;cases hX
  exact ⟨by simp only [look];rw [if_neg (fun e => this e.symm)];exact hX,this⟩
 have hfree : ∀ l X,look L l = some X → ∀ b,inB h l X b → M b = none := by
  intro l X hX b hb
  obtain ⟨k1,k2⟩ := hsub l X hX
  have := hl.2 l 1999 X (.raw M) b k2 k1 (by simp [look]) hb
  simp only [inB] at this
  exact Classical.byContradiction fun e => this e
 have key := hc w h2 vs (x63 hA hz) (j116 hA hx hr) ⟨fun l X hX => LocOK.iced hA hz (fun _ _ _ => trivial) (hfree l X hX) (hl.1 l X (hsub l X hX).1),fun l l' X X' b hne e1 e2 hb hb' => by
  rw [z47] at hb hb'
  exact hl.2 l l' X X' b hne (hsub l X e1).1 (hsub l' X' e2).1 hb hb'⟩
 have hown2 : ∀ b,ownB h2 L b → ownB h ((1999,.raw M) :: L) b := by
  rintro b ⟨l,X,hX,hb⟩
  rw [z47] at hb
  exact ⟨l,X,(hsub l X hX).1,hb⟩
 have hownM : ∀ b,M b ≠ none → ownB h ((1999,.raw M) :: L) b := fun b hb => ⟨1999,.raw M,by simp [look],hb⟩
 have hnoM : ∀ b,M b ≠ none → b < w.heap.size ∧ ¬ ownB h2 L b := by
  intro b hb
  cases hE : M b with
  | none => exact absurd hE hb
  |some E =>
   refine ⟨hA.lt hE,?_⟩
   rintro ⟨l,X,hX,hb2⟩
   rw [z47] at hb2
   rw [hfree l X hX b hb2] at hE;cases hE
 have fin : ∀ v w',(∃ h' rs L',Q rs L' ∧ RelRA w' h' v rs ∧ LocsOK (fun _ => True) w' h' L' ∧ Chg L L' w h2 w' h') →
   ∃ h' rs L2,(∃ L',Q rs L' ∧ L2 = (1999,LV.raw M) :: L') ∧ RelRA w' h' v rs ∧ LocsOK (fun _ => True) w' h' L2 ∧ Chg ((1999,.raw M) :: L) L2 w h w' h' := by
  rintro v w' ⟨h',rs,L',hq,h1,h3,h4⟩
  obtain ⟨f1,f2,f3⟩ := hQ rs L' hq
  let h4' : Gh := { h' with g := lowered h'.g M }
  let h5 : Gh := ⟨lowered h'.g M,fun l => if l = 1999 then h.ρ l else h'.ρ l,fun l => if l = 1999 then h.κ l else h'.κ l,fun l => if l = 1999 then h.μ l else h'.μ l⟩
  have h45 : ∀ l,l ≠ 1999 → h4'.ρ l = h5.ρ l ∧ h4'.κ l = h5.κ l ∧ h4'.μ l = h5.μ l := fun l hl => by simp [h4',h5,hl]
  have h45m : ∀ (ms : List Nat),1999 ∉ ms → ∀ l ∈ ms,h4'.ρ l = h5.ρ l ∧ h4'.κ l = h5.κ l ∧ h4'.μ l = h5.μ l := fun ms hms l hl => h45 l fun e => hms (e ▸ hl)
  have hkeep : Keep w h.g w' h5.g := by
   refine ⟨fun b => ?_,fun b o ho => ?_⟩
   ·show h.g b ≤ lowered h'.g M b
    unfold lowered
    cases hE : M b with
    | none => have := h4.keep.gam b;simpa [h2,iced,hE] using this
    | some E => simp [hA.g0 b E hE]
   ·cases hE : M b with
    | none => exact h4.keep.cell b o (by simpa [h2,iced,hE] using ho)
    | some E => rw [hA.g0 b E hE] at ho;omega
  have hL'M : ∀ l X,look L' l = some X → ∀ b,inB h' l X b → M b = none := by
   intro l X hX b hb
   rcases h4.own b ⟨l,X,hX,hb⟩ with hge | ho
   ·cases hE : M b with
    | none => rfl
    | some E => have := hA.lt hE;omega
   ·exact Classical.byContradiction fun e => (hnoM b e).2 ho
  have hsub' : ∀ l X,look ((1999,LV.raw M) :: L') l = some X → (l = 1999 ∧ X = .raw M) ∨ (l ≠ 1999 ∧ look L' l = some X) := by
   intro l X hX
   simp only [look] at hX
   split at hX
   ·rename_i e;cases hX;exact .inl ⟨e.symm,rfl⟩
   ·rename_i e;exact .inr ⟨fun e' => e e'.symm,hX⟩
  have hlo : ∀ l X,look L' l = some X → LocOK (fun _ => True) w' h5 l X ∧ inB h5 l X = inB h' l X := fun l X hX =>
   have hl9 : l ≠ 1999 := fun e => by subst e;rw [f2] at hX;cases hX
   ⟨q99 (h := h4') (k := h5) rfl (h45 l hl9) (h45m _ (f3 l X hX).2) (j184 (h := h') (f3 l X hX).1 rfl rfl rfl (fun b hb => q47 (hL'M l X hX b hb)) (h3.1 l X hX)),(z99 (h45 l hl9)).symm.trans z47⟩
  refine ⟨h5,rs,_,⟨L',hq,rfl⟩,?_,⟨fun l X hX => ?_,fun l l' X X' b hne e1 e2 hb hb' => ?_⟩,?_⟩
  ·have one : ∀ u x,x ∈ rs → RelA w' h' u x → RelA w' h5 u x := fun u x hx r => x57 (h := h4') (k := h5) rfl (h45m _ (f1 x hx).2) (q116 (h := h') (f1 x hx).1 rfl rfl rfl r)
   have many : ∀ us,RelAs w' h' us rs → RelAs w' h5 us rs := fun us r => ⟨r.1,fun j u x hu hx => one u x (List.mem_of_getElem? hx) (r.2 j u x hu hx)⟩
   match rs,h1,one,many with
   | [x],h1,one,_ => exact one v x (by simp) h1
   | [],⟨us,e,r⟩,_,many => exact ⟨us,e,many us r⟩
   | _ :: _ :: _,⟨us,e,r⟩,_,many => exact ⟨us,e,many us r⟩
  ·rcases hsub' l X hX with ⟨rfl,rfl⟩ | ⟨_,hX'⟩
   ·intro b E hE
    have hb := hnoM b (by simp [hE])
    refine ⟨trivial,EntOK.keep hkeep (h4.below.block b hb.1 hb.2) (hA.ok b E hE),?_⟩
    show lowered h'.g M b = 0
    simp [lowered,hE]
   ·exact (hlo l X hX').1
  ·rcases hsub' l X e1 with ⟨rfl,rfl⟩ | ⟨_,hX'⟩ <;> rcases hsub' l' X' e2 with ⟨e',rfl⟩ | ⟨_,hX2⟩
   ·exact hne e'.symm
   ·rw [(hlo l' X' hX2).2] at hb'
    exact hb (hL'M l' X' hX2 b hb')
   ·rw [(hlo l X hX').2] at hb
    exact hb' (hL'M l X hX' b hb)
   ·rw [(hlo l X hX').2] at hb
    rw [(hlo l' X' hX2).2] at hb'
    exact h3.2 l l' X X' b hne hX' hX2 hb hb'
  ·refine ⟨⟨h4.below.os,h4.below.tape,h4.below.output,h4.below.size,fun k hk hno => h4.below.block k hk fun ho => hno (hown2 k ho)⟩,fun b hb hno => ?_,fun b hb => ?_,hkeep,fun l X hX => ?_,fun l X hX => ?_,fun b ⟨l,X,hX,hb⟩ => ?_⟩
   ·have hM : M b = none := Classical.byContradiction fun e => hno (hownM b e)
    show lowered h'.g M b = h.g b
    rw [q47 hM,h4.gam b hb fun ho => hno (hown2 b ho)]
    simp [h2,iced,hM]
   ·have hM : M b = none := by
     cases hE : M b with
     | none => rfl
     | some E => have := hA.lt hE;have := h4.below.size;omega
    show lowered h'.g M b = 0
    rw [q47 hM];exact h4.gz b hb
   ·simp only [look] at hX
    split at hX
    ·rename_i e;subst e;simp [h5]
    ·rename_i e
     have := h4.ρ l X hX
     simp only [h5,if_neg (fun e' => e (Eq.symm e'))];exact this
   ·simp only [look] at hX
    split at hX
    ·rename_i e;subst e;exact .inr (by simp [h5])
    ·rename_i e
     have := h4.up l X hX
     simp only [h5,if_neg (fun e' => e (Eq.symm e'))];exact this
   ·rcases hsub' l X hX with ⟨rfl,rfl⟩ | ⟨_,hX'⟩
    ·exact .inr (hownM b hb)
    ·rw [(hlo l X hX').2] at hb
     rcases h4.own b ⟨l,X,hX',hb⟩ with hge | ho
     ·exact .inl hge
     ·exact .inr (hown2 b ho)
 unfold CallRes at *
 split at key
 ·exact key.mono fun e w' ⟨v,he,hh⟩ => ⟨v,he,fin v w' hh⟩
 ·exact fin _ _ key
 ·exact key.elim
theorem q117 {w : World} {h : Gh} {vs : List Value} {xs : List PV} (r : RelAs w h vs (xs.map .p)) : RelPs w h.g vs xs :=
 ⟨by simpa using r.1,fun j v x hv hx => r.2 j v (.p x) hv (by rw [List.getElem?_map,hx];rfl)⟩
theorem z185 {w : World} {h : Gh} {v : Value} {rs : List PV} (r : RelR w h.g v rs) : RelRA w h v (rs.map .p) := by
 have many : ∀ us,RelPs w h.g us rs → RelAs w h us (rs.map .p) := fun us r => ⟨by simpa using r.1,fun j u x hu hx => by
  rw [List.getElem?_map] at hx
  cases hj : rs[j]? with
  | none => rw [hj] at hx;cases hx
  | some y => rw [hj] at hx;cases hx;exact r.2 j u y hu hj⟩
 match rs,r,many with
 | [x],r,_ => exact r
 | [],⟨us,e,r⟩,many => exact ⟨us,e,many us r⟩
 | _ :: _ :: _,⟨us,e,r⟩,many => exact ⟨us,e,many us r⟩
theorem x185 {f : FuncId} {xs rs : List PV} (hc : ACalls P f xs (· = rs)) : MCalls P f (xs.map .p) [] (fun r L => r = rs.map .p ∧ L = []) := by
 intro w h vs hz hr hl
 have key := q26.1 hc w h.g vs hz (q117 hr)
 have fin : ∀ v w',(∃ g' rs',Ext w h.g w' g' ∧ rs' = rs ∧ RelR w' g' v rs') → ∃ h' r L',(r = rs.map .p ∧ L' = []) ∧ RelRA w' h' v r ∧ LocsOK (fun _ => True) w' h' L' ∧ Chg [] L' w h w' h' := by
  rintro v w' ⟨g',_,he,rfl,hR⟩
  refine ⟨{ h with g := g' },_,[],⟨rfl,rfl⟩,z185 hR,⟨fun l X hX => (by cases hX),fun l l' X X' b _ hX => (by cases hX)⟩,?_⟩
  exact ⟨he.belowS,fun b hb _ => he.gam b hb,he.gz,he.keep hz,fun l X hX => (by cases hX),fun l X hX => (by cases hX),fun b ⟨l,X,hX,_⟩ => (by cases hX)⟩
 unfold CallRes at *
 split at key
 ·exact key.mono fun e w' ⟨v,he,hh⟩ => ⟨v,he,fin v w' hh⟩
 ·exact fin _ _ key
 ·exact key.elim
inductive RdPs (M : Nat → Option Ent) : List PV → List PV → Prop
 | nil : RdPs M [] []
 | cons {x y : PV} {xs ys : List PV} (h : RdP M x y) (t : RdPs M xs ys) : RdPs M (x :: xs) (y :: ys)
theorem RdPs.as {M : Nat → Option Ent} {xs ys : List PV} (h : RdPs M xs ys) : RdAs M (xs.map .p) (ys.map .p) := by
 induction h with
 | nil => exact .nil
 | cons h t ih => exact .cons (RdA.p h) ih
theorem ACalls.borrow {f : FuncId} {xs ys rs : List PV} {M : Nat → Option Ent} (hc : ACalls P f ys (· = rs)) (hx : RdPs M xs ys) (hr : ∀ r ∈ rs,r.flat) :
  MCalls P f (xs.map .p) [(1999,.raw M)] (fun r L => r = rs.map .p ∧ L = [(1999,.raw M)]) := by
 refine (MCalls.borrow (x185 hc) hx.as rfl ?_).mono ?_
 ·rintro r L ⟨rfl,rfl⟩
  refine ⟨fun x hx => ?_,rfl,fun l X hX => by cases hX⟩
  obtain ⟨y,hy,rfl⟩ := List.mem_map.1 hx
  exact ⟨hr y hy,by simp [AV.mentions]⟩
 ·rintro r L ⟨L',⟨rfl,rfl⟩,rfl⟩;exact ⟨rfl,rfl⟩
theorem RCalls.borrow {f : FuncId} {xs ys : List PV} {y : PV} {M : Nat → Option Ent} (hc : ACalls P f ys (· = [y])) (hx : RdPs M xs ys) (hy : y.flat) : RCalls P f (xs.map .p) [(1999,.raw M)] (.p y) := by
 intro w h vs hz hr hl
 have hA := j79 (hl.1 1999 (.raw M) (by simp [look]))
 have hr2 := j116 hA hx.as hr
 have key := q26.1 hc w (iced h.g M) vs (x63 hA hz) (q117 hr2)
 have fin : ∀ v w',(∃ g' rs',Ext w (iced h.g M) w' g' ∧ rs' = [y] ∧ RelR w' g' v rs') → ∃ g',Ext w h.g w' g' ∧ RelA w' { h with g := g' } v (.p y) := by
  rintro v w' ⟨g',_,he,rfl,hR⟩
  refine ⟨lowered g' M,⟨he.below,fun b hb => ?_,fun b hb => ?_⟩,x79 hy hR⟩
  ·cases hE : M b with
   | none => rw [q47 hE,he.gam b hb];simp [iced,hE]
   | some E => simp [lowered,hE,hA.g0 b E hE]
  ·cases hE : M b with
   | none => rw [q47 hE];exact he.gz b hb
   | some E => simp [lowered,hE]
 unfold CallRes at *
 split at key
 ·exact key.mono fun e w' ⟨v,he,hh⟩ => ⟨v,he,fin v w' hh⟩
 ·exact fin _ _ key
 ·exact key.elim
theorem Weak.melt (A : ASt) (M : Nat → Option Ent) (t : Nat) (x y : AV) (hM : look A.locs 1999 = some (.raw M)) (ht : look A.fr t = some x) (hx : RdA M x y) : Weak A ⟨(t,y) :: A.fr,dropL 1999 A.locs⟩ := by
 intro w0 g0 nt h a w r
 have hA := j79 (r.locs 1999 _ hM)
 have hO : ∀ b E,M b = some E → w0.O b := fun b E hb => (r.locs 1999 _ hM b E hb).1
 have hfree : ∀ l L,look (dropL 1999 A.locs) l = some L → look A.locs l = some L ∧ ∀ b,inB h l L b → M b = none := by
  intro l L hl
  obtain ⟨k1,k2⟩ := z63 hl
  refine ⟨k2,fun b hb => ?_⟩
  have := r.sep l 1999 L (.raw M) b k1 k2 hM hb
  simp only [inB] at this
  exact Classical.byContradiction fun e => this e
 refine ⟨{ h with g := iced h.g M },r.size,r.defers,fun u z hz => ?_,fun l L hl => LocOK.iced hA r.gz hO (hfree l L hl).2 (r.locs l L (hfree l L hl).1),fun l l' L L' b hne hl hl' hb hb' => ?_,⟨r.ext.below,fun b hb => ?_,x63 hA r.gz,r.ext.keep.trans (z40 hA)⟩,r.pin⟩
 ·simp only [look] at hz
  split at hz
  ·rename_i e;subst e;cases hz;exact x116 hA hx (r.fr t x ht)
  ·exact z116 hA (r.fr u z hz)
 ·rw [z47] at hb hb'
  exact r.sep l l' L L' b hne (hfree l L hl).1 (hfree l' L' hl').1 hb hb'
 ·have hMb : M b = none := by
   cases hE : M b with
   | none => rfl
   | some E => exact absurd (hO b E hE) hb
  show iced h.g M b = g0 b
  rw [← r.ext.gam b hb]
  simp [iced,hMb]
end Go.Proofs.YtemcdefpihkfpaaGreat.AL
namespace Go.Proofs.YtemcdefpihkfpaaGreat.AL
open Go.RowKit
def GrowsM (M M2 : Nat → Option Ent) : Prop := ∀ b E,M b = some E → M2 b = some E
theorem GrowsM.refl (M : Nat → Option Ent) : GrowsM M M := fun _ _ h => h
theorem GrowsM.trans {M M2 M3 : Nat → Option Ent} (h : GrowsM M M2) (k : GrowsM M2 M3) : GrowsM M M3 := fun b E e => k b E (h b E e)
def HoldR (M : Nat → Option Ent) (e : TypeId) (sz n : Nat) (f : Nat → List Dat) (v : Value) : Prop :=
 (n = 0 ∧ ∃ a c,v = .slice a 0 c) ∨ ∃ b c cap f',v = .slice (some ⟨b,0,none⟩) n c ∧ n ≤ c ∧ M b = some ⟨e,sz,cap,n,f'⟩ ∧ ∀ k,k < n → f' k = f k
theorem HoldR.mono {M M2 : Nat → Option Ent} {e : TypeId} {sz n : Nat} {f : Nat → List Dat} {v : Value} (hM : GrowsM M M2) (h : HoldR M e sz n f v) : HoldR M2 e sz n f v := by
 rcases h with h | ⟨b,c,cap,f',h1,h2,h3,h4⟩
 ·exact .inl h
 ·exact .inr ⟨b,c,cap,f',h1,h2,hM b _ h3,h4⟩
theorem PackR.grows {M M2 : Nat → Option Ent} {e : TypeId} {sz n : Nat} {f : Nat → List Dat} {v : Value} (h : PackR M e sz n f v M2) : GrowsM M M2 := by
 rcases h with ⟨_,_,rfl⟩ | ⟨b,c,_,h2,_,rfl⟩
 ·exact .refl _
 ·intro b' E hb'
  have : b' ≠ b := fun e => by rw [e,h2] at hb';cases hb'
  rw [q41 _ _ this];exact hb'
theorem HoldR.rd {M : Nat → Option Ent} {e : TypeId} {sz n : Nat} {f : Nat → List Dat} {v : Value} (h : HoldR M e sz n f v) : RdD M (.v v) (.sl sz n f) := by
 rcases h with ⟨rfl,a,c,rfl⟩ | ⟨b,c,cap,f',rfl,h2,h3,h4⟩
 ·exact .nil _ _ _ _
 ·refine .row b n c ⟨e,sz,cap,n,f'⟩ f h3 (Nat.le_refl _) h2 (fun i hi => by show (f i).length = (f' i).length;rw [h4 i hi]) fun i j x y hi hx hy => ?_
  simp only [] at hx
  rw [h4 i hi,hy] at hx
  cases hx
  exact .refl _
theorem HoldR.slice {M : Nat → Option Ent} {e : TypeId} {sz n : Nat} {f : Nat → List Dat} {v : Value} (h : HoldR M e sz n f v) : ∃ a c,v = .slice a n c := by
 rcases h with ⟨rfl,a,c,rfl⟩ | ⟨b,c,cap,f',rfl,_⟩
 ·exact ⟨_,_,rfl⟩
 ·exact ⟨_,_,rfl⟩
def rowVal (s : Nat → Value) : Nat → List Dat := fun i => [.v (s i)]
theorem j185 (s : Nat → Value) (i : Nat) : rowVal s i = [.v (s i)] := rfl
def updS (s : Nat → Value) (n : Nat) (v : Value) : Nat → Value := fun i => if i = n then v else s i
theorem j63 (s : Nat → Value) (n : Nat) (v : Value) : updS s n v n = v := by simp [updS]
theorem x47 (s : Nat → Value) {n i : Nat} (v : Value) (h : i ≠ n) : updS s n v i = s i := by simp [updS,h]
theorem q186 (s : Nat → Value) (v : Value) (i : Nat) (k : Nat) (hk : k < i + 1) : catF i (rowVal s) (fun j => [[Dat.v v]].getD j []) k = rowVal (updS s i v) k := by
 unfold catF rowVal
 split
 ·rw [x47 _ _ (by omega)]
 ·have : k = i := by omega
  subst this
  rw [Nat.sub_self,j63];rfl
def RowsM (M : Nat → Option Ent) (e : TypeId) (sz : Nat) (len : Nat → Nat) (f : Nat → Nat → List Dat) (s : Nat → Value) (n : Nat) : Prop := ∀ i,i < n → HoldR M e sz (len i) (f i) (s i)
theorem RowsM.mono {M M2 : Nat → Option Ent} {e : TypeId} {sz : Nat} {len : Nat → Nat} {f : Nat → Nat → List Dat} {s : Nat → Value} {n : Nat} (hM : GrowsM M M2) (h : RowsM M e sz len f s n) : RowsM M2 e sz len f s n := fun i hi => (h i hi).mono hM
theorem RowsM.rd {M : Nat → Option Ent} {e : TypeId} {sz : Nat} {len : Nat → Nat} {f : Nat → Nat → List Dat} {s : Nat → Value} {n : Nat} (h : RowsM M e sz len f s n) {F : Nat → List Dat} (hF : ∀ i,i < n → F i = [.sl sz (len i) (f i)]) : RdD M (.sl 1 n (rowVal s)) (.sl 1 n F) := by
 refine .sl _ _ _ _ (fun i hi => by rw [hF i hi];rfl) fun i j x y hi hx hy => ?_
 rw [hF i hi] at hy
 unfold rowVal at hx
 cases j with
 | zero => simp at hx hy;subst hx;subst hy;exact (h i hi).rd
 | succ j => simp at hx
def Shape (sz : Nat) (js : List Nat) (ds : List Dat) : Prop := ds.length = sz ∧ ∀ j,j ∈ js → ∃ x,ds[j]? = some (.v (.int .i64 x))
def HoldS (M : Nat → Option Ent) (e : TypeId) (sz : Nat) (js : List Nat) (n : Nat) (v : Value) : Prop :=
 (n = 0 ∧ ∃ a c,v = .slice a 0 c) ∨ ∃ b c cap f',v = .slice (some ⟨b,0,none⟩) n c ∧ n ≤ c ∧ M b = some ⟨e,sz,cap,n,f'⟩ ∧ ∀ k,k < n → Shape sz js (f' k)
theorem Shape.put {sz : Nat} {js : List Nat} {ds : List Dat} (h : Shape sz js ds) (j : Nat) (hj : j < sz) (x : Int) : Shape sz js (ds.take j ++ [.v (.int .i64 x)] ++ ds.drop (j + [Dat.v (.int .i64 x)].length)) := by
 have hl := h.1
 have hg := j25 ds [.v (.int .i64 x)] j (by simp;omega)
 refine ⟨by simp;omega,fun q hq => ?_⟩
 rw [hg q]
 split
 ·rename_i hh
  have : q = j := by simp at hh;omega
  subst this
  exact ⟨x,by simp⟩
 ·exact h.2 q hq
theorem HoldS.store {M : Nat → Option Ent} {e : TypeId} {sz n : Nat} {js : List Nat} {v : Value} (h : HoldS M e sz js n v) {b0 : Nat} {E : Ent} (hE : M b0 = some E) (i j : Nat) (x : Int) (hj : j < E.sz) : HoldS (setM M b0 (some { E with f := putEl E.f i j [.v (.int .i64 x)] })) e sz js n v := by
 rcases h with h | ⟨b,c,cap,f',h1,h2,h3,h4⟩
 ·exact .inl h
 ·by_cases hb : b = b0
  ·subst hb
   rw [h3] at hE
   cases hE
   refine .inr ⟨b,c,cap,_,h1,h2,q27 _ _ _,fun k hk => ?_⟩
   unfold putEl
   split
   ·rename_i e;subst e;exact (h4 k hk).put j hj x
   ·exact h4 k hk
  ·exact .inr ⟨b,c,cap,f',h1,h2,by rw [q41 _ _ hb];exact h3,h4⟩
def BorrowOK (lo : Option Nat) (E : Eff) : Prop := E.val.flat ∧ E.fresh = false ∧ lo ≠ some 1999 ∧ ∀ l L,E.upd = some (l,L) → L.flat ∧ lo = some l
theorem BorrowOK.own {l : Nat} {v : AV} {obl : Prop} {e : TypeId} {sz n g : Nat} {f : Nat → List Dat} (hv : v.flat) (hl : l ≠ 1999) (hf : ∀ i,i < n → ∀ d ∈ f i,d.flat) : BorrowOK (some l) ⟨v,obl,some (l,.own e sz n g f),false⟩ := by
 refine ⟨hv,rfl,fun e => hl (by cases e;rfl),fun l' L hu => ?_⟩
 cases hu
 exact ⟨hf,rfl⟩
section
variable (P : Program) (o : Oper) (A : ASt)
def stepB (ys : List AV) (K : Eff → Prop) : Prop :=
 match opEff P [] o ys (A.locAt (locNeed o ys)) with
 | some E => E.obl ∧ BorrowOK (locNeed o ys) E ∧ K E
 | none => False
end
attribute [go_sem] stepB
end Go.Proofs.YtemcdefpihkfpaaGreat.AL
namespace Go.Proofs.YtemcdefpihkfpaaGreat.AL
open Go.RowKit
theorem j47 {P : Program} {fn : Func} {Q : List AV → List (Nat × LV) → Prop} {A : ASt} {rs : List AV} {L : List (Nat × LV)} (hq : Q rs L) (hr : ResVarsA P A fn.results.toList rs) (hl : ∀ p ∈ L,look A.locs p.1 = some p.2) : retM P fn Q .ret A ∧ retM P fn Q .normal A :=
 ⟨z21 rs L hr hl hq,j167 rs L hr hl hq⟩
theorem q64 (M : Nat → Option Ent) (b : Nat) (E E' : Option Ent) : setM (setM M b E) b E' = setM M b E' := by
 funext k;unfold setM;split <;> rfl
theorem Weak.shrink (A : ASt) (M : Nat → Option Ent) (b n : Nat) (E : Ent) (hM : look A.locs 1999 = some (.raw M)) (hb : M b = some E) (hn : n ≤ E.n) : Weak A ⟨A.fr,(1999,.raw (setM M b (some { E with n := n }))) :: A.locs⟩ := by
 intro w0 g0 nt h a w r
 have old : ∀ k L,look ((1999,LV.raw (setM M b (some { E with n := n }))) :: A.locs) k = some L → (k = 1999 ∧ L = .raw (setM M b (some { E with n := n }))) ∨ (k ≠ 1999 ∧ look A.locs k = some L) := by
  intro k L hk
  simp only [look] at hk
  split at hk
  ·rename_i e;cases hk;exact .inl ⟨e.symm,rfl⟩
  ·rename_i e;exact .inr ⟨fun e' => e e'.symm,hk⟩
 have hin : ∀ b',inB h 1999 (.raw (setM M b (some { E with n := n }))) b' → inB h 1999 (.raw M) b' := by
  intro b' hb'
  simp only [inB,setM] at hb' ⊢
  split at hb'
  ·rename_i e;subst e;simp [hb]
  ·exact hb'
 refine ⟨h,r.size,r.defers,r.fr,fun k L hk => ?_,fun k k' L L' b' hkk hk hk' hb1 hb2 => ?_,r.ext,r.pin⟩
 ·rcases old k L hk with ⟨rfl,rfl⟩ | ⟨_,h3⟩
  ·intro b' E' hE'
   simp only [setM] at hE'
   split at hE'
   ·rename_i e;subst e;cases hE'
    obtain ⟨c1,⟨cur,c2,c3,c4,c5,c6⟩,c7⟩ := r.locs 1999 _ hM b' E hb
    refine ⟨c1,⟨cur,c2,c3,Nat.le_trans hn c4,c5,fun i hi => c6.1 i (Nat.lt_of_lt_of_le hi hn),fun i j d hi hj hd => ?_⟩,c7⟩
    obtain ⟨u,h1,h2⟩ := c6.cell (Nat.lt_of_lt_of_le hi hn) hj hd
    refine ⟨u,?_,h2⟩
    have hi : i < n := hi
    rw [List.getElem?_take_of_lt (j23 hi hj)]
    simpa using h1
   ·exact r.locs 1999 _ hM b' E' hE'
  ·exact r.locs k L h3
 ·rcases old k L hk with ⟨rfl,rfl⟩ | ⟨n1,h3⟩ <;> rcases old k' L' hk' with ⟨e',rfl⟩ | ⟨n1',h3'⟩
  ·exact hkk e'.symm
  ·exact r.sep 1999 k' _ L' b' hkk hM h3' (hin b' hb1) hb2
  ·subst e';exact r.sep k 1999 L _ b' hkk h3 hM hb1 (hin b' hb2)
  ·exact r.sep k k' L L' b' hkk h3 h3' hb1 hb2
end Go.Proofs.YtemcdefpihkfpaaGreat.AL
namespace Go.Proofs.YtemcdefpihkfpaaGreat
open Go.Proofs.YtemcdefpihkfpaaGreat.AL
theorem ClipA_c (n : Nat) (f : Nat → List Dat) (hn : n ≤ 1099511627776) : ACalls Tryz.prog 113 [.d (.sl 2 n f)] (· = [.d (.sl 2 n f)]) := by
 refine q12 Tryz.func113 rfl (by decide +kernel) (by rw [Tryz.ntmps113];simp) ?_;rw [Tryz.ntmps113];simp only [frOf]
 (repeat (first | apply j0 | refine z7 rfl ?_ | refine x7 rfl ?_ | apply j6 | (refine x5 fun K hK => ?_) | ((first | apply j5 | apply x6 | (refine j4 (hK _ ?_);clear hK K));show AWP _ _ _ _ _) | (refine j7 [] rfl ?_;simp (disch:=omega) only [go_sem,seval];(repeat refine ⟨by omega,?_⟩))))
 refine j9 ⟨_,?_,rfl⟩;rw [Tryz.results113];simp (disch:=omega) only [ResVars,ResVar,ptrLoc,go_sem,seval]
 rfl
set_option maxRecDepth 100000 in
theorem z186 (n : Nat) (f : Nat → List Dat) (hl : n ≤ 1099511627776) : ACalls Tryz.prog 114 [.d (.sl 2 n f)] (· = [.d (.sl 2 n f)]) := by
 by_cases h : n = 0
 ·subst h
  refine x42 fun a c => ?_
  cases a with
  |none =>
   refine q12 Tryz.func114 rfl (by decide +kernel) (by rw [Tryz.ntmps114];simp) ?_;rw [Tryz.ntmps114];simp only [frOf]
   (repeat (first | apply j0 | refine z7 rfl ?_ | refine x7 rfl ?_ | apply j6 | (refine x5 fun K hK => ?_) | ((first | apply j5 | apply x6 | (refine j4 (hK _ ?_);clear hK K));show AWP _ _ _ _ _) | (refine j7 [5] rfl ?_;simp (disch:=omega) only [go_sem,seval];(repeat refine ⟨by omega,?_⟩))))
   refine q17 2 _ (.p (.d (.sl 2 0 f))) rfl z23 ?_
   refine j9 ⟨_,?_,rfl⟩;rw [Tryz.results114];simp (disch:=omega) only [ResVars,ResVar,ptrLoc,go_sem,seval]
  |some a =>
   refine q12 Tryz.func114 rfl (by decide +kernel) (by rw [Tryz.ntmps114];simp) ?_;rw [Tryz.ntmps114];simp only [frOf]
   (repeat ((fail_if_success (show AWP _ _ (.region 3 _ _) _ _));first | apply j0 | refine z7 rfl ?_ | refine x7 rfl ?_ | apply j6 | (refine x5 fun K hK => ?_) | ((first | apply j5 | apply x6 | (refine j4 (hK _ ?_);clear hK K));show AWP _ _ _ _ _) | (refine j7 [5] rfl ?_;simp (disch:=omega) only [go_sem,seval];(repeat refine ⟨by omega,?_⟩))))
   refine q17 0 _ (.p (.d (.sl 2 0 f))) rfl z23 ?_
   (repeat (first | apply j0 | refine z7 rfl ?_ | refine x7 rfl ?_ | apply j6 | (refine x5 fun K hK => ?_) | ((first | apply j5 | apply x6 | (refine j4 (hK _ ?_);clear hK K));show AWP _ _ _ _ _) | (refine j7 [5] rfl ?_;simp (disch:=omega) only [go_sem,seval];(repeat refine ⟨by omega,?_⟩))))
   refine q17 2 _ (.p (.d (.sl 2 0 f))) rfl (q22 rfl (fun i hi => by omega)) ?_
   refine j9 ⟨_,?_,rfl⟩;rw [Tryz.results114];simp (disch:=omega) only [ResVars,ResVar,ptrLoc,go_sem,seval]
 ·refine q12 Tryz.func114 rfl (by decide +kernel) (by rw [Tryz.ntmps114];simp) ?_;rw [Tryz.ntmps114];simp only [frOf]
  (repeat (first | apply j0 | refine z7 rfl ?_ | refine x7 rfl ?_ | apply j6 | (refine x5 fun K hK => ?_) | ((first | apply j5 | apply x6 | (refine j4 (hK _ ?_);clear hK K));show AWP _ _ _ _ _) | (refine j7 [5] rfl ?_;simp (disch:=omega) only [go_sem,seval];(repeat refine ⟨by omega,?_⟩))))
  refine q17 2 _ (.p (.d (.sl 2 n f))) rfl (q22 (by omega) (fun i hi => by unfold catF;rw [if_neg (by omega)];rfl)) ?_
  refine j9 ⟨_,?_,rfl⟩;rw [Tryz.results114];simp (disch:=omega) only [ResVars,ResVar,ptrLoc,go_sem,seval]
theorem ClipW_c (n : Nat) (f : Nat → List Dat) (hn : n ≤ 1099511627776) : ACalls Tryz.prog 115 [.d (.sl 3 n f)] (· = [.d (.sl 3 n f)]) := by
 refine q12 Tryz.func115 rfl (by decide +kernel) (by rw [Tryz.ntmps115];simp) ?_;rw [Tryz.ntmps115];simp only [frOf]
 (repeat (first | apply j0 | refine z7 rfl ?_ | refine x7 rfl ?_ | apply j6 | (refine x5 fun K hK => ?_) | ((first | apply j5 | apply x6 | (refine j4 (hK _ ?_);clear hK K));show AWP _ _ _ _ _) | (refine j7 [] rfl ?_;simp (disch:=omega) only [go_sem,seval];(repeat refine ⟨by omega,?_⟩))))
 refine j9 ⟨_,?_,rfl⟩;rw [Tryz.results115];simp (disch:=omega) only [ResVars,ResVar,ptrLoc,go_sem,seval]
 rfl
set_option maxRecDepth 100000 in
theorem x186 (n : Nat) (f : Nat → List Dat) (hl : n ≤ 1099511627776) : ACalls Tryz.prog 116 [.d (.sl 3 n f)] (· = [.d (.sl 3 n f)]) := by
 by_cases h : n = 0
 ·subst h
  refine x42 fun a c => ?_
  cases a with
  |none =>
   refine q12 Tryz.func116 rfl (by decide +kernel) (by rw [Tryz.ntmps116];simp) ?_;rw [Tryz.ntmps116];simp only [frOf]
   (repeat (first | apply j0 | refine z7 rfl ?_ | refine x7 rfl ?_ | apply j6 | (refine x5 fun K hK => ?_) | ((first | apply j5 | apply x6 | (refine j4 (hK _ ?_);clear hK K));show AWP _ _ _ _ _) | (refine j7 [5] rfl ?_;simp (disch:=omega) only [go_sem,seval];(repeat refine ⟨by omega,?_⟩))))
   refine q17 2 _ (.p (.d (.sl 3 0 f))) rfl z23 ?_
   refine j9 ⟨_,?_,rfl⟩;rw [Tryz.results116];simp (disch:=omega) only [ResVars,ResVar,ptrLoc,go_sem,seval]
  |some a =>
   refine q12 Tryz.func116 rfl (by decide +kernel) (by rw [Tryz.ntmps116];simp) ?_;rw [Tryz.ntmps116];simp only [frOf]
   (repeat ((fail_if_success (show AWP _ _ (.region 3 _ _) _ _));first | apply j0 | refine z7 rfl ?_ | refine x7 rfl ?_ | apply j6 | (refine x5 fun K hK => ?_) | ((first | apply j5 | apply x6 | (refine j4 (hK _ ?_);clear hK K));show AWP _ _ _ _ _) | (refine j7 [5] rfl ?_;simp (disch:=omega) only [go_sem,seval];(repeat refine ⟨by omega,?_⟩))))
   refine q17 0 _ (.p (.d (.sl 3 0 f))) rfl z23 ?_
   (repeat (first | apply j0 | refine z7 rfl ?_ | refine x7 rfl ?_ | apply j6 | (refine x5 fun K hK => ?_) | ((first | apply j5 | apply x6 | (refine j4 (hK _ ?_);clear hK K));show AWP _ _ _ _ _) | (refine j7 [5] rfl ?_;simp (disch:=omega) only [go_sem,seval];(repeat refine ⟨by omega,?_⟩))))
   refine q17 2 _ (.p (.d (.sl 3 0 f))) rfl (q22 rfl (fun i hi => by omega)) ?_
   refine j9 ⟨_,?_,rfl⟩;rw [Tryz.results116];simp (disch:=omega) only [ResVars,ResVar,ptrLoc,go_sem,seval]
 ·refine q12 Tryz.func116 rfl (by decide +kernel) (by rw [Tryz.ntmps116];simp) ?_;rw [Tryz.ntmps116];simp only [frOf]
  (repeat (first | apply j0 | refine z7 rfl ?_ | refine x7 rfl ?_ | apply j6 | (refine x5 fun K hK => ?_) | ((first | apply j5 | apply x6 | (refine j4 (hK _ ?_);clear hK K));show AWP _ _ _ _ _) | (refine j7 [5] rfl ?_;simp (disch:=omega) only [go_sem,seval];(repeat refine ⟨by omega,?_⟩))))
  refine q17 2 _ (.p (.d (.sl 3 n f))) rfl (q22 (by omega) (fun i hi => by unfold catF;rw [if_neg (by omega)];rfl)) ?_
  refine j9 ⟨_,?_,rfl⟩;rw [Tryz.results116];simp (disch:=omega) only [ResVars,ResVar,ptrLoc,go_sem,seval]
theorem ClipP_c (n : Nat) (f : Nat → List Dat) (hn : n ≤ 1099511627776) : ACalls Tryz.prog 152 [.d (.sl 5 n f)] (· = [.d (.sl 5 n f)]) := by
 refine q12 Tryz.func152 rfl (by decide +kernel) (by rw [Tryz.ntmps152];simp) ?_;rw [Tryz.ntmps152];simp only [frOf]
 (repeat (first | apply j0 | refine z7 rfl ?_ | refine x7 rfl ?_ | apply j6 | (refine x5 fun K hK => ?_) | ((first | apply j5 | apply x6 | (refine j4 (hK _ ?_);clear hK K));show AWP _ _ _ _ _) | (refine j7 [] rfl ?_;simp (disch:=omega) only [go_sem,seval];(repeat refine ⟨by omega,?_⟩))))
 refine j9 ⟨_,?_,rfl⟩;rw [Tryz.results152];simp (disch:=omega) only [ResVars,ResVar,ptrLoc,go_sem,seval]
 rfl
set_option maxRecDepth 100000 in
theorem j186 (n : Nat) (f : Nat → List Dat) (hl : n ≤ 1099511627776) : ACalls Tryz.prog 153 [.d (.sl 5 n f)] (· = [.d (.sl 5 n f)]) := by
 by_cases h : n = 0
 ·subst h
  refine x42 fun a c => ?_
  cases a with
  |none =>
   refine q12 Tryz.func153 rfl (by decide +kernel) (by rw [Tryz.ntmps153];simp) ?_;rw [Tryz.ntmps153];simp only [frOf]
   (repeat (first | apply j0 | refine z7 rfl ?_ | refine x7 rfl ?_ | apply j6 | (refine x5 fun K hK => ?_) | ((first | apply j5 | apply x6 | (refine j4 (hK _ ?_);clear hK K));show AWP _ _ _ _ _) | (refine j7 [5] rfl ?_;simp (disch:=omega) only [go_sem,seval];(repeat refine ⟨by omega,?_⟩))))
   refine q17 2 _ (.p (.d (.sl 5 0 f))) rfl z23 ?_
   refine j9 ⟨_,?_,rfl⟩;rw [Tryz.results153];simp (disch:=omega) only [ResVars,ResVar,ptrLoc,go_sem,seval]
  |some a =>
   refine q12 Tryz.func153 rfl (by decide +kernel) (by rw [Tryz.ntmps153];simp) ?_;rw [Tryz.ntmps153];simp only [frOf]
   (repeat ((fail_if_success (show AWP _ _ (.region 3 _ _) _ _));first | apply j0 | refine z7 rfl ?_ | refine x7 rfl ?_ | apply j6 | (refine x5 fun K hK => ?_) | ((first | apply j5 | apply x6 | (refine j4 (hK _ ?_);clear hK K));show AWP _ _ _ _ _) | (refine j7 [5] rfl ?_;simp (disch:=omega) only [go_sem,seval];(repeat refine ⟨by omega,?_⟩))))
   refine q17 0 _ (.p (.d (.sl 5 0 f))) rfl z23 ?_
   (repeat (first | apply j0 | refine z7 rfl ?_ | refine x7 rfl ?_ | apply j6 | (refine x5 fun K hK => ?_) | ((first | apply j5 | apply x6 | (refine j4 (hK _ ?_);clear hK K));show AWP _ _ _ _ _) | (refine j7 [5] rfl ?_;simp (disch:=omega) only [go_sem,seval];(repeat refine ⟨by omega,?_⟩))))
   refine q17 2 _ (.p (.d (.sl 5 0 f))) rfl (q22 rfl (fun i hi => by omega)) ?_
   refine j9 ⟨_,?_,rfl⟩;rw [Tryz.results153];simp (disch:=omega) only [ResVars,ResVar,ptrLoc,go_sem,seval]
 ·refine q12 Tryz.func153 rfl (by decide +kernel) (by rw [Tryz.ntmps153];simp) ?_;rw [Tryz.ntmps153];simp only [frOf]
  (repeat (first | apply j0 | refine z7 rfl ?_ | refine x7 rfl ?_ | apply j6 | (refine x5 fun K hK => ?_) | ((first | apply j5 | apply x6 | (refine j4 (hK _ ?_);clear hK K));show AWP _ _ _ _ _) | (refine j7 [5] rfl ?_;simp (disch:=omega) only [go_sem,seval];(repeat refine ⟨by omega,?_⟩))))
  refine q17 2 _ (.p (.d (.sl 5 n f))) rfl (q22 (by omega) (fun i hi => by unfold catF;rw [if_neg (by omega)];rfl)) ?_
  refine j9 ⟨_,?_,rfl⟩;rw [Tryz.results153];simp (disch:=omega) only [ResVars,ResVar,ptrLoc,go_sem,seval]
theorem q80 (n : Nat) (f : Nat → List Dat) (hn : n ≤ 1099511627776) : ACalls Tryz.prog 76 [.d (.sl 12 n f)] (· = [.d (.sl 12 n f)]) := by
 refine q12 Tryz.func76 rfl (by decide +kernel) (by rw [Tryz.ntmps76];simp) ?_;rw [Tryz.ntmps76];simp only [frOf]
 (repeat (first | apply j0 | refine z7 rfl ?_ | refine x7 rfl ?_ | apply j6 | (refine x5 fun K hK => ?_) | ((first | apply j5 | apply x6 | (refine j4 (hK _ ?_);clear hK K));show AWP _ _ _ _ _) | (refine j7 [] rfl ?_;simp (disch:=omega) only [go_sem,seval];(repeat refine ⟨by omega,?_⟩))))
 refine j9 ⟨_,?_,rfl⟩;rw [Tryz.results76];simp (disch:=omega) only [ResVars,ResVar,ptrLoc,go_sem,seval]
 rfl
set_option maxRecDepth 100000 in
theorem z80 (n : Nat) (f : Nat → List Dat) (hl : n ≤ 1099511627776) : ACalls Tryz.prog 74 [.d (.sl 12 n f)] (· = [.d (.sl 12 n f)]) := by
 by_cases h : n = 0
 ·subst h
  refine x42 fun a c => ?_
  cases a with
  |none =>
   refine q12 Tryz.func74 rfl (by decide +kernel) (by rw [Tryz.ntmps74];simp) ?_;rw [Tryz.ntmps74];simp only [frOf]
   (repeat (first | apply j0 | refine z7 rfl ?_ | refine x7 rfl ?_ | apply j6 | (refine x5 fun K hK => ?_) | ((first | apply j5 | apply x6 | (refine j4 (hK _ ?_);clear hK K));show AWP _ _ _ _ _) | (refine j7 [5] rfl ?_;simp (disch:=omega) only [go_sem,seval];(repeat refine ⟨by omega,?_⟩))))
   refine q17 2 _ (.p (.d (.sl 12 0 f))) rfl z23 ?_
   refine j9 ⟨_,?_,rfl⟩;rw [Tryz.results74];simp (disch:=omega) only [ResVars,ResVar,ptrLoc,go_sem,seval]
  |some a =>
   refine q12 Tryz.func74 rfl (by decide +kernel) (by rw [Tryz.ntmps74];simp) ?_;rw [Tryz.ntmps74];simp only [frOf]
   (repeat ((fail_if_success (show AWP _ _ (.region 3 _ _) _ _));first | apply j0 | refine z7 rfl ?_ | refine x7 rfl ?_ | apply j6 | (refine x5 fun K hK => ?_) | ((first | apply j5 | apply x6 | (refine j4 (hK _ ?_);clear hK K));show AWP _ _ _ _ _) | (refine j7 [5] rfl ?_;simp (disch:=omega) only [go_sem,seval];(repeat refine ⟨by omega,?_⟩))))
   refine q17 0 _ (.p (.d (.sl 12 0 f))) rfl z23 ?_
   (repeat (first | apply j0 | refine z7 rfl ?_ | refine x7 rfl ?_ | apply j6 | (refine x5 fun K hK => ?_) | ((first | apply j5 | apply x6 | (refine j4 (hK _ ?_);clear hK K));show AWP _ _ _ _ _) | (refine j7 [5] rfl ?_;simp (disch:=omega) only [go_sem,seval];(repeat refine ⟨by omega,?_⟩))))
   refine q17 2 _ (.p (.d (.sl 12 0 f))) rfl (q22 rfl (fun i hi => by omega)) ?_
   refine j9 ⟨_,?_,rfl⟩;rw [Tryz.results74];simp (disch:=omega) only [ResVars,ResVar,ptrLoc,go_sem,seval]
 ·refine q12 Tryz.func74 rfl (by decide +kernel) (by rw [Tryz.ntmps74];simp) ?_;rw [Tryz.ntmps74];simp only [frOf]
  (repeat (first | apply j0 | refine z7 rfl ?_ | refine x7 rfl ?_ | apply j6 | (refine x5 fun K hK => ?_) | ((first | apply j5 | apply x6 | (refine j4 (hK _ ?_);clear hK K));show AWP _ _ _ _ _) | (refine j7 [5] rfl ?_;simp (disch:=omega) only [go_sem,seval];(repeat refine ⟨by omega,?_⟩))))
  refine q17 2 _ (.p (.d (.sl 12 n f))) rfl (q22 (by omega) (fun i hi => by unfold catF;rw [if_neg (by omega)];rfl)) ?_
  refine j9 ⟨_,?_,rfl⟩;rw [Tryz.results74];simp (disch:=omega) only [ResVars,ResVar,ptrLoc,go_sem,seval]
theorem q187 (n : Nat) (f : Nat → List Dat) (hn : n ≤ 1099511627776) : ACalls Tryz.prog 154 [.d (.sl 1 n f)] (· = [.d (.sl 1 n f)]) := by
 refine q12 Tryz.func154 rfl (by decide +kernel) (by rw [Tryz.ntmps154];simp) ?_;rw [Tryz.ntmps154];simp only [frOf]
 (repeat (first | apply j0 | refine z7 rfl ?_ | refine x7 rfl ?_ | apply j6 | (refine x5 fun K hK => ?_) | ((first | apply j5 | apply x6 | (refine j4 (hK _ ?_);clear hK K));show AWP _ _ _ _ _) | (refine j7 [] rfl ?_;simp (disch:=omega) only [go_sem,seval];(repeat refine ⟨by omega,?_⟩))))
 refine j9 ⟨_,?_,rfl⟩;rw [Tryz.results154];simp (disch:=omega) only [ResVars,ResVar,ptrLoc,go_sem,seval]
 rfl
theorem z187 (n : Nat) (f : Nat → List Dat) (hn : n ≤ 1099511627776) : ACalls Tryz.prog 118 [.d (.sl 1 n f)] (· = [.d (.sl 1 n f)]) := by
 refine q12 Tryz.func118 rfl (by decide +kernel) (by rw [Tryz.ntmps118];simp) ?_;rw [Tryz.ntmps118];simp only [frOf]
 (repeat (first | apply j0 | refine z7 rfl ?_ | refine x7 rfl ?_ | apply j6 | (refine x5 fun K hK => ?_) | ((first | apply j5 | apply x6 | (refine j4 (hK _ ?_);clear hK K));show AWP _ _ _ _ _) | (refine j7 [] rfl ?_;simp (disch:=omega) only [go_sem,seval];(repeat refine ⟨by omega,?_⟩))))
 refine j9 ⟨_,?_,rfl⟩;rw [Tryz.results118];simp (disch:=omega) only [ResVars,ResVar,ptrLoc,go_sem,seval]
 rfl
theorem x187 (l : List (List Port)) (i : Nat) (hi : i < l.length) (k : Nat) (hk : k < i + 1) : catF i (rowPP l) (fun j => [[Dat.sl 5 (l.getD i []).length (rowP (l.getD i []))]].getD j []) k = rowPP l k := by
 unfold catF
 split
 ·rfl
 ·have : k = i := by omega
  subst this
  rw [Nat.sub_self];rfl
def deepPI (l : List (List Port)) (i : Fin (l.length + 1)) : ASt :=
 ⟨[(8,.p (.d (.v (.int .i64 (i.val : Int))))),(7,.p (.d (.v (.int .i64 (l.length : Int))))),(6,.p (.d (.sl 1 l.length (rowPP l)))),(3,.gr 3 i.val 1 i.val (rowPP l))],[(3,.grow 133 1 i.val i.val)]⟩
set_option maxRecDepth 100000 in
theorem deepP_c (l : List (List Port)) (hs : small l) : ACalls Tryz.prog 112 [.d (.sl 1 l.length (rowPP l))] (· = [.d (.sl 1 l.length (rowPP l))]) := by
 have hs1 := hs.1
 have cl := q187 l.length (rowPP l) (by omega)
 refine q12 Tryz.func112 rfl (by decide +kernel) (by rw [Tryz.ntmps112];simp) ?_;rw [Tryz.ntmps112];simp only [frOf]
 (repeat ((fail_if_success (show AWP _ _ (.region 2 _ _) _ _));first | apply j0 | refine z7 rfl ?_ | refine x7 rfl ?_ | apply j6 | (refine x5 fun K hK => ?_) | ((first | apply j5 | apply x6 | (refine j4 (hK _ ?_);clear hK K));(first | show AWP _ _ _ _ _ | ((try simp only [z8]);first | show loopQ _ _ _ _ _ _ | show AWP _ _ _ _ _))) | (refine j7 [] rfl ?_;simp (disch:=omega) only [go_sem,seval];(repeat refine ⟨by omega,?_⟩))))
 refine j32 3 3 1 133 (rowPP l) rfl (by kernel_rfl) rfl ?_
 (repeat (first | apply j0 | refine z7 rfl ?_ | refine x7 rfl ?_ | apply j6 | (refine x5 fun K hK => ?_) | ((first | apply j5 | apply x6 | (refine j4 (hK _ ?_);clear hK K));(first | show AWP _ _ _ _ _ | ((try simp only [z8]);first | show loopQ _ _ _ _ _ _ | show AWP _ _ _ _ _))) | (refine j7 [] rfl ?_;simp (disch:=omega) only [go_sem,seval];(repeat refine ⟨by omega,?_⟩))))
 refine j13 (deepPI l) (fun s => l.length - s.val) ⟨0,by omega⟩ ?_ (fun s => ?_)
 ·unfold deepPI
  refine Weak.list ?_ ?_;(all_goals simp (disch:=omega) only [AllF,AllL,q11,z11,j10,exists_eq_left',go_sem,seval]);(all_goals (repeat' (with_reducible apply And.intro)));(all_goals try (first | exact q8 rfl | (refine x11 ?_;omega) | (refine q8 ?_;simp;done)))
 obtain ⟨i,hi⟩ := s
 unfold deepPI
 by_cases h : i < l.length
 ·have r1 := x20 l i
  have hb := q21 hs i
  have pt := x187 l i h
  generalize l.getD i [] = x at r1 hb pt
  have c1 := j186 x.length (rowP x) (by omega)
  have c2 := ClipP_c x.length (rowP x) (by omega)
  (repeat (first | apply j0 | refine z7 rfl ?_ | refine x7 rfl ?_ | apply j6 | (refine x5 fun K hK => ?_) | ((first | apply j5 | apply x6 | (refine j4 (hK _ ?_);clear hK K));(first | show AWP _ _ _ _ _ | ((try simp only [z8]);first | show loopQ _ _ _ _ _ _ | show AWP _ _ _ _ _))) | (refine x10 rfl rfl rfl ?_;simp (disch:=omega) only [go_sem,seval,r1];(first | refine ⟨_,c1,?_⟩ | refine ⟨_,c2,?_⟩)) | (refine j7 [] rfl ?_;simp (disch:=omega) only [go_sem,seval,r1];(repeat refine ⟨by omega,?_⟩))))
  refine ⟨⟨i + 1,by omega⟩,by simp only [];omega,?_⟩
  refine Weak.list ?_ ?_;(all_goals simp (disch:=omega) only [AllF,AllL,q11,z11,j10,exists_eq_left',go_sem,seval,r1]);(all_goals (repeat' (with_reducible apply And.intro)));(all_goals try (first | exact q8 rfl | (refine x11 ?_;omega) | (refine q8 ?_;simp;done)))
  ·exact z26 rfl rfl (fun k hk => pt k hk)
 ·have : i = l.length := by omega
  subst this
  (repeat (first | apply j0 | refine z7 rfl ?_ | refine x7 rfl ?_ | apply j6 | (refine x5 fun K hK => ?_) | ((first | apply j5 | apply x6 | (refine j4 (hK _ ?_);clear hK K));(first | show AWP _ _ _ _ _ | ((try simp only [z8]);first | show loopQ _ _ _ _ _ _ | show AWP _ _ _ _ _))) | (refine x10 rfl rfl rfl ?_;simp (disch:=omega) only [go_sem,seval];(first | refine ⟨_,cl,?_⟩)) | (refine j7 [] rfl ?_;simp (disch:=omega) only [go_sem,seval];(repeat refine ⟨by omega,?_⟩))))
  refine j9 ⟨_,?_,rfl⟩;rw [Tryz.results112];simp (disch:=omega) only [ResVars,ResVar,ptrLoc,go_sem,seval]
theorem j187 (l : List (List Rule)) (i : Nat) (hi : i < l.length) (k : Nat) (hk : k < i + 1) : catF i (rowRR l) (fun j => [[Dat.sl 12 (l.getD i []).length (rowR (l.getD i []))]].getD j []) k = rowRR l k := by
 unfold catF
 split
 ·rfl
 ·have : k = i := by omega
  subst this
  rw [Nat.sub_self];rfl
end Go.Proofs.YtemcdefpihkfpaaGreat
namespace Go.Proofs.YtemcdefpihkfpaaGreat
open Go Go.Proofs.YtemcdefpihkfpaaGreat.AL
def zRow : List Dat := [.v (.int .i64 0),.v (.int .u64 0),.v (.int .u64 0),.v (.int .u64 0),.v (.int .u64 0),.v (.int .i64 0),.v (.int .i64 0),.v (.int .i64 0),.v (.int .u64 0),.v (.int .u64 0),.v (.int .u64 0),.v (.int .u64 0)]
def delF (f : Nat → List Dat) (i : Nat) : Nat → List Dat := fun k => f (if k < i then k else k + 1)
def delG (f : Nat → List Dat) (i : Nat) : Nat → List Dat := fun k => if i * 12 / 12 ≤ k ∧ k < i * 12 / 12 + (i + 1 - i) then zRow else if i ≤ k ∧ k < i then f (k - i) else f k
theorem delG_at (f : Nat → List Dat) (i k : Nat) (hk : k < i) : delG f i k = delF f i k := by
 unfold delG delF
 rw [if_neg (by omega),if_neg (by omega),if_pos hk]
def delH (f : Nat → List Dat) (n i : Nat) : Nat → List Dat := fun k => if n - 1 ≤ k ∧ k < n - 1 + 1 then zRow else if i ≤ k ∧ k < n - 1 then f (i + 1 + (k - i)) else f k
theorem delH_at (f : Nat → List Dat) (n i k : Nat) (hk : k < n - 1) : delH f n i k = delF f i k := by
 unfold delH delF
 rw [if_neg (by omega)]
 by_cases h : i ≤ k
 ·rw [if_pos ⟨h,hk⟩,if_neg (by omega)];congr 1;omega
 ·rw [if_neg (by omega),if_pos (by omega)]
set_option maxRecDepth 100000 in
theorem q188 (M : Nat → Option Ent) (b n c cap i : Nat) (f : Nat → List Dat) (hM : M b = some ⟨69,12,cap,n,f⟩) (hi : i < n) (hc : n ≤ c) (hn : n ≤ 1099511627776) :
  MCalls Tryz.prog 75 [.p (.d (.v (.slice (some ⟨b,0,none⟩) n c))),.p (.d (.v (.int .i64 (i : Int)))),.p (.d (.v (.int .i64 ((i : Int) + 1))))] [(1999,.raw M)]
   (fun rs L => ∃ r : {f' : Nat → List Dat // ∀ k,k < n - 1 → f' k = delF f i k},rs = [.p (.d (.v (.slice (some ⟨b,0,none⟩) (n - 1) c)))] ∧ L = [(1999,.raw (setM M b (some ⟨69,12,cap,n - 1,r.val⟩)))]) := by
 have e1 : ((i : Int) + 1).toNat = i + 1 := by omega
 have e2 : (i + 1) * 12 / 12 = i + 1 := by omega
 have e3 : i + (n - (i + 1)) = n - 1 := by omega
 have e4 : n - (n - 1) = 1 := by omega
 have e5 : (n - 1) * 12 / 12 = n - 1 := by omega
 have q : ((i : Int) == (i : Int) + 1) = false := z14 (by omega)
 have e6 : ((n - 1 : Nat) : Int).toNat = n - 1 := by omega
 by_cases hce : c = i + 1
 ·have hne : n = i + 1 := by omega
  subst hne
  subst hce
  have es : slX b 0 (i + 1) (i + 1) (i + 1) 12 = .slice (some ⟨b,0,none⟩) 0 0 := by rw [slX_e,Nat.sub_self]
  have e7 : i + 1 - 1 = i := rfl
  refine q20 Tryz.func75 rfl (by decide +kernel) (by rw [Tryz.ntmps75];simp) (fun l X h => by simp only [AL.look] at h;(repeat' split at h);all_goals first | omega | cases h) ?_;rw [Tryz.ntmps75];simp only [frA]
  (repeat (first | apply j0 | refine z7 rfl ?_ | refine x7 rfl ?_ | apply j6 | (refine x5 fun K hK => ?_) | (refine x8 fun K hK => ?_) | ((first | apply j5 | apply x6 | ((first | refine j4 (hK _ ?_) | refine q9 (hK _ _ j8 ?_));clear hK K));show AWP _ _ _ _ _) | ((first | refine j7 [] rfl ?_ | refine q10 [] rfl ?_);simp (disch:=omega) only [go_sem,seval,hM,e1,e2,q,q64,es,Nat.zero_div,Nat.zero_mul];(repeat (first | refine ⟨by omega,?_⟩ | refine ⟨True.intro,?_⟩)))))
  refine q18 (Weak.shrink _ _ b i ⟨69,12,cap,i + 1,_⟩ rfl (q27 _ _ _) (by simp only [];omega)) ?_
  rw [q64]
  refine j9 ?_
  refine (j47 ⟨⟨delG f i,fun k hk => delG_at f i k hk⟩,rfl,rfl⟩ ?_ ?_).1
  ·exact ⟨rfl,trivial⟩
  ·intro p hp;obtain rfl := List.mem_singleton.1 hp;rfl
 ·refine q20 Tryz.func75 rfl (by decide +kernel) (by rw [Tryz.ntmps75];simp) (fun l X h => by simp only [AL.look] at h;(repeat' split at h);all_goals first | omega | cases h) ?_;rw [Tryz.ntmps75];simp only [frA]
  (repeat (first | apply j0 | refine z7 rfl ?_ | refine x7 rfl ?_ | apply j6 | (refine x5 fun K hK => ?_) | (refine x8 fun K hK => ?_) | ((first | apply j5 | apply x6 | ((first | refine j4 (hK _ ?_) | refine q9 (hK _ _ j8 ?_));clear hK K));show AWP _ _ _ _ _) | ((first | refine j7 [] rfl ?_ | refine q10 [] rfl ?_);simp (disch:=omega) only [go_sem,seval,hM,e1,e2,e3,e4,e5,e6,q,q64];(repeat (first | refine ⟨by omega,?_⟩ | refine ⟨True.intro,?_⟩)))))
  refine q18 (Weak.shrink _ _ b (n - 1) ⟨69,12,cap,n,_⟩ rfl (q27 _ _ _) (by simp only [];omega)) ?_
  rw [q64]
  refine j9 ?_
  refine (j47 ⟨⟨delH f n i,fun k hk => delH_at f n i k hk⟩,rfl,rfl⟩ ?_ ?_).1
  ·exact ⟨rfl,trivial⟩
  ·intro p hp;obtain rfl := List.mem_singleton.1 hp;rfl
def tabGo : Nat → List Rule → List Rule × Int
 | 0,l => (l,0)
 | k + 1,l => if (spareR l k).2 = 0 then tabGo k (if (spareR l k).1 then l.eraseIdx k else l) else ([],(spareR l k).2)
def tabR (l : List Rule) : List Rule × Int := if soundL l then tabGo l.length l else ([],2)
theorem z188 (l : List Rule) (i k : Nat) (hi : i < l.length) (hk : k < l.length - 1) : delF (rowR l) i k = rowR (l.eraseIdx i) k := by
 unfold delF rowR
 rw [List.getD_eq_getElem?_getD,List.getD_eq_getElem?_getD,List.getElem?_eraseIdx]
 split <;> rfl
theorem x188 (r : Rule) : ACalls Tryz.prog 73 [.agg (ruleD r)] (· = [.d (.v (.bool (!r.mt.sound)))]) := by
 have k := q19 r.mt
 unfold cb at k
 unfold ruleD
 refine q12 Tryz.func73 rfl (by decide +kernel) (by rw [Tryz.ntmps73];simp) ?_;rw [Tryz.ntmps73];simp only [frOf]
 (repeat (first | apply j0 | refine z7 rfl ?_ | refine x7 rfl ?_ | apply j6 | (refine x5 fun K hK => ?_) | ((first | apply j5 | apply x6 | (refine j4 (hK _ ?_);clear hK K));show AWP _ _ _ _ _) | (refine x10 rfl rfl rfl ?_;simp (disch:=omega) only [go_sem,seval];(first | refine ⟨_,k,?_⟩)) | (refine j7 [] rfl ?_;simp (disch:=omega) only [go_sem,seval];(repeat refine ⟨by omega,?_⟩))))
 refine j9 ⟨_,?_,rfl⟩;rw [Tryz.results73];simp (disch:=omega) only [ResVars,ResVar,ptrLoc,go_sem,seval]
structure TbS (l : List Rule) (R : List Rule × Int) where
 k : Nat
 cur : List Rule
 b : Nat
 c : Nat
 cap : Nat
 f : Nat → List Dat
 M : Nat → Option Ent
 hk : k ≤ cur.length
 hl : cur.length ≤ 1099511627776
 hc : cur.length ≤ c
 hM : M b = some ⟨69,12,cap,cur.length,f⟩
 hf : ∀ j,j < cur.length → f j = rowR cur j
 hR : tabGo k cur = R
def tbI (l : List Rule) (R : List Rule × Int) (s : TbS l R) : ASt :=
 ⟨[(5,.p (.d (.v (.int .i64 ((s.k : Int) - 1))))),(4,.p (.d (.v (.slice (some ⟨s.b,0,none⟩) s.cur.length s.c)))),(0,.p (.d (.sl 12 l.length (rowR l))))],[(1999,.raw s.M)]⟩
theorem j188 (l : List Rule) (k : Nat) : (spareR l k).2 = 0 ∨ (spareR l k).2 ≠ 0 ∧ ((spareR l k).2 != 0) = true := by
 by_cases h : (spareR l k).2 = 0
 ·exact .inl h
 ·exact .inr ⟨h,q14 h⟩
set_option maxRecDepth 100000 in
theorem z117 (l : List Rule) (hl : l.length ≤ 1099511627776) : ACalls Tryz.prog 31 [.d (.sl 12 l.length (rowR l))] (· = [.d (.sl 12 (tabR l).1.length (rowR (tabR l).1)),.d (.v (.int .i64 (tabR l).2))]) := by
 have kc := x107 73 [] (fun r => !r.mt.sound) l (by omega) (fun k _ => x188 k)
 rw [show (l.any fun r => !r.mt.sound) = !soundL l from by unfold soundL;rw [List.all_eq_not_any_not,Bool.not_not]] at kc
 unfold tabR
 cases hs : soundL l
 ·rw [hs] at kc
  simp only [Bool.false_eq_true,if_false]
  refine q12 Tryz.func31 rfl (by decide +kernel) (by rw [Tryz.ntmps31];simp) ?_;rw [Tryz.ntmps31];simp only [frOf]
  (repeat (first | apply j0 | refine z7 rfl ?_ | refine x7 rfl ?_ | apply j6 | (refine x5 fun K hK => ?_) | ((first | apply j5 | apply x6 | (refine j4 (hK _ ?_);clear hK K));(first | show AWP _ _ _ _ _ | ((try simp only [z8]);first | show loopQ _ _ _ _ _ _ | show AWP _ _ _ _ _))) | (refine x10 rfl rfl rfl ?_;simp (disch:=omega) only [go_sem,seval];(first | refine ⟨_,kc,?_⟩)) | (refine j7 [] rfl ?_;simp (disch:=omega) only [go_sem,seval];(repeat refine ⟨by omega,?_⟩))))
  refine q17 2 _ (.p (.d (.sl 12 0 (rowR [])))) rfl (z27 _ _ _ rfl) ?_
  refine j9 ⟨_,?_,rfl⟩;rw [Tryz.results31];simp (disch:=omega) only [ResVars,ResVar,ptrLoc,go_sem,seval]
 rw [hs] at kc
 simp only [if_true]
 obtain ⟨R,hR⟩ : ∃ R,tabGo l.length l = R := ⟨_,rfl⟩
 rw [hR]
 by_cases h0 : l.length = 0
 ·have k1 := z80 0 (rowR []) (by omega)
  have k2 := q80 0 (rowR []) (by omega)
  obtain rfl := List.eq_nil_of_length_eq_zero h0
  have hR : (([] : List Rule),(0 : Int)) = R := hR
  subst hR
  refine q12 Tryz.func31 rfl (by decide +kernel) (by rw [Tryz.ntmps31];simp) ?_;rw [Tryz.ntmps31];simp only [frOf]
  (repeat (first | apply j0 | refine z7 rfl ?_ | refine x7 rfl ?_ | apply j6 | (refine x5 fun K hK => ?_) | ((first | apply j5 | apply x6 | (refine j4 (hK _ ?_);clear hK K));(first | show AWP _ _ _ _ _ | ((try simp only [z8]);first | show loopQ _ _ _ _ _ _ | show AWP _ _ _ _ _))) | (refine x10 rfl rfl rfl ?_;simp (disch:=omega) only [go_sem,seval];(first | refine ⟨_,kc,?_⟩ | refine ⟨_,k1,?_⟩ | refine ⟨_,k2,?_⟩)) | (refine j7 [] rfl ?_;simp (disch:=omega) only [go_sem,seval];(repeat refine ⟨by omega,?_⟩))))
  refine j13 (fun _ : Unit => ⟨[(5,.p (.d (.v (.int .i64 (-1))))),(4,.p (.d (.sl 12 0 (rowR []))))],[]⟩) (fun _ => 0) () ?_ (fun _ => ?_)
  ·refine Weak.list ?_ ?_;(all_goals simp (disch:=omega) only [AllF,AllL,q11,z11,j10,exists_eq_left',go_sem,seval]);(all_goals (repeat' (with_reducible apply And.intro)));(all_goals try (first | exact q8 rfl | (refine x11 ?_;omega) | (refine q8 ?_;simp;done)))
  (repeat (first | apply j0 | refine z7 rfl ?_ | refine x7 rfl ?_ | apply j6 | (refine x5 fun K hK => ?_) | ((first | apply j5 | apply x6 | (refine j4 (hK _ ?_);clear hK K));(first | show AWP _ _ _ _ _ | ((try simp only [z8]);first | show loopQ _ _ _ _ _ _ | show AWP _ _ _ _ _))) | (refine x10 rfl rfl rfl ?_;simp (disch:=omega) only [go_sem,seval];(first | refine ⟨_,k1,?_⟩ | refine ⟨_,k2,?_⟩)) | (refine j7 [] rfl ?_;simp (disch:=omega) only [go_sem,seval];(repeat refine ⟨by omega,?_⟩))))
  refine j9 ⟨_,?_,rfl⟩;rw [Tryz.results31];simp (disch:=omega) only [ResVars,ResVar,ptrLoc,go_sem,seval]
 ·refine q12 Tryz.func31 rfl (by decide +kernel) (by rw [Tryz.ntmps31];simp) ?_;rw [Tryz.ntmps31];simp only [frOf]
  refine x115 rfl ?_
  (repeat ((fail_if_success (show AWP _ _ (.region 3 _ _) _ _));first | apply j0 | refine z7 rfl ?_ | refine x7 rfl ?_ | apply j6 | (refine x5 fun K hK => ?_) | ((first | apply j5 | apply x6 | (refine j4 (hK _ ?_);clear hK K));(first | show AWP _ _ _ _ _ | ((try simp only [z8]);first | show loopQ _ _ _ _ _ _ | show AWP _ _ _ _ _))) | (refine x10 rfl rfl rfl ?_;simp (disch:=omega) only [go_sem,seval];(first | refine ⟨_,kc,?_⟩)) | (refine j7 [] rfl ?_;simp (disch:=omega) only [go_sem,seval];(repeat refine ⟨by omega,?_⟩))))
  refine x5 fun K hK => ?_
  iterate 1 ((first | refine x29 [] rfl rfl ?_ | refine q28 rfl rfl ?_);simp (disch:=omega) only [go_sem,seval];(repeat refine ⟨by omega,?_⟩))
  (refine q55 _ (j57 [(5,61)] rfl rfl rfl rfl rfl rfl (q166 l.length (rowR l) (by omega) hl) rfl (q15 (by repeat (first | exact trivial | refine ⟨rfl,?_⟩)) (by kernel_rfl))) ?_);simp (disch:=omega) only [go_sem,seval]
  (repeat ((fail_if_success (show AWP _ _ (.region 4 _ _) _ _));first | apply j0 | refine z7 rfl ?_ | refine x7 rfl ?_ | apply j6 | (refine x5 fun K hK => ?_) | ((first | apply j5 | apply x6 | (refine j4 (hK _ ?_);clear hK K));(first | show AWP _ _ _ _ _ | ((try simp only [z8]);first | show loopQ _ _ _ _ _ _ | show AWP _ _ _ _ _))) | (refine j7 [] rfl ?_;simp (disch:=omega) only [go_sem,seval];(repeat refine ⟨by omega,?_⟩))))
  refine z115 (WeakX.packRow _ 4 61 1 12 l.length 69 (rowR l) noM rfl rfl rfl (by decide)) ?_
  rintro _ ⟨v,M2,hp,rfl⟩
  rcases hp with ⟨hn,_⟩ | ⟨b,c,hc,hb,rfl,rfl⟩
  ·omega
  (repeat (first | apply j0 | refine z7 rfl ?_ | refine x7 rfl ?_ | apply j6 | (refine x5 fun K hK => ?_) | ((first | apply j5 | apply x6 | (refine j4 (hK _ ?_);clear hK K));(first | show AWP _ _ _ _ _ | ((try simp only [z8]);first | show loopQ _ _ _ _ _ _ | show AWP _ _ _ _ _))) | (refine j7 [] rfl ?_;simp (disch:=omega) only [go_sem,seval,z22];(repeat refine ⟨by omega,?_⟩))))
  refine j13 (tbI l R) (fun s => s.k) ⟨l.length,l,b,c,c,rowR l,setM noM b (some ⟨69,12,c,l.length,rowR l⟩),Nat.le_refl _,hl,hc,q27 _ _ _,fun _ _ => rfl,hR⟩ ?_ (fun s => ?_)
  ·unfold tbI
   refine Weak.list ?_ ?_;(all_goals simp (disch:=omega) only [AllF,AllL,q11,z11,j10,exists_eq_left',go_sem,seval]);(all_goals (repeat' (with_reducible apply And.intro)));(all_goals try (first | exact q8 rfl | (refine x11 ?_;omega) | (refine q8 ?_;simp;done)))
  obtain ⟨k,cur,b,c,cap,f,M,hk,hl',hc,hM,hf,hR⟩ := s
  unfold tbI
  simp only [] at hk hl' hc hM hf hR ⊢
  cases k with
  |succ k =>
   have hrd : RdD M (.v (.slice (some ⟨b,0,none⟩) cur.length c)) (.sl 12 cur.length (rowR cur)) := HoldR.rd (.inr ⟨b,c,cap,f,rfl,hc,hM,hf⟩)
   have sp := q115 cur k (by omega) hl'
   unfold tabGo at hR
   have dl := q188 M b cur.length c cap k f hM (by omega) hc hl'
   rcases j188 cur k with he | ⟨he,heb⟩
   ·rw [if_pos he] at hR
    rw [he] at sp
    cases hb : (spareR cur k).1
    ·rw [hb] at sp hR
     simp only [Bool.false_eq_true,if_false] at hR
     (repeat ((fail_if_success (show AWP _ _ (.region 7 _ _) _ _));first | apply j0 | refine z7 rfl ?_ | refine x7 rfl ?_ | apply j6 | (refine x5 fun K hK => ?_) | ((first | apply j5 | apply x6 | (refine j4 (hK _ ?_);clear hK K));(first | show AWP _ _ _ _ _ | ((try simp only [z8]);first | show loopQ _ _ _ _ _ _ | show AWP _ _ _ _ _))) | (refine j7 [] rfl ?_;simp (disch:=omega) only [go_sem,seval];(repeat refine ⟨by omega,?_⟩))))
     refine x5 fun K hK => ?_
     iterate 2 ((first | refine x29 [] rfl rfl ?_ | refine q28 rfl rfl ?_);simp (disch:=omega) only [go_sem,seval];(repeat refine ⟨by omega,?_⟩))
     (refine q55 _ (j57 [(1999,1999)] rfl rfl rfl rfl rfl rfl (ACalls.borrow (M := M) (xs := [.d (.v (.slice (some ⟨b,0,none⟩) cur.length c)),.d (.v (.int .i64 (k : Int)))]) sp (.cons (.d hrd) (.cons (.refl _) .nil)) (by intro r hr;simp at hr;rcases hr with rfl | rfl <;> trivial)) rfl (q15 (by repeat (first | exact trivial | refine ⟨rfl,?_⟩)) (by kernel_rfl))) ?_);simp (disch:=omega) only [go_sem,seval]
     (repeat (first | apply j0 | refine z7 rfl ?_ | refine x7 rfl ?_ | apply j6 | (refine x5 fun K hK => ?_) | ((first | apply j5 | apply x6 | (refine j4 (hK _ ?_);clear hK K));(first | show AWP _ _ _ _ _ | ((try simp only [z8]);first | show loopQ _ _ _ _ _ _ | show AWP _ _ _ _ _))) | (refine j7 [] rfl ?_;simp (disch:=omega) only [go_sem,seval];(repeat refine ⟨by omega,?_⟩))))
     refine ⟨⟨k,cur,b,c,cap,f,M,by omega,hl',hc,hM,hf,hR⟩,by simp only [];omega,?_⟩
     refine Weak.list ?_ ?_;(all_goals simp (disch:=omega) only [AllF,AllL,q11,z11,j10,exists_eq_left',go_sem,seval]);(all_goals (repeat' (with_reducible apply And.intro)));(all_goals try (first | exact q8 rfl | (refine x11 ?_;omega) | (refine q8 ?_;simp;done)))
    ·rw [hb] at sp hR
     simp only [if_true] at hR
     (repeat ((fail_if_success (show AWP _ _ (.region 7 _ _) _ _));first | apply j0 | refine z7 rfl ?_ | refine x7 rfl ?_ | apply j6 | (refine x5 fun K hK => ?_) | ((first | apply j5 | apply x6 | (refine j4 (hK _ ?_);clear hK K));(first | show AWP _ _ _ _ _ | ((try simp only [z8]);first | show loopQ _ _ _ _ _ _ | show AWP _ _ _ _ _))) | (refine j7 [] rfl ?_;simp (disch:=omega) only [go_sem,seval];(repeat refine ⟨by omega,?_⟩))))
     refine x5 fun K hK => ?_
     iterate 2 ((first | refine x29 [] rfl rfl ?_ | refine q28 rfl rfl ?_);simp (disch:=omega) only [go_sem,seval];(repeat refine ⟨by omega,?_⟩))
     (refine q55 _ (j57 [(1999,1999)] rfl rfl rfl rfl rfl rfl (ACalls.borrow (M := M) (xs := [.d (.v (.slice (some ⟨b,0,none⟩) cur.length c)),.d (.v (.int .i64 (k : Int)))]) sp (.cons (.d hrd) (.cons (.refl _) .nil)) (by intro r hr;simp at hr;rcases hr with rfl | rfl <;> trivial)) rfl (q15 (by repeat (first | exact trivial | refine ⟨rfl,?_⟩)) (by kernel_rfl))) ?_);simp (disch:=omega) only [go_sem,seval]
     (repeat ((fail_if_success (show AWP _ _ (.region 11 _ _) _ _));first | apply j0 | refine z7 rfl ?_ | refine x7 rfl ?_ | apply j6 | (refine x5 fun K hK => ?_) | ((first | apply j5 | apply x6 | (refine j4 (hK _ ?_);clear hK K));(first | show AWP _ _ _ _ _ | ((try simp only [z8]);first | show loopQ _ _ _ _ _ _ | show AWP _ _ _ _ _))) | (refine j7 [] rfl ?_;simp (disch:=omega) only [go_sem,seval];(repeat refine ⟨by omega,?_⟩))))
     refine x5 fun K hK => ?_
     iterate 4 ((first | refine x29 [] rfl rfl ?_ | refine q28 rfl rfl ?_);simp (disch:=omega) only [go_sem,seval];(repeat refine ⟨by omega,?_⟩))
     (refine z18 (x17 [(1999,1999)] rfl rfl rfl rfl rfl rfl (dl) (fun _ => rfl) (q15 (by repeat (first | exact trivial | refine ⟨rfl,?_⟩)) (by kernel_rfl)) (fun _ => (q15 (by repeat (first | exact trivial | refine ⟨rfl,?_⟩)) (by kernel_rfl)))) ?_);rintro ⟨f2,hf2⟩;simp (disch:=omega) only [go_sem,seval]
     have e9 : (cur.eraseIdx k).length = cur.length - 1 := List.length_eraseIdx_of_lt (by omega)
     (repeat (first | apply j0 | refine z7 rfl ?_ | refine x7 rfl ?_ | apply j6 | (refine x5 fun K hK => ?_) | ((first | apply j5 | apply x6 | (refine j4 (hK _ ?_);clear hK K));(first | show AWP _ _ _ _ _ | ((try simp only [z8]);first | show loopQ _ _ _ _ _ _ | show AWP _ _ _ _ _))) | (refine j7 [] rfl ?_;simp (disch:=omega) only [go_sem,seval];(repeat refine ⟨by omega,?_⟩))))
     refine ⟨⟨k,cur.eraseIdx k,b,c,cap,f2,setM M b (some ⟨69,12,cap,cur.length - 1,f2⟩),by omega,by omega,by omega,by rw [e9];exact q27 _ _ _,fun j hj => ?_,hR⟩,by simp only [];omega,?_⟩
     ·rw [e9] at hj
      rw [hf2 j hj,← z188 cur k j (by omega) hj]
      unfold delF
      exact hf _ (by split <;> omega)
     ·simp only [e9]
      refine Weak.list ?_ ?_;(all_goals simp (disch:=omega) only [AllF,AllL,q11,z11,j10,exists_eq_left',go_sem,seval]);(all_goals (repeat' (with_reducible apply And.intro)));(all_goals try (first | exact q8 rfl | (refine x11 ?_;omega) | (refine q8 ?_;simp;done)))
   ·rw [if_neg he] at hR
    subst hR
    generalize (spareR cur k).2 = e at *
    generalize (spareR cur k).1 = q at *
    (repeat ((fail_if_success (show AWP _ _ (.region 7 _ _) _ _));first | apply j0 | refine z7 rfl ?_ | refine x7 rfl ?_ | apply j6 | (refine x5 fun K hK => ?_) | ((first | apply j5 | apply x6 | (refine j4 (hK _ ?_);clear hK K));(first | show AWP _ _ _ _ _ | ((try simp only [z8]);first | show loopQ _ _ _ _ _ _ | show AWP _ _ _ _ _))) | (refine j7 [] rfl ?_;simp (disch:=omega) only [go_sem,seval,heb];(repeat refine ⟨by omega,?_⟩))))
    refine x5 fun K hK => ?_
    iterate 2 ((first | refine x29 [] rfl rfl ?_ | refine q28 rfl rfl ?_);simp (disch:=omega) only [go_sem,seval,heb];(repeat refine ⟨by omega,?_⟩))
    (refine q55 _ (j57 [(1999,1999)] rfl rfl rfl rfl rfl rfl (ACalls.borrow (M := M) (xs := [.d (.v (.slice (some ⟨b,0,none⟩) cur.length c)),.d (.v (.int .i64 (k : Int)))]) sp (.cons (.d hrd) (.cons (.refl _) .nil)) (by intro r hr;simp at hr;rcases hr with rfl | rfl <;> trivial)) rfl (q15 (by repeat (first | exact trivial | refine ⟨rfl,?_⟩)) (by kernel_rfl))) ?_);simp (disch:=omega) only [go_sem,seval,heb]
    (repeat (first | apply j0 | refine z7 rfl ?_ | refine x7 rfl ?_ | apply j6 | (refine x5 fun K hK => ?_) | ((first | apply j5 | apply x6 | (refine j4 (hK _ ?_);clear hK K));(first | show AWP _ _ _ _ _ | ((try simp only [z8]);first | show loopQ _ _ _ _ _ _ | show AWP _ _ _ _ _))) | (refine j7 [] rfl ?_;simp (disch:=omega) only [go_sem,seval,heb];(repeat refine ⟨by omega,?_⟩))))
    refine q17 2 _ (.p (.d (.sl 12 0 (rowR [])))) rfl (z27 _ _ _ rfl) ?_
    refine j9 ⟨_,?_,rfl⟩;rw [Tryz.results31];simp (disch:=omega) only [ResVars,ResVar,ptrLoc,go_sem,seval,heb]
  |zero =>
   have hrd : RdD M (.v (.slice (some ⟨b,0,none⟩) cur.length c)) (.sl 12 cur.length (rowR cur)) := HoldR.rd (.inr ⟨b,c,cap,f,rfl,hc,hM,hf⟩)
   unfold tabGo at hR
   subst hR
   have k1 := z80 cur.length (rowR cur) hl'
   have k2 := q80 cur.length (rowR cur) hl'
   (repeat ((fail_if_success (show AWP _ _ (.region 12 _ _) _ _));first | apply j0 | refine z7 rfl ?_ | refine x7 rfl ?_ | apply j6 | (refine x5 fun K hK => ?_) | ((first | apply j5 | apply x6 | (refine j4 (hK _ ?_);clear hK K));(first | show AWP _ _ _ _ _ | ((try simp only [z8]);first | show loopQ _ _ _ _ _ _ | show AWP _ _ _ _ _))) | (refine j7 [] rfl ?_;simp (disch:=omega) only [go_sem,seval,z22];(repeat refine ⟨by omega,?_⟩))))
   refine q18 (Weak.melt _ M 4 _ (.p (.d (.sl 12 cur.length (rowR cur)))) rfl rfl (.p (.d hrd))) ?_
   (repeat (first | apply j0 | refine z7 rfl ?_ | refine x7 rfl ?_ | apply j6 | (refine x5 fun K hK => ?_) | ((first | apply j5 | apply x6 | (refine j4 (hK _ ?_);clear hK K));(first | show AWP _ _ _ _ _ | ((try simp only [z8]);first | show loopQ _ _ _ _ _ _ | show AWP _ _ _ _ _))) | (refine x10 rfl rfl rfl ?_;simp (disch:=omega) only [go_sem,seval,z22];(first | refine ⟨_,k1,?_⟩ | refine ⟨_,k2,?_⟩)) | (refine j7 [] rfl ?_;simp (disch:=omega) only [go_sem,seval,z22];(repeat refine ⟨by omega,?_⟩))))
   refine j9 ⟨_,?_,rfl⟩;rw [Tryz.results31];simp (disch:=omega) only [ResVars,ResVar,ptrLoc,go_sem,seval,z22]
end Go.Proofs.YtemcdefpihkfpaaGreat
