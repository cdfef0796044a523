/- Part 4 of a proof: lemmas beneath the theorem that the last text bears. Conditions: none. -/
import Derived.Test.YtbamjcnhmmgnlaaKTrieWithinc
set_option maxHeartbeats 64000000
set_option linter.unusedSimpArgs false
set_option linter.unusedVariables false
namespace Go.Proofs.Ytbamjcnhmmgnlaa
open Go Go.Proofs.Ytbamjcnhmmgnlaa.AL Go.RowKit
structure PlS (I : List Nat → List Int) (k : Cube) where
 d : Nat
 p : List Nat
 A : List Nat → Option Nat
 V : List Nat → Value
 M : Nat → Option Ent
 hd : d ≤ 128 - lastC k
 T : TrM I M A V
 hp : hasP A p = true
 e : p = (pathC k).take d
def plI (I : List Nat → List Int) (k : Cube) (es : List (List Int × PV)) (s : PlS I k) : ASt :=
 ⟨[(6,.p (.d (.v (.int .i64 (127 - (s.d : Int)))))),(5,atAV s.A s.p),(3,.p (.d (.bx (cb k)))),(0,.loc 1000 0)],trL s.A s.V s.M es⟩
theorem TrM.leaf {I : List Nat → List Int} {M : Nat → Option Ent} {A : List Nat → Option Nat} {V : List Nat → Value} (T : TrM I M A V) {q : List Nat} (hq : q ≠ []) (hn : A q = none) (i : Nat) : A (q ++ [i]) = none := by
 cases h : A (q ++ [i]) with
 | none => rfl
 |some b =>
  obtain ⟨b',e⟩ := x43 (T.pre q i b h) hq
  rw [hn] at e;cases e
theorem TrM.new {I : List Nat → List Int} {M : Nat → Option Ent} {A : List Nat → Option Nat} {V : List Nat → Value} (T : TrM I M A V) {q : List Nat} (hq : q ≠ []) (hn : A q = none) (b : Nat) :
  nodeC (updA A q b) (updV V q (.slice none 0 0)) q = [.v (.pointer none),.v (.pointer none),.v (.pointer none),.v (.slice none 0 0)] := by
 unfold nodeC
 rw [j14 _ _ (Ne.symm (j29 q 0)),j14 _ _ (Ne.symm (j29 q 1)),j14 _ _ (Ne.symm (j29 q 2)),x22 (T.leaf hq hn 0),x22 (T.leaf hq hn 1),x22 (T.leaf hq hn 2),j20]
set_option maxRecDepth 100000 in
theorem x83 {I : List Nat → List Int} {M : Nat → Option Ent} {A : List Nat → Option Nat} {V : List Nat → Value} (T : TrM I M A V) (es : List (List Int × PV)) (k : Cube) :
  MCalls Try.prog 36 [.loc 1000 0,.p (.agg (cb k))] (trL A V M es)
   (fun rs L => ∃ r : {r : (List Nat → Option Nat) × (List Nat → Value) × (Nat → Option Ent) // TrM I r.2.2 r.1 r.2.1 ∧ hasP r.1 (pathC k) = true},rs = [atAV r.val.1 (pathC k)] ∧ L = trL r.val.1 r.val.2.1 r.val.2.2 es) := by
 have hlast := last_c k
 have hl8 := j120 k
 unfold trL trC
 refine q18 Try.func36 rfl (by decide +kernel) (by rw [Try.ntmps36];simp) (fun l X h => by simp only [AL.look] at h;(repeat' split at h);all_goals first | omega | cases h) ?_;rw [Try.ntmps36];simp only [frA]
 (repeat (first | apply j0 | refine q8 rfl ?_ | refine z8 rfl ?_ | apply z7 | (refine j4 fun K hK => ?_) | (refine x5 fun K hK => ?_) | ((first | apply j6 | apply x7 | ((first | refine z6 (hK _ ?_) | refine x6 (hK _ _ j5 ?_));clear hK K));(first | show AWP _ _ _ _ _ | ((try simp only [j7]);first | show loopQ _ _ _ _ _ _ | show cutQ _ _ _ _ | show AWP _ _ _ _ _))) | ((first | refine x8 [] rfl ?_ | refine j8 [] rfl ?_);simp (disch:=omega) only [go_sem,seval,hd,cb];(repeat (first | refine ⟨by omega,?_⟩ | refine ⟨True.intro,?_⟩)))))
 refine x21 (plI I k es) (fun s => 128 - s.d) ⟨0,[],A,V,M,by omega,T,rfl,rfl⟩ ?_ (fun s => ?_)
 ·unfold plI trL trC
  refine Weak.list ?_ ?_;(all_goals simp (disch:=omega) only [AllF,AllL,q13,z13,j12,exists_eq_left',go_sem,seval,hd,cb]);(all_goals (repeat' (with_reducible apply And.intro)));(all_goals try (first | exact j9 rfl | (refine x13 ?_;omega) | (refine j9 ?_;simp;done)))
 obtain ⟨d,p,A,V,M,hd8,T,hp,hpp⟩ := s
 unfold plI trL trC
 simp only []
 by_cases hlt : d < 128 - lastC k
 ·have hge : decide ((127 : Int) - (d : Int) ≥ (lastC k : Int)) = true := decide_eq_true (by omega)
  have hbr := x79 k (n := 127 - d) (by omega)
  have e127 : ((127 - d : Nat) : Int) = 127 - (d : Int) := by omega
  rw [e127] at hbr
  have hj3 := j55 k (127 - d)
  have htk := z121 k hlt
  have hlp : p.length = d := by rw [hpp,List.length_take,x23];omega
  rw [← hpp] at htk
  generalize brC k (127 - d) = j at *
  have hj : j = 0 ∨ j = 1 ∨ j = 2 := by omega
  rcases Classical.em (p = []) with hp0 | hp0
  ·subst hp0
   rw [j131]
   rw [List.nil_append] at htk
   rcases hj with rfl | rfl | rfl
   ·cases hk : A [0] with
    |none =>
     have q := x22 hk
     (repeat ((fail_if_success (show AWP _ _ (.region 7 _ _) _ _));first | apply j0 | refine q8 rfl ?_ | refine z8 rfl ?_ | apply z7 | (refine j4 fun K hK => ?_) | (refine x5 fun K hK => ?_) | ((first | apply j6 | apply x7 | ((first | refine z6 (hK _ ?_) | refine x6 (hK _ _ j5 ?_));clear hK K));(first | show AWP _ _ _ _ _ | ((try simp only [j7]);first | show loopQ _ _ _ _ _ _ | show cutQ _ _ _ _ | show AWP _ _ _ _ _))) | ((first | refine q10 rfl rfl rfl ?_ | refine z10 rfl rfl rfl ?_);simp (disch:=omega) only [go_sem,seval,hd,cb,hge,q];(first | refine ⟨_,hlast,?_⟩ | refine ⟨_,hbr,?_⟩)) | ((first | refine x8 [30] rfl ?_ | refine j8 [30] rfl ?_);simp (disch:=omega) only [go_sem,seval,hd,cb,hge,q];(repeat (first | refine ⟨by omega,?_⟩ | refine ⟨True.intro,?_⟩)))))
     refine j4 fun K hK => ?_
     iterate 4 ((first | refine z11 [30] rfl rfl ?_ | refine x11 [30] rfl rfl ?_ | refine j10 rfl rfl ?_ | refine q11 rfl rfl ?_);simp (disch:=omega) only [go_sem,seval,hd,cb,hge,q];(repeat (first | refine ⟨by omega,?_⟩ | refine ⟨True.intro,?_⟩)))
     refine j21 (WeakX.packCells _ 30 30 94 [.p (.d (.v (.pointer none))),.p (.d (.v (.pointer none))),.p (.d (.v (.pointer none))),.p (.d (.v (.slice none 0 0)))] [.v (.pointer none),.v (.pointer none),.v (.pointer none),.v (.slice none 0 0)] M rfl rfl rfl (by decide) rfl) ?_
     rintro _ ⟨b1,hb1,rfl⟩
     (repeat (first | apply j0 | refine q8 rfl ?_ | refine z8 rfl ?_ | apply z7 | (refine j4 fun K hK => ?_) | (refine x5 fun K hK => ?_) | ((first | apply j6 | apply x7 | ((first | refine z6 (hK _ ?_) | refine x6 (hK _ _ j5 ?_));clear hK K));(first | show AWP _ _ _ _ _ | ((try simp only [j7]);first | show loopQ _ _ _ _ _ _ | show cutQ _ _ _ _ | show AWP _ _ _ _ _))) | ((first | refine x8 [] rfl ?_ | refine j8 [] rfl ?_);simp (disch:=omega) only [go_sem,seval,hd,cb,hge,q,j15];(repeat (first | refine ⟨by omega,?_⟩ | refine ⟨True.intro,?_⟩)))))
     have T2 := T.add (M' := setM M b1 (some ⟨94,4,1,1,fun _ => [.v (.pointer none),.v (.pointer none),.v (.pointer none),.v (.slice none 0 0)]⟩)) hp hk hb1 (by simp) ⟨_,q15 _ _ _,(T.new (by simp) hk b1).symm⟩ (fun b hb => by rw [T.root] at hb;cases hb) (fun c hc _ => q14 _ _ hc)
     refine ⟨⟨d + 1,[0],updA A [0] b1,updV V [0] (.slice none 0 0),setM M b1 (some ⟨94,4,1,1,fun _ => [.v (.pointer none),.v (.pointer none),.v (.pointer none),.v (.slice none 0 0)]⟩),by omega,T2,x18 (j19 _ _ _),htk.symm⟩,by simp only [];omega,?_⟩
     have c0 := x29 A [0] b1
     have c1 := j14 A (q := [0]) (x := [1]) b1 (by decide)
     have c2 := j14 A (q := [0]) (x := [2]) b1 (by decide)
     have c3 := q16 V (q := [0]) (x := []) (.slice none 0 0) (by decide)
     have c4 := z19 (j19 A [0] b1) (by decide)
     simp only [c0,c1,c2,c3,c4]
     refine Weak.list ?_ ?_;(all_goals simp (disch:=omega) only [AllF,AllL,q13,z13,j12,exists_eq_left',go_sem,seval,hd,cb,hge,q,j15]);(all_goals (repeat' (with_reducible apply And.intro)));(all_goals try (first | exact j9 rfl | (refine x13 ?_;omega) | (refine j9 ?_;simp;done)))
    |some b1 =>
     have q := j23 hk
     (repeat (first | apply j0 | refine q8 rfl ?_ | refine z8 rfl ?_ | apply z7 | (refine j4 fun K hK => ?_) | (refine x5 fun K hK => ?_) | ((first | apply j6 | apply x7 | ((first | refine z6 (hK _ ?_) | refine x6 (hK _ _ j5 ?_));clear hK K));(first | show AWP _ _ _ _ _ | ((try simp only [j7]);first | show loopQ _ _ _ _ _ _ | show cutQ _ _ _ _ | show AWP _ _ _ _ _))) | ((first | refine q10 rfl rfl rfl ?_ | refine z10 rfl rfl rfl ?_);simp (disch:=omega) only [go_sem,seval,hd,cb,hge,q];(first | refine ⟨_,hlast,?_⟩ | refine ⟨_,hbr,?_⟩)) | ((first | refine x8 [] rfl ?_ | refine j8 [] rfl ?_);simp (disch:=omega) only [go_sem,seval,hd,cb,hge,q];(repeat (first | refine ⟨by omega,?_⟩ | refine ⟨True.intro,?_⟩)))))
     refine ⟨⟨d + 1,[0],A,V,M,by omega,T,x18 hk,htk.symm⟩,by simp only [];omega,?_⟩
     have c4 := z19 hk (by decide)
     simp only [q,c4]
     refine Weak.list ?_ ?_;(all_goals simp (disch:=omega) only [AllF,AllL,q13,z13,j12,exists_eq_left',go_sem,seval,hd,cb,hge,q]);(all_goals (repeat' (with_reducible apply And.intro)));(all_goals try (first | exact j9 rfl | (refine x13 ?_;omega) | (refine j9 ?_;simp;done)))
   ·cases hk : A [1] with
    |none =>
     have q := x22 hk
     (repeat ((fail_if_success (show AWP _ _ (.region 7 _ _) _ _));first | apply j0 | refine q8 rfl ?_ | refine z8 rfl ?_ | apply z7 | (refine j4 fun K hK => ?_) | (refine x5 fun K hK => ?_) | ((first | apply j6 | apply x7 | ((first | refine z6 (hK _ ?_) | refine x6 (hK _ _ j5 ?_));clear hK K));(first | show AWP _ _ _ _ _ | ((try simp only [j7]);first | show loopQ _ _ _ _ _ _ | show cutQ _ _ _ _ | show AWP _ _ _ _ _))) | ((first | refine q10 rfl rfl rfl ?_ | refine z10 rfl rfl rfl ?_);simp (disch:=omega) only [go_sem,seval,hd,cb,hge,q];(first | refine ⟨_,hlast,?_⟩ | refine ⟨_,hbr,?_⟩)) | ((first | refine x8 [30] rfl ?_ | refine j8 [30] rfl ?_);simp (disch:=omega) only [go_sem,seval,hd,cb,hge,q];(repeat (first | refine ⟨by omega,?_⟩ | refine ⟨True.intro,?_⟩)))))
     refine j4 fun K hK => ?_
     iterate 4 ((first | refine z11 [30] rfl rfl ?_ | refine x11 [30] rfl rfl ?_ | refine j10 rfl rfl ?_ | refine q11 rfl rfl ?_);simp (disch:=omega) only [go_sem,seval,hd,cb,hge,q];(repeat (first | refine ⟨by omega,?_⟩ | refine ⟨True.intro,?_⟩)))
     refine j21 (WeakX.packCells _ 30 30 94 [.p (.d (.v (.pointer none))),.p (.d (.v (.pointer none))),.p (.d (.v (.pointer none))),.p (.d (.v (.slice none 0 0)))] [.v (.pointer none),.v (.pointer none),.v (.pointer none),.v (.slice none 0 0)] M rfl rfl rfl (by decide) rfl) ?_
     rintro _ ⟨b1,hb1,rfl⟩
     (repeat (first | apply j0 | refine q8 rfl ?_ | refine z8 rfl ?_ | apply z7 | (refine j4 fun K hK => ?_) | (refine x5 fun K hK => ?_) | ((first | apply j6 | apply x7 | ((first | refine z6 (hK _ ?_) | refine x6 (hK _ _ j5 ?_));clear hK K));(first | show AWP _ _ _ _ _ | ((try simp only [j7]);first | show loopQ _ _ _ _ _ _ | show cutQ _ _ _ _ | show AWP _ _ _ _ _))) | ((first | refine x8 [] rfl ?_ | refine j8 [] rfl ?_);simp (disch:=omega) only [go_sem,seval,hd,cb,hge,q,j15];(repeat (first | refine ⟨by omega,?_⟩ | refine ⟨True.intro,?_⟩)))))
     have T2 := T.add (M' := setM M b1 (some ⟨94,4,1,1,fun _ => [.v (.pointer none),.v (.pointer none),.v (.pointer none),.v (.slice none 0 0)]⟩)) hp hk hb1 (by simp) ⟨_,q15 _ _ _,(T.new (by simp) hk b1).symm⟩ (fun b hb => by rw [T.root] at hb;cases hb) (fun c hc _ => q14 _ _ hc)
     refine ⟨⟨d + 1,[1],updA A [1] b1,updV V [1] (.slice none 0 0),setM M b1 (some ⟨94,4,1,1,fun _ => [.v (.pointer none),.v (.pointer none),.v (.pointer none),.v (.slice none 0 0)]⟩),by omega,T2,x18 (j19 _ _ _),htk.symm⟩,by simp only [];omega,?_⟩
     have c0 := x29 A [1] b1
     have c1 := j14 A (q := [1]) (x := [0]) b1 (by decide)
     have c2 := j14 A (q := [1]) (x := [2]) b1 (by decide)
     have c3 := q16 V (q := [1]) (x := []) (.slice none 0 0) (by decide)
     have c4 := z19 (j19 A [1] b1) (by decide)
     simp only [c0,c1,c2,c3,c4]
     refine Weak.list ?_ ?_;(all_goals simp (disch:=omega) only [AllF,AllL,q13,z13,j12,exists_eq_left',go_sem,seval,hd,cb,hge,q,j15]);(all_goals (repeat' (with_reducible apply And.intro)));(all_goals try (first | exact j9 rfl | (refine x13 ?_;omega) | (refine j9 ?_;simp;done)))
    |some b1 =>
     have q := j23 hk
     (repeat (first | apply j0 | refine q8 rfl ?_ | refine z8 rfl ?_ | apply z7 | (refine j4 fun K hK => ?_) | (refine x5 fun K hK => ?_) | ((first | apply j6 | apply x7 | ((first | refine z6 (hK _ ?_) | refine x6 (hK _ _ j5 ?_));clear hK K));(first | show AWP _ _ _ _ _ | ((try simp only [j7]);first | show loopQ _ _ _ _ _ _ | show cutQ _ _ _ _ | show AWP _ _ _ _ _))) | ((first | refine q10 rfl rfl rfl ?_ | refine z10 rfl rfl rfl ?_);simp (disch:=omega) only [go_sem,seval,hd,cb,hge,q];(first | refine ⟨_,hlast,?_⟩ | refine ⟨_,hbr,?_⟩)) | ((first | refine x8 [] rfl ?_ | refine j8 [] rfl ?_);simp (disch:=omega) only [go_sem,seval,hd,cb,hge,q];(repeat (first | refine ⟨by omega,?_⟩ | refine ⟨True.intro,?_⟩)))))
     refine ⟨⟨d + 1,[1],A,V,M,by omega,T,x18 hk,htk.symm⟩,by simp only [];omega,?_⟩
     have c4 := z19 hk (by decide)
     simp only [q,c4]
     refine Weak.list ?_ ?_;(all_goals simp (disch:=omega) only [AllF,AllL,q13,z13,j12,exists_eq_left',go_sem,seval,hd,cb,hge,q]);(all_goals (repeat' (with_reducible apply And.intro)));(all_goals try (first | exact j9 rfl | (refine x13 ?_;omega) | (refine j9 ?_;simp;done)))
   ·cases hk : A [2] with
    |none =>
     have q := x22 hk
     (repeat ((fail_if_success (show AWP _ _ (.region 7 _ _) _ _));first | apply j0 | refine q8 rfl ?_ | refine z8 rfl ?_ | apply z7 | (refine j4 fun K hK => ?_) | (refine x5 fun K hK => ?_) | ((first | apply j6 | apply x7 | ((first | refine z6 (hK _ ?_) | refine x6 (hK _ _ j5 ?_));clear hK K));(first | show AWP _ _ _ _ _ | ((try simp only [j7]);first | show loopQ _ _ _ _ _ _ | show cutQ _ _ _ _ | show AWP _ _ _ _ _))) | ((first | refine q10 rfl rfl rfl ?_ | refine z10 rfl rfl rfl ?_);simp (disch:=omega) only [go_sem,seval,hd,cb,hge,q];(first | refine ⟨_,hlast,?_⟩ | refine ⟨_,hbr,?_⟩)) | ((first | refine x8 [30] rfl ?_ | refine j8 [30] rfl ?_);simp (disch:=omega) only [go_sem,seval,hd,cb,hge,q];(repeat (first | refine ⟨by omega,?_⟩ | refine ⟨True.intro,?_⟩)))))
     refine j4 fun K hK => ?_
     iterate 4 ((first | refine z11 [30] rfl rfl ?_ | refine x11 [30] rfl rfl ?_ | refine j10 rfl rfl ?_ | refine q11 rfl rfl ?_);simp (disch:=omega) only [go_sem,seval,hd,cb,hge,q];(repeat (first | refine ⟨by omega,?_⟩ | refine ⟨True.intro,?_⟩)))
     refine j21 (WeakX.packCells _ 30 30 94 [.p (.d (.v (.pointer none))),.p (.d (.v (.pointer none))),.p (.d (.v (.pointer none))),.p (.d (.v (.slice none 0 0)))] [.v (.pointer none),.v (.pointer none),.v (.pointer none),.v (.slice none 0 0)] M rfl rfl rfl (by decide) rfl) ?_
     rintro _ ⟨b1,hb1,rfl⟩
     (repeat (first | apply j0 | refine q8 rfl ?_ | refine z8 rfl ?_ | apply z7 | (refine j4 fun K hK => ?_) | (refine x5 fun K hK => ?_) | ((first | apply j6 | apply x7 | ((first | refine z6 (hK _ ?_) | refine x6 (hK _ _ j5 ?_));clear hK K));(first | show AWP _ _ _ _ _ | ((try simp only [j7]);first | show loopQ _ _ _ _ _ _ | show cutQ _ _ _ _ | show AWP _ _ _ _ _))) | ((first | refine x8 [] rfl ?_ | refine j8 [] rfl ?_);simp (disch:=omega) only [go_sem,seval,hd,cb,hge,q,j15];(repeat (first | refine ⟨by omega,?_⟩ | refine ⟨True.intro,?_⟩)))))
     have T2 := T.add (M' := setM M b1 (some ⟨94,4,1,1,fun _ => [.v (.pointer none),.v (.pointer none),.v (.pointer none),.v (.slice none 0 0)]⟩)) hp hk hb1 (by simp) ⟨_,q15 _ _ _,(T.new (by simp) hk b1).symm⟩ (fun b hb => by rw [T.root] at hb;cases hb) (fun c hc _ => q14 _ _ hc)
     refine ⟨⟨d + 1,[2],updA A [2] b1,updV V [2] (.slice none 0 0),setM M b1 (some ⟨94,4,1,1,fun _ => [.v (.pointer none),.v (.pointer none),.v (.pointer none),.v (.slice none 0 0)]⟩),by omega,T2,x18 (j19 _ _ _),htk.symm⟩,by simp only [];omega,?_⟩
     have c0 := x29 A [2] b1
     have c1 := j14 A (q := [2]) (x := [0]) b1 (by decide)
     have c2 := j14 A (q := [2]) (x := [1]) b1 (by decide)
     have c3 := q16 V (q := [2]) (x := []) (.slice none 0 0) (by decide)
     have c4 := z19 (j19 A [2] b1) (by decide)
     simp only [c0,c1,c2,c3,c4]
     refine Weak.list ?_ ?_;(all_goals simp (disch:=omega) only [AllF,AllL,q13,z13,j12,exists_eq_left',go_sem,seval,hd,cb,hge,q,j15]);(all_goals (repeat' (with_reducible apply And.intro)));(all_goals try (first | exact j9 rfl | (refine x13 ?_;omega) | (refine j9 ?_;simp;done)))
    |some b1 =>
     have q := j23 hk
     (repeat (first | apply j0 | refine q8 rfl ?_ | refine z8 rfl ?_ | apply z7 | (refine j4 fun K hK => ?_) | (refine x5 fun K hK => ?_) | ((first | apply j6 | apply x7 | ((first | refine z6 (hK _ ?_) | refine x6 (hK _ _ j5 ?_));clear hK K));(first | show AWP _ _ _ _ _ | ((try simp only [j7]);first | show loopQ _ _ _ _ _ _ | show cutQ _ _ _ _ | show AWP _ _ _ _ _))) | ((first | refine q10 rfl rfl rfl ?_ | refine z10 rfl rfl rfl ?_);simp (disch:=omega) only [go_sem,seval,hd,cb,hge,q];(first | refine ⟨_,hlast,?_⟩ | refine ⟨_,hbr,?_⟩)) | ((first | refine x8 [] rfl ?_ | refine j8 [] rfl ?_);simp (disch:=omega) only [go_sem,seval,hd,cb,hge,q];(repeat (first | refine ⟨by omega,?_⟩ | refine ⟨True.intro,?_⟩)))))
     refine ⟨⟨d + 1,[2],A,V,M,by omega,T,x18 hk,htk.symm⟩,by simp only [];omega,?_⟩
     have c4 := z19 hk (by decide)
     simp only [q,c4]
     refine Weak.list ?_ ?_;(all_goals simp (disch:=omega) only [AllF,AllL,q13,z13,j12,exists_eq_left',go_sem,seval,hd,cb,hge,q]);(all_goals (repeat' (with_reducible apply And.intro)));(all_goals try (first | exact j9 rfl | (refine x13 ?_;omega) | (refine j9 ?_;simp;done)))
  ·obtain ⟨b,hb⟩ := x43 hp hp0
   rw [z19 hb hp0]
   obtain ⟨f0,hMb,hf0⟩ := T.node p b hb
   unfold nodeC at hf0
   rcases hj with rfl | rfl | rfl
   ·cases hk : A (p ++ [0]) with
    |none =>
     have q := x22 hk
     rw [q] at hf0
     (repeat ((fail_if_success (show AWP _ _ (.region 7 _ _) _ _));first | apply j0 | refine q8 rfl ?_ | refine z8 rfl ?_ | apply z7 | (refine j4 fun K hK => ?_) | (refine x5 fun K hK => ?_) | ((first | apply j6 | apply x7 | ((first | refine z6 (hK _ ?_) | refine x6 (hK _ _ j5 ?_));clear hK K));(first | show AWP _ _ _ _ _ | ((try simp only [j7]);first | show loopQ _ _ _ _ _ _ | show cutQ _ _ _ _ | show AWP _ _ _ _ _))) | ((first | refine q10 rfl rfl rfl ?_ | refine z10 rfl rfl rfl ?_);simp (disch:=omega) only [go_sem,seval,hd,cb,hge,q,hMb,hf0];(first | refine ⟨_,hlast,?_⟩ | refine ⟨_,hbr,?_⟩)) | ((first | refine x8 [30] rfl ?_ | refine j8 [30] rfl ?_);simp (disch:=omega) only [go_sem,seval,hd,cb,hge,q,hMb,hf0];(repeat (first | refine ⟨by omega,?_⟩ | refine ⟨True.intro,?_⟩)))))
     refine j4 fun K hK => ?_
     iterate 4 ((first | refine z11 [30] rfl rfl ?_ | refine x11 [30] rfl rfl ?_ | refine j10 rfl rfl ?_ | refine q11 rfl rfl ?_);simp (disch:=omega) only [go_sem,seval,hd,cb,hge,q,hMb,hf0];(repeat (first | refine ⟨by omega,?_⟩ | refine ⟨True.intro,?_⟩)))
     refine j21 (WeakX.packCells _ 30 30 94 [.p (.d (.v (.pointer none))),.p (.d (.v (.pointer none))),.p (.d (.v (.pointer none))),.p (.d (.v (.slice none 0 0)))] [.v (.pointer none),.v (.pointer none),.v (.pointer none),.v (.slice none 0 0)] M rfl rfl rfl (by decide) rfl) ?_
     rintro _ ⟨b1,hb1,rfl⟩
     have hne : b ≠ b1 := fun e => by rw [e,hb1] at hMb;cases hMb
     have hs := (q14 M (some ⟨94,4,1,1,fun _ => [.v (.pointer none),.v (.pointer none),.v (.pointer none),.v (.slice none 0 0)]⟩) hne).trans hMb
     have hf1 : putEl f0 0 0 [.v (.pointer (some ⟨b1,0,none⟩))] 0 = [.v (.pointer (some ⟨b1,0,none⟩)),.v (kidV A (p ++ [1])),.v (kidV A (p ++ [2])),.v (V p)] := by
      unfold putEl
      rw [if_pos rfl,hf0];rfl
     (repeat (first | apply j0 | refine q8 rfl ?_ | refine z8 rfl ?_ | apply z7 | (refine j4 fun K hK => ?_) | (refine x5 fun K hK => ?_) | ((first | apply j6 | apply x7 | ((first | refine z6 (hK _ ?_) | refine x6 (hK _ _ j5 ?_));clear hK K));(first | show AWP _ _ _ _ _ | ((try simp only [j7]);first | show loopQ _ _ _ _ _ _ | show cutQ _ _ _ _ | show AWP _ _ _ _ _))) | ((first | refine x8 [] rfl ?_ | refine j8 [] rfl ?_);simp (disch:=omega) only [go_sem,seval,hd,cb,hge,q,j15,hs,q15,hf1,hf0];(repeat (first | refine ⟨by omega,?_⟩ | refine ⟨True.intro,?_⟩)))))
     have hf2 : putEl f0 0 0 [.v (.pointer (some ⟨b1,0,none⟩))] 0 = nodeC (updA A (p ++ [0]) b1) (updV V (p ++ [0]) (.slice none 0 0)) p := by
      rw [hf1]
      unfold nodeC
      rw [x29,j14 A (x := p ++ [1]) b1 (z16 (.inr (by decide))),j14 A (x := p ++ [2]) b1 (z16 (.inr (by decide))),q16 V (.slice none 0 0) (j29 p 0)]
     have T2 := T.add (M' := setM (setM M b1 (some ⟨94,4,1,1,fun _ => [.v (.pointer none),.v (.pointer none),.v (.pointer none),.v (.slice none 0 0)]⟩)) b (some ⟨94,4,1,1,putEl f0 0 0 [.v (.pointer (some ⟨b1,0,none⟩))]⟩)) hp hk hb1 (by omega)
      ⟨_,(q14 _ _ (Ne.symm hne)).trans (q15 _ _ _),(T.new (by simp) hk b1).symm⟩ (fun b' e => by rw [hb] at e;cases e;exact ⟨_,q15 _ _ _,hf2⟩) (fun c hc hc2 => (q14 _ _ (fun e => hc2 (by rw [e];exact hb))).trans (q14 _ _ hc))
     refine ⟨⟨d + 1,p ++ [0],updA A (p ++ [0]) b1,updV V (p ++ [0]) (.slice none 0 0),setM (setM M b1 (some ⟨94,4,1,1,fun _ => [.v (.pointer none),.v (.pointer none),.v (.pointer none),.v (.slice none 0 0)]⟩)) b (some ⟨94,4,1,1,putEl f0 0 0 [.v (.pointer (some ⟨b1,0,none⟩))]⟩),by omega,T2,x18 (j19 _ _ _),htk.symm⟩,by simp only [];omega,?_⟩
     have c0 := j14 A (q := p ++ [0]) (x := [0]) b1 (z16 (p := p) (q := []) (i := 0) (.inl (Ne.symm hp0)))
     have c1 := j14 A (q := p ++ [0]) (x := [1]) b1 (z16 (p := p) (q := []) (i := 1) (.inl (Ne.symm hp0)))
     have c2 := j14 A (q := p ++ [0]) (x := [2]) b1 (z16 (p := p) (q := []) (i := 2) (.inl (Ne.symm hp0)))
     have c3 := q16 V (q := p ++ [0]) (x := []) (.slice none 0 0) (by simp)
     have c4 := z19 (j19 A (p ++ [0]) b1) (by simp)
     simp only [c0,c1,c2,c3,c4]
     refine Weak.list ?_ ?_;(all_goals simp (disch:=omega) only [AllF,AllL,q13,z13,j12,exists_eq_left',go_sem,seval,hd,cb,hge,q,j15,hs,q15,hf1,hf0]);(all_goals (repeat' (with_reducible apply And.intro)));(all_goals try (first | exact j9 rfl | (refine x13 ?_;omega) | (refine j9 ?_;simp;done)))
    |some b1 =>
     have q := j23 hk
     rw [q] at hf0
     (repeat (first | apply j0 | refine q8 rfl ?_ | refine z8 rfl ?_ | apply z7 | (refine j4 fun K hK => ?_) | (refine x5 fun K hK => ?_) | ((first | apply j6 | apply x7 | ((first | refine z6 (hK _ ?_) | refine x6 (hK _ _ j5 ?_));clear hK K));(first | show AWP _ _ _ _ _ | ((try simp only [j7]);first | show loopQ _ _ _ _ _ _ | show cutQ _ _ _ _ | show AWP _ _ _ _ _))) | ((first | refine q10 rfl rfl rfl ?_ | refine z10 rfl rfl rfl ?_);simp (disch:=omega) only [go_sem,seval,hd,cb,hge,q,hMb,hf0];(first | refine ⟨_,hlast,?_⟩ | refine ⟨_,hbr,?_⟩)) | ((first | refine x8 [] rfl ?_ | refine j8 [] rfl ?_);simp (disch:=omega) only [go_sem,seval,hd,cb,hge,q,hMb,hf0];(repeat (first | refine ⟨by omega,?_⟩ | refine ⟨True.intro,?_⟩)))))
     refine ⟨⟨d + 1,p ++ [0],A,V,M,by omega,T,x18 hk,htk.symm⟩,by simp only [];omega,?_⟩
     have c4 := z19 hk (by simp)
     simp only [c4]
     refine Weak.list ?_ ?_;(all_goals simp (disch:=omega) only [AllF,AllL,q13,z13,j12,exists_eq_left',go_sem,seval,hd,cb,hge,q,hMb,hf0]);(all_goals (repeat' (with_reducible apply And.intro)));(all_goals try (first | exact j9 rfl | (refine x13 ?_;omega) | (refine j9 ?_;simp;done)))
   ·cases hk : A (p ++ [1]) with
    |none =>
     have q := x22 hk
     rw [q] at hf0
     (repeat ((fail_if_success (show AWP _ _ (.region 7 _ _) _ _));first | apply j0 | refine q8 rfl ?_ | refine z8 rfl ?_ | apply z7 | (refine j4 fun K hK => ?_) | (refine x5 fun K hK => ?_) | ((first | apply j6 | apply x7 | ((first | refine z6 (hK _ ?_) | refine x6 (hK _ _ j5 ?_));clear hK K));(first | show AWP _ _ _ _ _ | ((try simp only [j7]);first | show loopQ _ _ _ _ _ _ | show cutQ _ _ _ _ | show AWP _ _ _ _ _))) | ((first | refine q10 rfl rfl rfl ?_ | refine z10 rfl rfl rfl ?_);simp (disch:=omega) only [go_sem,seval,hd,cb,hge,q,hMb,hf0];(first | refine ⟨_,hlast,?_⟩ | refine ⟨_,hbr,?_⟩)) | ((first | refine x8 [30] rfl ?_ | refine j8 [30] rfl ?_);simp (disch:=omega) only [go_sem,seval,hd,cb,hge,q,hMb,hf0];(repeat (first | refine ⟨by omega,?_⟩ | refine ⟨True.intro,?_⟩)))))
     refine j4 fun K hK => ?_
     iterate 4 ((first | refine z11 [30] rfl rfl ?_ | refine x11 [30] rfl rfl ?_ | refine j10 rfl rfl ?_ | refine q11 rfl rfl ?_);simp (disch:=omega) only [go_sem,seval,hd,cb,hge,q,hMb,hf0];(repeat (first | refine ⟨by omega,?_⟩ | refine ⟨True.intro,?_⟩)))
     refine j21 (WeakX.packCells _ 30 30 94 [.p (.d (.v (.pointer none))),.p (.d (.v (.pointer none))),.p (.d (.v (.pointer none))),.p (.d (.v (.slice none 0 0)))] [.v (.pointer none),.v (.pointer none),.v (.pointer none),.v (.slice none 0 0)] M rfl rfl rfl (by decide) rfl) ?_
     rintro _ ⟨b1,hb1,rfl⟩
     have hne : b ≠ b1 := fun e => by rw [e,hb1] at hMb;cases hMb
     have hs := (q14 M (some ⟨94,4,1,1,fun _ => [.v (.pointer none),.v (.pointer none),.v (.pointer none),.v (.slice none 0 0)]⟩) hne).trans hMb
     have hf1 : putEl f0 0 1 [.v (.pointer (some ⟨b1,0,none⟩))] 0 = [.v (kidV A (p ++ [0])),.v (.pointer (some ⟨b1,0,none⟩)),.v (kidV A (p ++ [2])),.v (V p)] := by
      unfold putEl
      rw [if_pos rfl,hf0];rfl
     (repeat (first | apply j0 | refine q8 rfl ?_ | refine z8 rfl ?_ | apply z7 | (refine j4 fun K hK => ?_) | (refine x5 fun K hK => ?_) | ((first | apply j6 | apply x7 | ((first | refine z6 (hK _ ?_) | refine x6 (hK _ _ j5 ?_));clear hK K));(first | show AWP _ _ _ _ _ | ((try simp only [j7]);first | show loopQ _ _ _ _ _ _ | show cutQ _ _ _ _ | show AWP _ _ _ _ _))) | ((first | refine x8 [] rfl ?_ | refine j8 [] rfl ?_);simp (disch:=omega) only [go_sem,seval,hd,cb,hge,q,j15,hs,q15,hf1,hf0];(repeat (first | refine ⟨by omega,?_⟩ | refine ⟨True.intro,?_⟩)))))
     have hf2 : putEl f0 0 1 [.v (.pointer (some ⟨b1,0,none⟩))] 0 = nodeC (updA A (p ++ [1]) b1) (updV V (p ++ [1]) (.slice none 0 0)) p := by
      rw [hf1]
      unfold nodeC
      rw [x29,j14 A (x := p ++ [0]) b1 (z16 (.inr (by decide))),j14 A (x := p ++ [2]) b1 (z16 (.inr (by decide))),q16 V (.slice none 0 0) (j29 p 1)]
     have T2 := T.add (M' := setM (setM M b1 (some ⟨94,4,1,1,fun _ => [.v (.pointer none),.v (.pointer none),.v (.pointer none),.v (.slice none 0 0)]⟩)) b (some ⟨94,4,1,1,putEl f0 0 1 [.v (.pointer (some ⟨b1,0,none⟩))]⟩)) hp hk hb1 (by omega)
      ⟨_,(q14 _ _ (Ne.symm hne)).trans (q15 _ _ _),(T.new (by simp) hk b1).symm⟩ (fun b' e => by rw [hb] at e;cases e;exact ⟨_,q15 _ _ _,hf2⟩) (fun c hc hc2 => (q14 _ _ (fun e => hc2 (by rw [e];exact hb))).trans (q14 _ _ hc))
     refine ⟨⟨d + 1,p ++ [1],updA A (p ++ [1]) b1,updV V (p ++ [1]) (.slice none 0 0),setM (setM M b1 (some ⟨94,4,1,1,fun _ => [.v (.pointer none),.v (.pointer none),.v (.pointer none),.v (.slice none 0 0)]⟩)) b (some ⟨94,4,1,1,putEl f0 0 1 [.v (.pointer (some ⟨b1,0,none⟩))]⟩),by omega,T2,x18 (j19 _ _ _),htk.symm⟩,by simp only [];omega,?_⟩
     have c0 := j14 A (q := p ++ [1]) (x := [0]) b1 (z16 (p := p) (q := []) (i := 0) (.inl (Ne.symm hp0)))
     have c1 := j14 A (q := p ++ [1]) (x := [1]) b1 (z16 (p := p) (q := []) (i := 1) (.inl (Ne.symm hp0)))
     have c2 := j14 A (q := p ++ [1]) (x := [2]) b1 (z16 (p := p) (q := []) (i := 2) (.inl (Ne.symm hp0)))
     have c3 := q16 V (q := p ++ [1]) (x := []) (.slice none 0 0) (by simp)
     have c4 := z19 (j19 A (p ++ [1]) b1) (by simp)
     simp only [c0,c1,c2,c3,c4]
     refine Weak.list ?_ ?_;(all_goals simp (disch:=omega) only [AllF,AllL,q13,z13,j12,exists_eq_left',go_sem,seval,hd,cb,hge,q,j15,hs,q15,hf1,hf0]);(all_goals (repeat' (with_reducible apply And.intro)));(all_goals try (first | exact j9 rfl | (refine x13 ?_;omega) | (refine j9 ?_;simp;done)))
    |some b1 =>
     have q := j23 hk
     rw [q] at hf0
     (repeat (first | apply j0 | refine q8 rfl ?_ | refine z8 rfl ?_ | apply z7 | (refine j4 fun K hK => ?_) | (refine x5 fun K hK => ?_) | ((first | apply j6 | apply x7 | ((first | refine z6 (hK _ ?_) | refine x6 (hK _ _ j5 ?_));clear hK K));(first | show AWP _ _ _ _ _ | ((try simp only [j7]);first | show loopQ _ _ _ _ _ _ | show cutQ _ _ _ _ | show AWP _ _ _ _ _))) | ((first | refine q10 rfl rfl rfl ?_ | refine z10 rfl rfl rfl ?_);simp (disch:=omega) only [go_sem,seval,hd,cb,hge,q,hMb,hf0];(first | refine ⟨_,hlast,?_⟩ | refine ⟨_,hbr,?_⟩)) | ((first | refine x8 [] rfl ?_ | refine j8 [] rfl ?_);simp (disch:=omega) only [go_sem,seval,hd,cb,hge,q,hMb,hf0];(repeat (first | refine ⟨by omega,?_⟩ | refine ⟨True.intro,?_⟩)))))
     refine ⟨⟨d + 1,p ++ [1],A,V,M,by omega,T,x18 hk,htk.symm⟩,by simp only [];omega,?_⟩
     have c4 := z19 hk (by simp)
     simp only [c4]
     refine Weak.list ?_ ?_;(all_goals simp (disch:=omega) only [AllF,AllL,q13,z13,j12,exists_eq_left',go_sem,seval,hd,cb,hge,q,hMb,hf0]);(all_goals (repeat' (with_reducible apply And.intro)));(all_goals try (first | exact j9 rfl | (refine x13 ?_;omega) | (refine j9 ?_;simp;done)))
   ·cases hk : A (p ++ [2]) with
    |none =>
     have q := x22 hk
     rw [q] at hf0
     (repeat ((fail_if_success (show AWP _ _ (.region 7 _ _) _ _));first | apply j0 | refine q8 rfl ?_ | refine z8 rfl ?_ | apply z7 | (refine j4 fun K hK => ?_) | (refine x5 fun K hK => ?_) | ((first | apply j6 | apply x7 | ((first | refine z6 (hK _ ?_) | refine x6 (hK _ _ j5 ?_));clear hK K));(first | show AWP _ _ _ _ _ | ((try simp only [j7]);first | show loopQ _ _ _ _ _ _ | show cutQ _ _ _ _ | show AWP _ _ _ _ _))) | ((first | refine q10 rfl rfl rfl ?_ | refine z10 rfl rfl rfl ?_);simp (disch:=omega) only [go_sem,seval,hd,cb,hge,q,hMb,hf0];(first | refine ⟨_,hlast,?_⟩ | refine ⟨_,hbr,?_⟩)) | ((first | refine x8 [30] rfl ?_ | refine j8 [30] rfl ?_);simp (disch:=omega) only [go_sem,seval,hd,cb,hge,q,hMb,hf0];(repeat (first | refine ⟨by omega,?_⟩ | refine ⟨True.intro,?_⟩)))))
     refine j4 fun K hK => ?_
     iterate 4 ((first | refine z11 [30] rfl rfl ?_ | refine x11 [30] rfl rfl ?_ | refine j10 rfl rfl ?_ | refine q11 rfl rfl ?_);simp (disch:=omega) only [go_sem,seval,hd,cb,hge,q,hMb,hf0];(repeat (first | refine ⟨by omega,?_⟩ | refine ⟨True.intro,?_⟩)))
     refine j21 (WeakX.packCells _ 30 30 94 [.p (.d (.v (.pointer none))),.p (.d (.v (.pointer none))),.p (.d (.v (.pointer none))),.p (.d (.v (.slice none 0 0)))] [.v (.pointer none),.v (.pointer none),.v (.pointer none),.v (.slice none 0 0)] M rfl rfl rfl (by decide) rfl) ?_
     rintro _ ⟨b1,hb1,rfl⟩
     have hne : b ≠ b1 := fun e => by rw [e,hb1] at hMb;cases hMb
     have hs := (q14 M (some ⟨94,4,1,1,fun _ => [.v (.pointer none),.v (.pointer none),.v (.pointer none),.v (.slice none 0 0)]⟩) hne).trans hMb
     have hf1 : putEl f0 0 2 [.v (.pointer (some ⟨b1,0,none⟩))] 0 = [.v (kidV A (p ++ [0])),.v (kidV A (p ++ [1])),.v (.pointer (some ⟨b1,0,none⟩)),.v (V p)] := by
      unfold putEl
      rw [if_pos rfl,hf0];rfl
     (repeat (first | apply j0 | refine q8 rfl ?_ | refine z8 rfl ?_ | apply z7 | (refine j4 fun K hK => ?_) | (refine x5 fun K hK => ?_) | ((first | apply j6 | apply x7 | ((first | refine z6 (hK _ ?_) | refine x6 (hK _ _ j5 ?_));clear hK K));(first | show AWP _ _ _ _ _ | ((try simp only [j7]);first | show loopQ _ _ _ _ _ _ | show cutQ _ _ _ _ | show AWP _ _ _ _ _))) | ((first | refine x8 [] rfl ?_ | refine j8 [] rfl ?_);simp (disch:=omega) only [go_sem,seval,hd,cb,hge,q,j15,hs,q15,hf1,hf0];(repeat (first | refine ⟨by omega,?_⟩ | refine ⟨True.intro,?_⟩)))))
     have hf2 : putEl f0 0 2 [.v (.pointer (some ⟨b1,0,none⟩))] 0 = nodeC (updA A (p ++ [2]) b1) (updV V (p ++ [2]) (.slice none 0 0)) p := by
      rw [hf1]
      unfold nodeC
      rw [x29,j14 A (x := p ++ [0]) b1 (z16 (.inr (by decide))),j14 A (x := p ++ [1]) b1 (z16 (.inr (by decide))),q16 V (.slice none 0 0) (j29 p 2)]
     have T2 := T.add (M' := setM (setM M b1 (some ⟨94,4,1,1,fun _ => [.v (.pointer none),.v (.pointer none),.v (.pointer none),.v (.slice none 0 0)]⟩)) b (some ⟨94,4,1,1,putEl f0 0 2 [.v (.pointer (some ⟨b1,0,none⟩))]⟩)) hp hk hb1 (by omega)
      ⟨_,(q14 _ _ (Ne.symm hne)).trans (q15 _ _ _),(T.new (by simp) hk b1).symm⟩ (fun b' e => by rw [hb] at e;cases e;exact ⟨_,q15 _ _ _,hf2⟩) (fun c hc hc2 => (q14 _ _ (fun e => hc2 (by rw [e];exact hb))).trans (q14 _ _ hc))
     refine ⟨⟨d + 1,p ++ [2],updA A (p ++ [2]) b1,updV V (p ++ [2]) (.slice none 0 0),setM (setM M b1 (some ⟨94,4,1,1,fun _ => [.v (.pointer none),.v (.pointer none),.v (.pointer none),.v (.slice none 0 0)]⟩)) b (some ⟨94,4,1,1,putEl f0 0 2 [.v (.pointer (some ⟨b1,0,none⟩))]⟩),by omega,T2,x18 (j19 _ _ _),htk.symm⟩,by simp only [];omega,?_⟩
     have c0 := j14 A (q := p ++ [2]) (x := [0]) b1 (z16 (p := p) (q := []) (i := 0) (.inl (Ne.symm hp0)))
     have c1 := j14 A (q := p ++ [2]) (x := [1]) b1 (z16 (p := p) (q := []) (i := 1) (.inl (Ne.symm hp0)))
     have c2 := j14 A (q := p ++ [2]) (x := [2]) b1 (z16 (p := p) (q := []) (i := 2) (.inl (Ne.symm hp0)))
     have c3 := q16 V (q := p ++ [2]) (x := []) (.slice none 0 0) (by simp)
     have c4 := z19 (j19 A (p ++ [2]) b1) (by simp)
     simp only [c0,c1,c2,c3,c4]
     refine Weak.list ?_ ?_;(all_goals simp (disch:=omega) only [AllF,AllL,q13,z13,j12,exists_eq_left',go_sem,seval,hd,cb,hge,q,j15,hs,q15,hf1,hf0]);(all_goals (repeat' (with_reducible apply And.intro)));(all_goals try (first | exact j9 rfl | (refine x13 ?_;omega) | (refine j9 ?_;simp;done)))
    |some b1 =>
     have q := j23 hk
     rw [q] at hf0
     (repeat (first | apply j0 | refine q8 rfl ?_ | refine z8 rfl ?_ | apply z7 | (refine j4 fun K hK => ?_) | (refine x5 fun K hK => ?_) | ((first | apply j6 | apply x7 | ((first | refine z6 (hK _ ?_) | refine x6 (hK _ _ j5 ?_));clear hK K));(first | show AWP _ _ _ _ _ | ((try simp only [j7]);first | show loopQ _ _ _ _ _ _ | show cutQ _ _ _ _ | show AWP _ _ _ _ _))) | ((first | refine q10 rfl rfl rfl ?_ | refine z10 rfl rfl rfl ?_);simp (disch:=omega) only [go_sem,seval,hd,cb,hge,q,hMb,hf0];(first | refine ⟨_,hlast,?_⟩ | refine ⟨_,hbr,?_⟩)) | ((first | refine x8 [] rfl ?_ | refine j8 [] rfl ?_);simp (disch:=omega) only [go_sem,seval,hd,cb,hge,q,hMb,hf0];(repeat (first | refine ⟨by omega,?_⟩ | refine ⟨True.intro,?_⟩)))))
     refine ⟨⟨d + 1,p ++ [2],A,V,M,by omega,T,x18 hk,htk.symm⟩,by simp only [];omega,?_⟩
     have c4 := z19 hk (by simp)
     simp only [c4]
     refine Weak.list ?_ ?_;(all_goals simp (disch:=omega) only [AllF,AllL,q13,z13,j12,exists_eq_left',go_sem,seval,hd,cb,hge,q,hMb,hf0]);(all_goals (repeat' (with_reducible apply And.intro)));(all_goals try (first | exact j9 rfl | (refine x13 ?_;omega) | (refine j9 ?_;simp;done)))
 ·have hd : d = 128 - lastC k := by omega
  have hge : decide ((127 : Int) - (d : Int) ≥ (lastC k : Int)) = false := decide_eq_false (by omega)
  have hpk : p = pathC k := by rw [hpp,hd,← x23 k,List.take_length]
  (repeat (first | apply j0 | refine q8 rfl ?_ | refine z8 rfl ?_ | apply z7 | (refine j4 fun K hK => ?_) | (refine x5 fun K hK => ?_) | ((first | apply j6 | apply x7 | ((first | refine z6 (hK _ ?_) | refine x6 (hK _ _ j5 ?_));clear hK K));(first | show AWP _ _ _ _ _ | ((try simp only [j7]);first | show loopQ _ _ _ _ _ _ | show cutQ _ _ _ _ | show AWP _ _ _ _ _))) | ((first | refine q10 rfl rfl rfl ?_ | refine z10 rfl rfl rfl ?_);simp (disch:=omega) only [go_sem,seval,hd,cb,hge];(first | refine ⟨_,hlast,?_⟩)) | ((first | refine x8 [] rfl ?_ | refine j8 [] rfl ?_);simp (disch:=omega) only [go_sem,seval,hd,cb,hge];(repeat (first | refine ⟨by omega,?_⟩ | refine ⟨True.intro,?_⟩)))))
  refine x10 ?_
  refine (z18 ⟨⟨(A,V,M),T,by rw [← hpk];exact hp⟩,(by show [atAV A p] = [atAV A (pathC k)];rw [hpk]),rfl⟩ ?_ ?_).1
  ·exact ⟨rfl,trivial⟩
  ·simp [AL.look]
def esI (l : Items) : List (List Int × PV) := l.map fun x => ([x.1],.agg (cb x.2))
def idIn (l : Items) (id : Int) : Bool := l.any fun x => x.1 == id
def getI (l : Items) (id : Int) : Option Cube := (l.find? fun x => x.1 == id).map (·.2)
theorem z58 {l : Items} {id : Int} (h : idIn l id = false) : findM [id] (esI l) = none ∧ (∀ v,putM [id] v (esI l) = esI l ++ [([id],v)]) := by
 induction l with
 | nil => exact ⟨rfl,fun v => rfl⟩
 |cons x l ih =>
  have hx : x.1 ≠ id ∧ idIn l id = false := by simpa [idIn] using h
  obtain ⟨h1,h2⟩ := ih hx.2
  have ne : ¬ [x.1] = [id] := fun e => hx.1 (by simpa using e)
  refine ⟨?_,fun v => ?_⟩
  ·show (if [x.1] = [id] then _ else findM [id] (esI l)) = none
   rw [if_neg ne,h1]
  ·show (if [x.1] = [id] then _ else _ :: putM [id] v (esI l)) = _
   rw [if_neg ne,h2];rfl
theorem j83 {l : Items} {id : Int} {c : Cube} (h : idIn l id = false) : putM [id] (.agg (cb c)) (esI l) = esI (l ++ [(id,c)]) := by
 rw [(z58 h).2];simp [esI]
theorem q132 {l : Items} {id : Int} {c : Cube} (h : getI l id = some c) : findM [id] (esI l) = some (.agg (cb c)) := by
 induction l with
 | nil => cases h
 |cons x l ih =>
  show (if [x.1] = [id] then some (PV.agg (cb x.2)) else findM [id] (esI l)) = _
  by_cases e : x.1 = id
  ·have hc : x.2 = c := by simpa [getI,e] using h
   rw [if_pos (by rw [e]),hc]
  ·rw [if_neg (by simpa using e)]
   refine ih ?_
   have : (x.1 == id) = false := by simpa using e
   simpa [getI,List.find?_cons,this] using h
def Uniq (l : Items) : Prop := (l.map (·.1)).Nodup
theorem q84 {l : Items} {id : Int} : getI l id = none ↔ idIn l id = false := by
 unfold getI idIn
 rw [Option.map_eq_none_iff,List.find?_eq_none,List.any_eq_false]
theorem z84 (l : Items) (id : Int) (c : Cube) : idsAt (l ++ [(id,c)]) = updI (idsAt l) (pathC c) (idsAt l (pathC c) ++ [id]) := by
 funext p
 unfold idsAt updI
 rw [List.filter_append,List.map_append]
 by_cases e : p = pathC c
 ·subst e;simp
 ·rw [if_neg e]
  have : (pathC c == p) = false := by simpa using fun h => e h.symm
  simp [this]
def Freed (M : Nat → Option Ent) (v : Value) (M2 : Nat → Option Ent) : Prop := (v = .slice none 0 0 ∧ M2 = M) ∨ ∃ b n c,v = .slice (some ⟨b,0,none⟩) n c ∧ M2 = setM M b none
section
variable {I : List Nat → List Int} {M M2 M' : Nat → Option Ent} {A : List Nat → Option Nat} {V : List Nat → Value}
theorem TrM.intAt (T : TrM I M A V) {q : List Nat} {b n c : Nat} (hq : hasP A q = true) (hv : V q = .slice (some ⟨b,0,none⟩) n c) : ∃ f,M b = some ⟨3,1,c,n,f⟩ := by
 rcases T.ids q hq with ⟨_,h⟩ | ⟨b',c',f,h1,h2,h3,h4⟩
 ·rw [hv] at h;cases h
 ·rw [hv] at h1;cases h1;exact ⟨f,h3⟩
theorem TrM.nodeInt (T : TrM I M A V) {p : List Nat} {b : Nat} (h : A p = some b) {c n : Nat} {f : Nat → List Dat} (hb : M b = some ⟨3,1,c,n,f⟩) : False := by
 obtain ⟨f',n1,_⟩ := T.node p b h
 rw [n1] at hb
 simp only [Option.some.injEq,Ent.mk.injEq] at hb
 exact q83 hb.1
theorem TrM.row (T : TrM I M A V) {p : List Nat} {l : List Int} {b2 n c2 : Nat} (hp : hasP A p = true) (hF : Freed M (V p) M2) (hb2 : M2 b2 = none) (hv : IdsV M' (.slice (some ⟨b2,0,none⟩) n c2) l)
  (h2 : ∀ b,A p = some b → NodeAt M' A (updV V p (.slice (some ⟨b2,0,none⟩) n c2)) p b) (h3 : ∀ c,c ≠ b2 → A p ≠ some c → M' c = M2 c) :
  TrM (updI I p l) M' A (updV V p (.slice (some ⟨b2,0,none⟩) n c2)) := by
 have hM2 : ∀ c,(∀ b m k,V p = .slice (some ⟨b,0,none⟩) m k → c ≠ b) → M2 c = M c := by
  intro c hc
  rcases hF with ⟨_,rfl⟩ | ⟨b,m,k,e,rfl⟩
  ·rfl
  ·exact q14 _ _ (hc b m k e)
 have nodeP : ∀ q c,A q = some c → ∀ b m k,V p = .slice (some ⟨b,0,none⟩) m k → c ≠ b := by
  intro q c hq b m k e hcb
  obtain ⟨f,hf⟩ := T.intAt hp e
  subst hcb
  exact T.nodeInt hq hf
 have rowP : ∀ q c m' k',q ≠ p → hasP A q = true → V q = .slice (some ⟨c,0,none⟩) m' k' → ∀ b m k,V p = .slice (some ⟨b,0,none⟩) m k → c ≠ b := by
  intro q c m' k' hne hq e b m k e' hcb
  subst hcb
  exact hne (T.injV _ _ _ _ _ _ _ hq hp e e')
 refine T.set hp hv h2 (fun b n' c e => ?_) fun c hc => ?_
 ·have e0 : b = b2 := by cases e;rfl
  subst e0
  refine ⟨fun q hq => ?_,fun q n' c' hne hq e => ?_⟩
  ·obtain ⟨f,n1,_⟩ := T.node q b hq
   rw [hM2 b (nodeP q b hq),n1] at hb2;cases hb2
  ·obtain ⟨f,hf⟩ := T.intAt hq e
   rw [hM2 b (rowP q b _ _ hne hq e),hf] at hb2;cases hb2
 ·rcases hc with ⟨q,hne,hq⟩ | ⟨q,m,k,hne,hq,e⟩
  ·have e1 := hM2 c (nodeP q c hq)
   obtain ⟨f,n1,_⟩ := T.node q c hq
   rw [h3 c (fun e => by subst e;rw [e1,n1] at hb2;cases hb2) (fun e => hne (T.inj _ _ _ hq e)),e1]
  ·have e1 := hM2 c (rowP q c m k hne hq e)
   obtain ⟨f,hf⟩ := T.intAt hq e
   rw [h3 c (fun e => by subst e;rw [e1,hf] at hb2;cases hb2) (fun e => T.nodeInt e hf),e1]
end
end Go.Proofs.Ytbamjcnhmmgnlaa
namespace Go.Proofs.Ytbamjcnhmmgnlaa
open Go Go.Proofs.Ytbamjcnhmmgnlaa.AL Go.RowKit
def noA : List Nat → Option Nat := fun _ => none
def noV : List Nat → Value := fun _ => .slice none 0 0
theorem TrM.empty : TrM (idsAt []) noM noA noV := by
 refine ⟨rfl,fun p b h => (by cases h),fun p q b h => (by cases h),fun p k b h => (by cases h),fun p b h => (by cases h),fun p _ => .inl ⟨rfl,rfl⟩,fun p q b n c n' c' _ _ h => (by cases h),fun p _ => rfl⟩
set_option maxRecDepth 100000 in
theorem x84 : MCalls Try.prog 11 [] [] (fun rs L => rs = [.loc 3 0] ∧ L = [(3,.cells 96 [.p (.d (.v (.pointer none))),.p (.d (.v (.pointer none))),.p (.d (.v (.pointer none))),.p (.d (.v (.slice none 0 0))),.mp 1]),(1,.map [.i64] [])]) := by
 refine q18 Try.func11 rfl (by decide +kernel) (by rw [Try.ntmps11];simp) (fun l X h => by simp only [AL.look] at h;(repeat' split at h);all_goals first | omega | cases h) ?_;rw [Try.ntmps11];simp only [frA]
 (repeat (first | apply j0 | refine q8 rfl ?_ | refine z8 rfl ?_ | apply z7 | (refine j4 fun K hK => ?_) | (refine x5 fun K hK => ?_) | ((first | apply j6 | apply x7 | ((first | refine z6 (hK _ ?_) | refine x6 (hK _ _ j5 ?_));clear hK K));(first | show AWP _ _ _ _ _ | ((try simp only [j7]);first | show loopQ _ _ _ _ _ _ | show cutQ _ _ _ _ | show AWP _ _ _ _ _))) | ((first | refine x8 [1,3] rfl ?_ | refine j8 [1,3] rfl ?_);simp (disch:=omega) only [go_sem,seval,hd,cb];(repeat (first | refine ⟨by omega,?_⟩ | refine ⟨True.intro,?_⟩)))))
 refine x10 ?_
 refine (z18 ⟨rfl,rfl⟩ ?_ ?_).1
 ·exact ⟨rfl,trivial⟩
 ·simp [AL.look]
def addE (l : Items) (id : Int) (c : Cube) : Int := if id < 0 then 1 else if c.sound then (if idIn l id then 8 else 0) else 2
set_option maxRecDepth 100000 in
theorem j84 {l : Items} {M : Nat → Option Ent} {A : List Nat → Option Nat} {V : List Nat → Value} (id : Int) (c : Cube) (h : addE l id c ≠ 0) :
  MCalls Try.prog 13 [.loc 1000 0,.p (.d (.v (.int .i64 id))),.p (.agg (cb c))] (trL A V M (esI l)) (fun rs L => rs = [.p (.d (.v (.int .i64 (addE l id c))))] ∧ L = trL A V M (esI l)) := by
 have hs := x41 c
 unfold addE at *
 unfold trL trC
 by_cases h0 : id < 0
 ·have q0 : decide (id < 0) = true := decide_eq_true h0
  rw [if_pos h0]
  refine q18 Try.func13 rfl (by decide +kernel) (by rw [Try.ntmps13];simp) (fun l X h => by simp only [AL.look] at h;(repeat' split at h);all_goals first | omega | cases h) ?_;rw [Try.ntmps13];simp only [frA]
  (repeat (first | apply j0 | refine q8 rfl ?_ | refine z8 rfl ?_ | apply z7 | (refine j4 fun K hK => ?_) | (refine x5 fun K hK => ?_) | ((first | apply j6 | apply x7 | ((first | refine z6 (hK _ ?_) | refine x6 (hK _ _ j5 ?_));clear hK K));(first | show AWP _ _ _ _ _ | ((try simp only [j7]);first | show loopQ _ _ _ _ _ _ | show cutQ _ _ _ _ | show AWP _ _ _ _ _))) | ((first | refine q10 rfl rfl rfl ?_ | refine z10 rfl rfl rfl ?_);simp (disch:=omega) only [go_sem,seval,hd,cb,q0];(first | refine ⟨_,hs,?_⟩)) | ((first | refine x8 [] rfl ?_ | refine j8 [] rfl ?_);simp (disch:=omega) only [go_sem,seval,hd,cb,q0];(repeat (first | refine ⟨by omega,?_⟩ | refine ⟨True.intro,?_⟩)))))
  refine x10 ?_
  refine (z18 ⟨rfl,rfl⟩ ?_ ?_).1
  ·exact ⟨rfl,trivial⟩
  ·simp [AL.look]
 ·have q0 : decide (id < 0) = false := decide_eq_false h0
  rw [if_neg h0] at h ⊢
  generalize c.sound = s at *
  cases s with
  |false =>
   simp only [Bool.false_eq_true,if_false]
   refine q18 Try.func13 rfl (by decide +kernel) (by rw [Try.ntmps13];simp) (fun l X h => by simp only [AL.look] at h;(repeat' split at h);all_goals first | omega | cases h) ?_;rw [Try.ntmps13];simp only [frA]
   (repeat (first | apply j0 | refine q8 rfl ?_ | refine z8 rfl ?_ | apply z7 | (refine j4 fun K hK => ?_) | (refine x5 fun K hK => ?_) | ((first | apply j6 | apply x7 | ((first | refine z6 (hK _ ?_) | refine x6 (hK _ _ j5 ?_));clear hK K));(first | show AWP _ _ _ _ _ | ((try simp only [j7]);first | show loopQ _ _ _ _ _ _ | show cutQ _ _ _ _ | show AWP _ _ _ _ _))) | ((first | refine q10 rfl rfl rfl ?_ | refine z10 rfl rfl rfl ?_);simp (disch:=omega) only [go_sem,seval,hd,cb,q0];(first | refine ⟨_,hs,?_⟩)) | ((first | refine x8 [] rfl ?_ | refine j8 [] rfl ?_);simp (disch:=omega) only [go_sem,seval,hd,cb,q0];(repeat (first | refine ⟨by omega,?_⟩ | refine ⟨True.intro,?_⟩)))))
   refine x10 ?_
   refine (z18 ⟨rfl,rfl⟩ ?_ ?_).1
   ·exact ⟨rfl,trivial⟩
   ·simp [AL.look]
  |true =>
   cases hi : getI l id with
   |none =>
    rw [q84.1 hi] at h
    simp at h
   |some c' =>
    have hn : idIn l id = true := by
     cases e : idIn l id with
     | true => rfl
     | false => rw [q84.2 e] at hi;cases hi
    rw [hn]
    simp only [if_true]
    have q1 := q132 hi
    refine q18 Try.func13 rfl (by decide +kernel) (by rw [Try.ntmps13];simp) (fun l X h => by simp only [AL.look] at h;(repeat' split at h);all_goals first | omega | cases h) ?_;rw [Try.ntmps13];simp only [frA]
    (repeat (first | apply j0 | refine q8 rfl ?_ | refine z8 rfl ?_ | apply z7 | (refine j4 fun K hK => ?_) | (refine x5 fun K hK => ?_) | ((first | apply j6 | apply x7 | ((first | refine z6 (hK _ ?_) | refine x6 (hK _ _ j5 ?_));clear hK K));(first | show AWP _ _ _ _ _ | ((try simp only [j7]);first | show loopQ _ _ _ _ _ _ | show cutQ _ _ _ _ | show AWP _ _ _ _ _))) | ((first | refine q10 rfl rfl rfl ?_ | refine z10 rfl rfl rfl ?_);simp (disch:=omega) only [go_sem,seval,hd,cb,q0,q1];(first | refine ⟨_,hs,?_⟩)) | ((first | refine x8 [] rfl ?_ | refine j8 [] rfl ?_);simp (disch:=omega) only [go_sem,seval,hd,cb,q0,q1];(repeat (first | refine ⟨by omega,?_⟩ | refine ⟨True.intro,?_⟩)))))
    refine x10 ?_
    refine (z18 ⟨rfl,rfl⟩ ?_ ?_).1
    ·exact ⟨rfl,trivial⟩
    ·simp [AL.look]
theorem q85 (l : Items) (p : List Nat) : (idsAt l p).length ≤ l.length := by
 unfold idsAt;rw [List.length_map];exact List.length_filter_le _ _
theorem q44 {l : Items} {id : Int} {c : Cube} (h : addE l id c = 0) : 0 ≤ id ∧ c.sound = true ∧ idIn l id = false := by
 unfold addE at h
 by_cases h0 : id < 0
 ·rw [if_pos h0] at h;cases h
 ·rw [if_neg h0] at h
  cases hs : c.sound with
  | false => rw [hs] at h;simp at h
  |true =>
   rw [hs] at h
   cases hi : idIn l id with
   | true => rw [hi] at h;simp at h
   | false => exact ⟨by omega,rfl,rfl⟩
set_option maxRecDepth 100000 in
theorem z132 {I : List Nat → List Int} {M : Nat → Option Ent} {A : List Nat → Option Nat} {V : List Nat → Value} (T : TrM I M A V) (es : List (List Int × PV)) (k : Cube) (hk : pathC k = []) :
  MCalls Try.prog 36 [.loc 1000 0,.p (.agg (cb k))] (trL A V M es)
   (fun rs L => ∃ r : {r : (List Nat → Option Nat) × (List Nat → Value) × (Nat → Option Ent) // TrM I r.2.2 r.1 r.2.1},rs = [.loc 1000 0] ∧ L = trL r.val.1 r.val.2.1 r.val.2.2 es) :=
 (x83 T es k).mono fun rs L ⟨r,h1,h2⟩ => ⟨⟨r.val,r.property.1⟩,h1.trans ((show ∀ q,q = [] → [atAV r.val.1 q] = [.loc 1000 0] from fun q e => by subst e;rfl) _ hk),h2⟩
set_option maxRecDepth 100000 in
theorem x132 {I : List Nat → List Int} {M : Nat → Option Ent} {A : List Nat → Option Nat} {V : List Nat → Value} (T : TrM I M A V) (es : List (List Int × PV)) (k : Cube) (hk : pathC k ≠ []) :
  MCalls Try.prog 36 [.loc 1000 0,.p (.agg (cb k))] (trL A V M es)
   (fun rs L => ∃ r : {r : (List Nat → Option Nat) × (List Nat → Value) × (Nat → Option Ent) × Nat // TrM I r.2.2.1 r.1 r.2.1 ∧ r.1 (pathC k) = some r.2.2.2},rs = [.p (.d (.v (.pointer (some ⟨r.val.2.2.2,0,none⟩))))] ∧ L = trL r.val.1 r.val.2.1 r.val.2.2.1 es) :=
 (x83 T es k).mono fun rs L ⟨r,h1,h2⟩ => by
  obtain ⟨b,hb⟩ := x43 r.property.2 hk
  exact ⟨⟨(r.val.1,r.val.2.1,r.val.2.2,b),r.property.1,hb⟩,h1.trans (by rw [z19 hb hk]),h2⟩
theorem z44 {M' : Nat → Option Ent} {b2 c3 n : Nat} {zs : List Int} {id : Int} {f : Nat → List Dat} (hn : zs.length = n) (hle : n + 1 ≤ c3) (hb : M' b2 = some ⟨3,1,c3,n + 1,catF n f fun i => [[Dat.v (.int .i64 id)]].getD i []⟩) (hf : ∀ k,k < n → f k = rowZ zs k) :
  IdsV M' (.slice (some ⟨b2,0,none⟩) (n + 1) c3) (zs ++ [id]) := by
 subst hn
 have e : (zs ++ [id]).length = zs.length + 1 := by simp
 refine .inr ⟨b2,c3,_,by rw [e],by omega,by rw [e];exact hb,fun k hk => ?_⟩
 rw [e] at hk
 have h2 := z123 zs id k hk
 rw [← h2]
 unfold catF
 split
 ·exact hf k ‹_›
 ·rfl
set_option maxRecDepth 100000 in
theorem z85 {l : Items} {M : Nat → Option Ent} {A : List Nat → Option Nat} {V : List Nat → Value} (T : TrM (idsAt l) M A V) (id : Int) (c : Cube) (h : addE l id c = 0) (hl : l.length < 1099511627776) (hp0 : pathC c = []) :
  MCalls Try.prog 13 [.loc 1000 0,.p (.d (.v (.int .i64 id))),.p (.agg (cb c))] (trL A V M (esI l))
   (fun rs L => ∃ r : {r : (List Nat → Option Nat) × (List Nat → Value) × (Nat → Option Ent) // TrM (idsAt (l ++ [(id,c)])) r.2.2 r.1 r.2.1},rs = [.p (.d (.v (.int .i64 0)))] ∧ L = trL r.val.1 r.val.2.1 r.val.2.2 (esI (l ++ [(id,c)]))) := by
 obtain ⟨h0,hcs,hi⟩ := q44 h
 have hs := x41 c
 rw [hcs] at hs
 have q0 : decide (id < 0) = false := decide_eq_false (by omega)
 have q1 := (z58 hi).1
 have q2 := j83 (c := c) hi
 have hp := z132 T (esI (l ++ [(id,c)])) c hp0
 have hI := z84 l id c
 unfold cb at q2
 unfold trL trC at *
 refine q18 Try.func13 rfl (by decide +kernel) (by rw [Try.ntmps13];simp) (fun l X h => by simp only [AL.look] at h;(repeat' split at h);all_goals first | omega | cases h) ?_;rw [Try.ntmps13];simp only [frA]
 (repeat ((fail_if_success (show AWP _ _ (.region 9 _ _) _ _));first | apply j0 | refine q8 rfl ?_ | refine z8 rfl ?_ | apply z7 | (refine j4 fun K hK => ?_) | (refine x5 fun K hK => ?_) | ((first | apply j6 | apply x7 | ((first | refine z6 (hK _ ?_) | refine x6 (hK _ _ j5 ?_));clear hK K));(first | show AWP _ _ _ _ _ | ((try simp only [j7]);first | show loopQ _ _ _ _ _ _ | show cutQ _ _ _ _ | show AWP _ _ _ _ _))) | ((first | refine q10 rfl rfl rfl ?_ | refine z10 rfl rfl rfl ?_);simp (disch:=omega) only [go_sem,seval,hd,cb,q0,q1,q2];(first | refine ⟨_,hs,?_⟩)) | ((first | refine x8 [] rfl ?_ | refine j8 [] rfl ?_);simp (disch:=omega) only [go_sem,seval,hd,cb,q0,q1,q2];(repeat (first | refine ⟨by omega,?_⟩ | refine ⟨True.intro,?_⟩)))))
 refine j4 fun K hK => ?_
 iterate 2 ((first | refine z11 [] rfl rfl ?_ | refine x11 [] rfl rfl ?_ | refine j10 rfl rfl ?_ | refine q11 rfl rfl ?_);simp (disch:=omega) only [go_sem,seval,hd,cb,q0,q1,q2];(repeat (first | refine ⟨by omega,?_⟩ | refine ⟨True.intro,?_⟩)))
 (refine x33 (z29 [(1000,1000),(1001,1001),(1999,1999)] rfl rfl rfl rfl rfl rfl (hp) (fun _ => rfl) (z15 (by repeat (first | exact trivial | refine ⟨rfl,?_⟩)) (by kernel_rfl)) (fun _ => (z15 (by repeat (first | exact trivial | refine ⟨rfl,?_⟩)) (by kernel_rfl)))) ?_);rintro ⟨⟨A1,V1,M1⟩,T1⟩;simp (disch:=omega) only [go_sem,seval,hd,cb,q0,q1,q2]
 simp only [] at T1
 have hp1 := x130 A1
 (repeat ((fail_if_success (show AWP _ _ (.region 10 _ _) _ _));first | apply j0 | refine q8 rfl ?_ | refine z8 rfl ?_ | apply z7 | (refine j4 fun K hK => ?_) | (refine x5 fun K hK => ?_) | ((first | apply j6 | apply x7 | ((first | refine z6 (hK _ ?_) | refine x6 (hK _ _ j5 ?_));clear hK K));(first | show AWP _ _ _ _ _ | ((try simp only [j7]);first | show loopQ _ _ _ _ _ _ | show cutQ _ _ _ _ | show AWP _ _ _ _ _))) | ((first | refine x8 [] rfl ?_ | refine j8 [] rfl ?_);simp (disch:=omega) only [go_sem,seval,hd,cb,q0,q1,q2];(repeat (first | refine ⟨by omega,?_⟩ | refine ⟨True.intro,?_⟩)))))
 generalize esI (l ++ [(id,c)]) = es at *
 rw [hI]
 have hlen := q85 l (pathC c)
 generalize pathC c = p at *
 subst hp0
 rcases T1.ids [] hp1 with ⟨hI0,hV⟩ | ⟨b,c2,f,hV,hle,hb,hf⟩
 ·rw [hI0]
  refine j4 fun K hK => ?_
  iterate 5 ((first | refine z11 [] rfl rfl ?_ | refine x11 [] rfl rfl ?_ | refine j10 rfl rfl ?_ | refine q11 rfl rfl ?_);simp (disch:=omega) only [go_sem,seval,hd,cb,hV];(repeat (first | refine ⟨by omega,?_⟩ | refine ⟨True.intro,?_⟩)))
  refine j39 (Weak.own _ 44 600 1 3 (rowZ []) rfl (by kernel_rfl) rfl) ?_
  have hF : Freed M1 (V1 []) M1 := .inl ⟨hV,rfl⟩
  iterate 3 ((first | refine z11 [] rfl rfl ?_ | refine x11 [] rfl rfl ?_ | refine j10 rfl rfl ?_ | refine q11 rfl rfl ?_);simp (disch:=omega) only [go_sem,seval,hd,cb,hV];(repeat (first | refine ⟨by omega,?_⟩ | refine ⟨True.intro,?_⟩)))
  refine j21 (WeakX.packRow _ 47 600 _ _ _ _ _ _ rfl rfl rfl (by decide)) ?_
  rintro _ ⟨v,M3,hpk,rfl⟩
  rcases hpk with ⟨h0,_⟩ | ⟨b2,c3,hle3,hb2,rfl,rfl⟩
  ·simp at h0
  (repeat (first | apply j0 | refine q8 rfl ?_ | refine z8 rfl ?_ | apply z7 | (refine j4 fun K hK => ?_) | (refine x5 fun K hK => ?_) | ((first | apply j6 | apply x7 | ((first | refine z6 (hK _ ?_) | refine x6 (hK _ _ j5 ?_));clear hK K));(first | show AWP _ _ _ _ _ | ((try simp only [j7]);first | show loopQ _ _ _ _ _ _ | show cutQ _ _ _ _ | show AWP _ _ _ _ _))) | ((first | refine x8 [] rfl ?_ | refine j8 [] rfl ?_);simp (disch:=omega) only [go_sem,seval,hd,cb,hV,j15];(repeat (first | refine ⟨by omega,?_⟩ | refine ⟨True.intro,?_⟩)))))
  have T2 := T1.row (M' := (setM M1 b2 (some ⟨3,1,c3,(0 + 1),catF 0 (rowZ []) fun i => [[Dat.v (.int .i64 id)]].getD i []⟩))) (n := (0 + 1)) (c2 := c3) (l := [] ++ [id]) hp1 hF hb2 (z44 (zs := []) (f := (rowZ [])) rfl (by omega) (q15 _ _ _) (fun k hk => rfl)) (fun b e => by rw [T1.root] at e;cases e) (fun c hc _ => q14 _ _ hc)
  have c0 := j20 V1 [] (.slice (some ⟨b2,0,none⟩) (0 + 1) c3)
  refine x10 ?_
  refine (z18 ⟨⟨(A1,updV V1 [] (.slice (some ⟨b2,0,none⟩) (0 + 1) c3),(setM M1 b2 (some ⟨3,1,c3,(0 + 1),catF 0 (rowZ []) fun i => [[Dat.v (.int .i64 id)]].getD i []⟩))),T2⟩,rfl,rfl⟩ ?_ ?_).1
  ·exact ⟨rfl,trivial⟩
  ·simp only [c0]
   simp [AL.look,j15]
 ·generalize hn : (idsAt l []).length = n at *
  generalize hzs : idsAt l [] = zs at *
  refine j4 fun K hK => ?_
  iterate 5 ((first | refine z11 [] rfl rfl ?_ | refine x11 [] rfl rfl ?_ | refine j10 rfl rfl ?_ | refine q11 rfl rfl ?_);simp (disch:=omega) only [go_sem,seval,hd,cb,hV];(repeat (first | refine ⟨by omega,?_⟩ | refine ⟨True.intro,?_⟩)))
  refine j39 (Weak.focus _ 44 600 b c2 1 n 3 f M1 rfl rfl hb (by kernel_rfl) rfl) ?_
  have hF : Freed M1 (V1 []) (setM M1 b none) := .inr ⟨b,n,c2,hV,rfl⟩
  iterate 3 ((first | refine z11 [] rfl rfl ?_ | refine x11 [] rfl rfl ?_ | refine j10 rfl rfl ?_ | refine q11 rfl rfl ?_);simp (disch:=omega) only [go_sem,seval,hd,cb,hV];(repeat (first | refine ⟨by omega,?_⟩ | refine ⟨True.intro,?_⟩)))
  refine j21 (WeakX.packRow _ 47 600 _ _ _ _ _ _ rfl rfl rfl (by decide)) ?_
  rintro _ ⟨v,M3,hpk,rfl⟩
  rcases hpk with ⟨h0,_⟩ | ⟨b2,c3,hle3,hb2,rfl,rfl⟩
  ·simp at h0
  (repeat (first | apply j0 | refine q8 rfl ?_ | refine z8 rfl ?_ | apply z7 | (refine j4 fun K hK => ?_) | (refine x5 fun K hK => ?_) | ((first | apply j6 | apply x7 | ((first | refine z6 (hK _ ?_) | refine x6 (hK _ _ j5 ?_));clear hK K));(first | show AWP _ _ _ _ _ | ((try simp only [j7]);first | show loopQ _ _ _ _ _ _ | show cutQ _ _ _ _ | show AWP _ _ _ _ _))) | ((first | refine x8 [] rfl ?_ | refine j8 [] rfl ?_);simp (disch:=omega) only [go_sem,seval,hd,cb,hV,j15];(repeat (first | refine ⟨by omega,?_⟩ | refine ⟨True.intro,?_⟩)))))
  have hzn : zs.length = n := hn
  have T2 := T1.row (M' := (setM (setM M1 b none) b2 (some ⟨3,1,c3,(n + 1),catF n f fun i => [[Dat.v (.int .i64 id)]].getD i []⟩))) (n := (n + 1)) (c2 := c3) (l := zs ++ [id]) hp1 hF hb2 (z44 (zs := zs) (f := f) hzn (by omega) (q15 _ _ _) hf) (fun b e => by rw [T1.root] at e;cases e) (fun c hc _ => q14 _ _ hc)
  have c0 := j20 V1 [] (.slice (some ⟨b2,0,none⟩) (n + 1) c3)
  refine x10 ?_
  refine (z18 ⟨⟨(A1,updV V1 [] (.slice (some ⟨b2,0,none⟩) (n + 1) c3),(setM (setM M1 b none) b2 (some ⟨3,1,c3,(n + 1),catF n f fun i => [[Dat.v (.int .i64 id)]].getD i []⟩))),T2⟩,rfl,rfl⟩ ?_ ?_).1
  ·exact ⟨rfl,trivial⟩
  ·simp only [c0]
   simp [AL.look,j15]
set_option maxRecDepth 100000 in
theorem x85 {l : Items} {M : Nat → Option Ent} {A : List Nat → Option Nat} {V : List Nat → Value} (T : TrM (idsAt l) M A V) (id : Int) (c : Cube) (h : addE l id c = 0) (hl : l.length < 1099511627776) (hp0 : pathC c ≠ []) :
  MCalls Try.prog 13 [.loc 1000 0,.p (.d (.v (.int .i64 id))),.p (.agg (cb c))] (trL A V M (esI l))
   (fun rs L => ∃ r : {r : (List Nat → Option Nat) × (List Nat → Value) × (Nat → Option Ent) // TrM (idsAt (l ++ [(id,c)])) r.2.2 r.1 r.2.1},rs = [.p (.d (.v (.int .i64 0)))] ∧ L = trL r.val.1 r.val.2.1 r.val.2.2 (esI (l ++ [(id,c)]))) := by
 obtain ⟨h0,hcs,hi⟩ := q44 h
 have hs := x41 c
 rw [hcs] at hs
 have q0 : decide (id < 0) = false := decide_eq_false (by omega)
 have q1 := (z58 hi).1
 have q2 := j83 (c := c) hi
 have hp := x132 T (esI (l ++ [(id,c)])) c hp0
 have hI := z84 l id c
 unfold cb at q2
 unfold trL trC at *
 refine q18 Try.func13 rfl (by decide +kernel) (by rw [Try.ntmps13];simp) (fun l X h => by simp only [AL.look] at h;(repeat' split at h);all_goals first | omega | cases h) ?_;rw [Try.ntmps13];simp only [frA]
 (repeat ((fail_if_success (show AWP _ _ (.region 9 _ _) _ _));first | apply j0 | refine q8 rfl ?_ | refine z8 rfl ?_ | apply z7 | (refine j4 fun K hK => ?_) | (refine x5 fun K hK => ?_) | ((first | apply j6 | apply x7 | ((first | refine z6 (hK _ ?_) | refine x6 (hK _ _ j5 ?_));clear hK K));(first | show AWP _ _ _ _ _ | ((try simp only [j7]);first | show loopQ _ _ _ _ _ _ | show cutQ _ _ _ _ | show AWP _ _ _ _ _))) | ((first | refine q10 rfl rfl rfl ?_ | refine z10 rfl rfl rfl ?_);simp (disch:=omega) only [go_sem,seval,hd,cb,q0,q1,q2];(first | refine ⟨_,hs,?_⟩)) | ((first | refine x8 [] rfl ?_ | refine j8 [] rfl ?_);simp (disch:=omega) only [go_sem,seval,hd,cb,q0,q1,q2];(repeat (first | refine ⟨by omega,?_⟩ | refine ⟨True.intro,?_⟩)))))
 refine j4 fun K hK => ?_
 iterate 2 ((first | refine z11 [] rfl rfl ?_ | refine x11 [] rfl rfl ?_ | refine j10 rfl rfl ?_ | refine q11 rfl rfl ?_);simp (disch:=omega) only [go_sem,seval,hd,cb,q0,q1,q2];(repeat (first | refine ⟨by omega,?_⟩ | refine ⟨True.intro,?_⟩)))
 (refine x33 (z29 [(1000,1000),(1001,1001),(1999,1999)] rfl rfl rfl rfl rfl rfl (hp) (fun _ => rfl) (z15 (by repeat (first | exact trivial | refine ⟨rfl,?_⟩)) (by kernel_rfl)) (fun _ => (z15 (by repeat (first | exact trivial | refine ⟨rfl,?_⟩)) (by kernel_rfl)))) ?_);rintro ⟨⟨A1,V1,M1,b0⟩,T1,hb0⟩;simp (disch:=omega) only [go_sem,seval,hd,cb,q0,q1,q2]
 simp only [] at T1 hb0
 have hp1 := x18 hb0
 (repeat ((fail_if_success (show AWP _ _ (.region 10 _ _) _ _));first | apply j0 | refine q8 rfl ?_ | refine z8 rfl ?_ | apply z7 | (refine j4 fun K hK => ?_) | (refine x5 fun K hK => ?_) | ((first | apply j6 | apply x7 | ((first | refine z6 (hK _ ?_) | refine x6 (hK _ _ j5 ?_));clear hK K));(first | show AWP _ _ _ _ _ | ((try simp only [j7]);first | show loopQ _ _ _ _ _ _ | show cutQ _ _ _ _ | show AWP _ _ _ _ _))) | ((first | refine x8 [] rfl ?_ | refine j8 [] rfl ?_);simp (disch:=omega) only [go_sem,seval,hd,cb,q0,q1,q2];(repeat (first | refine ⟨by omega,?_⟩ | refine ⟨True.intro,?_⟩)))))
 generalize esI (l ++ [(id,c)]) = es at *
 rw [hI]
 have hlen := q85 l (pathC c)
 generalize pathC c = p at *
 obtain ⟨f0,hMb,hf0⟩ := T1.node p b0 hb0
 unfold nodeC at hf0
 rcases T1.ids p hp1 with ⟨hI0,hV⟩ | ⟨b,c2,f,hV,hle,hb,hf⟩
 ·rw [hI0]
  rw [hV] at hf0
  refine j4 fun K hK => ?_
  iterate 5 ((first | refine z11 [] rfl rfl ?_ | refine x11 [] rfl rfl ?_ | refine j10 rfl rfl ?_ | refine q11 rfl rfl ?_);simp (disch:=omega) only [go_sem,seval,hd,cb,hV,hMb,hf0];(repeat (first | refine ⟨by omega,?_⟩ | refine ⟨True.intro,?_⟩)))
  refine j39 (Weak.own _ 44 600 1 3 (rowZ []) rfl (by kernel_rfl) rfl) ?_
  have hF : Freed M1 (V1 p) M1 := .inl ⟨hV,rfl⟩
  iterate 3 ((first | refine z11 [] rfl rfl ?_ | refine x11 [] rfl rfl ?_ | refine j10 rfl rfl ?_ | refine q11 rfl rfl ?_);simp (disch:=omega) only [go_sem,seval,hd,cb,hV,hMb,hf0];(repeat (first | refine ⟨by omega,?_⟩ | refine ⟨True.intro,?_⟩)))
  refine j21 (WeakX.packRow _ 47 600 _ _ _ _ _ _ rfl rfl rfl (by decide)) ?_
  rintro _ ⟨v,M3,hpk,rfl⟩
  rcases hpk with ⟨h0,_⟩ | ⟨b2,c3,hle3,hb2,rfl,rfl⟩
  ·simp at h0
  have hne2 : b0 ≠ b2 := fun e => by rw [← e,hMb] at hb2;cases hb2
  have hMb3 := fun E => (q14 M1 E hne2).trans hMb
  (repeat (first | apply j0 | refine q8 rfl ?_ | refine z8 rfl ?_ | apply z7 | (refine j4 fun K hK => ?_) | (refine x5 fun K hK => ?_) | ((first | apply j6 | apply x7 | ((first | refine z6 (hK _ ?_) | refine x6 (hK _ _ j5 ?_));clear hK K));(first | show AWP _ _ _ _ _ | ((try simp only [j7]);first | show loopQ _ _ _ _ _ _ | show cutQ _ _ _ _ | show AWP _ _ _ _ _))) | ((first | refine x8 [] rfl ?_ | refine j8 [] rfl ?_);simp (disch:=omega) only [go_sem,seval,hd,cb,hV,j15,hMb3,hf0];(repeat (first | refine ⟨by omega,?_⟩ | refine ⟨True.intro,?_⟩)))))
  have hf2 : putEl f0 0 3 [.v (.slice (some ⟨b2,0,none⟩) (0 + 1) c3)] 0 = nodeC A1 (updV V1 p (.slice (some ⟨b2,0,none⟩) (0 + 1) c3)) p := by
   unfold putEl nodeC
   rw [if_pos rfl,hf0,j20];rfl
  have T2 := T1.row (M' := (setM (setM M1 b2 (some ⟨3,1,c3,(0 + 1),catF 0 (rowZ []) fun i => [[Dat.v (.int .i64 id)]].getD i []⟩)) b0 (some ⟨94,4,1,1,putEl f0 0 3 [.v (.slice (some ⟨b2,0,none⟩) (0 + 1) c3)]⟩))) (n := (0 + 1)) (c2 := c3) (l := [] ++ [id]) hp1 hF hb2 (z44 (zs := []) (f := (rowZ [])) rfl (by omega) ((q14 _ _ (Ne.symm hne2)).trans (q15 _ _ _)) (fun k hk => rfl)) (fun b e => by rw [hb0] at e;cases e;exact ⟨_,q15 _ _ _,hf2⟩) (fun c hc hc2 => (q14 _ _ (fun e => hc2 (by rw [e];exact hb0))).trans (q14 _ _ hc))
  have c0 := q16 V1 (.slice (some ⟨b2,0,none⟩) (0 + 1) c3) (Ne.symm hp0)
  refine x10 ?_
  refine (z18 ⟨⟨(A1,updV V1 p (.slice (some ⟨b2,0,none⟩) (0 + 1) c3),(setM (setM M1 b2 (some ⟨3,1,c3,(0 + 1),catF 0 (rowZ []) fun i => [[Dat.v (.int .i64 id)]].getD i []⟩)) b0 (some ⟨94,4,1,1,putEl f0 0 3 [.v (.slice (some ⟨b2,0,none⟩) (0 + 1) c3)]⟩))),T2⟩,rfl,rfl⟩ ?_ ?_).1
  ·exact ⟨rfl,trivial⟩
  ·simp only [c0]
   simp [AL.look,j15]
 ·generalize hn : (idsAt l p).length = n at *
  generalize hzs : idsAt l p = zs at *
  rw [hV] at hf0
  refine j4 fun K hK => ?_
  iterate 5 ((first | refine z11 [] rfl rfl ?_ | refine x11 [] rfl rfl ?_ | refine j10 rfl rfl ?_ | refine q11 rfl rfl ?_);simp (disch:=omega) only [go_sem,seval,hd,cb,hV,hMb,hf0];(repeat (first | refine ⟨by omega,?_⟩ | refine ⟨True.intro,?_⟩)))
  refine j39 (Weak.focus _ 44 600 b c2 1 n 3 f M1 rfl rfl hb (by kernel_rfl) rfl) ?_
  have hF : Freed M1 (V1 p) (setM M1 b none) := .inr ⟨b,n,c2,hV,rfl⟩
  have hne : b0 ≠ b := fun e => T1.nodeInt hb0 (e ▸ hb)
  have hMb2 := (q14 M1 none hne).trans hMb
  iterate 3 ((first | refine z11 [] rfl rfl ?_ | refine x11 [] rfl rfl ?_ | refine j10 rfl rfl ?_ | refine q11 rfl rfl ?_);simp (disch:=omega) only [go_sem,seval,hd,cb,hV,hMb,hf0];(repeat (first | refine ⟨by omega,?_⟩ | refine ⟨True.intro,?_⟩)))
  refine j21 (WeakX.packRow _ 47 600 _ _ _ _ _ _ rfl rfl rfl (by decide)) ?_
  rintro _ ⟨v,M3,hpk,rfl⟩
  rcases hpk with ⟨h0,_⟩ | ⟨b2,c3,hle3,hb2,rfl,rfl⟩
  ·simp at h0
  have hne2 : b0 ≠ b2 := fun e => by rw [← e,hMb2] at hb2;cases hb2
  have hMb3 := fun E => (q14 (setM M1 b none) E hne2).trans hMb2
  (repeat (first | apply j0 | refine q8 rfl ?_ | refine z8 rfl ?_ | apply z7 | (refine j4 fun K hK => ?_) | (refine x5 fun K hK => ?_) | ((first | apply j6 | apply x7 | ((first | refine z6 (hK _ ?_) | refine x6 (hK _ _ j5 ?_));clear hK K));(first | show AWP _ _ _ _ _ | ((try simp only [j7]);first | show loopQ _ _ _ _ _ _ | show cutQ _ _ _ _ | show AWP _ _ _ _ _))) | ((first | refine x8 [] rfl ?_ | refine j8 [] rfl ?_);simp (disch:=omega) only [go_sem,seval,hd,cb,hV,j15,hMb3,hf0];(repeat (first | refine ⟨by omega,?_⟩ | refine ⟨True.intro,?_⟩)))))
  have hzn : zs.length = n := hn
  have hf2 : putEl f0 0 3 [.v (.slice (some ⟨b2,0,none⟩) (n + 1) c3)] 0 = nodeC A1 (updV V1 p (.slice (some ⟨b2,0,none⟩) (n + 1) c3)) p := by
   unfold putEl nodeC
   rw [if_pos rfl,hf0,j20];rfl
  have T2 := T1.row (M' := (setM (setM (setM M1 b none) b2 (some ⟨3,1,c3,(n + 1),catF n f fun i => [[Dat.v (.int .i64 id)]].getD i []⟩)) b0 (some ⟨94,4,1,1,putEl f0 0 3 [.v (.slice (some ⟨b2,0,none⟩) (n + 1) c3)]⟩))) (n := (n + 1)) (c2 := c3) (l := zs ++ [id]) hp1 hF hb2 (z44 (zs := zs) (f := f) hzn (by omega) ((q14 _ _ (Ne.symm hne2)).trans (q15 _ _ _)) hf) (fun b e => by rw [hb0] at e;cases e;exact ⟨_,q15 _ _ _,hf2⟩) (fun c hc hc2 => (q14 _ _ (fun e => hc2 (by rw [e];exact hb0))).trans (q14 _ _ hc))
  have c0 := q16 V1 (.slice (some ⟨b2,0,none⟩) (n + 1) c3) (Ne.symm hp0)
  refine x10 ?_
  refine (z18 ⟨⟨(A1,updV V1 p (.slice (some ⟨b2,0,none⟩) (n + 1) c3),(setM (setM (setM M1 b none) b2 (some ⟨3,1,c3,(n + 1),catF n f fun i => [[Dat.v (.int .i64 id)]].getD i []⟩)) b0 (some ⟨94,4,1,1,putEl f0 0 3 [.v (.slice (some ⟨b2,0,none⟩) (n + 1) c3)]⟩))),T2⟩,rfl,rfl⟩ ?_ ?_).1
  ·exact ⟨rfl,trivial⟩
  ·simp only [c0]
   simp [AL.look,j15]
theorem mem_ids {l : Items} {id : Int} {c : Cube} (h : (id,c) ∈ l) : id ∈ idsAt l (pathC c) := by
 unfold idsAt
 exact List.mem_map.2 ⟨(id,c),List.mem_filter.2 ⟨h,by simp⟩,rfl⟩
def isV (u : Value) : AV := .is (· = u)
def trX (u0 u1 u2 u3 : Value) (o : Obj) : List (Nat × LV) := [(1000,.cells 96 [isV u0,isV u1,isV u2,isV u3,.mp 1001]),(1001,.obj o)]
set_option maxRecDepth 100000 in
theorem Len_x (u0 u1 u2 u3 : Value) (arr : Array MapEntry) (clock : Nat) : MCalls Try.prog 22 [.loc 1000 0] (trX u0 u1 u2 u3 (.map arr clock)) (fun rs L => rs = [.p (.d (.v (.int .i64 (arr.size : Int))))] ∧ L = trX u0 u1 u2 u3 (.map arr clock)) := by
 unfold trX
 refine q18 Try.func22 rfl (by decide +kernel) (by rw [Try.ntmps22];simp) (fun l X h => by simp only [AL.look] at h;(repeat' split at h);all_goals first | omega | cases h) ?_;rw [Try.ntmps22];simp only [frA]
 (repeat (first | apply j0 | refine q8 rfl ?_ | refine z8 rfl ?_ | apply z7 | (refine j4 fun K hK => ?_) | (refine x5 fun K hK => ?_) | ((first | apply j6 | apply x7 | ((first | refine z6 (hK _ ?_) | refine x6 (hK _ _ j5 ?_));clear hK K));(first | show AWP _ _ _ _ _ | ((try simp only [j7]);first | show loopQ _ _ _ _ _ _ | show cutQ _ _ _ _ | show AWP _ _ _ _ _))) | ((first | refine x8 [] rfl ?_ | refine j8 [] rfl ?_);simp (disch:=omega) only [go_sem,seval,hd,cb,trX,isV];(repeat (first | refine ⟨by omega,?_⟩ | refine ⟨True.intro,?_⟩)))))
 refine x10 ?_
 refine (z18 ⟨rfl,rfl⟩ ?_ ?_).1
 ·exact ⟨rfl,trivial⟩
 ·simp [AL.look,isV]
set_option maxRecDepth 100000 in
theorem LenX_c (A : List Nat → Option Nat) (V : List Nat → Value) (M : Nat → Option Ent) (es : List (List Int × PV)) : RCalls Try.prog 22 [.loc 1000 0] (trL A V M es) (.p (.d (.v (.int .i64 (es.length : Int))))) := by
 intro w h vs hz hr hl
 obtain ⟨l0,l1,l9⟩ := z82 (A := A) (V := V) (M := M) (es := es)
 obtain ⟨arr,c1,c2,c3,c4,c5⟩ := hl.1 1000 _ l0
 obtain ⟨marr,clock,m1,m2,m3,m4⟩ := hl.1 1001 _ l1
 have hsz : marr.size = es.length := m4.size
 have hL2 : LocsOK (fun _ => True) w h (trX (kidV A [0]) (kidV A [1]) (kidV A [2]) (V []) (.map marr clock)) := by
  refine ⟨fun l X hX => ?_,fun l l' X X' b hne e1 e2 hb hb' => ?_⟩
  ·simp only [trX,AL.look] at hX
   split at hX
   ·rename_i e;subst e;cases hX
    refine ⟨arr,trivial,c2,by rw [c3];rfl,c4,fun i v x hv hx => ?_⟩
    have key : ∀ (u : Value),(trC A V)[i]? = some (.p (.d (.v u))) → RelA w h v (isV u) ∧ v.oneCell' = true := by
     intro u hu
     obtain ⟨r1,r2⟩ := c5 i v _ hv hu
     exact ⟨q12 r1,r2⟩
    match i,hx with
    | 0,hx => cases hx;exact key _ rfl
    | 1,hx => cases hx;exact key _ rfl
    | 2,hx => cases hx;exact key _ rfl
    | 3,hx => cases hx;exact key _ rfl
    | 4,hx => cases hx;exact c5 4 v _ hv rfl
    | i + 5,hx => simp at hx
   ·split at hX
    ·rename_i e;subst e;cases hX
     exact ⟨trivial,m2,m3⟩
    ·cases hX
  ·have back : ∀ k Y,AL.look (trX (kidV A [0]) (kidV A [1]) (kidV A [2]) (V []) (.map marr clock)) k = some Y → ∃ Z,AL.look (trL A V M es) k = some Z ∧ (∀ b,inB h k Y b → inB h k Z b) := by
    intro k Y hY
    simp only [trX,AL.look] at hY
    split at hY
    ·rename_i e;subst e;cases hY;exact ⟨_,l0,fun b hb => hb⟩
    ·split at hY
     ·rename_i e;subst e;cases hY;exact ⟨_,l1,fun b hb => hb⟩
     ·cases hY
   obtain ⟨Z,z1,z2⟩ := back l X e1
   obtain ⟨Z',z3,z4⟩ := back l' X' e2
   exact hl.2 l l' Z Z' b hne z1 z3 (z2 b hb) (z4 b hb')
 have k := j124 (Len_x (kidV A [0]) (kidV A [1]) (kidV A [2]) (V []) marr clock) (fun l X hX => by
  simp only [trX,AL.look] at hX
  split at hX
  ·cases hX
   refine ⟨.cells _ _ fun c hc => ?_,fun k hk => ?_⟩
   ·simp only [List.mem_cons,List.not_mem_nil,or_false] at hc
    rcases hc with rfl | rfl | rfl | rfl | rfl <;> first | exact .is _ | exact .mp _
   ·have : k = 1001 := by simpa [LV.mentions,AV.mentions,isV] using hk
    subst this
    exact ⟨_,rfl⟩
  ·split at hX
   ·cases hX
    exact ⟨.obj _,fun k hk => by simp [LV.mentions] at hk⟩
   ·cases hX) rfl hz hr hL2
 rw [hsz] at k
 exact k
section
variable {M : Nat → Option Ent} {A : List Nat → Option Nat} {V : List Nat → Value}
theorem TrM.up {I : List Nat → List Int} (T : TrM I M A V) (p : List Nat) : ∀ (n : Nat) (r : List Nat),r.length = n → hasP A (p ++ r) = true → hasP A p = true
 |0,r,hr,h => by
  have : r = [] := List.eq_nil_of_length_eq_zero hr
  subst this
  rwa [List.append_nil] at h
 |n + 1,r,hr,h => by
  have hne : r ≠ [] := fun e => by subst e;simp at hr
  have er := (List.dropLast_concat_getLast hne).symm
  rw [er,← List.append_assoc] at h
  obtain ⟨b,hb⟩ := x43 h (by simp)
  exact T.up p n r.dropLast (by simp;omega) (T.pre _ _ _ hb)
theorem j85 {l : Items} (T : TrM (idsAt l) M A V) (c : Cube) : ∀ f p,gathT (hasP A) (idsAt l) c f p = gath l c f p := by
 have none : ∀ f p,hasP A p = false → gath l c f p = [] := by
  intro f p hp
  refine q123 l c f p fun x hx r e => ?_
  have h1 : hasP A (p ++ r) = false := by
   cases h : hasP A (p ++ r) with
   | false => rfl
   | true => rw [T.up p _ r rfl h] at hp;cases hp
  have h2 := T.gone _ h1
  rw [← e] at h2
  have h3 : x.1 ∈ idsAt l (pathC x.2) := mem_ids (c := x.2) (by simpa using hx)
  rw [h2] at h3;cases h3
 intro f
 induction f with
 |zero =>
  intro p
  unfold gathT gath
  cases hp : hasP A p with
  | true => rfl
  | false => rw [T.gone p hp];rfl
 |succ f ih =>
  intro p
  cases hp : hasP A p with
  |true =>
   rw [x80 _ _ _ _ _ hp]
   unfold gath
   congr 2
   funext k
   exact ih _
  | false => rw [j80 _ _ _ _ _ hp,none _ _ hp]
def fndZ (l : Items) (c : Cube) : List Int := srtZ (foundU l c)
theorem q86 {a b : List Int} (h : a.Perm b) : srtZ a = srtZ b := by
 unfold srtZ
 have tr : ∀ (x y z : Int),decide (x ≤ y) = true → decide (y ≤ z) = true → decide (x ≤ z) = true := fun x y z h1 h2 => by
  simp only [decide_eq_true_eq] at *;omega
 have tot : ∀ (x y : Int),(decide (x ≤ y) || decide (y ≤ x)) = true := fun x y => by
  rw [Bool.or_eq_true,decide_eq_true_eq,decide_eq_true_eq];omega
 refine List.Perm.eq_of_pairwise (le := fun x y => decide (x ≤ y) = true) (fun x y _ _ h1 h2 => ?_) (List.pairwise_mergeSort tr tot a) (List.pairwise_mergeSort tr tot b) (((List.mergeSort_perm a _).trans h).trans (List.mergeSort_perm b _).symm)
 simp only [decide_eq_true_eq] at h1 h2;omega
def AllSnd (l : Items) : Prop := ∀ x ∈ l,x.2.sound = true
theorem j132 : srtZ [] = [] := List.eq_nil_of_length_eq_zero (by unfold srtZ;simp)
theorem z86 {l : Items} (T : TrM (idsAt l) M A V) (hs : AllSnd l) (c : Cube) : ovZ (hasP A) (idsAt l) c = fndZ l c := by
 unfold ovZ fndZ
 cases hc : c.sound with
 |true =>
  rw [if_pos rfl,j85 T]
  exact q86 (x122 hc hs)
 |false =>
  rw [j122 hc]
  simp [j132]
theorem x86 {l : Items} (T : TrM (idsAt l) M A V) (c : Cube) : (gathT (hasP A) (idsAt l) c 128 []).length ≤ l.length := by
 rw [j85 T,(q42 l c 128 []).length_eq,List.length_map]
 exact List.length_filter_le _ _
end
section
variable {l : Items} {M : Nat → Option Ent} {A : List Nat → Option Nat} {V : List Nat → Value}
set_option maxRecDepth 100000 in
theorem x58 (T : TrM (idsAt l) M A V) (hs : AllSnd l) (hl : l.length ≤ 1099511627776) (c : Cube) :
  RCalls Try.prog 15 [.loc 1000 0,.p (.agg (cb c))] (trL A V M (esI l)) (.p (.d (.sl 1 (fndZ l c).length (rowZ (fndZ l c))))) := by
 have := j130 T (esI l) c (by have := x86 T c;omega)
 rw [z86 T hs] at this
 exact this
set_option maxRecDepth 100000 in
theorem j58 (T : TrM (idsAt l) M A V) (hs : AllSnd l) (hl : l.length ≤ 1099511627776) (h : BitVec 128) :
  RCalls Try.prog 16 [.loc 1000 0,.p (.agg (hd h))] (trL A V M (esI l)) (.p (.d (.sl 1 (fndZ l (headC h)).length (rowZ (fndZ l (headC h)))))) := by
 have := q131 T (esI l) h (by have := x86 T (headC h);omega)
 rw [z86 T hs] at this
 exact this
end
set_option maxRecDepth 100000 in
theorem LenF_c (A : List Nat → Option Nat) (V : List Nat → Value) (M : Nat → Option Ent) (l : Items) : RCalls Try.prog 22 [.loc 1000 0] (trL A V M (esI l)) (.p (.d (.v (.int .i64 (l.length : Int))))) := by
 have := LenX_c A V M (esI l)
 have e : (esI l).length = l.length := by unfold esI;simp
 rw [e] at this
 exact this
end Go.Proofs.Ytbamjcnhmmgnlaa
namespace Go.Proofs.Ytbamjcnhmmgnlaa
open Go Go.Proofs.Ytbamjcnhmmgnlaa.AL Go.RowKit
def awC : Cube := ⟨4,12⟩
def awZ : Cube := ⟨0,0⟩
theorem q59 : cb awC = [.v (.int .u64 0),.v (.int .u64 4),.v (.int .u64 0),.v (.int .u64 12)] := by
 have h1 : hi (4 : BitVec 128) = 0 := by decide
 have h2 : lo (4 : BitVec 128) = 4 := by decide
 have h3 : hi (12 : BitVec 128) = 0 := by decide
 have h4 : lo (12 : BitVec 128) = 12 := by decide
 unfold cb awC
 simp only [h1,h2,h3,h4]
theorem cb_awZ : cb awZ = [.v (.int .u64 0),.v (.int .u64 0),.v (.int .u64 0),.v (.int .u64 0)] := by
 unfold cb awZ
 simp only [q28,x28]
theorem hd_7 : hd 7 = [.v (.int .u64 0),.v (.int .u64 7)] := by
 have h1 : hi (7 : BitVec 128) = 0 := by decide
 have h2 : lo (7 : BitVec 128) = 7 := by decide
 unfold hd;simp only [h1,h2]
theorem hd_8 : hd 8 = [.v (.int .u64 0),.v (.int .u64 8)] := by
 have h1 : hi (8 : BitVec 128) = 0 := by decide
 have h2 : lo (8 : BitVec 128) = 8 := by decide
 unfold hd;simp only [h1,h2]
def awL : Items := [(5,awC),(3,awZ)]
theorem j86 : srtZ [5,3] = [3,5] := by
 have h := q86 (a := [5,3]) (b := [3,5]) (by decide)
 rw [h]
 unfold srtZ
 exact List.mergeSort_of_pairwise (by simp)
theorem srt_one (x : Int) : srtZ [x] = [x] := by
 unfold srtZ
 exact List.mergeSort_of_pairwise (by simp)
theorem fnd_7 : fndZ awL (headC 7) = [3,5] := by
 have : foundU awL (headC 7) = [5,3] := by decide +kernel
 unfold fndZ;rw [this,j86]
theorem fnd_8 : fndZ awL (headC 8) = [3] := by
 have : foundU awL (headC 8) = [3] := by decide +kernel
 unfold fndZ;rw [this,srt_one]
theorem fnd_C : fndZ awL awC = [3,5] := by
 have : foundU awL awC = [5,3] := by decide +kernel
 unfold fndZ;rw [this,j86]
theorem q133 : pathC awC ≠ [] := by
 have : (pathC awC).length = 126 := by rw [x23];decide +kernel
 intro e;rw [e] at this;cases this
theorem z133 : pathC awZ = [] := by
 have : (pathC awZ).length = 0 := by rw [x23];decide +kernel
 exact List.eq_nil_of_length_eq_zero this
theorem z59 : AllSnd awL := by
 intro x hx
 simp only [awL,List.mem_cons,List.not_mem_nil,or_false] at hx
 rcases hx with rfl | rfl <;> decide
set_option maxRecDepth 100000 in
theorem x133 : ACalls Try.prog 12 [] (· = [.d (.v (.bool true))]) := by
 have k0 := x84
 have k1 := x85 TrM.empty 5 awC (by decide) (by simp) q133
 rw [q59] at k1
 unfold trL trC at k1
 refine j13 Try.func12 rfl (by decide +kernel) (by rw [Try.ntmps12];simp) ?_;rw [Try.ntmps12];simp only [frOf]
 (repeat ((fail_if_success (show AWP _ _ (.region 1 _ _) _ _));first | apply j0 | refine q8 rfl ?_ | refine z8 rfl ?_ | apply z7 | (refine j4 fun K hK => ?_) | (refine x5 fun K hK => ?_) | ((first | apply j6 | apply x7 | ((first | refine z6 (hK _ ?_) | refine x6 (hK _ _ j5 ?_));clear hK K));(first | show AWP _ _ _ _ _ | ((try simp only [j7]);first | show loopQ _ _ _ _ _ _ | show cutQ _ _ _ _ | show AWP _ _ _ _ _))) | ((first | refine x8 [] rfl ?_ | refine j8 [] rfl ?_);simp (disch:=omega) only [go_sem,seval,hd,cb];(repeat (first | refine ⟨by omega,?_⟩ | refine ⟨True.intro,?_⟩)))))
 refine j4 fun K hK => ?_
 (refine j18 _ (q19 [(3,503),(1,501)] rfl rfl rfl rfl rfl rfl (k0) rfl (z15 (by repeat (first | exact trivial | refine ⟨rfl,?_⟩)) (by kernel_rfl))) ?_);simp (disch:=omega) only [go_sem,seval,hd,cb]
 (repeat ((fail_if_success (show AWP _ _ (.region 3 _ _) _ _));first | apply j0 | refine q8 rfl ?_ | refine z8 rfl ?_ | apply z7 | (refine j4 fun K hK => ?_) | (refine x5 fun K hK => ?_) | ((first | apply j6 | apply x7 | ((first | refine z6 (hK _ ?_) | refine x6 (hK _ _ j5 ?_));clear hK K));(first | show AWP _ _ _ _ _ | ((try simp only [j7]);first | show loopQ _ _ _ _ _ _ | show cutQ _ _ _ _ | show AWP _ _ _ _ _))) | ((first | refine x8 [] rfl ?_ | refine j8 [] rfl ?_);simp (disch:=omega) only [go_sem,seval,hd,cb];(repeat (first | refine ⟨by omega,?_⟩ | refine ⟨True.intro,?_⟩)))))
 refine j79 rfl ?_
 refine j4 fun K hK => ?_
 iterate 5 ((first | refine z11 [] rfl rfl ?_ | refine x11 [] rfl rfl ?_ | refine j10 rfl rfl ?_ | refine q11 rfl rfl ?_);simp (disch:=omega) only [go_sem,seval,hd,cb];(repeat (first | refine ⟨by omega,?_⟩ | refine ⟨True.intro,?_⟩)))
 (refine x33 (z29 [(1000,503),(1001,501),(1999,1999)] rfl rfl rfl rfl rfl rfl (k1) (fun _ => rfl) (z15 (by repeat (first | exact trivial | refine ⟨rfl,?_⟩)) (by kernel_rfl)) (fun _ => (z15 (by repeat (first | exact trivial | refine ⟨rfl,?_⟩)) (by kernel_rfl)))) ?_);rintro ⟨⟨A1,V1,M1⟩,T1⟩;simp (disch:=omega) only [go_sem,seval,hd,cb]
 simp only [] at T1
 have k2 := z85 T1 3 awZ (by decide +kernel) (by simp) z133
 rw [cb_awZ] at k2
 unfold trL trC at k2
 iterate 5 ((first | refine z11 [] rfl rfl ?_ | refine x11 [] rfl rfl ?_ | refine j10 rfl rfl ?_ | refine q11 rfl rfl ?_);simp (disch:=omega) only [go_sem,seval,hd,cb];(repeat (first | refine ⟨by omega,?_⟩ | refine ⟨True.intro,?_⟩)))
 (refine x33 (z29 [(1000,503),(1001,501),(1999,1999)] rfl rfl rfl rfl rfl rfl (k2) (fun _ => rfl) (z15 (by repeat (first | exact trivial | refine ⟨rfl,?_⟩)) (by kernel_rfl)) (fun _ => (z15 (by repeat (first | exact trivial | refine ⟨rfl,?_⟩)) (by kernel_rfl)))) ?_);rintro ⟨⟨A2,V2,M2⟩,T2⟩;simp (disch:=omega) only [go_sem,seval,hd,cb]
 have T2 : TrM (idsAt awL) M2 A2 V2 := T2
 have k3 := j84 (l := awL) (M := M2) (A := A2) (V := V2) 5 awC (by decide +kernel)
 rw [show addE awL 5 awC = 8 from by decide +kernel,q59] at k3
 unfold trL trC at k3
 iterate 5 ((first | refine z11 [] rfl rfl ?_ | refine x11 [] rfl rfl ?_ | refine j10 rfl rfl ?_ | refine q11 rfl rfl ?_);simp (disch:=omega) only [go_sem,seval,hd,cb];(repeat (first | refine ⟨by omega,?_⟩ | refine ⟨True.intro,?_⟩)))
 (refine j18 _ (q19 [(1000,503),(1001,501),(1999,1999)] rfl rfl rfl rfl rfl rfl (k3) rfl (z15 (by repeat (first | exact trivial | refine ⟨rfl,?_⟩)) (by kernel_rfl))) ?_);simp (disch:=omega) only [go_sem,seval,hd,cb]
 (repeat ((fail_if_success (show AWP _ _ (.region 5 _ _) _ _));first | apply j0 | refine q8 rfl ?_ | refine z8 rfl ?_ | apply z7 | (refine j4 fun K hK => ?_) | (refine x5 fun K hK => ?_) | ((first | apply j6 | apply x7 | ((first | refine z6 (hK _ ?_) | refine x6 (hK _ _ j5 ?_));clear hK K));(first | show AWP _ _ _ _ _ | ((try simp only [j7]);first | show loopQ _ _ _ _ _ _ | show cutQ _ _ _ _ | show AWP _ _ _ _ _))) | ((first | refine x8 [] rfl ?_ | refine j8 [] rfl ?_);simp (disch:=omega) only [go_sem,seval,hd,cb];(repeat (first | refine ⟨by omega,?_⟩ | refine ⟨True.intro,?_⟩)))))
 have k4 := q43 (j58 T2 z59 (by decide) 7)
 have k5 := q43 (j58 T2 z59 (by decide) 8)
 have k6 := q43 (x58 T2 z59 (by decide) awC)
 have k7 := q43 (LenF_c A2 V2 M2 awL)
 rw [fnd_7,hd_7] at k4
 rw [fnd_8,hd_8] at k5
 rw [fnd_C,q59] at k6
 rw [show ((awL.length : Nat) : Int) = 2 from rfl] at k7
 unfold trL trC at k4 k5 k6 k7
 have r0 : rowZ [3,5] 0 = [.v (.int .i64 3)] := rfl
 have r1 : rowZ [3,5] 1 = [.v (.int .i64 5)] := rfl
 refine j4 fun K hK => ?_
 iterate 2 ((first | refine z11 [] rfl rfl ?_ | refine x11 [] rfl rfl ?_ | refine j10 rfl rfl ?_ | refine q11 rfl rfl ?_);simp (disch:=omega) only [go_sem,seval,hd,cb,r0,r1];(repeat (first | refine ⟨by omega,?_⟩ | refine ⟨True.intro,?_⟩)))
 (refine j18 _ (q19 [(1000,503),(1001,501),(1999,1999)] rfl rfl rfl rfl rfl rfl (k4) rfl (z15 (by repeat (first | exact trivial | refine ⟨rfl,?_⟩)) (by kernel_rfl))) ?_);simp (disch:=omega) only [go_sem,seval,hd,cb,r0,r1]
 iterate 2 ((first | refine z11 [] rfl rfl ?_ | refine x11 [] rfl rfl ?_ | refine j10 rfl rfl ?_ | refine q11 rfl rfl ?_);simp (disch:=omega) only [go_sem,seval,hd,cb,r0,r1];(repeat (first | refine ⟨by omega,?_⟩ | refine ⟨True.intro,?_⟩)))
 (refine j18 _ (q19 [(1000,503),(1001,501),(1999,1999)] rfl rfl rfl rfl rfl rfl (k5) rfl (z15 (by repeat (first | exact trivial | refine ⟨rfl,?_⟩)) (by kernel_rfl))) ?_);simp (disch:=omega) only [go_sem,seval,hd,cb,r0,r1]
 (repeat ((fail_if_success (show AWP _ _ (.region 6 _ _) _ _));first | apply j0 | refine q8 rfl ?_ | refine z8 rfl ?_ | apply z7 | (refine j4 fun K hK => ?_) | (refine x5 fun K hK => ?_) | ((first | apply j6 | apply x7 | ((first | refine z6 (hK _ ?_) | refine x6 (hK _ _ j5 ?_));clear hK K));(first | show AWP _ _ _ _ _ | ((try simp only [j7]);first | show loopQ _ _ _ _ _ _ | show cutQ _ _ _ _ | show AWP _ _ _ _ _))) | ((first | refine x8 [] rfl ?_ | refine j8 [] rfl ?_);simp (disch:=omega) only [go_sem,seval,hd,cb,r0,r1];(repeat (first | refine ⟨by omega,?_⟩ | refine ⟨True.intro,?_⟩)))))
 refine j4 fun K hK => ?_
 iterate 22 ((first | refine z11 [] rfl rfl ?_ | refine x11 [] rfl rfl ?_ | refine j10 rfl rfl ?_ | refine q11 rfl rfl ?_);simp (disch:=omega) only [go_sem,seval,hd,cb,r0,r1];(repeat (first | refine ⟨by omega,?_⟩ | refine ⟨True.intro,?_⟩)))
 (refine j18 _ (q19 [(1000,503),(1001,501),(1999,1999)] rfl rfl rfl rfl rfl rfl (k7) rfl (z15 (by repeat (first | exact trivial | refine ⟨rfl,?_⟩)) (by kernel_rfl))) ?_);simp (disch:=omega) only [go_sem,seval,hd,cb,r0,r1]
 iterate 5 ((first | refine z11 [] rfl rfl ?_ | refine x11 [] rfl rfl ?_ | refine j10 rfl rfl ?_ | refine q11 rfl rfl ?_);simp (disch:=omega) only [go_sem,seval,hd,cb,r0,r1];(repeat (first | refine ⟨by omega,?_⟩ | refine ⟨True.intro,?_⟩)))
 (refine j18 _ (q19 [(1000,503),(1001,501),(1999,1999)] rfl rfl rfl rfl rfl rfl (k6) rfl (z15 (by repeat (first | exact trivial | refine ⟨rfl,?_⟩)) (by kernel_rfl))) ?_);simp (disch:=omega) only [go_sem,seval,hd,cb,r0,r1]
 (repeat (first | apply j0 | refine q8 rfl ?_ | refine z8 rfl ?_ | apply z7 | (refine j4 fun K hK => ?_) | (refine x5 fun K hK => ?_) | ((first | apply j6 | apply x7 | ((first | refine z6 (hK _ ?_) | refine x6 (hK _ _ j5 ?_));clear hK K));(first | show AWP _ _ _ _ _ | ((try simp only [j7]);first | show loopQ _ _ _ _ _ _ | show cutQ _ _ _ _ | show AWP _ _ _ _ _))) | ((first | refine x8 [] rfl ?_ | refine j8 [] rfl ?_);simp (disch:=omega) only [go_sem,seval,hd,cb,r0,r1];(repeat (first | refine ⟨by omega,?_⟩ | refine ⟨True.intro,?_⟩)))))
 refine x10 ⟨_,?_,rfl⟩;rw [Try.results12];simp (disch:=omega) only [ResVars,ResVar,ptrLoc,go_sem,seval,hd,cb,r0,r1]
theorem j133 {l : Items} (hu : Uniq l) {id : Int} (h : idIn l id = false) (c : Cube) : Uniq (l ++ [(id,c)]) := by
 unfold Uniq at *
 rw [List.map_append,List.nodup_append]
 refine ⟨hu,by simp,fun a ha b hb => ?_⟩
 simp at hb
 subst hb
 intro e
 subst e
 obtain ⟨x,hx,e⟩ := List.mem_map.1 ha
 have := List.any_eq_false.1 h x hx
 simp [e] at this
theorem snd_add {l : Items} (hs : AllSnd l) (id : Int) {c : Cube} (hc : c.sound = true) : AllSnd (l ++ [(id,c)]) := by
 intro x hx
 rcases List.mem_append.1 hx with hx | hx
 ·exact hs x hx
 ·simp at hx;subst hx;exact hc
end Go.Proofs.Ytbamjcnhmmgnlaa
namespace Go.Proofs.Ytbamjcnhmmgnlaa.AL
open Go.RowKit
end Go.Proofs.Ytbamjcnhmmgnlaa.AL
namespace Go.Proofs.Ytbamjcnhmmgnlaa
open Go Go.Proofs.Ytbamjcnhmmgnlaa.AL Go.RowKit
structure AlS (b : List Int) (x : Int) where
 k : Nat
 t : Bool
 hk : k ≤ b.length
 ht : t = (b.take k).any fun y => x == y
def alJ (a b : List Int) (i : Nat) (x : Int) (s : AlS b x) : ASt :=
 ⟨[(7,.p (.d (.v (.int .i64 (s.k : Int))))),(6,.p (.d (.v (.bool s.t)))),(5,.p (.d (.v (.int .i64 (i : Int))))),(1,.p (.d (.sl 1 b.length (rowZ b)))),(0,.p (.d (.sl 1 a.length (rowZ a))))],[]⟩
def alI (a b : List Int) (s : {i : Nat // i ≤ a.length}) : ASt :=
 ⟨[(5,.p (.d (.v (.int .i64 (s.val : Int))))),(1,.p (.d (.sl 1 b.length (rowZ b)))),(0,.p (.d (.sl 1 a.length (rowZ a))))],[]⟩
theorem pair_at {a : List Int} (h : a.Pairwise (· < ·)) {i : Nat} (hi : 0 < i) (hl : i < a.length) : a.getD (i - 1) 0 < a.getD i 0 := by
 rw [List.getD_eq_getElem?_getD,List.getD_eq_getElem?_getD,List.getElem?_eq_getElem hl,List.getElem?_eq_getElem (by omega : i - 1 < a.length)]
 exact List.pairwise_iff_getElem.1 h (i - 1) i (by omega) hl (by omega)
set_option maxRecDepth 100000 in
theorem q30 (a b : List Int) (ha : a.length ≤ 1099511627776) (hb : b.length ≤ 1099511627776) (hm : ∀ x ∈ a,x ∈ b) (hs : a.Pairwise (· < ·)) : ACalls Try.prog 18 [.d (.sl 1 a.length (rowZ a)),.d (.sl 1 b.length (rowZ b))] (· = [.d (.v (.bool true))]) := by
 refine j13 Try.func18 rfl (by decide +kernel) (by rw [Try.ntmps18];simp) ?_;rw [Try.ntmps18];simp only [frOf]
 (repeat (first | apply j0 | refine q8 rfl ?_ | refine z8 rfl ?_ | apply z7 | (refine j4 fun K hK => ?_) | (refine x5 fun K hK => ?_) | ((first | apply j6 | apply x7 | ((first | refine z6 (hK _ ?_) | refine x6 (hK _ _ j5 ?_));clear hK K));(first | show AWP _ _ _ _ _ | ((try simp only [j7]);first | show loopQ _ _ _ _ _ _ | show cutQ _ _ _ _ | show AWP _ _ _ _ _))) | ((first | refine x8 [] rfl ?_ | refine j8 [] rfl ?_);simp (disch:=omega) only [go_sem,seval,hd,cb];(repeat (first | refine ⟨by omega,?_⟩ | refine ⟨True.intro,?_⟩)))))
 refine x21 (alI a b) (fun s => a.length - s.val) ⟨0,by omega⟩ ?_ (fun s => ?_)
 ·unfold alI
  refine Weak.list ?_ ?_;(all_goals simp (disch:=omega) only [AllF,AllL,q13,z13,j12,exists_eq_left',go_sem,seval,hd,cb]);(all_goals (repeat' (with_reducible apply And.intro)));(all_goals try (first | exact j9 rfl | (refine x13 ?_;omega) | (refine j9 ?_;simp;done)))
 obtain ⟨i,hi⟩ := s
 unfold alI
 simp only []
 by_cases h : i < a.length
 ·have r1 := z42 a i
  have r0 := z42 a (i - 1)
  have hpa := fun h0 => pair_at hs (i := i) h0 h
  have hxb : a.getD i 0 ∈ b := hm _ (by rw [List.getD_eq_getElem?_getD,List.getElem?_eq_getElem h];exact List.getElem_mem h)
  generalize a.getD i 0 = x at *
  generalize a.getD (i - 1) 0 = w at *
  (repeat (first | apply j0 | refine q8 rfl ?_ | refine z8 rfl ?_ | apply z7 | (refine j4 fun K hK => ?_) | (refine x5 fun K hK => ?_) | ((first | apply j6 | apply x7 | ((first | refine z6 (hK _ ?_) | refine x6 (hK _ _ j5 ?_));clear hK K));(first | show AWP _ _ _ _ _ | ((try simp only [j7]);first | show loopQ _ _ _ _ _ _ | show cutQ _ _ _ _ | show AWP _ _ _ _ _))) | ((first | refine x8 [] rfl ?_ | refine j8 [] rfl ?_);simp (disch:=omega) only [go_sem,seval,hd,cb];(repeat (first | refine ⟨by omega,?_⟩ | refine ⟨True.intro,?_⟩)))))
  refine x21 (alJ a b i x) (fun s => b.length - s.k) ⟨0,false,by omega,by simp⟩ ?_ (fun s => ?_)
  ·unfold alJ
   refine Weak.list ?_ ?_;(all_goals simp (disch:=omega) only [AllF,AllL,q13,z13,j12,exists_eq_left',go_sem,seval,hd,cb]);(all_goals (repeat' (with_reducible apply And.intro)));(all_goals try (first | exact j9 rfl | (refine x13 ?_;omega) | (refine j9 ?_;simp;done)))
  obtain ⟨k,t,hk,ht⟩ := s
  unfold alJ
  simp only [] at hk ht ⊢
  by_cases hkb : k < b.length
  ·have r2 := z42 b k
   have ht2 : (b.take (k + 1)).any (fun y => x == y) = (t || (x == b.getD k 0)) := by
    rw [z57 hkb,List.any_append,← ht];simp
   generalize b.getD k 0 = y at r2 ht2
   cases t with
   |true =>
    (repeat (first | apply j0 | refine q8 rfl ?_ | refine z8 rfl ?_ | apply z7 | (refine j4 fun K hK => ?_) | (refine x5 fun K hK => ?_) | ((first | apply j6 | apply x7 | ((first | refine z6 (hK _ ?_) | refine x6 (hK _ _ j5 ?_));clear hK K));(first | show AWP _ _ _ _ _ | ((try simp only [j7]);first | show loopQ _ _ _ _ _ _ | show cutQ _ _ _ _ | show AWP _ _ _ _ _))) | ((first | refine x8 [] rfl ?_ | refine j8 [] rfl ?_);simp (disch:=omega) only [go_sem,seval,hd,cb,r1,r2];(repeat (first | refine ⟨by omega,?_⟩ | refine ⟨True.intro,?_⟩)))))
    refine ⟨⟨k + 1,true,by omega,by rw [ht2];rfl⟩,by simp only [];omega,?_⟩
    refine Weak.list ?_ ?_;(all_goals simp (disch:=omega) only [AllF,AllL,q13,z13,j12,exists_eq_left',go_sem,seval,hd,cb,r1,r2]);(all_goals (repeat' (with_reducible apply And.intro)));(all_goals try (first | exact j9 rfl | (refine x13 ?_;omega) | (refine j9 ?_;simp;done)))
   |false =>
    by_cases hxy : x = y
    ·have q : (x == y) = true := ieq_tt hxy
     (repeat (first | apply j0 | refine q8 rfl ?_ | refine z8 rfl ?_ | apply z7 | (refine j4 fun K hK => ?_) | (refine x5 fun K hK => ?_) | ((first | apply j6 | apply x7 | ((first | refine z6 (hK _ ?_) | refine x6 (hK _ _ j5 ?_));clear hK K));(first | show AWP _ _ _ _ _ | ((try simp only [j7]);first | show loopQ _ _ _ _ _ _ | show cutQ _ _ _ _ | show AWP _ _ _ _ _))) | ((first | refine x8 [] rfl ?_ | refine j8 [] rfl ?_);simp (disch:=omega) only [go_sem,seval,hd,cb,r1,r2,q];(repeat (first | refine ⟨by omega,?_⟩ | refine ⟨True.intro,?_⟩)))))
     refine ⟨⟨k + 1,true,by omega,by rw [ht2,q];rfl⟩,by simp only [];omega,?_⟩
     refine Weak.list ?_ ?_;(all_goals simp (disch:=omega) only [AllF,AllL,q13,z13,j12,exists_eq_left',go_sem,seval,hd,cb,r1,r2,q]);(all_goals (repeat' (with_reducible apply And.intro)));(all_goals try (first | exact j9 rfl | (refine x13 ?_;omega) | (refine j9 ?_;simp;done)))
    ·have q : (x == y) = false := ieq_ff hxy
     (repeat (first | apply j0 | refine q8 rfl ?_ | refine z8 rfl ?_ | apply z7 | (refine j4 fun K hK => ?_) | (refine x5 fun K hK => ?_) | ((first | apply j6 | apply x7 | ((first | refine z6 (hK _ ?_) | refine x6 (hK _ _ j5 ?_));clear hK K));(first | show AWP _ _ _ _ _ | ((try simp only [j7]);first | show loopQ _ _ _ _ _ _ | show cutQ _ _ _ _ | show AWP _ _ _ _ _))) | ((first | refine x8 [] rfl ?_ | refine j8 [] rfl ?_);simp (disch:=omega) only [go_sem,seval,hd,cb,r1,r2,q];(repeat (first | refine ⟨by omega,?_⟩ | refine ⟨True.intro,?_⟩)))))
     refine ⟨⟨k + 1,false,by omega,by rw [ht2,q];rfl⟩,by simp only [];omega,?_⟩
     refine Weak.list ?_ ?_;(all_goals simp (disch:=omega) only [AllF,AllL,q13,z13,j12,exists_eq_left',go_sem,seval,hd,cb,r1,r2,q]);(all_goals (repeat' (with_reducible apply And.intro)));(all_goals try (first | exact j9 rfl | (refine x13 ?_;omega) | (refine j9 ?_;simp;done)))
  ·have ek : k = b.length := by omega
   subst ek
   have htt : t = true := by
    rw [ht,List.take_length]
    exact List.any_eq_true.2 ⟨x,hxb,by simp⟩
   subst htt
   have e1 : ((i : Int) - 1).toNat = i - 1 := by omega
   by_cases h0 : 0 < i
   ·have q1 : decide ((i : Int) > 0) = true := decide_eq_true (by omega)
    have q2 : decide (x ≤ w) = false := decide_eq_false (by have := hpa h0;omega)
    (repeat (first | apply j0 | refine q8 rfl ?_ | refine z8 rfl ?_ | apply z7 | (refine j4 fun K hK => ?_) | (refine x5 fun K hK => ?_) | ((first | apply j6 | apply x7 | ((first | refine z6 (hK _ ?_) | refine x6 (hK _ _ j5 ?_));clear hK K));(first | show AWP _ _ _ _ _ | ((try simp only [j7]);first | show loopQ _ _ _ _ _ _ | show cutQ _ _ _ _ | show AWP _ _ _ _ _))) | ((first | refine x8 [] rfl ?_ | refine j8 [] rfl ?_);simp (disch:=omega) only [go_sem,seval,hd,cb,r1,r0,q1,q2,e1];(repeat (first | refine ⟨by omega,?_⟩ | refine ⟨True.intro,?_⟩)))))
    refine ⟨⟨i + 1,by omega⟩,by simp only [];omega,?_⟩
    refine Weak.list ?_ ?_;(all_goals simp (disch:=omega) only [AllF,AllL,q13,z13,j12,exists_eq_left',go_sem,seval,hd,cb,r1,r0,q1,q2,e1]);(all_goals (repeat' (with_reducible apply And.intro)));(all_goals try (first | exact j9 rfl | (refine x13 ?_;omega) | (refine j9 ?_;simp;done)))
   ·have q1 : decide ((i : Int) > 0) = false := decide_eq_false (by omega)
    (repeat (first | apply j0 | refine q8 rfl ?_ | refine z8 rfl ?_ | apply z7 | (refine j4 fun K hK => ?_) | (refine x5 fun K hK => ?_) | ((first | apply j6 | apply x7 | ((first | refine z6 (hK _ ?_) | refine x6 (hK _ _ j5 ?_));clear hK K));(first | show AWP _ _ _ _ _ | ((try simp only [j7]);first | show loopQ _ _ _ _ _ _ | show cutQ _ _ _ _ | show AWP _ _ _ _ _))) | ((first | refine x8 [] rfl ?_ | refine j8 [] rfl ?_);simp (disch:=omega) only [go_sem,seval,hd,cb,r1,q1];(repeat (first | refine ⟨by omega,?_⟩ | refine ⟨True.intro,?_⟩)))))
    refine ⟨⟨i + 1,by omega⟩,by simp only [];omega,?_⟩
    refine Weak.list ?_ ?_;(all_goals simp (disch:=omega) only [AllF,AllL,q13,z13,j12,exists_eq_left',go_sem,seval,hd,cb,r1,q1]);(all_goals (repeat' (with_reducible apply And.intro)));(all_goals try (first | exact j9 rfl | (refine x13 ?_;omega) | (refine j9 ?_;simp;done)))
 ·have : i = a.length := by omega
  subst this
  (repeat (first | apply j0 | refine q8 rfl ?_ | refine z8 rfl ?_ | apply z7 | (refine j4 fun K hK => ?_) | (refine x5 fun K hK => ?_) | ((first | apply j6 | apply x7 | ((first | refine z6 (hK _ ?_) | refine x6 (hK _ _ j5 ?_));clear hK K));(first | show AWP _ _ _ _ _ | ((try simp only [j7]);first | show loopQ _ _ _ _ _ _ | show cutQ _ _ _ _ | show AWP _ _ _ _ _))) | ((first | refine x8 [] rfl ?_ | refine j8 [] rfl ?_);simp (disch:=omega) only [go_sem,seval,hd,cb];(repeat (first | refine ⟨by omega,?_⟩ | refine ⟨True.intro,?_⟩)))))
  refine x10 ⟨_,?_,rfl⟩;rw [Try.results18];simp (disch:=omega) only [ResVars,ResVar,ptrLoc,go_sem,seval,hd,cb]
theorem x20 {l : Items} {c : Cube} {z : Int} : z ∈ fndZ l c ↔ ∃ x ∈ l,meetO x.2 c = true ∧ x.1 = z := by
 unfold fndZ srtZ foundU
 rw [List.mem_mergeSort,List.mem_map]
 constructor
 ·rintro ⟨x,hx,rfl⟩
  obtain ⟨h1,h2⟩ := List.mem_filter.1 hx
  exact ⟨x,h1,h2,rfl⟩
 ·rintro ⟨x,h1,h2,rfl⟩
  exact ⟨x,List.mem_filter.2 ⟨h1,h2⟩,rfl⟩
theorem z30 {l : Items} (hu : Uniq l) (c : Cube) : (fndZ l c).Pairwise (· < ·) := by
 have tr : ∀ (x y z : Int),decide (x ≤ y) = true → decide (y ≤ z) = true → decide (x ≤ z) = true := fun x y z h1 h2 => by
  simp only [decide_eq_true_eq] at *;omega
 have tot : ∀ (x y : Int),(decide (x ≤ y) || decide (y ≤ x)) = true := fun x y => by
  rw [Bool.or_eq_true,decide_eq_true_eq,decide_eq_true_eq];omega
 have h1 : (fndZ l c).Pairwise fun x y => decide (x ≤ y) = true := List.pairwise_mergeSort tr tot _
 have h2 : (fndZ l c).Nodup := by
  unfold fndZ srtZ
  rw [(List.mergeSort_perm _ _).nodup_iff]
  unfold foundU
  exact List.Nodup.sublist (List.Sublist.map _ List.filter_sublist) hu
 refine (h1.and h2).imp fun h => ?_
 have h1 := h.1
 have h2 := h.2
 simp only [decide_eq_true_eq] at h1
 have h2 : _ ≠ _ := h2
 omega
theorem x59 {l : Items} (hs : AllSnd l) (c : Cube) : (fndZ l c).length ≤ l.length := by
 unfold fndZ srtZ foundU
 rw [List.length_mergeSort,List.length_map]
 exact List.length_filter_le _ _
theorem x44 {a b : Cube} : (apart a b == 0) = true ↔ ∀ i,i < 128 → a.c.getLsbD i = true → b.c.getLsbD i = true → a.v.getLsbD i = b.v.getLsbD i := z55 a b
theorem q87 (h : BitVec 128) : (headC h).v = h ∧ (headC h).c = BitVec.allOnes 128 := by
 have h3 : (ones 128 <<< 0 : BitVec 128) = BitVec.allOnes 128 := by decide +kernel
 unfold headC mkC
 rw [h3,BitVec.and_allOnes];exact ⟨rfl,rfl⟩
theorem z87 {x c : Cube} {h : BitVec 128} (hc : c.sound = true) (hh : hasT c h = true) (hx : meetO x (headC h) = true) : meetO x c = true := by
 unfold meetO at hx ⊢
 simp only [Bool.and_eq_true] at hx ⊢
 refine ⟨⟨hx.1.1,hc⟩,x44.2 fun i hi h1 h2 => ?_⟩
 have a1 := x44.1 hx.2 i hi h1 (by rw [(q87 h).2,BitVec.getLsbD_allOnes];simpa using hi)
 rw [(q87 h).1] at a1
 rw [a1]
 exact ((q55 c h).1 hh i hi h2).symm
theorem j44 {x c d : Cube} (hd : d.sound = true) (hw : withinT c d = true) (hx : meetO x c = true) : meetO x d = true := by
 unfold meetO at hx ⊢
 simp only [Bool.and_eq_true] at hx ⊢
 refine ⟨⟨hx.1.1,hd⟩,x44.2 fun i hi h1 h2 => ?_⟩
 obtain ⟨w1,w2⟩ := (x55 c d).1 hw i hi h2
 rw [← w2]
 exact x44.1 hx.2 i hi h1 w1
theorem q134 (l : List Cube) (i : Nat) : rowC l i = cb (l.getD i ⟨0,0⟩) := rfl
def addI (l : Items) (id : Int) (c : Cube) : Items := if addE l id c = 0 then l ++ [(id,c)] else l
theorem z134 (l : Items) (id : Int) (c : Cube) : (addI l id c).length ≤ l.length + 1 := by
 unfold addI;split <;> simp
theorem x134 {l : Items} (hu : Uniq l) (id : Int) (c : Cube) : Uniq (addI l id c) := by
 unfold addI
 split
 ·exact j133 hu (q44 ‹_›).2.2 c
 ·exact hu
theorem j134 {l : Items} (hs : AllSnd l) (id : Int) (c : Cube) : AllSnd (addI l id c) := by
 unfold addI
 split
 ·exact snd_add hs id (q44 ‹_›).2.1
 ·exact hs
set_option maxRecDepth 100000 in
theorem AddI_c {l : Items} {M : Nat → Option Ent} {A : List Nat → Option Nat} {V : List Nat → Value} (T : TrM (idsAt l) M A V) (id : Int) (c : Cube) (hl : l.length < 1099511627776) :
  MCalls Try.prog 13 [.loc 1000 0,.p (.d (.v (.int .i64 id))),.p (.agg (cb c))] (trL A V M (esI l))
   (fun rs L => ∃ r : {r : (List Nat → Option Nat) × (List Nat → Value) × (Nat → Option Ent) // TrM (idsAt (addI l id c)) r.2.2 r.1 r.2.1},rs = [.p (.d (.v (.int .i64 (addE l id c))))] ∧ L = trL r.val.1 r.val.2.1 r.val.2.2 (esI (addI l id c))) := by
 by_cases he : addE l id c = 0
 ·have e : addI l id c = l ++ [(id,c)] := by unfold addI;rw [if_pos he]
  rw [e,he]
  by_cases hp0 : pathC c = []
  ·exact z85 T id c he hl hp0
  ·exact x85 T id c he hl hp0
 ·have e : addI l id c = l := by unfold addI;rw [if_neg he]
  rw [e]
  exact (j84 (M := M) (A := A) (V := V) id c he).mono fun rs L ⟨h1,h2⟩ => ⟨⟨(A,V,M),T⟩,h1,h2⟩
structure WiS (cs : List Cube) where
 i : Nat
 l : Items
 A : List Nat → Option Nat
 V : List Nat → Value
 M : Nat → Option Ent
 hi : i ≤ cs.length
 hl : l.length ≤ i
 T : TrM (idsAt l) M A V
 hu : Uniq l
 hs : AllSnd l
def wiL (A : List Nat → Option Nat) (V : List Nat → Value) (M : Nat → Option Ent) (l : Items) : List (Nat × LV) :=
 [(503,.cells 96 [.p (.d (.v (kidV A [0]))),.p (.d (.v (kidV A [1]))),.p (.d (.v (kidV A [2]))),.p (.d (.v (V []))),.mp 501]),(501,.map [.i64] (esI l)),(1999,.raw M)]
def wiI (cs : List Cube) (c d : Cube) (h : BitVec 128) (s : WiS cs) : ASt :=
 ⟨[(10,.p (.d (.v (.int .i64 (s.i : Int))))),(9,.loc 503 0),(7,.p (.d (.bx (hd h)))),(6,.p (.d (.bx (cb d)))),(5,.p (.d (.bx (cb c)))),(0,.p (.d (.sl 4 cs.length (rowC cs))))],wiL s.A s.V s.M s.l⟩
set_option maxRecDepth 100000 in
theorem q135 (cs : List Cube) (c d : Cube) (h : BitVec 128) (hcs : cs.length ≤ 1099511627775) : ACalls Try.prog 3 [.d (.sl 4 cs.length (rowC cs)),.agg (cb c),.agg (cb d),.agg (hd h)] (· = [.d (.v (.bool true))]) := by
 have k0 := x84
 have ka := x133
 refine j13 Try.func3 rfl (by decide +kernel) (by rw [Try.ntmps3];simp) ?_;rw [Try.ntmps3];simp only [frOf]
 (repeat ((fail_if_success (show AWP _ _ (.region 1 _ _) _ _));first | apply j0 | refine q8 rfl ?_ | refine z8 rfl ?_ | apply z7 | (refine j4 fun K hK => ?_) | (refine x5 fun K hK => ?_) | ((first | apply j6 | apply x7 | ((first | refine z6 (hK _ ?_) | refine x6 (hK _ _ j5 ?_));clear hK K));(first | show AWP _ _ _ _ _ | ((try simp only [j7]);first | show loopQ _ _ _ _ _ _ | show cutQ _ _ _ _ | show AWP _ _ _ _ _))) | ((first | refine x8 [] rfl ?_ | refine j8 [] rfl ?_);simp (disch:=omega) only [go_sem,seval,hd,cb];(repeat (first | refine ⟨by omega,?_⟩ | refine ⟨True.intro,?_⟩)))))
 refine j4 fun K hK => ?_
 (refine j18 _ (q19 [(3,503),(1,501)] rfl rfl rfl rfl rfl rfl (k0) rfl (z15 (by repeat (first | exact trivial | refine ⟨rfl,?_⟩)) (by kernel_rfl))) ?_);simp (disch:=omega) only [go_sem,seval,hd,cb]
 (repeat (first | apply j0 | refine q8 rfl ?_ | refine z8 rfl ?_ | apply z7 | (refine j4 fun K hK => ?_) | (refine x5 fun K hK => ?_) | ((first | apply j6 | apply x7 | ((first | refine z6 (hK _ ?_) | refine x6 (hK _ _ j5 ?_));clear hK K));(first | show AWP _ _ _ _ _ | ((try simp only [j7]);first | show loopQ _ _ _ _ _ _ | show cutQ _ _ _ _ | show AWP _ _ _ _ _))) | ((first | refine q10 rfl rfl rfl ?_ | refine z10 rfl rfl rfl ?_);simp (disch:=omega) only [go_sem,seval,hd,cb];(first | refine ⟨_,ka,?_⟩)) | ((first | refine x8 [] rfl ?_ | refine j8 [] rfl ?_);simp (disch:=omega) only [go_sem,seval,hd,cb];(repeat (first | refine ⟨by omega,?_⟩ | refine ⟨True.intro,?_⟩)))))
 refine j79 rfl ?_
 refine x21 (wiI cs c d h) (fun s => cs.length - s.i) ⟨0,[],noA,noV,noM,by omega,by simp,TrM.empty,List.Pairwise.nil,fun x hx => by cases hx⟩ ?_ (fun s => ?_)
 ·unfold wiI wiL
  simp only [show kidV noA [0] = .pointer none from rfl,show kidV noA [1] = .pointer none from rfl,show kidV noA [2] = .pointer none from rfl,show noV [] = .slice none 0 0 from rfl,show esI [] = [] from rfl]
  refine Weak.list ?_ ?_;(all_goals simp (disch:=omega) only [AllF,AllL,q13,z13,j12,exists_eq_left',go_sem,seval,hd,cb]);(all_goals (repeat' (with_reducible apply And.intro)));(all_goals try (first | exact j9 rfl | (refine x13 ?_;omega) | (refine j9 ?_;simp;done)))
 obtain ⟨i,l,A,V,M,hi,hl,T,hu,hs⟩ := s
 unfold wiI wiL
 simp only [] at hi hl ⊢
 have fin : ∀ {b : Bool},b = true → True := fun _ => trivial
 by_cases hlt : i < cs.length ∧ i < 40
 ·have r1 := q134 cs i
  generalize cs.getD i ⟨0,0⟩ = x at r1
  have q40 : decide ((i : Int) < 40) = true := decide_eq_true (by omega)
  have qn : decide ((i : Int) < (cs.length : Int)) = true := decide_eq_true (by omega)
  have ks := AddI_c T (i : Int) x (by omega)
  unfold cb at r1 ks
  unfold trL trC at ks
  (repeat (first | apply j0 | refine q8 rfl ?_ | refine z8 rfl ?_ | apply z7 | (refine j4 fun K hK => ?_) | (refine x5 fun K hK => ?_) | ((first | apply j6 | apply x7 | ((first | refine z6 (hK _ ?_) | refine x6 (hK _ _ j5 ?_));clear hK K));(first | show AWP _ _ _ _ _ | ((try simp only [j7]);first | show loopQ _ _ _ _ _ _ | show cutQ _ _ _ _ | show AWP _ _ _ _ _))) | ((first | refine x8 [] rfl ?_ | refine j8 [] rfl ?_);simp (disch:=omega) only [go_sem,seval,hd,cb,r1,q40,qn];(repeat (first | refine ⟨by omega,?_⟩ | refine ⟨True.intro,?_⟩)))))
  (refine x33 (z29 [(1000,503),(1001,501),(1999,1999)] rfl rfl rfl rfl rfl rfl (ks) (fun _ => rfl) (z15 (by repeat (first | exact trivial | refine ⟨rfl,?_⟩)) (by kernel_rfl)) (fun _ => (z15 (by repeat (first | exact trivial | refine ⟨rfl,?_⟩)) (by kernel_rfl)))) ?_);rintro ⟨⟨A1,V1,M1⟩,T1⟩;simp (disch:=omega) only [go_sem,seval,hd,cb,r1,q40,qn]
  (repeat (first | apply j0 | refine q8 rfl ?_ | refine z8 rfl ?_ | apply z7 | (refine j4 fun K hK => ?_) | (refine x5 fun K hK => ?_) | ((first | apply j6 | apply x7 | ((first | refine z6 (hK _ ?_) | refine x6 (hK _ _ j5 ?_));clear hK K));(first | show AWP _ _ _ _ _ | ((try simp only [j7]);first | show loopQ _ _ _ _ _ _ | show cutQ _ _ _ _ | show AWP _ _ _ _ _))) | ((first | refine x8 [] rfl ?_ | refine j8 [] rfl ?_);simp (disch:=omega) only [go_sem,seval,hd,cb,r1,q40,qn];(repeat (first | refine ⟨by omega,?_⟩ | refine ⟨True.intro,?_⟩)))))
  refine ⟨⟨i + 1,addI l i x,A1,V1,M1,by omega,by have := z134 l i x;omega,T1,x134 hu i x,j134 hs i x⟩,by simp only [];omega,?_⟩
  refine Weak.list ?_ ?_;(all_goals simp (disch:=omega) only [AllF,AllL,q13,z13,j12,exists_eq_left',go_sem,seval,hd,cb,r1,q40,qn]);(all_goals (repeat' (with_reducible apply And.intro)));(all_goals try (first | exact j9 rfl | (refine x13 ?_;omega) | (refine j9 ?_;simp;done)))
 ·have out : ∃ b1 b2,decide ((i : Int) < (cs.length : Int)) = b1 ∧ decide ((i : Int) < 40) = b2 ∧ (b1 && b2) = false := by
   refine ⟨_,_,rfl,rfl,?_⟩
   rw [Bool.and_eq_false_iff,decide_eq_false_iff_not,decide_eq_false_iff_not];omega
  obtain ⟨b1,b2,q1,q2,qb⟩ := out
  have kO := x58 T hs (by omega) c
  have kP := x58 T hs (by omega) d
  have kM := j58 T hs (by omega) h
  have t1 := j78 c
  have t2 := j78 d
  have bO := x59 hs c
  have bP := x59 hs d
  have bM := x59 hs (headC h)
  unfold trL trC at kO kP kM
  unfold cb at kO kP t1 t2
  unfold hd at kM
  cases b1 with
  |true =>
   have : b2 = false := by simpa using qb
   subst this
   cases hc : c.sound with
   |false =>
    rw [hc] at t1
    simp only [Bool.false_eq_true,if_false] at t1
    (repeat ((fail_if_success (show AWP _ _ (.region 10 _ _) _ _));first | apply j0 | refine q8 rfl ?_ | refine z8 rfl ?_ | apply z7 | (refine j4 fun K hK => ?_) | (refine x5 fun K hK => ?_) | ((first | apply j6 | apply x7 | ((first | refine z6 (hK _ ?_) | refine x6 (hK _ _ j5 ?_));clear hK K));(first | show AWP _ _ _ _ _ | ((try simp only [j7]);first | show loopQ _ _ _ _ _ _ | show cutQ _ _ _ _ | show AWP _ _ _ _ _))) | ((first | refine q10 rfl rfl rfl ?_ | refine z10 rfl rfl rfl ?_);simp (disch:=omega) only [go_sem,seval,hd,cb,q1,q2];(first | refine ⟨_,t1,?_⟩ | refine ⟨_,t2,?_⟩)) | ((first | refine x8 [] rfl ?_ | refine j8 [] rfl ?_);simp (disch:=omega) only [go_sem,seval,hd,cb,q1,q2];(repeat (first | refine ⟨by omega,?_⟩ | refine ⟨True.intro,?_⟩)))))
    refine x5 fun K hK => ?_
    iterate 2 ((first | refine z11 [] rfl rfl ?_ | refine x11 [] rfl rfl ?_ | refine j10 rfl rfl ?_ | refine q11 rfl rfl ?_);simp (disch:=omega) only [go_sem,seval,hd,cb,q1,q2];(repeat (first | refine ⟨by omega,?_⟩ | refine ⟨True.intro,?_⟩)))
    (refine x12 [(1000,503),(1001,501),(1999,1999)] [503,501,1999] rfl rfl rfl rfl rfl rfl (kO) (by repeat (first | exact trivial | refine ⟨rfl,rfl,rfl,?_⟩)) ?_);simp (disch:=omega) only [go_sem,seval,hd,cb,q1,q2]
    iterate 2 ((first | refine z11 [] rfl rfl ?_ | refine x11 [] rfl rfl ?_ | refine j10 rfl rfl ?_ | refine q11 rfl rfl ?_);simp (disch:=omega) only [go_sem,seval,hd,cb,q1,q2];(repeat (first | refine ⟨by omega,?_⟩ | refine ⟨True.intro,?_⟩)))
    (refine x12 [(1000,503),(1001,501),(1999,1999)] [503,501,1999] rfl rfl rfl rfl rfl rfl (kP) (by repeat (first | exact trivial | refine ⟨rfl,rfl,rfl,?_⟩)) ?_);simp (disch:=omega) only [go_sem,seval,hd,cb,q1,q2]
    iterate 2 ((first | refine z11 [] rfl rfl ?_ | refine x11 [] rfl rfl ?_ | refine j10 rfl rfl ?_ | refine q11 rfl rfl ?_);simp (disch:=omega) only [go_sem,seval,hd,cb,q1,q2];(repeat (first | refine ⟨by omega,?_⟩ | refine ⟨True.intro,?_⟩)))
    (refine x12 [(1000,503),(1001,501),(1999,1999)] [503,501,1999] rfl rfl rfl rfl rfl rfl (kM) (by repeat (first | exact trivial | refine ⟨rfl,rfl,rfl,?_⟩)) ?_);simp (disch:=omega) only [go_sem,seval,hd,cb,q1,q2]
    (repeat (first | apply j0 | refine q8 rfl ?_ | refine z8 rfl ?_ | apply z7 | (refine j4 fun K hK => ?_) | (refine x5 fun K hK => ?_) | ((first | apply j6 | apply x7 | ((first | refine z6 (hK _ ?_) | refine x6 (hK _ _ j5 ?_));clear hK K));(first | show AWP _ _ _ _ _ | ((try simp only [j7]);first | show loopQ _ _ _ _ _ _ | show cutQ _ _ _ _ | show AWP _ _ _ _ _))) | ((first | refine x8 [] rfl ?_ | refine j8 [] rfl ?_);simp (disch:=omega) only [go_sem,seval,hd,cb,q1,q2];(repeat (first | refine ⟨by omega,?_⟩ | refine ⟨True.intro,?_⟩)))))
    refine x10 ⟨_,?_,rfl⟩;rw [Try.results3];simp (disch:=omega) only [ResVars,ResVar,ptrLoc,go_sem,seval,hd,cb,q1,q2]
   |true =>
    rw [hc] at t1
    simp only [if_true] at t1
    have kh := q79 c h
    unfold hd at kh
    cases hh : hasT c h with
    |false =>
     rw [hh] at kh
     cases hd' : d.sound with
     |false =>
      rw [hd'] at t2
      simp only [Bool.false_eq_true,if_false] at t2
      (repeat ((fail_if_success (show AWP _ _ (.region 10 _ _) _ _));first | apply j0 | refine q8 rfl ?_ | refine z8 rfl ?_ | apply z7 | (refine j4 fun K hK => ?_) | (refine x5 fun K hK => ?_) | ((first | apply j6 | apply x7 | ((first | refine z6 (hK _ ?_) | refine x6 (hK _ _ j5 ?_));clear hK K));(first | show AWP _ _ _ _ _ | ((try simp only [j7]);first | show loopQ _ _ _ _ _ _ | show cutQ _ _ _ _ | show AWP _ _ _ _ _))) | ((first | refine q10 rfl rfl rfl ?_ | refine z10 rfl rfl rfl ?_);simp (disch:=omega) only [go_sem,seval,hd,cb,q1,q2];(first | refine ⟨_,t1,?_⟩ | refine ⟨_,t2,?_⟩)) | ((first | refine x8 [] rfl ?_ | refine j8 [] rfl ?_);simp (disch:=omega) only [go_sem,seval,hd,cb,q1,q2];(repeat (first | refine ⟨by omega,?_⟩ | refine ⟨True.intro,?_⟩)))))
      refine x5 fun K hK => ?_
      iterate 2 ((first | refine z11 [] rfl rfl ?_ | refine x11 [] rfl rfl ?_ | refine j10 rfl rfl ?_ | refine q11 rfl rfl ?_);simp (disch:=omega) only [go_sem,seval,hd,cb,q1,q2];(repeat (first | refine ⟨by omega,?_⟩ | refine ⟨True.intro,?_⟩)))
      (refine x12 [(1000,503),(1001,501),(1999,1999)] [503,501,1999] rfl rfl rfl rfl rfl rfl (kO) (by repeat (first | exact trivial | refine ⟨rfl,rfl,rfl,?_⟩)) ?_);simp (disch:=omega) only [go_sem,seval,hd,cb,q1,q2]
      iterate 2 ((first | refine z11 [] rfl rfl ?_ | refine x11 [] rfl rfl ?_ | refine j10 rfl rfl ?_ | refine q11 rfl rfl ?_);simp (disch:=omega) only [go_sem,seval,hd,cb,q1,q2];(repeat (first | refine ⟨by omega,?_⟩ | refine ⟨True.intro,?_⟩)))
      (refine x12 [(1000,503),(1001,501),(1999,1999)] [503,501,1999] rfl rfl rfl rfl rfl rfl (kP) (by repeat (first | exact trivial | refine ⟨rfl,rfl,rfl,?_⟩)) ?_);simp (disch:=omega) only [go_sem,seval,hd,cb,q1,q2]
      iterate 2 ((first | refine z11 [] rfl rfl ?_ | refine x11 [] rfl rfl ?_ | refine j10 rfl rfl ?_ | refine q11 rfl rfl ?_);simp (disch:=omega) only [go_sem,seval,hd,cb,q1,q2];(repeat (first | refine ⟨by omega,?_⟩ | refine ⟨True.intro,?_⟩)))
      (refine x12 [(1000,503),(1001,501),(1999,1999)] [503,501,1999] rfl rfl rfl rfl rfl rfl (kM) (by repeat (first | exact trivial | refine ⟨rfl,rfl,rfl,?_⟩)) ?_);simp (disch:=omega) only [go_sem,seval,hd,cb,q1,q2]
      (repeat (first | apply j0 | refine q8 rfl ?_ | refine z8 rfl ?_ | apply z7 | (refine j4 fun K hK => ?_) | (refine x5 fun K hK => ?_) | ((first | apply j6 | apply x7 | ((first | refine z6 (hK _ ?_) | refine x6 (hK _ _ j5 ?_));clear hK K));(first | show AWP _ _ _ _ _ | ((try simp only [j7]);first | show loopQ _ _ _ _ _ _ | show cutQ _ _ _ _ | show AWP _ _ _ _ _))) | ((first | refine q10 rfl rfl rfl ?_ | refine z10 rfl rfl rfl ?_);simp (disch:=omega) only [go_sem,seval,hd,cb,q1,q2];(first | refine ⟨_,kh,?_⟩)) | ((first | refine x8 [] rfl ?_ | refine j8 [] rfl ?_);simp (disch:=omega) only [go_sem,seval,hd,cb,q1,q2];(repeat (first | refine ⟨by omega,?_⟩ | refine ⟨True.intro,?_⟩)))))
      refine x10 ⟨_,?_,rfl⟩;rw [Try.results3];simp (disch:=omega) only [ResVars,ResVar,ptrLoc,go_sem,seval,hd,cb,q1,q2]
     |true =>
      rw [hd'] at t2
      simp only [if_true] at t2
      have kw := j41 c d
      cases hw : withinT c d with
      |false =>
       rw [hw] at kw
       (repeat ((fail_if_success (show AWP _ _ (.region 10 _ _) _ _));first | apply j0 | refine q8 rfl ?_ | refine z8 rfl ?_ | apply z7 | (refine j4 fun K hK => ?_) | (refine x5 fun K hK => ?_) | ((first | apply j6 | apply x7 | ((first | refine z6 (hK _ ?_) | refine x6 (hK _ _ j5 ?_));clear hK K));(first | show AWP _ _ _ _ _ | ((try simp only [j7]);first | show loopQ _ _ _ _ _ _ | show cutQ _ _ _ _ | show AWP _ _ _ _ _))) | ((first | refine q10 rfl rfl rfl ?_ | refine z10 rfl rfl rfl ?_);simp (disch:=omega) only [go_sem,seval,hd,cb,q1,q2];(first | refine ⟨_,t1,?_⟩ | refine ⟨_,t2,?_⟩)) | ((first | refine x8 [] rfl ?_ | refine j8 [] rfl ?_);simp (disch:=omega) only [go_sem,seval,hd,cb,q1,q2];(repeat (first | refine ⟨by omega,?_⟩ | refine ⟨True.intro,?_⟩)))))
       refine x5 fun K hK => ?_
       iterate 2 ((first | refine z11 [] rfl rfl ?_ | refine x11 [] rfl rfl ?_ | refine j10 rfl rfl ?_ | refine q11 rfl rfl ?_);simp (disch:=omega) only [go_sem,seval,hd,cb,q1,q2];(repeat (first | refine ⟨by omega,?_⟩ | refine ⟨True.intro,?_⟩)))
       (refine x12 [(1000,503),(1001,501),(1999,1999)] [503,501,1999] rfl rfl rfl rfl rfl rfl (kO) (by repeat (first | exact trivial | refine ⟨rfl,rfl,rfl,?_⟩)) ?_);simp (disch:=omega) only [go_sem,seval,hd,cb,q1,q2]
       iterate 2 ((first | refine z11 [] rfl rfl ?_ | refine x11 [] rfl rfl ?_ | refine j10 rfl rfl ?_ | refine q11 rfl rfl ?_);simp (disch:=omega) only [go_sem,seval,hd,cb,q1,q2];(repeat (first | refine ⟨by omega,?_⟩ | refine ⟨True.intro,?_⟩)))
       (refine x12 [(1000,503),(1001,501),(1999,1999)] [503,501,1999] rfl rfl rfl rfl rfl rfl (kP) (by repeat (first | exact trivial | refine ⟨rfl,rfl,rfl,?_⟩)) ?_);simp (disch:=omega) only [go_sem,seval,hd,cb,q1,q2]
       iterate 2 ((first | refine z11 [] rfl rfl ?_ | refine x11 [] rfl rfl ?_ | refine j10 rfl rfl ?_ | refine q11 rfl rfl ?_);simp (disch:=omega) only [go_sem,seval,hd,cb,q1,q2];(repeat (first | refine ⟨by omega,?_⟩ | refine ⟨True.intro,?_⟩)))
       (refine x12 [(1000,503),(1001,501),(1999,1999)] [503,501,1999] rfl rfl rfl rfl rfl rfl (kM) (by repeat (first | exact trivial | refine ⟨rfl,rfl,rfl,?_⟩)) ?_);simp (disch:=omega) only [go_sem,seval,hd,cb,q1,q2]
       (repeat (first | apply j0 | refine q8 rfl ?_ | refine z8 rfl ?_ | apply z7 | (refine j4 fun K hK => ?_) | (refine x5 fun K hK => ?_) | ((first | apply j6 | apply x7 | ((first | refine z6 (hK _ ?_) | refine x6 (hK _ _ j5 ?_));clear hK K));(first | show AWP _ _ _ _ _ | ((try simp only [j7]);first | show loopQ _ _ _ _ _ _ | show cutQ _ _ _ _ | show AWP _ _ _ _ _))) | ((first | refine q10 rfl rfl rfl ?_ | refine z10 rfl rfl rfl ?_);simp (disch:=omega) only [go_sem,seval,hd,cb,q1,q2];(first | refine ⟨_,kh,?_⟩ | refine ⟨_,kw,?_⟩)) | ((first | refine x8 [] rfl ?_ | refine j8 [] rfl ?_);simp (disch:=omega) only [go_sem,seval,hd,cb,q1,q2];(repeat (first | refine ⟨by omega,?_⟩ | refine ⟨True.intro,?_⟩)))))
       refine x10 ⟨_,?_,rfl⟩;rw [Try.results3];simp (disch:=omega) only [ResVars,ResVar,ptrLoc,go_sem,seval,hd,cb,q1,q2]
      |true =>
       rw [hw] at kw
       have kB := q30 (fndZ l c) (fndZ l d) (by omega) (by omega) (fun z hz => by
        obtain ⟨y,y1,y2,y3⟩ := x20.1 hz
        exact x20.2 ⟨y,y1,j44 hd' hw y2,y3⟩) (z30 hu _)
       (repeat ((fail_if_success (show AWP _ _ (.region 10 _ _) _ _));first | apply j0 | refine q8 rfl ?_ | refine z8 rfl ?_ | apply z7 | (refine j4 fun K hK => ?_) | (refine x5 fun K hK => ?_) | ((first | apply j6 | apply x7 | ((first | refine z6 (hK _ ?_) | refine x6 (hK _ _ j5 ?_));clear hK K));(first | show AWP _ _ _ _ _ | ((try simp only [j7]);first | show loopQ _ _ _ _ _ _ | show cutQ _ _ _ _ | show AWP _ _ _ _ _))) | ((first | refine q10 rfl rfl rfl ?_ | refine z10 rfl rfl rfl ?_);simp (disch:=omega) only [go_sem,seval,hd,cb,q1,q2];(first | refine ⟨_,t1,?_⟩ | refine ⟨_,t2,?_⟩)) | ((first | refine x8 [] rfl ?_ | refine j8 [] rfl ?_);simp (disch:=omega) only [go_sem,seval,hd,cb,q1,q2];(repeat (first | refine ⟨by omega,?_⟩ | refine ⟨True.intro,?_⟩)))))
       refine x5 fun K hK => ?_
       iterate 2 ((first | refine z11 [] rfl rfl ?_ | refine x11 [] rfl rfl ?_ | refine j10 rfl rfl ?_ | refine q11 rfl rfl ?_);simp (disch:=omega) only [go_sem,seval,hd,cb,q1,q2];(repeat (first | refine ⟨by omega,?_⟩ | refine ⟨True.intro,?_⟩)))
       (refine x12 [(1000,503),(1001,501),(1999,1999)] [503,501,1999] rfl rfl rfl rfl rfl rfl (kO) (by repeat (first | exact trivial | refine ⟨rfl,rfl,rfl,?_⟩)) ?_);simp (disch:=omega) only [go_sem,seval,hd,cb,q1,q2]
       iterate 2 ((first | refine z11 [] rfl rfl ?_ | refine x11 [] rfl rfl ?_ | refine j10 rfl rfl ?_ | refine q11 rfl rfl ?_);simp (disch:=omega) only [go_sem,seval,hd,cb,q1,q2];(repeat (first | refine ⟨by omega,?_⟩ | refine ⟨True.intro,?_⟩)))
       (refine x12 [(1000,503),(1001,501),(1999,1999)] [503,501,1999] rfl rfl rfl rfl rfl rfl (kP) (by repeat (first | exact trivial | refine ⟨rfl,rfl,rfl,?_⟩)) ?_);simp (disch:=omega) only [go_sem,seval,hd,cb,q1,q2]
       iterate 2 ((first | refine z11 [] rfl rfl ?_ | refine x11 [] rfl rfl ?_ | refine j10 rfl rfl ?_ | refine q11 rfl rfl ?_);simp (disch:=omega) only [go_sem,seval,hd,cb,q1,q2];(repeat (first | refine ⟨by omega,?_⟩ | refine ⟨True.intro,?_⟩)))
       (refine x12 [(1000,503),(1001,501),(1999,1999)] [503,501,1999] rfl rfl rfl rfl rfl rfl (kM) (by repeat (first | exact trivial | refine ⟨rfl,rfl,rfl,?_⟩)) ?_);simp (disch:=omega) only [go_sem,seval,hd,cb,q1,q2]
       (repeat (first | apply j0 | refine q8 rfl ?_ | refine z8 rfl ?_ | apply z7 | (refine j4 fun K hK => ?_) | (refine x5 fun K hK => ?_) | ((first | apply j6 | apply x7 | ((first | refine z6 (hK _ ?_) | refine x6 (hK _ _ j5 ?_));clear hK K));(first | show AWP _ _ _ _ _ | ((try simp only [j7]);first | show loopQ _ _ _ _ _ _ | show cutQ _ _ _ _ | show AWP _ _ _ _ _))) | ((first | refine q10 rfl rfl rfl ?_ | refine z10 rfl rfl rfl ?_);simp (disch:=omega) only [go_sem,seval,hd,cb,q1,q2];(first | refine ⟨_,kh,?_⟩ | refine ⟨_,kw,?_⟩ | refine ⟨_,kB,?_⟩)) | ((first | refine x8 [] rfl ?_ | refine j8 [] rfl ?_);simp (disch:=omega) only [go_sem,seval,hd,cb,q1,q2];(repeat (first | refine ⟨by omega,?_⟩ | refine ⟨True.intro,?_⟩)))))
       refine x10 ⟨_,?_,rfl⟩;rw [Try.results3];simp (disch:=omega) only [ResVars,ResVar,ptrLoc,go_sem,seval,hd,cb,q1,q2]
    |true =>
     rw [hh] at kh
     have kA := q30 (fndZ l (headC h)) (fndZ l c) (by omega) (by omega) (fun z hz => by
      obtain ⟨y,y1,y2,y3⟩ := x20.1 hz
      exact x20.2 ⟨y,y1,z87 hc hh y2,y3⟩) (z30 hu _)
     cases hd' : d.sound with
     |false =>
      rw [hd'] at t2
      simp only [Bool.false_eq_true,if_false] at t2
      (repeat ((fail_if_success (show AWP _ _ (.region 10 _ _) _ _));first | apply j0 | refine q8 rfl ?_ | refine z8 rfl ?_ | apply z7 | (refine j4 fun K hK => ?_) | (refine x5 fun K hK => ?_) | ((first | apply j6 | apply x7 | ((first | refine z6 (hK _ ?_) | refine x6 (hK _ _ j5 ?_));clear hK K));(first | show AWP _ _ _ _ _ | ((try simp only [j7]);first | show loopQ _ _ _ _ _ _ | show cutQ _ _ _ _ | show AWP _ _ _ _ _))) | ((first | refine q10 rfl rfl rfl ?_ | refine z10 rfl rfl rfl ?_);simp (disch:=omega) only [go_sem,seval,hd,cb,q1,q2];(first | refine ⟨_,t1,?_⟩ | refine ⟨_,t2,?_⟩)) | ((first | refine x8 [] rfl ?_ | refine j8 [] rfl ?_);simp (disch:=omega) only [go_sem,seval,hd,cb,q1,q2];(repeat (first | refine ⟨by omega,?_⟩ | refine ⟨True.intro,?_⟩)))))
      refine x5 fun K hK => ?_
      iterate 2 ((first | refine z11 [] rfl rfl ?_ | refine x11 [] rfl rfl ?_ | refine j10 rfl rfl ?_ | refine q11 rfl rfl ?_);simp (disch:=omega) only [go_sem,seval,hd,cb,q1,q2];(repeat (first | refine ⟨by omega,?_⟩ | refine ⟨True.intro,?_⟩)))
      (refine x12 [(1000,503),(1001,501),(1999,1999)] [503,501,1999] rfl rfl rfl rfl rfl rfl (kO) (by repeat (first | exact trivial | refine ⟨rfl,rfl,rfl,?_⟩)) ?_);simp (disch:=omega) only [go_sem,seval,hd,cb,q1,q2]
      iterate 2 ((first | refine z11 [] rfl rfl ?_ | refine x11 [] rfl rfl ?_ | refine j10 rfl rfl ?_ | refine q11 rfl rfl ?_);simp (disch:=omega) only [go_sem,seval,hd,cb,q1,q2];(repeat (first | refine ⟨by omega,?_⟩ | refine ⟨True.intro,?_⟩)))
      (refine x12 [(1000,503),(1001,501),(1999,1999)] [503,501,1999] rfl rfl rfl rfl rfl rfl (kP) (by repeat (first | exact trivial | refine ⟨rfl,rfl,rfl,?_⟩)) ?_);simp (disch:=omega) only [go_sem,seval,hd,cb,q1,q2]
      iterate 2 ((first | refine z11 [] rfl rfl ?_ | refine x11 [] rfl rfl ?_ | refine j10 rfl rfl ?_ | refine q11 rfl rfl ?_);simp (disch:=omega) only [go_sem,seval,hd,cb,q1,q2];(repeat (first | refine ⟨by omega,?_⟩ | refine ⟨True.intro,?_⟩)))
      (refine x12 [(1000,503),(1001,501),(1999,1999)] [503,501,1999] rfl rfl rfl rfl rfl rfl (kM) (by repeat (first | exact trivial | refine ⟨rfl,rfl,rfl,?_⟩)) ?_);simp (disch:=omega) only [go_sem,seval,hd,cb,q1,q2]
      (repeat (first | apply j0 | refine q8 rfl ?_ | refine z8 rfl ?_ | apply z7 | (refine j4 fun K hK => ?_) | (refine x5 fun K hK => ?_) | ((first | apply j6 | apply x7 | ((first | refine z6 (hK _ ?_) | refine x6 (hK _ _ j5 ?_));clear hK K));(first | show AWP _ _ _ _ _ | ((try simp only [j7]);first | show loopQ _ _ _ _ _ _ | show cutQ _ _ _ _ | show AWP _ _ _ _ _))) | ((first | refine q10 rfl rfl rfl ?_ | refine z10 rfl rfl rfl ?_);simp (disch:=omega) only [go_sem,seval,hd,cb,q1,q2];(first | refine ⟨_,kh,?_⟩ | refine ⟨_,kA,?_⟩)) | ((first | refine x8 [] rfl ?_ | refine j8 [] rfl ?_);simp (disch:=omega) only [go_sem,seval,hd,cb,q1,q2];(repeat (first | refine ⟨by omega,?_⟩ | refine ⟨True.intro,?_⟩)))))
      refine x10 ⟨_,?_,rfl⟩;rw [Try.results3];simp (disch:=omega) only [ResVars,ResVar,ptrLoc,go_sem,seval,hd,cb,q1,q2]
     |true =>
      rw [hd'] at t2
      simp only [if_true] at t2
      have kw := j41 c d
      cases hw : withinT c d with
      |false =>
       rw [hw] at kw
       (repeat ((fail_if_success (show AWP _ _ (.region 10 _ _) _ _));first | apply j0 | refine q8 rfl ?_ | refine z8 rfl ?_ | apply z7 | (refine j4 fun K hK => ?_) | (refine x5 fun K hK => ?_) | ((first | apply j6 | apply x7 | ((first | refine z6 (hK _ ?_) | refine x6 (hK _ _ j5 ?_));clear hK K));(first | show AWP _ _ _ _ _ | ((try simp only [j7]);first | show loopQ _ _ _ _ _ _ | show cutQ _ _ _ _ | show AWP _ _ _ _ _))) | ((first | refine q10 rfl rfl rfl ?_ | refine z10 rfl rfl rfl ?_);simp (disch:=omega) only [go_sem,seval,hd,cb,q1,q2];(first | refine ⟨_,t1,?_⟩ | refine ⟨_,t2,?_⟩)) | ((first | refine x8 [] rfl ?_ | refine j8 [] rfl ?_);simp (disch:=omega) only [go_sem,seval,hd,cb,q1,q2];(repeat (first | refine ⟨by omega,?_⟩ | refine ⟨True.intro,?_⟩)))))
       refine x5 fun K hK => ?_
       iterate 2 ((first | refine z11 [] rfl rfl ?_ | refine x11 [] rfl rfl ?_ | refine j10 rfl rfl ?_ | refine q11 rfl rfl ?_);simp (disch:=omega) only [go_sem,seval,hd,cb,q1,q2];(repeat (first | refine ⟨by omega,?_⟩ | refine ⟨True.intro,?_⟩)))
       (refine x12 [(1000,503),(1001,501),(1999,1999)] [503,501,1999] rfl rfl rfl rfl rfl rfl (kO) (by repeat (first | exact trivial | refine ⟨rfl,rfl,rfl,?_⟩)) ?_);simp (disch:=omega) only [go_sem,seval,hd,cb,q1,q2]
       iterate 2 ((first | refine z11 [] rfl rfl ?_ | refine x11 [] rfl rfl ?_ | refine j10 rfl rfl ?_ | refine q11 rfl rfl ?_);simp (disch:=omega) only [go_sem,seval,hd,cb,q1,q2];(repeat (first | refine ⟨by omega,?_⟩ | refine ⟨True.intro,?_⟩)))
       (refine x12 [(1000,503),(1001,501),(1999,1999)] [503,501,1999] rfl rfl rfl rfl rfl rfl (kP) (by repeat (first | exact trivial | refine ⟨rfl,rfl,rfl,?_⟩)) ?_);simp (disch:=omega) only [go_sem,seval,hd,cb,q1,q2]
       iterate 2 ((first | refine z11 [] rfl rfl ?_ | refine x11 [] rfl rfl ?_ | refine j10 rfl rfl ?_ | refine q11 rfl rfl ?_);simp (disch:=omega) only [go_sem,seval,hd,cb,q1,q2];(repeat (first | refine ⟨by omega,?_⟩ | refine ⟨True.intro,?_⟩)))
       (refine x12 [(1000,503),(1001,501),(1999,1999)] [503,501,1999] rfl rfl rfl rfl rfl rfl (kM) (by repeat (first | exact trivial | refine ⟨rfl,rfl,rfl,?_⟩)) ?_);simp (disch:=omega) only [go_sem,seval,hd,cb,q1,q2]
       (repeat (first | apply j0 | refine q8 rfl ?_ | refine z8 rfl ?_ | apply z7 | (refine j4 fun K hK => ?_) | (refine x5 fun K hK => ?_) | ((first | apply j6 | apply x7 | ((first | refine z6 (hK _ ?_) | refine x6 (hK _ _ j5 ?_));clear hK K));(first | show AWP _ _ _ _ _ | ((try simp only [j7]);first | show loopQ _ _ _ _ _ _ | show cutQ _ _ _ _ | show AWP _ _ _ _ _))) | ((first | refine q10 rfl rfl rfl ?_ | refine z10 rfl rfl rfl ?_);simp (disch:=omega) only [go_sem,seval,hd,cb,q1,q2];(first | refine ⟨_,kh,?_⟩ | refine ⟨_,kA,?_⟩ | refine ⟨_,kw,?_⟩)) | ((first | refine x8 [] rfl ?_ | refine j8 [] rfl ?_);simp (disch:=omega) only [go_sem,seval,hd,cb,q1,q2];(repeat (first | refine ⟨by omega,?_⟩ | refine ⟨True.intro,?_⟩)))))
       refine x10 ⟨_,?_,rfl⟩;rw [Try.results3];simp (disch:=omega) only [ResVars,ResVar,ptrLoc,go_sem,seval,hd,cb,q1,q2]
      |true =>
       rw [hw] at kw
       have kB := q30 (fndZ l c) (fndZ l d) (by omega) (by omega) (fun z hz => by
        obtain ⟨y,y1,y2,y3⟩ := x20.1 hz
        exact x20.2 ⟨y,y1,j44 hd' hw y2,y3⟩) (z30 hu _)
       (repeat ((fail_if_success (show AWP _ _ (.region 10 _ _) _ _));first | apply j0 | refine q8 rfl ?_ | refine z8 rfl ?_ | apply z7 | (refine j4 fun K hK => ?_) | (refine x5 fun K hK => ?_) | ((first | apply j6 | apply x7 | ((first | refine z6 (hK _ ?_) | refine x6 (hK _ _ j5 ?_));clear hK K));(first | show AWP _ _ _ _ _ | ((try simp only [j7]);first | show loopQ _ _ _ _ _ _ | show cutQ _ _ _ _ | show AWP _ _ _ _ _))) | ((first | refine q10 rfl rfl rfl ?_ | refine z10 rfl rfl rfl ?_);simp (disch:=omega) only [go_sem,seval,hd,cb,q1,q2];(first | refine ⟨_,t1,?_⟩ | refine ⟨_,t2,?_⟩)) | ((first | refine x8 [] rfl ?_ | refine j8 [] rfl ?_);simp (disch:=omega) only [go_sem,seval,hd,cb,q1,q2];(repeat (first | refine ⟨by omega,?_⟩ | refine ⟨True.intro,?_⟩)))))
       refine x5 fun K hK => ?_
       iterate 2 ((first | refine z11 [] rfl rfl ?_ | refine x11 [] rfl rfl ?_ | refine j10 rfl rfl ?_ | refine q11 rfl rfl ?_);simp (disch:=omega) only [go_sem,seval,hd,cb,q1,q2];(repeat (first | refine ⟨by omega,?_⟩ | refine ⟨True.intro,?_⟩)))
       (refine x12 [(1000,503),(1001,501),(1999,1999)] [503,501,1999] rfl rfl rfl rfl rfl rfl (kO) (by repeat (first | exact trivial | refine ⟨rfl,rfl,rfl,?_⟩)) ?_);simp (disch:=omega) only [go_sem,seval,hd,cb,q1,q2]
       iterate 2 ((first | refine z11 [] rfl rfl ?_ | refine x11 [] rfl rfl ?_ | refine j10 rfl rfl ?_ | refine q11 rfl rfl ?_);simp (disch:=omega) only [go_sem,seval,hd,cb,q1,q2];(repeat (first | refine ⟨by omega,?_⟩ | refine ⟨True.intro,?_⟩)))
       (refine x12 [(1000,503),(1001,501),(1999,1999)] [503,501,1999] rfl rfl rfl rfl rfl rfl (kP) (by repeat (first | exact trivial | refine ⟨rfl,rfl,rfl,?_⟩)) ?_);simp (disch:=omega) only [go_sem,seval,hd,cb,q1,q2]
       iterate 2 ((first | refine z11 [] rfl rfl ?_ | refine x11 [] rfl rfl ?_ | refine j10 rfl rfl ?_ | refine q11 rfl rfl ?_);simp (disch:=omega) only [go_sem,seval,hd,cb,q1,q2];(repeat (first | refine ⟨by omega,?_⟩ | refine ⟨True.intro,?_⟩)))
       (refine x12 [(1000,503),(1001,501),(1999,1999)] [503,501,1999] rfl rfl rfl rfl rfl rfl (kM) (by repeat (first | exact trivial | refine ⟨rfl,rfl,rfl,?_⟩)) ?_);simp (disch:=omega) only [go_sem,seval,hd,cb,q1,q2]
       (repeat (first | apply j0 | refine q8 rfl ?_ | refine z8 rfl ?_ | apply z7 | (refine j4 fun K hK => ?_) | (refine x5 fun K hK => ?_) | ((first | apply j6 | apply x7 | ((first | refine z6 (hK _ ?_) | refine x6 (hK _ _ j5 ?_));clear hK K));(first | show AWP _ _ _ _ _ | ((try simp only [j7]);first | show loopQ _ _ _ _ _ _ | show cutQ _ _ _ _ | show AWP _ _ _ _ _))) | ((first | refine q10 rfl rfl rfl ?_ | refine z10 rfl rfl rfl ?_);simp (disch:=omega) only [go_sem,seval,hd,cb,q1,q2];(first | refine ⟨_,kh,?_⟩ | refine ⟨_,kA,?_⟩ | refine ⟨_,kw,?_⟩ | refine ⟨_,kB,?_⟩)) | ((first | refine x8 [] rfl ?_ | refine j8 [] rfl ?_);simp (disch:=omega) only [go_sem,seval,hd,cb,q1,q2];(repeat (first | refine ⟨by omega,?_⟩ | refine ⟨True.intro,?_⟩)))))
       refine x10 ⟨_,?_,rfl⟩;rw [Try.results3];simp (disch:=omega) only [ResVars,ResVar,ptrLoc,go_sem,seval,hd,cb,q1,q2]
  |false =>
   cases hc : c.sound with
   |false =>
    rw [hc] at t1
    simp only [Bool.false_eq_true,if_false] at t1
    (repeat ((fail_if_success (show AWP _ _ (.region 10 _ _) _ _));first | apply j0 | refine q8 rfl ?_ | refine z8 rfl ?_ | apply z7 | (refine j4 fun K hK => ?_) | (refine x5 fun K hK => ?_) | ((first | apply j6 | apply x7 | ((first | refine z6 (hK _ ?_) | refine x6 (hK _ _ j5 ?_));clear hK K));(first | show AWP _ _ _ _ _ | ((try simp only [j7]);first | show loopQ _ _ _ _ _ _ | show cutQ _ _ _ _ | show AWP _ _ _ _ _))) | ((first | refine q10 rfl rfl rfl ?_ | refine z10 rfl rfl rfl ?_);simp (disch:=omega) only [go_sem,seval,hd,cb,q1,q2];(first | refine ⟨_,t1,?_⟩ | refine ⟨_,t2,?_⟩)) | ((first | refine x8 [] rfl ?_ | refine j8 [] rfl ?_);simp (disch:=omega) only [go_sem,seval,hd,cb,q1,q2];(repeat (first | refine ⟨by omega,?_⟩ | refine ⟨True.intro,?_⟩)))))
    refine x5 fun K hK => ?_
    iterate 2 ((first | refine z11 [] rfl rfl ?_ | refine x11 [] rfl rfl ?_ | refine j10 rfl rfl ?_ | refine q11 rfl rfl ?_);simp (disch:=omega) only [go_sem,seval,hd,cb,q1,q2];(repeat (first | refine ⟨by omega,?_⟩ | refine ⟨True.intro,?_⟩)))
    (refine x12 [(1000,503),(1001,501),(1999,1999)] [503,501,1999] rfl rfl rfl rfl rfl rfl (kO) (by repeat (first | exact trivial | refine ⟨rfl,rfl,rfl,?_⟩)) ?_);simp (disch:=omega) only [go_sem,seval,hd,cb,q1,q2]
    iterate 2 ((first | refine z11 [] rfl rfl ?_ | refine x11 [] rfl rfl ?_ | refine j10 rfl rfl ?_ | refine q11 rfl rfl ?_);simp (disch:=omega) only [go_sem,seval,hd,cb,q1,q2];(repeat (first | refine ⟨by omega,?_⟩ | refine ⟨True.intro,?_⟩)))
    (refine x12 [(1000,503),(1001,501),(1999,1999)] [503,501,1999] rfl rfl rfl rfl rfl rfl (kP) (by repeat (first | exact trivial | refine ⟨rfl,rfl,rfl,?_⟩)) ?_);simp (disch:=omega) only [go_sem,seval,hd,cb,q1,q2]
    iterate 2 ((first | refine z11 [] rfl rfl ?_ | refine x11 [] rfl rfl ?_ | refine j10 rfl rfl ?_ | refine q11 rfl rfl ?_);simp (disch:=omega) only [go_sem,seval,hd,cb,q1,q2];(repeat (first | refine ⟨by omega,?_⟩ | refine ⟨True.intro,?_⟩)))
    (refine x12 [(1000,503),(1001,501),(1999,1999)] [503,501,1999] rfl rfl rfl rfl rfl rfl (kM) (by repeat (first | exact trivial | refine ⟨rfl,rfl,rfl,?_⟩)) ?_);simp (disch:=omega) only [go_sem,seval,hd,cb,q1,q2]
    (repeat (first | apply j0 | refine q8 rfl ?_ | refine z8 rfl ?_ | apply z7 | (refine j4 fun K hK => ?_) | (refine x5 fun K hK => ?_) | ((first | apply j6 | apply x7 | ((first | refine z6 (hK _ ?_) | refine x6 (hK _ _ j5 ?_));clear hK K));(first | show AWP _ _ _ _ _ | ((try simp only [j7]);first | show loopQ _ _ _ _ _ _ | show cutQ _ _ _ _ | show AWP _ _ _ _ _))) | ((first | refine x8 [] rfl ?_ | refine j8 [] rfl ?_);simp (disch:=omega) only [go_sem,seval,hd,cb,q1,q2];(repeat (first | refine ⟨by omega,?_⟩ | refine ⟨True.intro,?_⟩)))))
    refine x10 ⟨_,?_,rfl⟩;rw [Try.results3];simp (disch:=omega) only [ResVars,ResVar,ptrLoc,go_sem,seval,hd,cb,q1,q2]
   |true =>
    rw [hc] at t1
    simp only [if_true] at t1
    have kh := q79 c h
    unfold hd at kh
    cases hh : hasT c h with
    |false =>
     rw [hh] at kh
     cases hd' : d.sound with
     |false =>
      rw [hd'] at t2
      simp only [Bool.false_eq_true,if_false] at t2
      (repeat ((fail_if_success (show AWP _ _ (.region 10 _ _) _ _));first | apply j0 | refine q8 rfl ?_ | refine z8 rfl ?_ | apply z7 | (refine j4 fun K hK => ?_) | (refine x5 fun K hK => ?_) | ((first | apply j6 | apply x7 | ((first | refine z6 (hK _ ?_) | refine x6 (hK _ _ j5 ?_));clear hK K));(first | show AWP _ _ _ _ _ | ((try simp only [j7]);first | show loopQ _ _ _ _ _ _ | show cutQ _ _ _ _ | show AWP _ _ _ _ _))) | ((first | refine q10 rfl rfl rfl ?_ | refine z10 rfl rfl rfl ?_);simp (disch:=omega) only [go_sem,seval,hd,cb,q1,q2];(first | refine ⟨_,t1,?_⟩ | refine ⟨_,t2,?_⟩)) | ((first | refine x8 [] rfl ?_ | refine j8 [] rfl ?_);simp (disch:=omega) only [go_sem,seval,hd,cb,q1,q2];(repeat (first | refine ⟨by omega,?_⟩ | refine ⟨True.intro,?_⟩)))))
      refine x5 fun K hK => ?_
      iterate 2 ((first | refine z11 [] rfl rfl ?_ | refine x11 [] rfl rfl ?_ | refine j10 rfl rfl ?_ | refine q11 rfl rfl ?_);simp (disch:=omega) only [go_sem,seval,hd,cb,q1,q2];(repeat (first | refine ⟨by omega,?_⟩ | refine ⟨True.intro,?_⟩)))
      (refine x12 [(1000,503),(1001,501),(1999,1999)] [503,501,1999] rfl rfl rfl rfl rfl rfl (kO) (by repeat (first | exact trivial | refine ⟨rfl,rfl,rfl,?_⟩)) ?_);simp (disch:=omega) only [go_sem,seval,hd,cb,q1,q2]
      iterate 2 ((first | refine z11 [] rfl rfl ?_ | refine x11 [] rfl rfl ?_ | refine j10 rfl rfl ?_ | refine q11 rfl rfl ?_);simp (disch:=omega) only [go_sem,seval,hd,cb,q1,q2];(repeat (first | refine ⟨by omega,?_⟩ | refine ⟨True.intro,?_⟩)))
      (refine x12 [(1000,503),(1001,501),(1999,1999)] [503,501,1999] rfl rfl rfl rfl rfl rfl (kP) (by repeat (first | exact trivial | refine ⟨rfl,rfl,rfl,?_⟩)) ?_);simp (disch:=omega) only [go_sem,seval,hd,cb,q1,q2]
      iterate 2 ((first | refine z11 [] rfl rfl ?_ | refine x11 [] rfl rfl ?_ | refine j10 rfl rfl ?_ | refine q11 rfl rfl ?_);simp (disch:=omega) only [go_sem,seval,hd,cb,q1,q2];(repeat (first | refine ⟨by omega,?_⟩ | refine ⟨True.intro,?_⟩)))
      (refine x12 [(1000,503),(1001,501),(1999,1999)] [503,501,1999] rfl rfl rfl rfl rfl rfl (kM) (by repeat (first | exact trivial | refine ⟨rfl,rfl,rfl,?_⟩)) ?_);simp (disch:=omega) only [go_sem,seval,hd,cb,q1,q2]
      (repeat (first | apply j0 | refine q8 rfl ?_ | refine z8 rfl ?_ | apply z7 | (refine j4 fun K hK => ?_) | (refine x5 fun K hK => ?_) | ((first | apply j6 | apply x7 | ((first | refine z6 (hK _ ?_) | refine x6 (hK _ _ j5 ?_));clear hK K));(first | show AWP _ _ _ _ _ | ((try simp only [j7]);first | show loopQ _ _ _ _ _ _ | show cutQ _ _ _ _ | show AWP _ _ _ _ _))) | ((first | refine q10 rfl rfl rfl ?_ | refine z10 rfl rfl rfl ?_);simp (disch:=omega) only [go_sem,seval,hd,cb,q1,q2];(first | refine ⟨_,kh,?_⟩)) | ((first | refine x8 [] rfl ?_ | refine j8 [] rfl ?_);simp (disch:=omega) only [go_sem,seval,hd,cb,q1,q2];(repeat (first | refine ⟨by omega,?_⟩ | refine ⟨True.intro,?_⟩)))))
      refine x10 ⟨_,?_,rfl⟩;rw [Try.results3];simp (disch:=omega) only [ResVars,ResVar,ptrLoc,go_sem,seval,hd,cb,q1,q2]
     |true =>
      rw [hd'] at t2
      simp only [if_true] at t2
      have kw := j41 c d
      cases hw : withinT c d with
      |false =>
       rw [hw] at kw
       (repeat ((fail_if_success (show AWP _ _ (.region 10 _ _) _ _));first | apply j0 | refine q8 rfl ?_ | refine z8 rfl ?_ | apply z7 | (refine j4 fun K hK => ?_) | (refine x5 fun K hK => ?_) | ((first | apply j6 | apply x7 | ((first | refine z6 (hK _ ?_) | refine x6 (hK _ _ j5 ?_));clear hK K));(first | show AWP _ _ _ _ _ | ((try simp only [j7]);first | show loopQ _ _ _ _ _ _ | show cutQ _ _ _ _ | show AWP _ _ _ _ _))) | ((first | refine q10 rfl rfl rfl ?_ | refine z10 rfl rfl rfl ?_);simp (disch:=omega) only [go_sem,seval,hd,cb,q1,q2];(first | refine ⟨_,t1,?_⟩ | refine ⟨_,t2,?_⟩)) | ((first | refine x8 [] rfl ?_ | refine j8 [] rfl ?_);simp (disch:=omega) only [go_sem,seval,hd,cb,q1,q2];(repeat (first | refine ⟨by omega,?_⟩ | refine ⟨True.intro,?_⟩)))))
       refine x5 fun K hK => ?_
       iterate 2 ((first | refine z11 [] rfl rfl ?_ | refine x11 [] rfl rfl ?_ | refine j10 rfl rfl ?_ | refine q11 rfl rfl ?_);simp (disch:=omega) only [go_sem,seval,hd,cb,q1,q2];(repeat (first | refine ⟨by omega,?_⟩ | refine ⟨True.intro,?_⟩)))
       (refine x12 [(1000,503),(1001,501),(1999,1999)] [503,501,1999] rfl rfl rfl rfl rfl rfl (kO) (by repeat (first | exact trivial | refine ⟨rfl,rfl,rfl,?_⟩)) ?_);simp (disch:=omega) only [go_sem,seval,hd,cb,q1,q2]
       iterate 2 ((first | refine z11 [] rfl rfl ?_ | refine x11 [] rfl rfl ?_ | refine j10 rfl rfl ?_ | refine q11 rfl rfl ?_);simp (disch:=omega) only [go_sem,seval,hd,cb,q1,q2];(repeat (first | refine ⟨by omega,?_⟩ | refine ⟨True.intro,?_⟩)))
       (refine x12 [(1000,503),(1001,501),(1999,1999)] [503,501,1999] rfl rfl rfl rfl rfl rfl (kP) (by repeat (first | exact trivial | refine ⟨rfl,rfl,rfl,?_⟩)) ?_);simp (disch:=omega) only [go_sem,seval,hd,cb,q1,q2]
       iterate 2 ((first | refine z11 [] rfl rfl ?_ | refine x11 [] rfl rfl ?_ | refine j10 rfl rfl ?_ | refine q11 rfl rfl ?_);simp (disch:=omega) only [go_sem,seval,hd,cb,q1,q2];(repeat (first | refine ⟨by omega,?_⟩ | refine ⟨True.intro,?_⟩)))
       (refine x12 [(1000,503),(1001,501),(1999,1999)] [503,501,1999] rfl rfl rfl rfl rfl rfl (kM) (by repeat (first | exact trivial | refine ⟨rfl,rfl,rfl,?_⟩)) ?_);simp (disch:=omega) only [go_sem,seval,hd,cb,q1,q2]
       (repeat (first | apply j0 | refine q8 rfl ?_ | refine z8 rfl ?_ | apply z7 | (refine j4 fun K hK => ?_) | (refine x5 fun K hK => ?_) | ((first | apply j6 | apply x7 | ((first | refine z6 (hK _ ?_) | refine x6 (hK _ _ j5 ?_));clear hK K));(first | show AWP _ _ _ _ _ | ((try simp only [j7]);first | show loopQ _ _ _ _ _ _ | show cutQ _ _ _ _ | show AWP _ _ _ _ _))) | ((first | refine q10 rfl rfl rfl ?_ | refine z10 rfl rfl rfl ?_);simp (disch:=omega) only [go_sem,seval,hd,cb,q1,q2];(first | refine ⟨_,kh,?_⟩ | refine ⟨_,kw,?_⟩)) | ((first | refine x8 [] rfl ?_ | refine j8 [] rfl ?_);simp (disch:=omega) only [go_sem,seval,hd,cb,q1,q2];(repeat (first | refine ⟨by omega,?_⟩ | refine ⟨True.intro,?_⟩)))))
       refine x10 ⟨_,?_,rfl⟩;rw [Try.results3];simp (disch:=omega) only [ResVars,ResVar,ptrLoc,go_sem,seval,hd,cb,q1,q2]
      |true =>
       rw [hw] at kw
       have kB := q30 (fndZ l c) (fndZ l d) (by omega) (by omega) (fun z hz => by
        obtain ⟨y,y1,y2,y3⟩ := x20.1 hz
        exact x20.2 ⟨y,y1,j44 hd' hw y2,y3⟩) (z30 hu _)
       (repeat ((fail_if_success (show AWP _ _ (.region 10 _ _) _ _));first | apply j0 | refine q8 rfl ?_ | refine z8 rfl ?_ | apply z7 | (refine j4 fun K hK => ?_) | (refine x5 fun K hK => ?_) | ((first | apply j6 | apply x7 | ((first | refine z6 (hK _ ?_) | refine x6 (hK _ _ j5 ?_));clear hK K));(first | show AWP _ _ _ _ _ | ((try simp only [j7]);first | show loopQ _ _ _ _ _ _ | show cutQ _ _ _ _ | show AWP _ _ _ _ _))) | ((first | refine q10 rfl rfl rfl ?_ | refine z10 rfl rfl rfl ?_);simp (disch:=omega) only [go_sem,seval,hd,cb,q1,q2];(first | refine ⟨_,t1,?_⟩ | refine ⟨_,t2,?_⟩)) | ((first | refine x8 [] rfl ?_ | refine j8 [] rfl ?_);simp (disch:=omega) only [go_sem,seval,hd,cb,q1,q2];(repeat (first | refine ⟨by omega,?_⟩ | refine ⟨True.intro,?_⟩)))))
       refine x5 fun K hK => ?_
       iterate 2 ((first | refine z11 [] rfl rfl ?_ | refine x11 [] rfl rfl ?_ | refine j10 rfl rfl ?_ | refine q11 rfl rfl ?_);simp (disch:=omega) only [go_sem,seval,hd,cb,q1,q2];(repeat (first | refine ⟨by omega,?_⟩ | refine ⟨True.intro,?_⟩)))
       (refine x12 [(1000,503),(1001,501),(1999,1999)] [503,501,1999] rfl rfl rfl rfl rfl rfl (kO) (by repeat (first | exact trivial | refine ⟨rfl,rfl,rfl,?_⟩)) ?_);simp (disch:=omega) only [go_sem,seval,hd,cb,q1,q2]
       iterate 2 ((first | refine z11 [] rfl rfl ?_ | refine x11 [] rfl rfl ?_ | refine j10 rfl rfl ?_ | refine q11 rfl rfl ?_);simp (disch:=omega) only [go_sem,seval,hd,cb,q1,q2];(repeat (first | refine ⟨by omega,?_⟩ | refine ⟨True.intro,?_⟩)))
       (refine x12 [(1000,503),(1001,501),(1999,1999)] [503,501,1999] rfl rfl rfl rfl rfl rfl (kP) (by repeat (first | exact trivial | refine ⟨rfl,rfl,rfl,?_⟩)) ?_);simp (disch:=omega) only [go_sem,seval,hd,cb,q1,q2]
       iterate 2 ((first | refine z11 [] rfl rfl ?_ | refine x11 [] rfl rfl ?_ | refine j10 rfl rfl ?_ | refine q11 rfl rfl ?_);simp (disch:=omega) only [go_sem,seval,hd,cb,q1,q2];(repeat (first | refine ⟨by omega,?_⟩ | refine ⟨True.intro,?_⟩)))
       (refine x12 [(1000,503),(1001,501),(1999,1999)] [503,501,1999] rfl rfl rfl rfl rfl rfl (kM) (by repeat (first | exact trivial | refine ⟨rfl,rfl,rfl,?_⟩)) ?_);simp (disch:=omega) only [go_sem,seval,hd,cb,q1,q2]
       (repeat (first | apply j0 | refine q8 rfl ?_ | refine z8 rfl ?_ | apply z7 | (refine j4 fun K hK => ?_) | (refine x5 fun K hK => ?_) | ((first | apply j6 | apply x7 | ((first | refine z6 (hK _ ?_) | refine x6 (hK _ _ j5 ?_));clear hK K));(first | show AWP _ _ _ _ _ | ((try simp only [j7]);first | show loopQ _ _ _ _ _ _ | show cutQ _ _ _ _ | show AWP _ _ _ _ _))) | ((first | refine q10 rfl rfl rfl ?_ | refine z10 rfl rfl rfl ?_);simp (disch:=omega) only [go_sem,seval,hd,cb,q1,q2];(first | refine ⟨_,kh,?_⟩ | refine ⟨_,kw,?_⟩ | refine ⟨_,kB,?_⟩)) | ((first | refine x8 [] rfl ?_ | refine j8 [] rfl ?_);simp (disch:=omega) only [go_sem,seval,hd,cb,q1,q2];(repeat (first | refine ⟨by omega,?_⟩ | refine ⟨True.intro,?_⟩)))))
       refine x10 ⟨_,?_,rfl⟩;rw [Try.results3];simp (disch:=omega) only [ResVars,ResVar,ptrLoc,go_sem,seval,hd,cb,q1,q2]
    |true =>
     rw [hh] at kh
     have kA := q30 (fndZ l (headC h)) (fndZ l c) (by omega) (by omega) (fun z hz => by
      obtain ⟨y,y1,y2,y3⟩ := x20.1 hz
      exact x20.2 ⟨y,y1,z87 hc hh y2,y3⟩) (z30 hu _)
     cases hd' : d.sound with
     |false =>
      rw [hd'] at t2
      simp only [Bool.false_eq_true,if_false] at t2
      (repeat ((fail_if_success (show AWP _ _ (.region 10 _ _) _ _));first | apply j0 | refine q8 rfl ?_ | refine z8 rfl ?_ | apply z7 | (refine j4 fun K hK => ?_) | (refine x5 fun K hK => ?_) | ((first | apply j6 | apply x7 | ((first | refine z6 (hK _ ?_) | refine x6 (hK _ _ j5 ?_));clear hK K));(first | show AWP _ _ _ _ _ | ((try simp only [j7]);first | show loopQ _ _ _ _ _ _ | show cutQ _ _ _ _ | show AWP _ _ _ _ _))) | ((first | refine q10 rfl rfl rfl ?_ | refine z10 rfl rfl rfl ?_);simp (disch:=omega) only [go_sem,seval,hd,cb,q1,q2];(first | refine ⟨_,t1,?_⟩ | refine ⟨_,t2,?_⟩)) | ((first | refine x8 [] rfl ?_ | refine j8 [] rfl ?_);simp (disch:=omega) only [go_sem,seval,hd,cb,q1,q2];(repeat (first | refine ⟨by omega,?_⟩ | refine ⟨True.intro,?_⟩)))))
      refine x5 fun K hK => ?_
      iterate 2 ((first | refine z11 [] rfl rfl ?_ | refine x11 [] rfl rfl ?_ | refine j10 rfl rfl ?_ | refine q11 rfl rfl ?_);simp (disch:=omega) only [go_sem,seval,hd,cb,q1,q2];(repeat (first | refine ⟨by omega,?_⟩ | refine ⟨True.intro,?_⟩)))
      (refine x12 [(1000,503),(1001,501),(1999,1999)] [503,501,1999] rfl rfl rfl rfl rfl rfl (kO) (by repeat (first | exact trivial | refine ⟨rfl,rfl,rfl,?_⟩)) ?_);simp (disch:=omega) only [go_sem,seval,hd,cb,q1,q2]
      iterate 2 ((first | refine z11 [] rfl rfl ?_ | refine x11 [] rfl rfl ?_ | refine j10 rfl rfl ?_ | refine q11 rfl rfl ?_);simp (disch:=omega) only [go_sem,seval,hd,cb,q1,q2];(repeat (first | refine ⟨by omega,?_⟩ | refine ⟨True.intro,?_⟩)))
      (refine x12 [(1000,503),(1001,501),(1999,1999)] [503,501,1999] rfl rfl rfl rfl rfl rfl (kP) (by repeat (first | exact trivial | refine ⟨rfl,rfl,rfl,?_⟩)) ?_);simp (disch:=omega) only [go_sem,seval,hd,cb,q1,q2]
      iterate 2 ((first | refine z11 [] rfl rfl ?_ | refine x11 [] rfl rfl ?_ | refine j10 rfl rfl ?_ | refine q11 rfl rfl ?_);simp (disch:=omega) only [go_sem,seval,hd,cb,q1,q2];(repeat (first | refine ⟨by omega,?_⟩ | refine ⟨True.intro,?_⟩)))
      (refine x12 [(1000,503),(1001,501),(1999,1999)] [503,501,1999] rfl rfl rfl rfl rfl rfl (kM) (by repeat (first | exact trivial | refine ⟨rfl,rfl,rfl,?_⟩)) ?_);simp (disch:=omega) only [go_sem,seval,hd,cb,q1,q2]
      (repeat (first | apply j0 | refine q8 rfl ?_ | refine z8 rfl ?_ | apply z7 | (refine j4 fun K hK => ?_) | (refine x5 fun K hK => ?_) | ((first | apply j6 | apply x7 | ((first | refine z6 (hK _ ?_) | refine x6 (hK _ _ j5 ?_));clear hK K));(first | show AWP _ _ _ _ _ | ((try simp only [j7]);first | show loopQ _ _ _ _ _ _ | show cutQ _ _ _ _ | show AWP _ _ _ _ _))) | ((first | refine q10 rfl rfl rfl ?_ | refine z10 rfl rfl rfl ?_);simp (disch:=omega) only [go_sem,seval,hd,cb,q1,q2];(first | refine ⟨_,kh,?_⟩ | refine ⟨_,kA,?_⟩)) | ((first | refine x8 [] rfl ?_ | refine j8 [] rfl ?_);simp (disch:=omega) only [go_sem,seval,hd,cb,q1,q2];(repeat (first | refine ⟨by omega,?_⟩ | refine ⟨True.intro,?_⟩)))))
      refine x10 ⟨_,?_,rfl⟩;rw [Try.results3];simp (disch:=omega) only [ResVars,ResVar,ptrLoc,go_sem,seval,hd,cb,q1,q2]
     |true =>
      rw [hd'] at t2
      simp only [if_true] at t2
      have kw := j41 c d
      cases hw : withinT c d with
      |false =>
       rw [hw] at kw
       (repeat ((fail_if_success (show AWP _ _ (.region 10 _ _) _ _));first | apply j0 | refine q8 rfl ?_ | refine z8 rfl ?_ | apply z7 | (refine j4 fun K hK => ?_) | (refine x5 fun K hK => ?_) | ((first | apply j6 | apply x7 | ((first | refine z6 (hK _ ?_) | refine x6 (hK _ _ j5 ?_));clear hK K));(first | show AWP _ _ _ _ _ | ((try simp only [j7]);first | show loopQ _ _ _ _ _ _ | show cutQ _ _ _ _ | show AWP _ _ _ _ _))) | ((first | refine q10 rfl rfl rfl ?_ | refine z10 rfl rfl rfl ?_);simp (disch:=omega) only [go_sem,seval,hd,cb,q1,q2];(first | refine ⟨_,t1,?_⟩ | refine ⟨_,t2,?_⟩)) | ((first | refine x8 [] rfl ?_ | refine j8 [] rfl ?_);simp (disch:=omega) only [go_sem,seval,hd,cb,q1,q2];(repeat (first | refine ⟨by omega,?_⟩ | refine ⟨True.intro,?_⟩)))))
       refine x5 fun K hK => ?_
       iterate 2 ((first | refine z11 [] rfl rfl ?_ | refine x11 [] rfl rfl ?_ | refine j10 rfl rfl ?_ | refine q11 rfl rfl ?_);simp (disch:=omega) only [go_sem,seval,hd,cb,q1,q2];(repeat (first | refine ⟨by omega,?_⟩ | refine ⟨True.intro,?_⟩)))
       (refine x12 [(1000,503),(1001,501),(1999,1999)] [503,501,1999] rfl rfl rfl rfl rfl rfl (kO) (by repeat (first | exact trivial | refine ⟨rfl,rfl,rfl,?_⟩)) ?_);simp (disch:=omega) only [go_sem,seval,hd,cb,q1,q2]
       iterate 2 ((first | refine z11 [] rfl rfl ?_ | refine x11 [] rfl rfl ?_ | refine j10 rfl rfl ?_ | refine q11 rfl rfl ?_);simp (disch:=omega) only [go_sem,seval,hd,cb,q1,q2];(repeat (first | refine ⟨by omega,?_⟩ | refine ⟨True.intro,?_⟩)))
       (refine x12 [(1000,503),(1001,501),(1999,1999)] [503,501,1999] rfl rfl rfl rfl rfl rfl (kP) (by repeat (first | exact trivial | refine ⟨rfl,rfl,rfl,?_⟩)) ?_);simp (disch:=omega) only [go_sem,seval,hd,cb,q1,q2]
       iterate 2 ((first | refine z11 [] rfl rfl ?_ | refine x11 [] rfl rfl ?_ | refine j10 rfl rfl ?_ | refine q11 rfl rfl ?_);simp (disch:=omega) only [go_sem,seval,hd,cb,q1,q2];(repeat (first | refine ⟨by omega,?_⟩ | refine ⟨True.intro,?_⟩)))
       (refine x12 [(1000,503),(1001,501),(1999,1999)] [503,501,1999] rfl rfl rfl rfl rfl rfl (kM) (by repeat (first | exact trivial | refine ⟨rfl,rfl,rfl,?_⟩)) ?_);simp (disch:=omega) only [go_sem,seval,hd,cb,q1,q2]
       (repeat (first | apply j0 | refine q8 rfl ?_ | refine z8 rfl ?_ | apply z7 | (refine j4 fun K hK => ?_) | (refine x5 fun K hK => ?_) | ((first | apply j6 | apply x7 | ((first | refine z6 (hK _ ?_) | refine x6 (hK _ _ j5 ?_));clear hK K));(first | show AWP _ _ _ _ _ | ((try simp only [j7]);first | show loopQ _ _ _ _ _ _ | show cutQ _ _ _ _ | show AWP _ _ _ _ _))) | ((first | refine q10 rfl rfl rfl ?_ | refine z10 rfl rfl rfl ?_);simp (disch:=omega) only [go_sem,seval,hd,cb,q1,q2];(first | refine ⟨_,kh,?_⟩ | refine ⟨_,kA,?_⟩ | refine ⟨_,kw,?_⟩)) | ((first | refine x8 [] rfl ?_ | refine j8 [] rfl ?_);simp (disch:=omega) only [go_sem,seval,hd,cb,q1,q2];(repeat (first | refine ⟨by omega,?_⟩ | refine ⟨True.intro,?_⟩)))))
       refine x10 ⟨_,?_,rfl⟩;rw [Try.results3];simp (disch:=omega) only [ResVars,ResVar,ptrLoc,go_sem,seval,hd,cb,q1,q2]
      |true =>
       rw [hw] at kw
       have kB := q30 (fndZ l c) (fndZ l d) (by omega) (by omega) (fun z hz => by
        obtain ⟨y,y1,y2,y3⟩ := x20.1 hz
        exact x20.2 ⟨y,y1,j44 hd' hw y2,y3⟩) (z30 hu _)
       (repeat ((fail_if_success (show AWP _ _ (.region 10 _ _) _ _));first | apply j0 | refine q8 rfl ?_ | refine z8 rfl ?_ | apply z7 | (refine j4 fun K hK => ?_) | (refine x5 fun K hK => ?_) | ((first | apply j6 | apply x7 | ((first | refine z6 (hK _ ?_) | refine x6 (hK _ _ j5 ?_));clear hK K));(first | show AWP _ _ _ _ _ | ((try simp only [j7]);first | show loopQ _ _ _ _ _ _ | show cutQ _ _ _ _ | show AWP _ _ _ _ _))) | ((first | refine q10 rfl rfl rfl ?_ | refine z10 rfl rfl rfl ?_);simp (disch:=omega) only [go_sem,seval,hd,cb,q1,q2];(first | refine ⟨_,t1,?_⟩ | refine ⟨_,t2,?_⟩)) | ((first | refine x8 [] rfl ?_ | refine j8 [] rfl ?_);simp (disch:=omega) only [go_sem,seval,hd,cb,q1,q2];(repeat (first | refine ⟨by omega,?_⟩ | refine ⟨True.intro,?_⟩)))))
       refine x5 fun K hK => ?_
       iterate 2 ((first | refine z11 [] rfl rfl ?_ | refine x11 [] rfl rfl ?_ | refine j10 rfl rfl ?_ | refine q11 rfl rfl ?_);simp (disch:=omega) only [go_sem,seval,hd,cb,q1,q2];(repeat (first | refine ⟨by omega,?_⟩ | refine ⟨True.intro,?_⟩)))
       (refine x12 [(1000,503),(1001,501),(1999,1999)] [503,501,1999] rfl rfl rfl rfl rfl rfl (kO) (by repeat (first | exact trivial | refine ⟨rfl,rfl,rfl,?_⟩)) ?_);simp (disch:=omega) only [go_sem,seval,hd,cb,q1,q2]
       iterate 2 ((first | refine z11 [] rfl rfl ?_ | refine x11 [] rfl rfl ?_ | refine j10 rfl rfl ?_ | refine q11 rfl rfl ?_);simp (disch:=omega) only [go_sem,seval,hd,cb,q1,q2];(repeat (first | refine ⟨by omega,?_⟩ | refine ⟨True.intro,?_⟩)))
       (refine x12 [(1000,503),(1001,501),(1999,1999)] [503,501,1999] rfl rfl rfl rfl rfl rfl (kP) (by repeat (first | exact trivial | refine ⟨rfl,rfl,rfl,?_⟩)) ?_);simp (disch:=omega) only [go_sem,seval,hd,cb,q1,q2]
       iterate 2 ((first | refine z11 [] rfl rfl ?_ | refine x11 [] rfl rfl ?_ | refine j10 rfl rfl ?_ | refine q11 rfl rfl ?_);simp (disch:=omega) only [go_sem,seval,hd,cb,q1,q2];(repeat (first | refine ⟨by omega,?_⟩ | refine ⟨True.intro,?_⟩)))
       (refine x12 [(1000,503),(1001,501),(1999,1999)] [503,501,1999] rfl rfl rfl rfl rfl rfl (kM) (by repeat (first | exact trivial | refine ⟨rfl,rfl,rfl,?_⟩)) ?_);simp (disch:=omega) only [go_sem,seval,hd,cb,q1,q2]
       (repeat (first | apply j0 | refine q8 rfl ?_ | refine z8 rfl ?_ | apply z7 | (refine j4 fun K hK => ?_) | (refine x5 fun K hK => ?_) | ((first | apply j6 | apply x7 | ((first | refine z6 (hK _ ?_) | refine x6 (hK _ _ j5 ?_));clear hK K));(first | show AWP _ _ _ _ _ | ((try simp only [j7]);first | show loopQ _ _ _ _ _ _ | show cutQ _ _ _ _ | show AWP _ _ _ _ _))) | ((first | refine q10 rfl rfl rfl ?_ | refine z10 rfl rfl rfl ?_);simp (disch:=omega) only [go_sem,seval,hd,cb,q1,q2];(first | refine ⟨_,kh,?_⟩ | refine ⟨_,kA,?_⟩ | refine ⟨_,kw,?_⟩ | refine ⟨_,kB,?_⟩)) | ((first | refine x8 [] rfl ?_ | refine j8 [] rfl ?_);simp (disch:=omega) only [go_sem,seval,hd,cb,q1,q2];(repeat (first | refine ⟨by omega,?_⟩ | refine ⟨True.intro,?_⟩)))))
       refine x10 ⟨_,?_,rfl⟩;rw [Try.results3];simp (disch:=omega) only [ResVars,ResVar,ptrLoc,go_sem,seval,hd,cb,q1,q2]
end Go.Proofs.Ytbamjcnhmmgnlaa
