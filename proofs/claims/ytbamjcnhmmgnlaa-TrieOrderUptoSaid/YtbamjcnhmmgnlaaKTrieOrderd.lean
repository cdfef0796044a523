/- Part 4 of a proof: lemmas beneath the theorem that the last text bears. Conditions: none. -/
import Derived.Test.YtbamjcnhmmgnlaaKTrieOrderc
set_option maxHeartbeats 64000000
set_option linter.unusedSimpArgs false
set_option linter.unusedVariables false
namespace Go.Proofs.Ytbamjcnhmmgnlaa
open Go Go.Proofs.Ytbamjcnhmmgnlaa.AL Go.RowKit
structure PlS (I : List Nat → List Int) (k : Cube) where
 d : Nat
 p : List Nat
 A : List Nat → Option Nat
 V : List Nat → Value
 M : Nat → Option Ent
 hd : d ≤ 128 - lastC k
 T : TrM I M A V
 hp : hasP A p = true
 e : p = (pathC k).take d
def plI (I : List Nat → List Int) (k : Cube) (es : List (List Int × PV)) (s : PlS I k) : ASt :=
 ⟨[(6,.p (.d (.v (.int .i64 (127 - (s.d : Int)))))),(5,atAV s.A s.p),(3,.p (.d (.bx (cb k)))),(0,.loc 1000 0)],trL s.A s.V s.M es⟩
theorem TrM.leaf {I : List Nat → List Int} {M : Nat → Option Ent} {A : List Nat → Option Nat} {V : List Nat → Value} (T : TrM I M A V) {q : List Nat} (hq : q ≠ []) (hn : A q = none) (i : Nat) : A (q ++ [i]) = none := by
 cases h : A (q ++ [i]) with
 | none => rfl
 |some b =>
  obtain ⟨b',e⟩ := j45 (T.pre q i b h) hq
  rw [hn] at e;cases e
theorem TrM.new {I : List Nat → List Int} {M : Nat → Option Ent} {A : List Nat → Option Nat} {V : List Nat → Value} (T : TrM I M A V) {q : List Nat} (hq : q ≠ []) (hn : A q = none) (b : Nat) :
  nodeC (updA A q b) (updV V q (.slice none 0 0)) q = [.v (.pointer none),.v (.pointer none),.v (.pointer none),.v (.slice none 0 0)] := by
 unfold nodeC
 rw [j14 _ _ (Ne.symm (x30 q 0)),j14 _ _ (Ne.symm (x30 q 1)),j14 _ _ (Ne.symm (x30 q 2)),z22 (T.leaf hq hn 0),z22 (T.leaf hq hn 1),z22 (T.leaf hq hn 2),z20]
set_option maxRecDepth 100000 in
theorem q85 {I : List Nat → List Int} {M : Nat → Option Ent} {A : List Nat → Option Nat} {V : List Nat → Value} (T : TrM I M A V) (es : List (List Int × PV)) (k : Cube) :
  MCalls Try.prog 36 [.loc 1000 0,.p (.agg (cb k))] (trL A V M es)
   (fun rs L => ∃ r : {r : (List Nat → Option Nat) × (List Nat → Value) × (Nat → Option Ent) // TrM I r.2.2 r.1 r.2.1 ∧ hasP r.1 (pathC k) = true},rs = [atAV r.val.1 (pathC k)] ∧ L = trL r.val.1 r.val.2.1 r.val.2.2 es) := by
 have hlast := last_c k
 have hl8 := j125 k
 unfold trL trC
 refine j15 Try.func36 rfl (by decide +kernel) (by rw [Try.ntmps36];simp) (fun l X h => by simp only [AL.look] at h;(repeat' split at h);all_goals first | omega | cases h) ?_;rw [Try.ntmps36];simp only [frA]
 (repeat (first | apply j4 | refine q8 rfl ?_ | refine z8 rfl ?_ | apply j7 | (refine j0 fun K hK => ?_) | (refine x5 fun K hK => ?_) | ((first | apply j6 | apply z7 | ((first | refine z6 (hK _ ?_) | refine x6 (hK _ _ j5 ?_));clear hK K));(first | show AWP _ _ _ _ _ | ((try simp only [x7]);first | show loopQ _ _ _ _ _ _ | show cutQ _ _ _ _ | show AWP _ _ _ _ _))) | ((first | refine x8 [] rfl ?_ | refine j8 [] rfl ?_);simp (disch:=omega) only [go_sem,seval,hd,cb];(repeat (first | refine ⟨by omega,?_⟩ | refine ⟨True.intro,?_⟩)))))
 refine z23 (plI I k es) (fun s => 128 - s.d) ⟨0,[],A,V,M,by omega,T,rfl,rfl⟩ ?_ (fun s => ?_)
 ·unfold plI trL trC
  refine Weak.list ?_ ?_;(all_goals simp (disch:=omega) only [AllF,AllL,j13,q14,x13,exists_eq_left',go_sem,seval,hd,cb]);(all_goals (repeat' (with_reducible apply And.intro)));(all_goals try (first | exact z10 rfl | (refine z14 ?_;omega) | (refine z10 ?_;simp;done)))
 obtain ⟨d,p,A,V,M,hd8,T,hp,hpp⟩ := s
 unfold plI trL trC
 simp only []
 by_cases hlt : d < 128 - lastC k
 ·have hge : decide ((127 : Int) - (d : Int) ≥ (lastC k : Int)) = true := decide_eq_true (by omega)
  have hbr := q80 k (n := 127 - d) (by omega)
  have e127 : ((127 - d : Nat) : Int) = 127 - (d : Int) := by omega
  rw [e127] at hbr
  have hj3 := j57 k (127 - d)
  have htk := z126 k hlt
  have hlp : p.length = d := by rw [hpp,List.length_take,x23];omega
  rw [← hpp] at htk
  generalize brC k (127 - d) = j at *
  have hj : j = 0 ∨ j = 1 ∨ j = 2 := by omega
  rcases Classical.em (p = []) with hp0 | hp0
  ·subst hp0
   rw [z137]
   rw [List.nil_append] at htk
   rcases hj with rfl | rfl | rfl
   ·cases hk : A [0] with
    |none =>
     have q := z22 hk
     (repeat ((fail_if_success (show AWP _ _ (.region 7 _ _) _ _));first | apply j4 | refine q8 rfl ?_ | refine z8 rfl ?_ | apply j7 | (refine j0 fun K hK => ?_) | (refine x5 fun K hK => ?_) | ((first | apply j6 | apply z7 | ((first | refine z6 (hK _ ?_) | refine x6 (hK _ _ j5 ?_));clear hK K));(first | show AWP _ _ _ _ _ | ((try simp only [x7]);first | show loopQ _ _ _ _ _ _ | show cutQ _ _ _ _ | show AWP _ _ _ _ _))) | ((first | refine x10 rfl rfl rfl ?_ | refine j10 rfl rfl rfl ?_);simp (disch:=omega) only [go_sem,seval,hd,cb,hge,q];(first | refine ⟨_,hlast,?_⟩ | refine ⟨_,hbr,?_⟩)) | ((first | refine x8 [30] rfl ?_ | refine j8 [30] rfl ?_);simp (disch:=omega) only [go_sem,seval,hd,cb,hge,q];(repeat (first | refine ⟨by omega,?_⟩ | refine ⟨True.intro,?_⟩)))))
     refine j0 fun K hK => ?_
     iterate 4 ((first | refine z12 [30] rfl rfl ?_ | refine x12 [30] rfl rfl ?_ | refine j11 rfl rfl ?_ | refine q12 rfl rfl ?_);simp (disch:=omega) only [go_sem,seval,hd,cb,hge,q];(repeat (first | refine ⟨by omega,?_⟩ | refine ⟨True.intro,?_⟩)))
     refine x21 (WeakX.packCells _ 30 30 94 [.p (.d (.v (.pointer none))),.p (.d (.v (.pointer none))),.p (.d (.v (.pointer none))),.p (.d (.v (.slice none 0 0)))] [.v (.pointer none),.v (.pointer none),.v (.pointer none),.v (.slice none 0 0)] M rfl rfl rfl (by decide) rfl) ?_
     rintro _ ⟨b1,hb1,rfl⟩
     (repeat (first | apply j4 | refine q8 rfl ?_ | refine z8 rfl ?_ | apply j7 | (refine j0 fun K hK => ?_) | (refine x5 fun K hK => ?_) | ((first | apply j6 | apply z7 | ((first | refine z6 (hK _ ?_) | refine x6 (hK _ _ j5 ?_));clear hK K));(first | show AWP _ _ _ _ _ | ((try simp only [x7]);first | show loopQ _ _ _ _ _ _ | show cutQ _ _ _ _ | show AWP _ _ _ _ _))) | ((first | refine x8 [] rfl ?_ | refine j8 [] rfl ?_);simp (disch:=omega) only [go_sem,seval,hd,cb,hge,q,q15];(repeat (first | refine ⟨by omega,?_⟩ | refine ⟨True.intro,?_⟩)))))
     have T2 := T.add (M' := setM M b1 (some ⟨94,4,1,1,fun _ => [.v (.pointer none),.v (.pointer none),.v (.pointer none),.v (.slice none 0 0)]⟩)) hp hk hb1 (by simp) ⟨_,q13 _ _ _,(T.new (by simp) hk b1).symm⟩ (fun b hb => by rw [T.root] at hb;cases hb) (fun c hc _ => j12 _ _ hc)
     refine ⟨⟨d + 1,[0],updA A [0] b1,updV V [0] (.slice none 0 0),setM M b1 (some ⟨94,4,1,1,fun _ => [.v (.pointer none),.v (.pointer none),.v (.pointer none),.v (.slice none 0 0)]⟩),by omega,T2,z18 (q20 _ _ _),htk.symm⟩,by simp only [];omega,?_⟩
     have c0 := z30 A [0] b1
     have c1 := j14 A (q := [0]) (x := [1]) b1 (by decide)
     have c2 := j14 A (q := [0]) (x := [2]) b1 (by decide)
     have c3 := x15 V (q := [0]) (x := []) (.slice none 0 0) (by decide)
     have c4 := z19 (q20 A [0] b1) (by decide)
     simp only [c0,c1,c2,c3,c4]
     refine Weak.list ?_ ?_;(all_goals simp (disch:=omega) only [AllF,AllL,j13,q14,x13,exists_eq_left',go_sem,seval,hd,cb,hge,q,q15]);(all_goals (repeat' (with_reducible apply And.intro)));(all_goals try (first | exact z10 rfl | (refine z14 ?_;omega) | (refine z10 ?_;simp;done)))
    |some b1 =>
     have q := j23 hk
     (repeat (first | apply j4 | refine q8 rfl ?_ | refine z8 rfl ?_ | apply j7 | (refine j0 fun K hK => ?_) | (refine x5 fun K hK => ?_) | ((first | apply j6 | apply z7 | ((first | refine z6 (hK _ ?_) | refine x6 (hK _ _ j5 ?_));clear hK K));(first | show AWP _ _ _ _ _ | ((try simp only [x7]);first | show loopQ _ _ _ _ _ _ | show cutQ _ _ _ _ | show AWP _ _ _ _ _))) | ((first | refine x10 rfl rfl rfl ?_ | refine j10 rfl rfl rfl ?_);simp (disch:=omega) only [go_sem,seval,hd,cb,hge,q];(first | refine ⟨_,hlast,?_⟩ | refine ⟨_,hbr,?_⟩)) | ((first | refine x8 [] rfl ?_ | refine j8 [] rfl ?_);simp (disch:=omega) only [go_sem,seval,hd,cb,hge,q];(repeat (first | refine ⟨by omega,?_⟩ | refine ⟨True.intro,?_⟩)))))
     refine ⟨⟨d + 1,[0],A,V,M,by omega,T,z18 hk,htk.symm⟩,by simp only [];omega,?_⟩
     have c4 := z19 hk (by decide)
     simp only [q,c4]
     refine Weak.list ?_ ?_;(all_goals simp (disch:=omega) only [AllF,AllL,j13,q14,x13,exists_eq_left',go_sem,seval,hd,cb,hge,q]);(all_goals (repeat' (with_reducible apply And.intro)));(all_goals try (first | exact z10 rfl | (refine z14 ?_;omega) | (refine z10 ?_;simp;done)))
   ·cases hk : A [1] with
    |none =>
     have q := z22 hk
     (repeat ((fail_if_success (show AWP _ _ (.region 7 _ _) _ _));first | apply j4 | refine q8 rfl ?_ | refine z8 rfl ?_ | apply j7 | (refine j0 fun K hK => ?_) | (refine x5 fun K hK => ?_) | ((first | apply j6 | apply z7 | ((first | refine z6 (hK _ ?_) | refine x6 (hK _ _ j5 ?_));clear hK K));(first | show AWP _ _ _ _ _ | ((try simp only [x7]);first | show loopQ _ _ _ _ _ _ | show cutQ _ _ _ _ | show AWP _ _ _ _ _))) | ((first | refine x10 rfl rfl rfl ?_ | refine j10 rfl rfl rfl ?_);simp (disch:=omega) only [go_sem,seval,hd,cb,hge,q];(first | refine ⟨_,hlast,?_⟩ | refine ⟨_,hbr,?_⟩)) | ((first | refine x8 [30] rfl ?_ | refine j8 [30] rfl ?_);simp (disch:=omega) only [go_sem,seval,hd,cb,hge,q];(repeat (first | refine ⟨by omega,?_⟩ | refine ⟨True.intro,?_⟩)))))
     refine j0 fun K hK => ?_
     iterate 4 ((first | refine z12 [30] rfl rfl ?_ | refine x12 [30] rfl rfl ?_ | refine j11 rfl rfl ?_ | refine q12 rfl rfl ?_);simp (disch:=omega) only [go_sem,seval,hd,cb,hge,q];(repeat (first | refine ⟨by omega,?_⟩ | refine ⟨True.intro,?_⟩)))
     refine x21 (WeakX.packCells _ 30 30 94 [.p (.d (.v (.pointer none))),.p (.d (.v (.pointer none))),.p (.d (.v (.pointer none))),.p (.d (.v (.slice none 0 0)))] [.v (.pointer none),.v (.pointer none),.v (.pointer none),.v (.slice none 0 0)] M rfl rfl rfl (by decide) rfl) ?_
     rintro _ ⟨b1,hb1,rfl⟩
     (repeat (first | apply j4 | refine q8 rfl ?_ | refine z8 rfl ?_ | apply j7 | (refine j0 fun K hK => ?_) | (refine x5 fun K hK => ?_) | ((first | apply j6 | apply z7 | ((first | refine z6 (hK _ ?_) | refine x6 (hK _ _ j5 ?_));clear hK K));(first | show AWP _ _ _ _ _ | ((try simp only [x7]);first | show loopQ _ _ _ _ _ _ | show cutQ _ _ _ _ | show AWP _ _ _ _ _))) | ((first | refine x8 [] rfl ?_ | refine j8 [] rfl ?_);simp (disch:=omega) only [go_sem,seval,hd,cb,hge,q,q15];(repeat (first | refine ⟨by omega,?_⟩ | refine ⟨True.intro,?_⟩)))))
     have T2 := T.add (M' := setM M b1 (some ⟨94,4,1,1,fun _ => [.v (.pointer none),.v (.pointer none),.v (.pointer none),.v (.slice none 0 0)]⟩)) hp hk hb1 (by simp) ⟨_,q13 _ _ _,(T.new (by simp) hk b1).symm⟩ (fun b hb => by rw [T.root] at hb;cases hb) (fun c hc _ => j12 _ _ hc)
     refine ⟨⟨d + 1,[1],updA A [1] b1,updV V [1] (.slice none 0 0),setM M b1 (some ⟨94,4,1,1,fun _ => [.v (.pointer none),.v (.pointer none),.v (.pointer none),.v (.slice none 0 0)]⟩),by omega,T2,z18 (q20 _ _ _),htk.symm⟩,by simp only [];omega,?_⟩
     have c0 := z30 A [1] b1
     have c1 := j14 A (q := [1]) (x := [0]) b1 (by decide)
     have c2 := j14 A (q := [1]) (x := [2]) b1 (by decide)
     have c3 := x15 V (q := [1]) (x := []) (.slice none 0 0) (by decide)
     have c4 := z19 (q20 A [1] b1) (by decide)
     simp only [c0,c1,c2,c3,c4]
     refine Weak.list ?_ ?_;(all_goals simp (disch:=omega) only [AllF,AllL,j13,q14,x13,exists_eq_left',go_sem,seval,hd,cb,hge,q,q15]);(all_goals (repeat' (with_reducible apply And.intro)));(all_goals try (first | exact z10 rfl | (refine z14 ?_;omega) | (refine z10 ?_;simp;done)))
    |some b1 =>
     have q := j23 hk
     (repeat (first | apply j4 | refine q8 rfl ?_ | refine z8 rfl ?_ | apply j7 | (refine j0 fun K hK => ?_) | (refine x5 fun K hK => ?_) | ((first | apply j6 | apply z7 | ((first | refine z6 (hK _ ?_) | refine x6 (hK _ _ j5 ?_));clear hK K));(first | show AWP _ _ _ _ _ | ((try simp only [x7]);first | show loopQ _ _ _ _ _ _ | show cutQ _ _ _ _ | show AWP _ _ _ _ _))) | ((first | refine x10 rfl rfl rfl ?_ | refine j10 rfl rfl rfl ?_);simp (disch:=omega) only [go_sem,seval,hd,cb,hge,q];(first | refine ⟨_,hlast,?_⟩ | refine ⟨_,hbr,?_⟩)) | ((first | refine x8 [] rfl ?_ | refine j8 [] rfl ?_);simp (disch:=omega) only [go_sem,seval,hd,cb,hge,q];(repeat (first | refine ⟨by omega,?_⟩ | refine ⟨True.intro,?_⟩)))))
     refine ⟨⟨d + 1,[1],A,V,M,by omega,T,z18 hk,htk.symm⟩,by simp only [];omega,?_⟩
     have c4 := z19 hk (by decide)
     simp only [q,c4]
     refine Weak.list ?_ ?_;(all_goals simp (disch:=omega) only [AllF,AllL,j13,q14,x13,exists_eq_left',go_sem,seval,hd,cb,hge,q]);(all_goals (repeat' (with_reducible apply And.intro)));(all_goals try (first | exact z10 rfl | (refine z14 ?_;omega) | (refine z10 ?_;simp;done)))
   ·cases hk : A [2] with
    |none =>
     have q := z22 hk
     (repeat ((fail_if_success (show AWP _ _ (.region 7 _ _) _ _));first | apply j4 | refine q8 rfl ?_ | refine z8 rfl ?_ | apply j7 | (refine j0 fun K hK => ?_) | (refine x5 fun K hK => ?_) | ((first | apply j6 | apply z7 | ((first | refine z6 (hK _ ?_) | refine x6 (hK _ _ j5 ?_));clear hK K));(first | show AWP _ _ _ _ _ | ((try simp only [x7]);first | show loopQ _ _ _ _ _ _ | show cutQ _ _ _ _ | show AWP _ _ _ _ _))) | ((first | refine x10 rfl rfl rfl ?_ | refine j10 rfl rfl rfl ?_);simp (disch:=omega) only [go_sem,seval,hd,cb,hge,q];(first | refine ⟨_,hlast,?_⟩ | refine ⟨_,hbr,?_⟩)) | ((first | refine x8 [30] rfl ?_ | refine j8 [30] rfl ?_);simp (disch:=omega) only [go_sem,seval,hd,cb,hge,q];(repeat (first | refine ⟨by omega,?_⟩ | refine ⟨True.intro,?_⟩)))))
     refine j0 fun K hK => ?_
     iterate 4 ((first | refine z12 [30] rfl rfl ?_ | refine x12 [30] rfl rfl ?_ | refine j11 rfl rfl ?_ | refine q12 rfl rfl ?_);simp (disch:=omega) only [go_sem,seval,hd,cb,hge,q];(repeat (first | refine ⟨by omega,?_⟩ | refine ⟨True.intro,?_⟩)))
     refine x21 (WeakX.packCells _ 30 30 94 [.p (.d (.v (.pointer none))),.p (.d (.v (.pointer none))),.p (.d (.v (.pointer none))),.p (.d (.v (.slice none 0 0)))] [.v (.pointer none),.v (.pointer none),.v (.pointer none),.v (.slice none 0 0)] M rfl rfl rfl (by decide) rfl) ?_
     rintro _ ⟨b1,hb1,rfl⟩
     (repeat (first | apply j4 | refine q8 rfl ?_ | refine z8 rfl ?_ | apply j7 | (refine j0 fun K hK => ?_) | (refine x5 fun K hK => ?_) | ((first | apply j6 | apply z7 | ((first | refine z6 (hK _ ?_) | refine x6 (hK _ _ j5 ?_));clear hK K));(first | show AWP _ _ _ _ _ | ((try simp only [x7]);first | show loopQ _ _ _ _ _ _ | show cutQ _ _ _ _ | show AWP _ _ _ _ _))) | ((first | refine x8 [] rfl ?_ | refine j8 [] rfl ?_);simp (disch:=omega) only [go_sem,seval,hd,cb,hge,q,q15];(repeat (first | refine ⟨by omega,?_⟩ | refine ⟨True.intro,?_⟩)))))
     have T2 := T.add (M' := setM M b1 (some ⟨94,4,1,1,fun _ => [.v (.pointer none),.v (.pointer none),.v (.pointer none),.v (.slice none 0 0)]⟩)) hp hk hb1 (by simp) ⟨_,q13 _ _ _,(T.new (by simp) hk b1).symm⟩ (fun b hb => by rw [T.root] at hb;cases hb) (fun c hc _ => j12 _ _ hc)
     refine ⟨⟨d + 1,[2],updA A [2] b1,updV V [2] (.slice none 0 0),setM M b1 (some ⟨94,4,1,1,fun _ => [.v (.pointer none),.v (.pointer none),.v (.pointer none),.v (.slice none 0 0)]⟩),by omega,T2,z18 (q20 _ _ _),htk.symm⟩,by simp only [];omega,?_⟩
     have c0 := z30 A [2] b1
     have c1 := j14 A (q := [2]) (x := [0]) b1 (by decide)
     have c2 := j14 A (q := [2]) (x := [1]) b1 (by decide)
     have c3 := x15 V (q := [2]) (x := []) (.slice none 0 0) (by decide)
     have c4 := z19 (q20 A [2] b1) (by decide)
     simp only [c0,c1,c2,c3,c4]
     refine Weak.list ?_ ?_;(all_goals simp (disch:=omega) only [AllF,AllL,j13,q14,x13,exists_eq_left',go_sem,seval,hd,cb,hge,q,q15]);(all_goals (repeat' (with_reducible apply And.intro)));(all_goals try (first | exact z10 rfl | (refine z14 ?_;omega) | (refine z10 ?_;simp;done)))
    |some b1 =>
     have q := j23 hk
     (repeat (first | apply j4 | refine q8 rfl ?_ | refine z8 rfl ?_ | apply j7 | (refine j0 fun K hK => ?_) | (refine x5 fun K hK => ?_) | ((first | apply j6 | apply z7 | ((first | refine z6 (hK _ ?_) | refine x6 (hK _ _ j5 ?_));clear hK K));(first | show AWP _ _ _ _ _ | ((try simp only [x7]);first | show loopQ _ _ _ _ _ _ | show cutQ _ _ _ _ | show AWP _ _ _ _ _))) | ((first | refine x10 rfl rfl rfl ?_ | refine j10 rfl rfl rfl ?_);simp (disch:=omega) only [go_sem,seval,hd,cb,hge,q];(first | refine ⟨_,hlast,?_⟩ | refine ⟨_,hbr,?_⟩)) | ((first | refine x8 [] rfl ?_ | refine j8 [] rfl ?_);simp (disch:=omega) only [go_sem,seval,hd,cb,hge,q];(repeat (first | refine ⟨by omega,?_⟩ | refine ⟨True.intro,?_⟩)))))
     refine ⟨⟨d + 1,[2],A,V,M,by omega,T,z18 hk,htk.symm⟩,by simp only [];omega,?_⟩
     have c4 := z19 hk (by decide)
     simp only [q,c4]
     refine Weak.list ?_ ?_;(all_goals simp (disch:=omega) only [AllF,AllL,j13,q14,x13,exists_eq_left',go_sem,seval,hd,cb,hge,q]);(all_goals (repeat' (with_reducible apply And.intro)));(all_goals try (first | exact z10 rfl | (refine z14 ?_;omega) | (refine z10 ?_;simp;done)))
  ·obtain ⟨b,hb⟩ := j45 hp hp0
   rw [z19 hb hp0]
   obtain ⟨f0,hMb,hf0⟩ := T.node p b hb
   unfold nodeC at hf0
   rcases hj with rfl | rfl | rfl
   ·cases hk : A (p ++ [0]) with
    |none =>
     have q := z22 hk
     rw [q] at hf0
     (repeat ((fail_if_success (show AWP _ _ (.region 7 _ _) _ _));first | apply j4 | refine q8 rfl ?_ | refine z8 rfl ?_ | apply j7 | (refine j0 fun K hK => ?_) | (refine x5 fun K hK => ?_) | ((first | apply j6 | apply z7 | ((first | refine z6 (hK _ ?_) | refine x6 (hK _ _ j5 ?_));clear hK K));(first | show AWP _ _ _ _ _ | ((try simp only [x7]);first | show loopQ _ _ _ _ _ _ | show cutQ _ _ _ _ | show AWP _ _ _ _ _))) | ((first | refine x10 rfl rfl rfl ?_ | refine j10 rfl rfl rfl ?_);simp (disch:=omega) only [go_sem,seval,hd,cb,hge,q,hMb,hf0];(first | refine ⟨_,hlast,?_⟩ | refine ⟨_,hbr,?_⟩)) | ((first | refine x8 [30] rfl ?_ | refine j8 [30] rfl ?_);simp (disch:=omega) only [go_sem,seval,hd,cb,hge,q,hMb,hf0];(repeat (first | refine ⟨by omega,?_⟩ | refine ⟨True.intro,?_⟩)))))
     refine j0 fun K hK => ?_
     iterate 4 ((first | refine z12 [30] rfl rfl ?_ | refine x12 [30] rfl rfl ?_ | refine j11 rfl rfl ?_ | refine q12 rfl rfl ?_);simp (disch:=omega) only [go_sem,seval,hd,cb,hge,q,hMb,hf0];(repeat (first | refine ⟨by omega,?_⟩ | refine ⟨True.intro,?_⟩)))
     refine x21 (WeakX.packCells _ 30 30 94 [.p (.d (.v (.pointer none))),.p (.d (.v (.pointer none))),.p (.d (.v (.pointer none))),.p (.d (.v (.slice none 0 0)))] [.v (.pointer none),.v (.pointer none),.v (.pointer none),.v (.slice none 0 0)] M rfl rfl rfl (by decide) rfl) ?_
     rintro _ ⟨b1,hb1,rfl⟩
     have hne : b ≠ b1 := fun e => by rw [e,hb1] at hMb;cases hMb
     have hs := (j12 M (some ⟨94,4,1,1,fun _ => [.v (.pointer none),.v (.pointer none),.v (.pointer none),.v (.slice none 0 0)]⟩) hne).trans hMb
     have hf1 : putEl f0 0 0 [.v (.pointer (some ⟨b1,0,none⟩))] 0 = [.v (.pointer (some ⟨b1,0,none⟩)),.v (kidV A (p ++ [1])),.v (kidV A (p ++ [2])),.v (V p)] := by
      unfold putEl
      rw [if_pos rfl,hf0];rfl
     (repeat (first | apply j4 | refine q8 rfl ?_ | refine z8 rfl ?_ | apply j7 | (refine j0 fun K hK => ?_) | (refine x5 fun K hK => ?_) | ((first | apply j6 | apply z7 | ((first | refine z6 (hK _ ?_) | refine x6 (hK _ _ j5 ?_));clear hK K));(first | show AWP _ _ _ _ _ | ((try simp only [x7]);first | show loopQ _ _ _ _ _ _ | show cutQ _ _ _ _ | show AWP _ _ _ _ _))) | ((first | refine x8 [] rfl ?_ | refine j8 [] rfl ?_);simp (disch:=omega) only [go_sem,seval,hd,cb,hge,q,q15,hs,q13,hf1,hf0];(repeat (first | refine ⟨by omega,?_⟩ | refine ⟨True.intro,?_⟩)))))
     have hf2 : putEl f0 0 0 [.v (.pointer (some ⟨b1,0,none⟩))] 0 = nodeC (updA A (p ++ [0]) b1) (updV V (p ++ [0]) (.slice none 0 0)) p := by
      rw [hf1]
      unfold nodeC
      rw [z30,j14 A (x := p ++ [1]) b1 (z16 (.inr (by decide))),j14 A (x := p ++ [2]) b1 (z16 (.inr (by decide))),x15 V (.slice none 0 0) (x30 p 0)]
     have T2 := T.add (M' := setM (setM M b1 (some ⟨94,4,1,1,fun _ => [.v (.pointer none),.v (.pointer none),.v (.pointer none),.v (.slice none 0 0)]⟩)) b (some ⟨94,4,1,1,putEl f0 0 0 [.v (.pointer (some ⟨b1,0,none⟩))]⟩)) hp hk hb1 (by omega)
      ⟨_,(j12 _ _ (Ne.symm hne)).trans (q13 _ _ _),(T.new (by simp) hk b1).symm⟩ (fun b' e => by rw [hb] at e;cases e;exact ⟨_,q13 _ _ _,hf2⟩) (fun c hc hc2 => (j12 _ _ (fun e => hc2 (by rw [e];exact hb))).trans (j12 _ _ hc))
     refine ⟨⟨d + 1,p ++ [0],updA A (p ++ [0]) b1,updV V (p ++ [0]) (.slice none 0 0),setM (setM M b1 (some ⟨94,4,1,1,fun _ => [.v (.pointer none),.v (.pointer none),.v (.pointer none),.v (.slice none 0 0)]⟩)) b (some ⟨94,4,1,1,putEl f0 0 0 [.v (.pointer (some ⟨b1,0,none⟩))]⟩),by omega,T2,z18 (q20 _ _ _),htk.symm⟩,by simp only [];omega,?_⟩
     have c0 := j14 A (q := p ++ [0]) (x := [0]) b1 (z16 (p := p) (q := []) (i := 0) (.inl (Ne.symm hp0)))
     have c1 := j14 A (q := p ++ [0]) (x := [1]) b1 (z16 (p := p) (q := []) (i := 1) (.inl (Ne.symm hp0)))
     have c2 := j14 A (q := p ++ [0]) (x := [2]) b1 (z16 (p := p) (q := []) (i := 2) (.inl (Ne.symm hp0)))
     have c3 := x15 V (q := p ++ [0]) (x := []) (.slice none 0 0) (by simp)
     have c4 := z19 (q20 A (p ++ [0]) b1) (by simp)
     simp only [c0,c1,c2,c3,c4]
     refine Weak.list ?_ ?_;(all_goals simp (disch:=omega) only [AllF,AllL,j13,q14,x13,exists_eq_left',go_sem,seval,hd,cb,hge,q,q15,hs,q13,hf1,hf0]);(all_goals (repeat' (with_reducible apply And.intro)));(all_goals try (first | exact z10 rfl | (refine z14 ?_;omega) | (refine z10 ?_;simp;done)))
    |some b1 =>
     have q := j23 hk
     rw [q] at hf0
     (repeat (first | apply j4 | refine q8 rfl ?_ | refine z8 rfl ?_ | apply j7 | (refine j0 fun K hK => ?_) | (refine x5 fun K hK => ?_) | ((first | apply j6 | apply z7 | ((first | refine z6 (hK _ ?_) | refine x6 (hK _ _ j5 ?_));clear hK K));(first | show AWP _ _ _ _ _ | ((try simp only [x7]);first | show loopQ _ _ _ _ _ _ | show cutQ _ _ _ _ | show AWP _ _ _ _ _))) | ((first | refine x10 rfl rfl rfl ?_ | refine j10 rfl rfl rfl ?_);simp (disch:=omega) only [go_sem,seval,hd,cb,hge,q,hMb,hf0];(first | refine ⟨_,hlast,?_⟩ | refine ⟨_,hbr,?_⟩)) | ((first | refine x8 [] rfl ?_ | refine j8 [] rfl ?_);simp (disch:=omega) only [go_sem,seval,hd,cb,hge,q,hMb,hf0];(repeat (first | refine ⟨by omega,?_⟩ | refine ⟨True.intro,?_⟩)))))
     refine ⟨⟨d + 1,p ++ [0],A,V,M,by omega,T,z18 hk,htk.symm⟩,by simp only [];omega,?_⟩
     have c4 := z19 hk (by simp)
     simp only [c4]
     refine Weak.list ?_ ?_;(all_goals simp (disch:=omega) only [AllF,AllL,j13,q14,x13,exists_eq_left',go_sem,seval,hd,cb,hge,q,hMb,hf0]);(all_goals (repeat' (with_reducible apply And.intro)));(all_goals try (first | exact z10 rfl | (refine z14 ?_;omega) | (refine z10 ?_;simp;done)))
   ·cases hk : A (p ++ [1]) with
    |none =>
     have q := z22 hk
     rw [q] at hf0
     (repeat ((fail_if_success (show AWP _ _ (.region 7 _ _) _ _));first | apply j4 | refine q8 rfl ?_ | refine z8 rfl ?_ | apply j7 | (refine j0 fun K hK => ?_) | (refine x5 fun K hK => ?_) | ((first | apply j6 | apply z7 | ((first | refine z6 (hK _ ?_) | refine x6 (hK _ _ j5 ?_));clear hK K));(first | show AWP _ _ _ _ _ | ((try simp only [x7]);first | show loopQ _ _ _ _ _ _ | show cutQ _ _ _ _ | show AWP _ _ _ _ _))) | ((first | refine x10 rfl rfl rfl ?_ | refine j10 rfl rfl rfl ?_);simp (disch:=omega) only [go_sem,seval,hd,cb,hge,q,hMb,hf0];(first | refine ⟨_,hlast,?_⟩ | refine ⟨_,hbr,?_⟩)) | ((first | refine x8 [30] rfl ?_ | refine j8 [30] rfl ?_);simp (disch:=omega) only [go_sem,seval,hd,cb,hge,q,hMb,hf0];(repeat (first | refine ⟨by omega,?_⟩ | refine ⟨True.intro,?_⟩)))))
     refine j0 fun K hK => ?_
     iterate 4 ((first | refine z12 [30] rfl rfl ?_ | refine x12 [30] rfl rfl ?_ | refine j11 rfl rfl ?_ | refine q12 rfl rfl ?_);simp (disch:=omega) only [go_sem,seval,hd,cb,hge,q,hMb,hf0];(repeat (first | refine ⟨by omega,?_⟩ | refine ⟨True.intro,?_⟩)))
     refine x21 (WeakX.packCells _ 30 30 94 [.p (.d (.v (.pointer none))),.p (.d (.v (.pointer none))),.p (.d (.v (.pointer none))),.p (.d (.v (.slice none 0 0)))] [.v (.pointer none),.v (.pointer none),.v (.pointer none),.v (.slice none 0 0)] M rfl rfl rfl (by decide) rfl) ?_
     rintro _ ⟨b1,hb1,rfl⟩
     have hne : b ≠ b1 := fun e => by rw [e,hb1] at hMb;cases hMb
     have hs := (j12 M (some ⟨94,4,1,1,fun _ => [.v (.pointer none),.v (.pointer none),.v (.pointer none),.v (.slice none 0 0)]⟩) hne).trans hMb
     have hf1 : putEl f0 0 1 [.v (.pointer (some ⟨b1,0,none⟩))] 0 = [.v (kidV A (p ++ [0])),.v (.pointer (some ⟨b1,0,none⟩)),.v (kidV A (p ++ [2])),.v (V p)] := by
      unfold putEl
      rw [if_pos rfl,hf0];rfl
     (repeat (first | apply j4 | refine q8 rfl ?_ | refine z8 rfl ?_ | apply j7 | (refine j0 fun K hK => ?_) | (refine x5 fun K hK => ?_) | ((first | apply j6 | apply z7 | ((first | refine z6 (hK _ ?_) | refine x6 (hK _ _ j5 ?_));clear hK K));(first | show AWP _ _ _ _ _ | ((try simp only [x7]);first | show loopQ _ _ _ _ _ _ | show cutQ _ _ _ _ | show AWP _ _ _ _ _))) | ((first | refine x8 [] rfl ?_ | refine j8 [] rfl ?_);simp (disch:=omega) only [go_sem,seval,hd,cb,hge,q,q15,hs,q13,hf1,hf0];(repeat (first | refine ⟨by omega,?_⟩ | refine ⟨True.intro,?_⟩)))))
     have hf2 : putEl f0 0 1 [.v (.pointer (some ⟨b1,0,none⟩))] 0 = nodeC (updA A (p ++ [1]) b1) (updV V (p ++ [1]) (.slice none 0 0)) p := by
      rw [hf1]
      unfold nodeC
      rw [z30,j14 A (x := p ++ [0]) b1 (z16 (.inr (by decide))),j14 A (x := p ++ [2]) b1 (z16 (.inr (by decide))),x15 V (.slice none 0 0) (x30 p 1)]
     have T2 := T.add (M' := setM (setM M b1 (some ⟨94,4,1,1,fun _ => [.v (.pointer none),.v (.pointer none),.v (.pointer none),.v (.slice none 0 0)]⟩)) b (some ⟨94,4,1,1,putEl f0 0 1 [.v (.pointer (some ⟨b1,0,none⟩))]⟩)) hp hk hb1 (by omega)
      ⟨_,(j12 _ _ (Ne.symm hne)).trans (q13 _ _ _),(T.new (by simp) hk b1).symm⟩ (fun b' e => by rw [hb] at e;cases e;exact ⟨_,q13 _ _ _,hf2⟩) (fun c hc hc2 => (j12 _ _ (fun e => hc2 (by rw [e];exact hb))).trans (j12 _ _ hc))
     refine ⟨⟨d + 1,p ++ [1],updA A (p ++ [1]) b1,updV V (p ++ [1]) (.slice none 0 0),setM (setM M b1 (some ⟨94,4,1,1,fun _ => [.v (.pointer none),.v (.pointer none),.v (.pointer none),.v (.slice none 0 0)]⟩)) b (some ⟨94,4,1,1,putEl f0 0 1 [.v (.pointer (some ⟨b1,0,none⟩))]⟩),by omega,T2,z18 (q20 _ _ _),htk.symm⟩,by simp only [];omega,?_⟩
     have c0 := j14 A (q := p ++ [1]) (x := [0]) b1 (z16 (p := p) (q := []) (i := 0) (.inl (Ne.symm hp0)))
     have c1 := j14 A (q := p ++ [1]) (x := [1]) b1 (z16 (p := p) (q := []) (i := 1) (.inl (Ne.symm hp0)))
     have c2 := j14 A (q := p ++ [1]) (x := [2]) b1 (z16 (p := p) (q := []) (i := 2) (.inl (Ne.symm hp0)))
     have c3 := x15 V (q := p ++ [1]) (x := []) (.slice none 0 0) (by simp)
     have c4 := z19 (q20 A (p ++ [1]) b1) (by simp)
     simp only [c0,c1,c2,c3,c4]
     refine Weak.list ?_ ?_;(all_goals simp (disch:=omega) only [AllF,AllL,j13,q14,x13,exists_eq_left',go_sem,seval,hd,cb,hge,q,q15,hs,q13,hf1,hf0]);(all_goals (repeat' (with_reducible apply And.intro)));(all_goals try (first | exact z10 rfl | (refine z14 ?_;omega) | (refine z10 ?_;simp;done)))
    |some b1 =>
     have q := j23 hk
     rw [q] at hf0
     (repeat (first | apply j4 | refine q8 rfl ?_ | refine z8 rfl ?_ | apply j7 | (refine j0 fun K hK => ?_) | (refine x5 fun K hK => ?_) | ((first | apply j6 | apply z7 | ((first | refine z6 (hK _ ?_) | refine x6 (hK _ _ j5 ?_));clear hK K));(first | show AWP _ _ _ _ _ | ((try simp only [x7]);first | show loopQ _ _ _ _ _ _ | show cutQ _ _ _ _ | show AWP _ _ _ _ _))) | ((first | refine x10 rfl rfl rfl ?_ | refine j10 rfl rfl rfl ?_);simp (disch:=omega) only [go_sem,seval,hd,cb,hge,q,hMb,hf0];(first | refine ⟨_,hlast,?_⟩ | refine ⟨_,hbr,?_⟩)) | ((first | refine x8 [] rfl ?_ | refine j8 [] rfl ?_);simp (disch:=omega) only [go_sem,seval,hd,cb,hge,q,hMb,hf0];(repeat (first | refine ⟨by omega,?_⟩ | refine ⟨True.intro,?_⟩)))))
     refine ⟨⟨d + 1,p ++ [1],A,V,M,by omega,T,z18 hk,htk.symm⟩,by simp only [];omega,?_⟩
     have c4 := z19 hk (by simp)
     simp only [c4]
     refine Weak.list ?_ ?_;(all_goals simp (disch:=omega) only [AllF,AllL,j13,q14,x13,exists_eq_left',go_sem,seval,hd,cb,hge,q,hMb,hf0]);(all_goals (repeat' (with_reducible apply And.intro)));(all_goals try (first | exact z10 rfl | (refine z14 ?_;omega) | (refine z10 ?_;simp;done)))
   ·cases hk : A (p ++ [2]) with
    |none =>
     have q := z22 hk
     rw [q] at hf0
     (repeat ((fail_if_success (show AWP _ _ (.region 7 _ _) _ _));first | apply j4 | refine q8 rfl ?_ | refine z8 rfl ?_ | apply j7 | (refine j0 fun K hK => ?_) | (refine x5 fun K hK => ?_) | ((first | apply j6 | apply z7 | ((first | refine z6 (hK _ ?_) | refine x6 (hK _ _ j5 ?_));clear hK K));(first | show AWP _ _ _ _ _ | ((try simp only [x7]);first | show loopQ _ _ _ _ _ _ | show cutQ _ _ _ _ | show AWP _ _ _ _ _))) | ((first | refine x10 rfl rfl rfl ?_ | refine j10 rfl rfl rfl ?_);simp (disch:=omega) only [go_sem,seval,hd,cb,hge,q,hMb,hf0];(first | refine ⟨_,hlast,?_⟩ | refine ⟨_,hbr,?_⟩)) | ((first | refine x8 [30] rfl ?_ | refine j8 [30] rfl ?_);simp (disch:=omega) only [go_sem,seval,hd,cb,hge,q,hMb,hf0];(repeat (first | refine ⟨by omega,?_⟩ | refine ⟨True.intro,?_⟩)))))
     refine j0 fun K hK => ?_
     iterate 4 ((first | refine z12 [30] rfl rfl ?_ | refine x12 [30] rfl rfl ?_ | refine j11 rfl rfl ?_ | refine q12 rfl rfl ?_);simp (disch:=omega) only [go_sem,seval,hd,cb,hge,q,hMb,hf0];(repeat (first | refine ⟨by omega,?_⟩ | refine ⟨True.intro,?_⟩)))
     refine x21 (WeakX.packCells _ 30 30 94 [.p (.d (.v (.pointer none))),.p (.d (.v (.pointer none))),.p (.d (.v (.pointer none))),.p (.d (.v (.slice none 0 0)))] [.v (.pointer none),.v (.pointer none),.v (.pointer none),.v (.slice none 0 0)] M rfl rfl rfl (by decide) rfl) ?_
     rintro _ ⟨b1,hb1,rfl⟩
     have hne : b ≠ b1 := fun e => by rw [e,hb1] at hMb;cases hMb
     have hs := (j12 M (some ⟨94,4,1,1,fun _ => [.v (.pointer none),.v (.pointer none),.v (.pointer none),.v (.slice none 0 0)]⟩) hne).trans hMb
     have hf1 : putEl f0 0 2 [.v (.pointer (some ⟨b1,0,none⟩))] 0 = [.v (kidV A (p ++ [0])),.v (kidV A (p ++ [1])),.v (.pointer (some ⟨b1,0,none⟩)),.v (V p)] := by
      unfold putEl
      rw [if_pos rfl,hf0];rfl
     (repeat (first | apply j4 | refine q8 rfl ?_ | refine z8 rfl ?_ | apply j7 | (refine j0 fun K hK => ?_) | (refine x5 fun K hK => ?_) | ((first | apply j6 | apply z7 | ((first | refine z6 (hK _ ?_) | refine x6 (hK _ _ j5 ?_));clear hK K));(first | show AWP _ _ _ _ _ | ((try simp only [x7]);first | show loopQ _ _ _ _ _ _ | show cutQ _ _ _ _ | show AWP _ _ _ _ _))) | ((first | refine x8 [] rfl ?_ | refine j8 [] rfl ?_);simp (disch:=omega) only [go_sem,seval,hd,cb,hge,q,q15,hs,q13,hf1,hf0];(repeat (first | refine ⟨by omega,?_⟩ | refine ⟨True.intro,?_⟩)))))
     have hf2 : putEl f0 0 2 [.v (.pointer (some ⟨b1,0,none⟩))] 0 = nodeC (updA A (p ++ [2]) b1) (updV V (p ++ [2]) (.slice none 0 0)) p := by
      rw [hf1]
      unfold nodeC
      rw [z30,j14 A (x := p ++ [0]) b1 (z16 (.inr (by decide))),j14 A (x := p ++ [1]) b1 (z16 (.inr (by decide))),x15 V (.slice none 0 0) (x30 p 2)]
     have T2 := T.add (M' := setM (setM M b1 (some ⟨94,4,1,1,fun _ => [.v (.pointer none),.v (.pointer none),.v (.pointer none),.v (.slice none 0 0)]⟩)) b (some ⟨94,4,1,1,putEl f0 0 2 [.v (.pointer (some ⟨b1,0,none⟩))]⟩)) hp hk hb1 (by omega)
      ⟨_,(j12 _ _ (Ne.symm hne)).trans (q13 _ _ _),(T.new (by simp) hk b1).symm⟩ (fun b' e => by rw [hb] at e;cases e;exact ⟨_,q13 _ _ _,hf2⟩) (fun c hc hc2 => (j12 _ _ (fun e => hc2 (by rw [e];exact hb))).trans (j12 _ _ hc))
     refine ⟨⟨d + 1,p ++ [2],updA A (p ++ [2]) b1,updV V (p ++ [2]) (.slice none 0 0),setM (setM M b1 (some ⟨94,4,1,1,fun _ => [.v (.pointer none),.v (.pointer none),.v (.pointer none),.v (.slice none 0 0)]⟩)) b (some ⟨94,4,1,1,putEl f0 0 2 [.v (.pointer (some ⟨b1,0,none⟩))]⟩),by omega,T2,z18 (q20 _ _ _),htk.symm⟩,by simp only [];omega,?_⟩
     have c0 := j14 A (q := p ++ [2]) (x := [0]) b1 (z16 (p := p) (q := []) (i := 0) (.inl (Ne.symm hp0)))
     have c1 := j14 A (q := p ++ [2]) (x := [1]) b1 (z16 (p := p) (q := []) (i := 1) (.inl (Ne.symm hp0)))
     have c2 := j14 A (q := p ++ [2]) (x := [2]) b1 (z16 (p := p) (q := []) (i := 2) (.inl (Ne.symm hp0)))
     have c3 := x15 V (q := p ++ [2]) (x := []) (.slice none 0 0) (by simp)
     have c4 := z19 (q20 A (p ++ [2]) b1) (by simp)
     simp only [c0,c1,c2,c3,c4]
     refine Weak.list ?_ ?_;(all_goals simp (disch:=omega) only [AllF,AllL,j13,q14,x13,exists_eq_left',go_sem,seval,hd,cb,hge,q,q15,hs,q13,hf1,hf0]);(all_goals (repeat' (with_reducible apply And.intro)));(all_goals try (first | exact z10 rfl | (refine z14 ?_;omega) | (refine z10 ?_;simp;done)))
    |some b1 =>
     have q := j23 hk
     rw [q] at hf0
     (repeat (first | apply j4 | refine q8 rfl ?_ | refine z8 rfl ?_ | apply j7 | (refine j0 fun K hK => ?_) | (refine x5 fun K hK => ?_) | ((first | apply j6 | apply z7 | ((first | refine z6 (hK _ ?_) | refine x6 (hK _ _ j5 ?_));clear hK K));(first | show AWP _ _ _ _ _ | ((try simp only [x7]);first | show loopQ _ _ _ _ _ _ | show cutQ _ _ _ _ | show AWP _ _ _ _ _))) | ((first | refine x10 rfl rfl rfl ?_ | refine j10 rfl rfl rfl ?_);simp (disch:=omega) only [go_sem,seval,hd,cb,hge,q,hMb,hf0];(first | refine ⟨_,hlast,?_⟩ | refine ⟨_,hbr,?_⟩)) | ((first | refine x8 [] rfl ?_ | refine j8 [] rfl ?_);simp (disch:=omega) only [go_sem,seval,hd,cb,hge,q,hMb,hf0];(repeat (first | refine ⟨by omega,?_⟩ | refine ⟨True.intro,?_⟩)))))
     refine ⟨⟨d + 1,p ++ [2],A,V,M,by omega,T,z18 hk,htk.symm⟩,by simp only [];omega,?_⟩
     have c4 := z19 hk (by simp)
     simp only [c4]
     refine Weak.list ?_ ?_;(all_goals simp (disch:=omega) only [AllF,AllL,j13,q14,x13,exists_eq_left',go_sem,seval,hd,cb,hge,q,hMb,hf0]);(all_goals (repeat' (with_reducible apply And.intro)));(all_goals try (first | exact z10 rfl | (refine z14 ?_;omega) | (refine z10 ?_;simp;done)))
 ·have hd : d = 128 - lastC k := by omega
  have hge : decide ((127 : Int) - (d : Int) ≥ (lastC k : Int)) = false := decide_eq_false (by omega)
  have hpk : p = pathC k := by rw [hpp,hd,← x23 k,List.take_length]
  (repeat (first | apply j4 | refine q8 rfl ?_ | refine z8 rfl ?_ | apply j7 | (refine j0 fun K hK => ?_) | (refine x5 fun K hK => ?_) | ((first | apply j6 | apply z7 | ((first | refine z6 (hK _ ?_) | refine x6 (hK _ _ j5 ?_));clear hK K));(first | show AWP _ _ _ _ _ | ((try simp only [x7]);first | show loopQ _ _ _ _ _ _ | show cutQ _ _ _ _ | show AWP _ _ _ _ _))) | ((first | refine x10 rfl rfl rfl ?_ | refine j10 rfl rfl rfl ?_);simp (disch:=omega) only [go_sem,seval,hd,cb,hge];(first | refine ⟨_,hlast,?_⟩)) | ((first | refine x8 [] rfl ?_ | refine j8 [] rfl ?_);simp (disch:=omega) only [go_sem,seval,hd,cb,hge];(repeat (first | refine ⟨by omega,?_⟩ | refine ⟨True.intro,?_⟩)))))
  refine q10 ?_
  refine (q16 ⟨⟨(A,V,M),T,by rw [← hpk];exact hp⟩,(by show [atAV A p] = [atAV A (pathC k)];rw [hpk]),rfl⟩ ?_ ?_).1
  ·exact ⟨rfl,trivial⟩
  ·simp [AL.look]
def esI (l : Items) : List (List Int × PV) := l.map fun x => ([x.1],.agg (cb x.2))
def idIn (l : Items) (id : Int) : Bool := l.any fun x => x.1 == id
def getI (l : Items) (id : Int) : Option Cube := (l.find? fun x => x.1 == id).map (·.2)
def delI (l : Items) (id : Int) : Items := l.filter fun x => !(x.1 == id)
theorem x46 {l : Items} {id : Int} (h : idIn l id = false) : findM [id] (esI l) = none ∧ (∀ v,putM [id] v (esI l) = esI l ++ [([id],v)]) := by
 induction l with
 | nil => exact ⟨rfl,fun v => rfl⟩
 |cons x l ih =>
  have hx : x.1 ≠ id ∧ idIn l id = false := by simpa [idIn] using h
  obtain ⟨h1,h2⟩ := ih hx.2
  have ne : ¬ [x.1] = [id] := fun e => hx.1 (by simpa using e)
  refine ⟨?_,fun v => ?_⟩
  ·show (if [x.1] = [id] then _ else findM [id] (esI l)) = none
   rw [if_neg ne,h1]
  ·show (if [x.1] = [id] then _ else _ :: putM [id] v (esI l)) = _
   rw [if_neg ne,h2];rfl
theorem z85 {l : Items} {id : Int} {c : Cube} (h : idIn l id = false) : putM [id] (.agg (cb c)) (esI l) = esI (l ++ [(id,c)]) := by
 rw [(x46 h).2];simp [esI]
theorem j60 {l : Items} {id : Int} {c : Cube} (h : getI l id = some c) : findM [id] (esI l) = some (.agg (cb c)) := by
 induction l with
 | nil => cases h
 |cons x l ih =>
  show (if [x.1] = [id] then some (PV.agg (cb x.2)) else findM [id] (esI l)) = _
  by_cases e : x.1 = id
  ·have hc : x.2 = c := by simpa [getI,e] using h
   rw [if_pos (by rw [e]),hc]
  ·rw [if_neg (by simpa using e)]
   refine ih ?_
   have : (x.1 == id) = false := by simpa using e
   simpa [getI,List.find?_cons,this] using h
def Uniq (l : Items) : Prop := (l.map (·.1)).Nodup
theorem x85 : ∀ {l : Items},Uniq l → ∀ {x y : Int × Cube},x ∈ l → y ∈ l → x.1 = y.1 → x = y
 | [],_,x,y,hx,_,_ => by cases hx
 |z :: l,hu,x,y,hx,hy,e => by
  have hu' : z.1 ∉ l.map (·.1) ∧ Uniq l := by simpa [Uniq] using hu
  rcases List.mem_cons.1 hx with h1 | h1 <;> rcases List.mem_cons.1 hy with h2 | h2
  ·rw [h1,h2]
  ·exact absurd (by rw [← h1,e];exact List.mem_map_of_mem h2) hu'.1
  ·exact absurd (by rw [← h2,← e];exact List.mem_map_of_mem h1) hu'.1
  ·exact x85 hu'.2 h1 h2 e
theorem j85 {l : Items} {id : Int} (hu : Uniq l) : delM [id] (esI l) = esI (delI l id) := by
 induction l with
 | nil => rfl
 |cons x l ih =>
  have hu' : x.1 ∉ l.map (·.1) ∧ Uniq l := by simpa [Uniq] using hu
  show (if [x.1] = [id] then esI l else _ :: delM [id] (esI l)) = _
  by_cases e : x.1 = id
  ·rw [if_pos (by rw [e])]
   have : delI (x :: l) id = l := by
    unfold delI
    rw [List.filter_cons_of_neg (by simp [e]),List.filter_eq_self]
    intro y hy
    have : y.1 ≠ id := fun e' => hu'.1 (by rw [e,← e'];exact List.mem_map_of_mem hy)
    simpa using this
   rw [this]
  ·rw [if_neg (by simpa using e),ih hu'.2]
   unfold delI esI
   rw [List.filter_cons_of_pos (by simpa using e)];rfl
theorem q35 {l : Items} {id : Int} : getI l id = none ↔ idIn l id = false := by
 unfold getI idIn
 rw [Option.map_eq_none_iff,List.find?_eq_none,List.any_eq_false]
theorem q86 {l : Items} {id : Int} {c : Cube} (h : getI l id = some c) : (id,c) ∈ l := by
 unfold getI at h
 obtain ⟨x,hx,rfl⟩ := Option.map_eq_some_iff.1 h
 have := List.find?_some hx
 have hm := List.mem_of_find?_eq_some hx
 rw [beq_iff_eq] at this
 rw [← this];exact hm
theorem z86 (l : Items) (id : Int) (c : Cube) : idsAt (l ++ [(id,c)]) = updI (idsAt l) (pathC c) (idsAt l (pathC c) ++ [id]) := by
 funext p
 unfold idsAt updI
 rw [List.filter_append,List.map_append]
 by_cases e : p = pathC c
 ·subst e;simp
 ·rw [if_neg e]
  have : (pathC c == p) = false := by simpa using fun h => e h.symm
  simp [this]
theorem x86 {l : Items} {id : Int} {c : Cube} (hu : Uniq l) (hc : (id,c) ∈ l) : idsAt (delI l id) = updI (idsAt l) (pathC c) ((idsAt l (pathC c)).filter fun n => !(n == id)) := by
 have key : ∀ x ∈ l,x.1 = id → x.2 = c := by
  intro x hx e
  have : x = (id,c) := x85 hu hx hc e
  rw [this]
 funext p
 unfold idsAt updI delI
 by_cases e : p = pathC c
 ·rw [if_pos e,List.filter_map,List.filter_filter,List.filter_filter,e]
  congr 1
  refine List.filter_congr fun x hx => ?_
  simp [Bool.and_comm]
 ·rw [if_neg e,List.filter_filter]
  congr 1
  refine List.filter_congr fun x hx => ?_
  by_cases hxi : x.1 = id
  ·have := key x hx hxi
   have hp : (pathC x.2 == p) = false := by rw [this];simpa using fun h => e h.symm
   simp [hp]
  ·have : (x.1 == id) = false := by simpa using hxi
   simp [this]
def Freed (M : Nat → Option Ent) (v : Value) (M2 : Nat → Option Ent) : Prop := (v = .slice none 0 0 ∧ M2 = M) ∨ ∃ b n c,v = .slice (some ⟨b,0,none⟩) n c ∧ M2 = setM M b none
section
variable {I : List Nat → List Int} {M M2 M' : Nat → Option Ent} {A : List Nat → Option Nat} {V : List Nat → Value}
theorem TrM.intAt (T : TrM I M A V) {q : List Nat} {b n c : Nat} (hq : hasP A q = true) (hv : V q = .slice (some ⟨b,0,none⟩) n c) : ∃ f,M b = some ⟨3,1,c,n,f⟩ := by
 rcases T.ids q hq with ⟨_,h⟩ | ⟨b',c',f,h1,h2,h3,h4⟩
 ·rw [hv] at h;cases h
 ·rw [hv] at h1;cases h1;exact ⟨f,h3⟩
theorem TrM.nodeInt (T : TrM I M A V) {p : List Nat} {b : Nat} (h : A p = some b) {c n : Nat} {f : Nat → List Dat} (hb : M b = some ⟨3,1,c,n,f⟩) : False := by
 obtain ⟨f',n1,_⟩ := T.node p b h
 rw [n1] at hb
 simp only [Option.some.injEq,Ent.mk.injEq] at hb
 exact x84 hb.1
theorem TrM.row (T : TrM I M A V) {p : List Nat} {l : List Int} {b2 n c2 : Nat} (hp : hasP A p = true) (hF : Freed M (V p) M2) (hb2 : M2 b2 = none) (hv : IdsV M' (.slice (some ⟨b2,0,none⟩) n c2) l)
  (h2 : ∀ b,A p = some b → NodeAt M' A (updV V p (.slice (some ⟨b2,0,none⟩) n c2)) p b) (h3 : ∀ c,c ≠ b2 → A p ≠ some c → M' c = M2 c) :
  TrM (updI I p l) M' A (updV V p (.slice (some ⟨b2,0,none⟩) n c2)) := by
 have hM2 : ∀ c,(∀ b m k,V p = .slice (some ⟨b,0,none⟩) m k → c ≠ b) → M2 c = M c := by
  intro c hc
  rcases hF with ⟨_,rfl⟩ | ⟨b,m,k,e,rfl⟩
  ·rfl
  ·exact j12 _ _ (hc b m k e)
 have nodeP : ∀ q c,A q = some c → ∀ b m k,V p = .slice (some ⟨b,0,none⟩) m k → c ≠ b := by
  intro q c hq b m k e hcb
  obtain ⟨f,hf⟩ := T.intAt hp e
  subst hcb
  exact T.nodeInt hq hf
 have rowP : ∀ q c m' k',q ≠ p → hasP A q = true → V q = .slice (some ⟨c,0,none⟩) m' k' → ∀ b m k,V p = .slice (some ⟨b,0,none⟩) m k → c ≠ b := by
  intro q c m' k' hne hq e b m k e' hcb
  subst hcb
  exact hne (T.injV _ _ _ _ _ _ _ hq hp e e')
 refine T.set hp hv h2 (fun b n' c e => ?_) fun c hc => ?_
 ·have e0 : b = b2 := by cases e;rfl
  subst e0
  refine ⟨fun q hq => ?_,fun q n' c' hne hq e => ?_⟩
  ·obtain ⟨f,n1,_⟩ := T.node q b hq
   rw [hM2 b (nodeP q b hq),n1] at hb2;cases hb2
  ·obtain ⟨f,hf⟩ := T.intAt hq e
   rw [hM2 b (rowP q b _ _ hne hq e),hf] at hb2;cases hb2
 ·rcases hc with ⟨q,hne,hq⟩ | ⟨q,m,k,hne,hq,e⟩
  ·have e1 := hM2 c (nodeP q c hq)
   obtain ⟨f,n1,_⟩ := T.node q c hq
   rw [h3 c (fun e => by subst e;rw [e1,n1] at hb2;cases hb2) (fun e => hne (T.inj _ _ _ hq e)),e1]
  ·have e1 := hM2 c (rowP q c m k hne hq e)
   obtain ⟨f,hf⟩ := T.intAt hq e
   rw [h3 c (fun e => by subst e;rw [e1,hf] at hb2;cases hb2) (fun e => T.nodeInt e hf),e1]
end
end Go.Proofs.Ytbamjcnhmmgnlaa
namespace Go.Proofs.Ytbamjcnhmmgnlaa
open Go Go.Proofs.Ytbamjcnhmmgnlaa.AL Go.RowKit
def noA : List Nat → Option Nat := fun _ => none
def noV : List Nat → Value := fun _ => .slice none 0 0
theorem TrM.empty : TrM (idsAt []) noM noA noV := by
 refine ⟨rfl,fun p b h => (by cases h),fun p q b h => (by cases h),fun p k b h => (by cases h),fun p b h => (by cases h),fun p _ => .inl ⟨rfl,rfl⟩,fun p q b n c n' c' _ _ h => (by cases h),fun p _ => rfl⟩
set_option maxRecDepth 100000 in
theorem j86 : MCalls Try.prog 11 [] [] (fun rs L => rs = [.loc 3 0] ∧ L = [(3,.cells 96 [.p (.d (.v (.pointer none))),.p (.d (.v (.pointer none))),.p (.d (.v (.pointer none))),.p (.d (.v (.slice none 0 0))),.mp 1]),(1,.map [.i64] [])]) := by
 refine j15 Try.func11 rfl (by decide +kernel) (by rw [Try.ntmps11];simp) (fun l X h => by simp only [AL.look] at h;(repeat' split at h);all_goals first | omega | cases h) ?_;rw [Try.ntmps11];simp only [frA]
 (repeat (first | apply j4 | refine q8 rfl ?_ | refine z8 rfl ?_ | apply j7 | (refine j0 fun K hK => ?_) | (refine x5 fun K hK => ?_) | ((first | apply j6 | apply z7 | ((first | refine z6 (hK _ ?_) | refine x6 (hK _ _ j5 ?_));clear hK K));(first | show AWP _ _ _ _ _ | ((try simp only [x7]);first | show loopQ _ _ _ _ _ _ | show cutQ _ _ _ _ | show AWP _ _ _ _ _))) | ((first | refine x8 [1,3] rfl ?_ | refine j8 [1,3] rfl ?_);simp (disch:=omega) only [go_sem,seval,hd,cb];(repeat (first | refine ⟨by omega,?_⟩ | refine ⟨True.intro,?_⟩)))))
 refine q10 ?_
 refine (q16 ⟨rfl,rfl⟩ ?_ ?_).1
 ·exact ⟨rfl,trivial⟩
 ·simp [AL.look]
def addE (l : Items) (id : Int) (c : Cube) : Int := if id < 0 then 1 else if c.sound then (if idIn l id then 8 else 0) else 2
set_option maxRecDepth 100000 in
theorem q87 {l : Items} {M : Nat → Option Ent} {A : List Nat → Option Nat} {V : List Nat → Value} (id : Int) (c : Cube) (h : addE l id c ≠ 0) :
  MCalls Try.prog 13 [.loc 1000 0,.p (.d (.v (.int .i64 id))),.p (.agg (cb c))] (trL A V M (esI l)) (fun rs L => rs = [.p (.d (.v (.int .i64 (addE l id c))))] ∧ L = trL A V M (esI l)) := by
 have hs := x43 c
 unfold addE at *
 unfold trL trC
 by_cases h0 : id < 0
 ·have q0 : decide (id < 0) = true := decide_eq_true h0
  rw [if_pos h0]
  refine j15 Try.func13 rfl (by decide +kernel) (by rw [Try.ntmps13];simp) (fun l X h => by simp only [AL.look] at h;(repeat' split at h);all_goals first | omega | cases h) ?_;rw [Try.ntmps13];simp only [frA]
  (repeat (first | apply j4 | refine q8 rfl ?_ | refine z8 rfl ?_ | apply j7 | (refine j0 fun K hK => ?_) | (refine x5 fun K hK => ?_) | ((first | apply j6 | apply z7 | ((first | refine z6 (hK _ ?_) | refine x6 (hK _ _ j5 ?_));clear hK K));(first | show AWP _ _ _ _ _ | ((try simp only [x7]);first | show loopQ _ _ _ _ _ _ | show cutQ _ _ _ _ | show AWP _ _ _ _ _))) | ((first | refine x10 rfl rfl rfl ?_ | refine j10 rfl rfl rfl ?_);simp (disch:=omega) only [go_sem,seval,hd,cb,q0];(first | refine ⟨_,hs,?_⟩)) | ((first | refine x8 [] rfl ?_ | refine j8 [] rfl ?_);simp (disch:=omega) only [go_sem,seval,hd,cb,q0];(repeat (first | refine ⟨by omega,?_⟩ | refine ⟨True.intro,?_⟩)))))
  refine q10 ?_
  refine (q16 ⟨rfl,rfl⟩ ?_ ?_).1
  ·exact ⟨rfl,trivial⟩
  ·simp [AL.look]
 ·have q0 : decide (id < 0) = false := decide_eq_false h0
  rw [if_neg h0] at h ⊢
  generalize c.sound = s at *
  cases s with
  |false =>
   simp only [Bool.false_eq_true,if_false]
   refine j15 Try.func13 rfl (by decide +kernel) (by rw [Try.ntmps13];simp) (fun l X h => by simp only [AL.look] at h;(repeat' split at h);all_goals first | omega | cases h) ?_;rw [Try.ntmps13];simp only [frA]
   (repeat (first | apply j4 | refine q8 rfl ?_ | refine z8 rfl ?_ | apply j7 | (refine j0 fun K hK => ?_) | (refine x5 fun K hK => ?_) | ((first | apply j6 | apply z7 | ((first | refine z6 (hK _ ?_) | refine x6 (hK _ _ j5 ?_));clear hK K));(first | show AWP _ _ _ _ _ | ((try simp only [x7]);first | show loopQ _ _ _ _ _ _ | show cutQ _ _ _ _ | show AWP _ _ _ _ _))) | ((first | refine x10 rfl rfl rfl ?_ | refine j10 rfl rfl rfl ?_);simp (disch:=omega) only [go_sem,seval,hd,cb,q0];(first | refine ⟨_,hs,?_⟩)) | ((first | refine x8 [] rfl ?_ | refine j8 [] rfl ?_);simp (disch:=omega) only [go_sem,seval,hd,cb,q0];(repeat (first | refine ⟨by omega,?_⟩ | refine ⟨True.intro,?_⟩)))))
   refine q10 ?_
   refine (q16 ⟨rfl,rfl⟩ ?_ ?_).1
   ·exact ⟨rfl,trivial⟩
   ·simp [AL.look]
  |true =>
   cases hi : getI l id with
   |none =>
    rw [q35.1 hi] at h
    simp at h
   |some c' =>
    have hn : idIn l id = true := by
     cases e : idIn l id with
     | true => rfl
     | false => rw [q35.2 e] at hi;cases hi
    rw [hn]
    simp only [if_true]
    have q1 := j60 hi
    refine j15 Try.func13 rfl (by decide +kernel) (by rw [Try.ntmps13];simp) (fun l X h => by simp only [AL.look] at h;(repeat' split at h);all_goals first | omega | cases h) ?_;rw [Try.ntmps13];simp only [frA]
    (repeat (first | apply j4 | refine q8 rfl ?_ | refine z8 rfl ?_ | apply j7 | (refine j0 fun K hK => ?_) | (refine x5 fun K hK => ?_) | ((first | apply j6 | apply z7 | ((first | refine z6 (hK _ ?_) | refine x6 (hK _ _ j5 ?_));clear hK K));(first | show AWP _ _ _ _ _ | ((try simp only [x7]);first | show loopQ _ _ _ _ _ _ | show cutQ _ _ _ _ | show AWP _ _ _ _ _))) | ((first | refine x10 rfl rfl rfl ?_ | refine j10 rfl rfl rfl ?_);simp (disch:=omega) only [go_sem,seval,hd,cb,q0,q1];(first | refine ⟨_,hs,?_⟩)) | ((first | refine x8 [] rfl ?_ | refine j8 [] rfl ?_);simp (disch:=omega) only [go_sem,seval,hd,cb,q0,q1];(repeat (first | refine ⟨by omega,?_⟩ | refine ⟨True.intro,?_⟩)))))
    refine q10 ?_
    refine (q16 ⟨rfl,rfl⟩ ?_ ?_).1
    ·exact ⟨rfl,trivial⟩
    ·simp [AL.look]
theorem j46 (l : Items) (p : List Nat) : (idsAt l p).length ≤ l.length := by
 unfold idsAt;rw [List.length_map];exact List.length_filter_le _ _
theorem q47 {l : Items} {id : Int} {c : Cube} (h : addE l id c = 0) : 0 ≤ id ∧ c.sound = true ∧ idIn l id = false := by
 unfold addE at h
 by_cases h0 : id < 0
 ·rw [if_pos h0] at h;cases h
 ·rw [if_neg h0] at h
  cases hs : c.sound with
  | false => rw [hs] at h;simp at h
  |true =>
   rw [hs] at h
   cases hi : idIn l id with
   | true => rw [hi] at h;simp at h
   | false => exact ⟨by omega,rfl,rfl⟩
set_option maxRecDepth 100000 in
theorem z87 {I : List Nat → List Int} {M : Nat → Option Ent} {A : List Nat → Option Nat} {V : List Nat → Value} (T : TrM I M A V) (es : List (List Int × PV)) (k : Cube) (hk : pathC k = []) :
  MCalls Try.prog 36 [.loc 1000 0,.p (.agg (cb k))] (trL A V M es)
   (fun rs L => ∃ r : {r : (List Nat → Option Nat) × (List Nat → Value) × (Nat → Option Ent) // TrM I r.2.2 r.1 r.2.1},rs = [.loc 1000 0] ∧ L = trL r.val.1 r.val.2.1 r.val.2.2 es) :=
 (q85 T es k).mono fun rs L ⟨r,h1,h2⟩ => ⟨⟨r.val,r.property.1⟩,h1.trans ((show ∀ q,q = [] → [atAV r.val.1 q] = [.loc 1000 0] from fun q e => by subst e;rfl) _ hk),h2⟩
set_option maxRecDepth 100000 in
theorem x87 {I : List Nat → List Int} {M : Nat → Option Ent} {A : List Nat → Option Nat} {V : List Nat → Value} (T : TrM I M A V) (es : List (List Int × PV)) (k : Cube) (hk : pathC k ≠ []) :
  MCalls Try.prog 36 [.loc 1000 0,.p (.agg (cb k))] (trL A V M es)
   (fun rs L => ∃ r : {r : (List Nat → Option Nat) × (List Nat → Value) × (Nat → Option Ent) × Nat // TrM I r.2.2.1 r.1 r.2.1 ∧ r.1 (pathC k) = some r.2.2.2},rs = [.p (.d (.v (.pointer (some ⟨r.val.2.2.2,0,none⟩))))] ∧ L = trL r.val.1 r.val.2.1 r.val.2.2.1 es) :=
 (q85 T es k).mono fun rs L ⟨r,h1,h2⟩ => by
  obtain ⟨b,hb⟩ := j45 r.property.2 hk
  exact ⟨⟨(r.val.1,r.val.2.1,r.val.2.2,b),r.property.1,hb⟩,h1.trans (by rw [z19 hb hk]),h2⟩
theorem z47 {M' : Nat → Option Ent} {b2 c3 n : Nat} {zs : List Int} {id : Int} {f : Nat → List Dat} (hn : zs.length = n) (hle : n + 1 ≤ c3) (hb : M' b2 = some ⟨3,1,c3,n + 1,catF n f fun i => [[Dat.v (.int .i64 id)]].getD i []⟩) (hf : ∀ k,k < n → f k = rowZ zs k) :
  IdsV M' (.slice (some ⟨b2,0,none⟩) (n + 1) c3) (zs ++ [id]) := by
 subst hn
 have e : (zs ++ [id]).length = zs.length + 1 := by simp
 refine .inr ⟨b2,c3,_,by rw [e],by omega,by rw [e];exact hb,fun k hk => ?_⟩
 rw [e] at hk
 have h2 := z128 zs id k hk
 rw [← h2]
 unfold catF
 split
 ·exact hf k ‹_›
 ·rfl
set_option maxRecDepth 100000 in
theorem j87 {l : Items} {M : Nat → Option Ent} {A : List Nat → Option Nat} {V : List Nat → Value} (T : TrM (idsAt l) M A V) (id : Int) (c : Cube) (h : addE l id c = 0) (hl : l.length < 1099511627776) (hp0 : pathC c = []) :
  MCalls Try.prog 13 [.loc 1000 0,.p (.d (.v (.int .i64 id))),.p (.agg (cb c))] (trL A V M (esI l))
   (fun rs L => ∃ r : {r : (List Nat → Option Nat) × (List Nat → Value) × (Nat → Option Ent) // TrM (idsAt (l ++ [(id,c)])) r.2.2 r.1 r.2.1},rs = [.p (.d (.v (.int .i64 0)))] ∧ L = trL r.val.1 r.val.2.1 r.val.2.2 (esI (l ++ [(id,c)]))) := by
 obtain ⟨h0,hcs,hi⟩ := q47 h
 have hs := x43 c
 rw [hcs] at hs
 have q0 : decide (id < 0) = false := decide_eq_false (by omega)
 have q1 := (x46 hi).1
 have q2 := z85 (c := c) hi
 have hp := z87 T (esI (l ++ [(id,c)])) c hp0
 have hI := z86 l id c
 unfold cb at q2
 unfold trL trC at *
 refine j15 Try.func13 rfl (by decide +kernel) (by rw [Try.ntmps13];simp) (fun l X h => by simp only [AL.look] at h;(repeat' split at h);all_goals first | omega | cases h) ?_;rw [Try.ntmps13];simp only [frA]
 (repeat ((fail_if_success (show AWP _ _ (.region 9 _ _) _ _));first | apply j4 | refine q8 rfl ?_ | refine z8 rfl ?_ | apply j7 | (refine j0 fun K hK => ?_) | (refine x5 fun K hK => ?_) | ((first | apply j6 | apply z7 | ((first | refine z6 (hK _ ?_) | refine x6 (hK _ _ j5 ?_));clear hK K));(first | show AWP _ _ _ _ _ | ((try simp only [x7]);first | show loopQ _ _ _ _ _ _ | show cutQ _ _ _ _ | show AWP _ _ _ _ _))) | ((first | refine x10 rfl rfl rfl ?_ | refine j10 rfl rfl rfl ?_);simp (disch:=omega) only [go_sem,seval,hd,cb,q0,q1,q2];(first | refine ⟨_,hs,?_⟩)) | ((first | refine x8 [] rfl ?_ | refine j8 [] rfl ?_);simp (disch:=omega) only [go_sem,seval,hd,cb,q0,q1,q2];(repeat (first | refine ⟨by omega,?_⟩ | refine ⟨True.intro,?_⟩)))))
 refine j0 fun K hK => ?_
 iterate 2 ((first | refine z12 [] rfl rfl ?_ | refine x12 [] rfl rfl ?_ | refine j11 rfl rfl ?_ | refine q12 rfl rfl ?_);simp (disch:=omega) only [go_sem,seval,hd,cb,q0,q1,q2];(repeat (first | refine ⟨by omega,?_⟩ | refine ⟨True.intro,?_⟩)))
 (refine x17 (j16 [(1000,1000),(1001,1001),(1999,1999)] rfl rfl rfl rfl rfl rfl (hp) (fun _ => rfl) (q11 (by repeat (first | exact trivial | refine ⟨rfl,?_⟩)) (by kernel_rfl)) (fun _ => (q11 (by repeat (first | exact trivial | refine ⟨rfl,?_⟩)) (by kernel_rfl)))) ?_);rintro ⟨⟨A1,V1,M1⟩,T1⟩;simp (disch:=omega) only [go_sem,seval,hd,cb,q0,q1,q2]
 simp only [] at T1
 have hp1 := x83 A1
 (repeat ((fail_if_success (show AWP _ _ (.region 10 _ _) _ _));first | apply j4 | refine q8 rfl ?_ | refine z8 rfl ?_ | apply j7 | (refine j0 fun K hK => ?_) | (refine x5 fun K hK => ?_) | ((first | apply j6 | apply z7 | ((first | refine z6 (hK _ ?_) | refine x6 (hK _ _ j5 ?_));clear hK K));(first | show AWP _ _ _ _ _ | ((try simp only [x7]);first | show loopQ _ _ _ _ _ _ | show cutQ _ _ _ _ | show AWP _ _ _ _ _))) | ((first | refine x8 [] rfl ?_ | refine j8 [] rfl ?_);simp (disch:=omega) only [go_sem,seval,hd,cb,q0,q1,q2];(repeat (first | refine ⟨by omega,?_⟩ | refine ⟨True.intro,?_⟩)))))
 generalize esI (l ++ [(id,c)]) = es at *
 rw [hI]
 have hlen := j46 l (pathC c)
 generalize pathC c = p at *
 subst hp0
 rcases T1.ids [] hp1 with ⟨hI0,hV⟩ | ⟨b,c2,f,hV,hle,hb,hf⟩
 ·rw [hI0]
  refine j0 fun K hK => ?_
  iterate 5 ((first | refine z12 [] rfl rfl ?_ | refine x12 [] rfl rfl ?_ | refine j11 rfl rfl ?_ | refine q12 rfl rfl ?_);simp (disch:=omega) only [go_sem,seval,hd,cb,hV];(repeat (first | refine ⟨by omega,?_⟩ | refine ⟨True.intro,?_⟩)))
  refine j41 (Weak.own _ 44 600 1 3 (rowZ []) rfl (by kernel_rfl) rfl) ?_
  have hF : Freed M1 (V1 []) M1 := .inl ⟨hV,rfl⟩
  iterate 3 ((first | refine z12 [] rfl rfl ?_ | refine x12 [] rfl rfl ?_ | refine j11 rfl rfl ?_ | refine q12 rfl rfl ?_);simp (disch:=omega) only [go_sem,seval,hd,cb,hV];(repeat (first | refine ⟨by omega,?_⟩ | refine ⟨True.intro,?_⟩)))
  refine x21 (WeakX.packRow _ 47 600 _ _ _ _ _ _ rfl rfl rfl (by decide)) ?_
  rintro _ ⟨v,M3,hpk,rfl⟩
  rcases hpk with ⟨h0,_⟩ | ⟨b2,c3,hle3,hb2,rfl,rfl⟩
  ·simp at h0
  (repeat (first | apply j4 | refine q8 rfl ?_ | refine z8 rfl ?_ | apply j7 | (refine j0 fun K hK => ?_) | (refine x5 fun K hK => ?_) | ((first | apply j6 | apply z7 | ((first | refine z6 (hK _ ?_) | refine x6 (hK _ _ j5 ?_));clear hK K));(first | show AWP _ _ _ _ _ | ((try simp only [x7]);first | show loopQ _ _ _ _ _ _ | show cutQ _ _ _ _ | show AWP _ _ _ _ _))) | ((first | refine x8 [] rfl ?_ | refine j8 [] rfl ?_);simp (disch:=omega) only [go_sem,seval,hd,cb,hV,q15];(repeat (first | refine ⟨by omega,?_⟩ | refine ⟨True.intro,?_⟩)))))
  have T2 := T1.row (M' := (setM M1 b2 (some ⟨3,1,c3,(0 + 1),catF 0 (rowZ []) fun i => [[Dat.v (.int .i64 id)]].getD i []⟩))) (n := (0 + 1)) (c2 := c3) (l := [] ++ [id]) hp1 hF hb2 (z47 (zs := []) (f := (rowZ [])) rfl (by omega) (q13 _ _ _) (fun k hk => rfl)) (fun b e => by rw [T1.root] at e;cases e) (fun c hc _ => j12 _ _ hc)
  have c0 := z20 V1 [] (.slice (some ⟨b2,0,none⟩) (0 + 1) c3)
  refine q10 ?_
  refine (q16 ⟨⟨(A1,updV V1 [] (.slice (some ⟨b2,0,none⟩) (0 + 1) c3),(setM M1 b2 (some ⟨3,1,c3,(0 + 1),catF 0 (rowZ []) fun i => [[Dat.v (.int .i64 id)]].getD i []⟩))),T2⟩,rfl,rfl⟩ ?_ ?_).1
  ·exact ⟨rfl,trivial⟩
  ·simp only [c0]
   simp [AL.look,q15]
 ·generalize hn : (idsAt l []).length = n at *
  generalize hzs : idsAt l [] = zs at *
  refine j0 fun K hK => ?_
  iterate 5 ((first | refine z12 [] rfl rfl ?_ | refine x12 [] rfl rfl ?_ | refine j11 rfl rfl ?_ | refine q12 rfl rfl ?_);simp (disch:=omega) only [go_sem,seval,hd,cb,hV];(repeat (first | refine ⟨by omega,?_⟩ | refine ⟨True.intro,?_⟩)))
  refine j41 (Weak.focus _ 44 600 b c2 1 n 3 f M1 rfl rfl hb (by kernel_rfl) rfl) ?_
  have hF : Freed M1 (V1 []) (setM M1 b none) := .inr ⟨b,n,c2,hV,rfl⟩
  iterate 3 ((first | refine z12 [] rfl rfl ?_ | refine x12 [] rfl rfl ?_ | refine j11 rfl rfl ?_ | refine q12 rfl rfl ?_);simp (disch:=omega) only [go_sem,seval,hd,cb,hV];(repeat (first | refine ⟨by omega,?_⟩ | refine ⟨True.intro,?_⟩)))
  refine x21 (WeakX.packRow _ 47 600 _ _ _ _ _ _ rfl rfl rfl (by decide)) ?_
  rintro _ ⟨v,M3,hpk,rfl⟩
  rcases hpk with ⟨h0,_⟩ | ⟨b2,c3,hle3,hb2,rfl,rfl⟩
  ·simp at h0
  (repeat (first | apply j4 | refine q8 rfl ?_ | refine z8 rfl ?_ | apply j7 | (refine j0 fun K hK => ?_) | (refine x5 fun K hK => ?_) | ((first | apply j6 | apply z7 | ((first | refine z6 (hK _ ?_) | refine x6 (hK _ _ j5 ?_));clear hK K));(first | show AWP _ _ _ _ _ | ((try simp only [x7]);first | show loopQ _ _ _ _ _ _ | show cutQ _ _ _ _ | show AWP _ _ _ _ _))) | ((first | refine x8 [] rfl ?_ | refine j8 [] rfl ?_);simp (disch:=omega) only [go_sem,seval,hd,cb,hV,q15];(repeat (first | refine ⟨by omega,?_⟩ | refine ⟨True.intro,?_⟩)))))
  have hzn : zs.length = n := hn
  have T2 := T1.row (M' := (setM (setM M1 b none) b2 (some ⟨3,1,c3,(n + 1),catF n f fun i => [[Dat.v (.int .i64 id)]].getD i []⟩))) (n := (n + 1)) (c2 := c3) (l := zs ++ [id]) hp1 hF hb2 (z47 (zs := zs) (f := f) hzn (by omega) (q13 _ _ _) hf) (fun b e => by rw [T1.root] at e;cases e) (fun c hc _ => j12 _ _ hc)
  have c0 := z20 V1 [] (.slice (some ⟨b2,0,none⟩) (n + 1) c3)
  refine q10 ?_
  refine (q16 ⟨⟨(A1,updV V1 [] (.slice (some ⟨b2,0,none⟩) (n + 1) c3),(setM (setM M1 b none) b2 (some ⟨3,1,c3,(n + 1),catF n f fun i => [[Dat.v (.int .i64 id)]].getD i []⟩))),T2⟩,rfl,rfl⟩ ?_ ?_).1
  ·exact ⟨rfl,trivial⟩
  ·simp only [c0]
   simp [AL.look,q15]
set_option maxRecDepth 100000 in
theorem q88 {l : Items} {M : Nat → Option Ent} {A : List Nat → Option Nat} {V : List Nat → Value} (T : TrM (idsAt l) M A V) (id : Int) (c : Cube) (h : addE l id c = 0) (hl : l.length < 1099511627776) (hp0 : pathC c ≠ []) :
  MCalls Try.prog 13 [.loc 1000 0,.p (.d (.v (.int .i64 id))),.p (.agg (cb c))] (trL A V M (esI l))
   (fun rs L => ∃ r : {r : (List Nat → Option Nat) × (List Nat → Value) × (Nat → Option Ent) // TrM (idsAt (l ++ [(id,c)])) r.2.2 r.1 r.2.1},rs = [.p (.d (.v (.int .i64 0)))] ∧ L = trL r.val.1 r.val.2.1 r.val.2.2 (esI (l ++ [(id,c)]))) := by
 obtain ⟨h0,hcs,hi⟩ := q47 h
 have hs := x43 c
 rw [hcs] at hs
 have q0 : decide (id < 0) = false := decide_eq_false (by omega)
 have q1 := (x46 hi).1
 have q2 := z85 (c := c) hi
 have hp := x87 T (esI (l ++ [(id,c)])) c hp0
 have hI := z86 l id c
 unfold cb at q2
 unfold trL trC at *
 refine j15 Try.func13 rfl (by decide +kernel) (by rw [Try.ntmps13];simp) (fun l X h => by simp only [AL.look] at h;(repeat' split at h);all_goals first | omega | cases h) ?_;rw [Try.ntmps13];simp only [frA]
 (repeat ((fail_if_success (show AWP _ _ (.region 9 _ _) _ _));first | apply j4 | refine q8 rfl ?_ | refine z8 rfl ?_ | apply j7 | (refine j0 fun K hK => ?_) | (refine x5 fun K hK => ?_) | ((first | apply j6 | apply z7 | ((first | refine z6 (hK _ ?_) | refine x6 (hK _ _ j5 ?_));clear hK K));(first | show AWP _ _ _ _ _ | ((try simp only [x7]);first | show loopQ _ _ _ _ _ _ | show cutQ _ _ _ _ | show AWP _ _ _ _ _))) | ((first | refine x10 rfl rfl rfl ?_ | refine j10 rfl rfl rfl ?_);simp (disch:=omega) only [go_sem,seval,hd,cb,q0,q1,q2];(first | refine ⟨_,hs,?_⟩)) | ((first | refine x8 [] rfl ?_ | refine j8 [] rfl ?_);simp (disch:=omega) only [go_sem,seval,hd,cb,q0,q1,q2];(repeat (first | refine ⟨by omega,?_⟩ | refine ⟨True.intro,?_⟩)))))
 refine j0 fun K hK => ?_
 iterate 2 ((first | refine z12 [] rfl rfl ?_ | refine x12 [] rfl rfl ?_ | refine j11 rfl rfl ?_ | refine q12 rfl rfl ?_);simp (disch:=omega) only [go_sem,seval,hd,cb,q0,q1,q2];(repeat (first | refine ⟨by omega,?_⟩ | refine ⟨True.intro,?_⟩)))
 (refine x17 (j16 [(1000,1000),(1001,1001),(1999,1999)] rfl rfl rfl rfl rfl rfl (hp) (fun _ => rfl) (q11 (by repeat (first | exact trivial | refine ⟨rfl,?_⟩)) (by kernel_rfl)) (fun _ => (q11 (by repeat (first | exact trivial | refine ⟨rfl,?_⟩)) (by kernel_rfl)))) ?_);rintro ⟨⟨A1,V1,M1,b0⟩,T1,hb0⟩;simp (disch:=omega) only [go_sem,seval,hd,cb,q0,q1,q2]
 simp only [] at T1 hb0
 have hp1 := z18 hb0
 (repeat ((fail_if_success (show AWP _ _ (.region 10 _ _) _ _));first | apply j4 | refine q8 rfl ?_ | refine z8 rfl ?_ | apply j7 | (refine j0 fun K hK => ?_) | (refine x5 fun K hK => ?_) | ((first | apply j6 | apply z7 | ((first | refine z6 (hK _ ?_) | refine x6 (hK _ _ j5 ?_));clear hK K));(first | show AWP _ _ _ _ _ | ((try simp only [x7]);first | show loopQ _ _ _ _ _ _ | show cutQ _ _ _ _ | show AWP _ _ _ _ _))) | ((first | refine x8 [] rfl ?_ | refine j8 [] rfl ?_);simp (disch:=omega) only [go_sem,seval,hd,cb,q0,q1,q2];(repeat (first | refine ⟨by omega,?_⟩ | refine ⟨True.intro,?_⟩)))))
 generalize esI (l ++ [(id,c)]) = es at *
 rw [hI]
 have hlen := j46 l (pathC c)
 generalize pathC c = p at *
 obtain ⟨f0,hMb,hf0⟩ := T1.node p b0 hb0
 unfold nodeC at hf0
 rcases T1.ids p hp1 with ⟨hI0,hV⟩ | ⟨b,c2,f,hV,hle,hb,hf⟩
 ·rw [hI0]
  rw [hV] at hf0
  refine j0 fun K hK => ?_
  iterate 5 ((first | refine z12 [] rfl rfl ?_ | refine x12 [] rfl rfl ?_ | refine j11 rfl rfl ?_ | refine q12 rfl rfl ?_);simp (disch:=omega) only [go_sem,seval,hd,cb,hV,hMb,hf0];(repeat (first | refine ⟨by omega,?_⟩ | refine ⟨True.intro,?_⟩)))
  refine j41 (Weak.own _ 44 600 1 3 (rowZ []) rfl (by kernel_rfl) rfl) ?_
  have hF : Freed M1 (V1 p) M1 := .inl ⟨hV,rfl⟩
  iterate 3 ((first | refine z12 [] rfl rfl ?_ | refine x12 [] rfl rfl ?_ | refine j11 rfl rfl ?_ | refine q12 rfl rfl ?_);simp (disch:=omega) only [go_sem,seval,hd,cb,hV,hMb,hf0];(repeat (first | refine ⟨by omega,?_⟩ | refine ⟨True.intro,?_⟩)))
  refine x21 (WeakX.packRow _ 47 600 _ _ _ _ _ _ rfl rfl rfl (by decide)) ?_
  rintro _ ⟨v,M3,hpk,rfl⟩
  rcases hpk with ⟨h0,_⟩ | ⟨b2,c3,hle3,hb2,rfl,rfl⟩
  ·simp at h0
  have hne2 : b0 ≠ b2 := fun e => by rw [← e,hMb] at hb2;cases hb2
  have hMb3 := fun E => (j12 M1 E hne2).trans hMb
  (repeat (first | apply j4 | refine q8 rfl ?_ | refine z8 rfl ?_ | apply j7 | (refine j0 fun K hK => ?_) | (refine x5 fun K hK => ?_) | ((first | apply j6 | apply z7 | ((first | refine z6 (hK _ ?_) | refine x6 (hK _ _ j5 ?_));clear hK K));(first | show AWP _ _ _ _ _ | ((try simp only [x7]);first | show loopQ _ _ _ _ _ _ | show cutQ _ _ _ _ | show AWP _ _ _ _ _))) | ((first | refine x8 [] rfl ?_ | refine j8 [] rfl ?_);simp (disch:=omega) only [go_sem,seval,hd,cb,hV,q15,hMb3,hf0];(repeat (first | refine ⟨by omega,?_⟩ | refine ⟨True.intro,?_⟩)))))
  have hf2 : putEl f0 0 3 [.v (.slice (some ⟨b2,0,none⟩) (0 + 1) c3)] 0 = nodeC A1 (updV V1 p (.slice (some ⟨b2,0,none⟩) (0 + 1) c3)) p := by
   unfold putEl nodeC
   rw [if_pos rfl,hf0,z20];rfl
  have T2 := T1.row (M' := (setM (setM M1 b2 (some ⟨3,1,c3,(0 + 1),catF 0 (rowZ []) fun i => [[Dat.v (.int .i64 id)]].getD i []⟩)) b0 (some ⟨94,4,1,1,putEl f0 0 3 [.v (.slice (some ⟨b2,0,none⟩) (0 + 1) c3)]⟩))) (n := (0 + 1)) (c2 := c3) (l := [] ++ [id]) hp1 hF hb2 (z47 (zs := []) (f := (rowZ [])) rfl (by omega) ((j12 _ _ (Ne.symm hne2)).trans (q13 _ _ _)) (fun k hk => rfl)) (fun b e => by rw [hb0] at e;cases e;exact ⟨_,q13 _ _ _,hf2⟩) (fun c hc hc2 => (j12 _ _ (fun e => hc2 (by rw [e];exact hb0))).trans (j12 _ _ hc))
  have c0 := x15 V1 (.slice (some ⟨b2,0,none⟩) (0 + 1) c3) (Ne.symm hp0)
  refine q10 ?_
  refine (q16 ⟨⟨(A1,updV V1 p (.slice (some ⟨b2,0,none⟩) (0 + 1) c3),(setM (setM M1 b2 (some ⟨3,1,c3,(0 + 1),catF 0 (rowZ []) fun i => [[Dat.v (.int .i64 id)]].getD i []⟩)) b0 (some ⟨94,4,1,1,putEl f0 0 3 [.v (.slice (some ⟨b2,0,none⟩) (0 + 1) c3)]⟩))),T2⟩,rfl,rfl⟩ ?_ ?_).1
  ·exact ⟨rfl,trivial⟩
  ·simp only [c0]
   simp [AL.look,q15]
 ·generalize hn : (idsAt l p).length = n at *
  generalize hzs : idsAt l p = zs at *
  rw [hV] at hf0
  refine j0 fun K hK => ?_
  iterate 5 ((first | refine z12 [] rfl rfl ?_ | refine x12 [] rfl rfl ?_ | refine j11 rfl rfl ?_ | refine q12 rfl rfl ?_);simp (disch:=omega) only [go_sem,seval,hd,cb,hV,hMb,hf0];(repeat (first | refine ⟨by omega,?_⟩ | refine ⟨True.intro,?_⟩)))
  refine j41 (Weak.focus _ 44 600 b c2 1 n 3 f M1 rfl rfl hb (by kernel_rfl) rfl) ?_
  have hF : Freed M1 (V1 p) (setM M1 b none) := .inr ⟨b,n,c2,hV,rfl⟩
  have hne : b0 ≠ b := fun e => T1.nodeInt hb0 (e ▸ hb)
  have hMb2 := (j12 M1 none hne).trans hMb
  iterate 3 ((first | refine z12 [] rfl rfl ?_ | refine x12 [] rfl rfl ?_ | refine j11 rfl rfl ?_ | refine q12 rfl rfl ?_);simp (disch:=omega) only [go_sem,seval,hd,cb,hV,hMb,hf0];(repeat (first | refine ⟨by omega,?_⟩ | refine ⟨True.intro,?_⟩)))
  refine x21 (WeakX.packRow _ 47 600 _ _ _ _ _ _ rfl rfl rfl (by decide)) ?_
  rintro _ ⟨v,M3,hpk,rfl⟩
  rcases hpk with ⟨h0,_⟩ | ⟨b2,c3,hle3,hb2,rfl,rfl⟩
  ·simp at h0
  have hne2 : b0 ≠ b2 := fun e => by rw [← e,hMb2] at hb2;cases hb2
  have hMb3 := fun E => (j12 (setM M1 b none) E hne2).trans hMb2
  (repeat (first | apply j4 | refine q8 rfl ?_ | refine z8 rfl ?_ | apply j7 | (refine j0 fun K hK => ?_) | (refine x5 fun K hK => ?_) | ((first | apply j6 | apply z7 | ((first | refine z6 (hK _ ?_) | refine x6 (hK _ _ j5 ?_));clear hK K));(first | show AWP _ _ _ _ _ | ((try simp only [x7]);first | show loopQ _ _ _ _ _ _ | show cutQ _ _ _ _ | show AWP _ _ _ _ _))) | ((first | refine x8 [] rfl ?_ | refine j8 [] rfl ?_);simp (disch:=omega) only [go_sem,seval,hd,cb,hV,q15,hMb3,hf0];(repeat (first | refine ⟨by omega,?_⟩ | refine ⟨True.intro,?_⟩)))))
  have hzn : zs.length = n := hn
  have hf2 : putEl f0 0 3 [.v (.slice (some ⟨b2,0,none⟩) (n + 1) c3)] 0 = nodeC A1 (updV V1 p (.slice (some ⟨b2,0,none⟩) (n + 1) c3)) p := by
   unfold putEl nodeC
   rw [if_pos rfl,hf0,z20];rfl
  have T2 := T1.row (M' := (setM (setM (setM M1 b none) b2 (some ⟨3,1,c3,(n + 1),catF n f fun i => [[Dat.v (.int .i64 id)]].getD i []⟩)) b0 (some ⟨94,4,1,1,putEl f0 0 3 [.v (.slice (some ⟨b2,0,none⟩) (n + 1) c3)]⟩))) (n := (n + 1)) (c2 := c3) (l := zs ++ [id]) hp1 hF hb2 (z47 (zs := zs) (f := f) hzn (by omega) ((j12 _ _ (Ne.symm hne2)).trans (q13 _ _ _)) hf) (fun b e => by rw [hb0] at e;cases e;exact ⟨_,q13 _ _ _,hf2⟩) (fun c hc hc2 => (j12 _ _ (fun e => hc2 (by rw [e];exact hb0))).trans (j12 _ _ hc))
  have c0 := x15 V1 (.slice (some ⟨b2,0,none⟩) (n + 1) c3) (Ne.symm hp0)
  refine q10 ?_
  refine (q16 ⟨⟨(A1,updV V1 p (.slice (some ⟨b2,0,none⟩) (n + 1) c3),(setM (setM (setM M1 b none) b2 (some ⟨3,1,c3,(n + 1),catF n f fun i => [[Dat.v (.int .i64 id)]].getD i []⟩)) b0 (some ⟨94,4,1,1,putEl f0 0 3 [.v (.slice (some ⟨b2,0,none⟩) (n + 1) c3)]⟩))),T2⟩,rfl,rfl⟩ ?_ ?_).1
  ·exact ⟨rfl,trivial⟩
  ·simp only [c0]
   simp [AL.look,q15]
theorem z88 (n id : Int) : ACalls Try.prog 45 [.d (.v (.int .i64 n)),.d (.bx [.v (.int .i64 id)])] (· = [.d (.v (.bool (n == id)))]) := by
 refine z13 Try.func45 rfl (by decide +kernel) (by rw [Try.ntmps45];simp) ?_;rw [Try.ntmps45];simp only [frOf]
 (repeat (first | apply j4 | refine q8 rfl ?_ | refine z8 rfl ?_ | apply j7 | (refine j0 fun K hK => ?_) | (refine x5 fun K hK => ?_) | ((first | apply j6 | apply z7 | ((first | refine z6 (hK _ ?_) | refine x6 (hK _ _ j5 ?_));clear hK K));(first | show AWP _ _ _ _ _ | ((try simp only [x7]);first | show loopQ _ _ _ _ _ _ | show cutQ _ _ _ _ | show AWP _ _ _ _ _))) | ((first | refine x8 [] rfl ?_ | refine j8 [] rfl ?_);simp (disch:=omega) only [go_sem,seval];(repeat (first | refine ⟨by omega,?_⟩ | refine ⟨True.intro,?_⟩)))))
 refine q10 ⟨_,?_,rfl⟩;rw [Try.results45];simp (disch:=omega) only [ResVars,ResVar,ptrLoc,go_sem,seval]
def eqF (id : Int) : PV := .fn (.func 45) [] [.d (.bx [.v (.int .i64 id)])]
structure IfS (zs : List Int) (id : Int) where
 i : Nat
 hi : i ≤ zs.idxOf id
def ifI (zs : List Int) (id : Int) (s : IfS zs id) : ASt :=
 ⟨[(8,.p (.d (.v (.int .i64 (s.i : Int))))),(7,.p (.d (.v (.int .i64 (zs.length : Int))))),(1,.p (eqF id)),(0,.p (.d (.sl 1 zs.length (rowZ zs))))],[]⟩
theorem x88 {id : Int} : ∀ (zs : List Int) (i : Nat) (h : i < zs.length),zs[i] = id → zs.idxOf id ≤ i
 | [],i,h,_ => by simp at h
 |x :: l,i,h,e => by
  rw [List.idxOf_cons]
  by_cases hx : x = id
  ·simp [hx]
  ·have : (x == id) = false := by simpa using hx
   rw [this]
   simp only [cond_false]
   cases i with
   | zero => exact absurd (by simpa using e) hx
   |succ i =>
    have := x88 l i (by simpa using h) (by simpa using e)
    omega
theorem setM_id {M : Nat → Option Ent} {b : Nat} {E : Ent} (h : M b = some E) : setM M b (some E) = M := by
 funext k;unfold setM;split
 ·rename_i e;rw [e,h]
 ·rfl
theorem x137 {zs : List Int} {id : Int} (hm : id ∈ zs) {i : Nat} (hi : i ≤ zs.idxOf id) : (zs.getD i 0 == id) = decide (i = zs.idxOf id) := by
 have hlt := List.idxOf_lt_length_of_mem hm
 rw [List.getD_eq_getElem?_getD,List.getElem?_eq_getElem (by omega),Option.getD_some]
 by_cases e : i = zs.idxOf id
 ·subst e
  rw [List.getElem_idxOf hlt];simp
 ·have hne : ¬ zs[i] = id := fun h => by
   have := x88 zs i (by omega) h
   omega
  rw [decide_eq_false e,beq_eq_false_iff_ne];exact hne
set_option maxRecDepth 100000 in
theorem j137 (zs : List Int) (id : Int) (hm : id ∈ zs) (hl : zs.length ≤ 1099511627776) : ACalls Try.prog 78 [.d (.sl 1 zs.length (rowZ zs)),eqF id] (· = [.d (.v (.int .i64 (zs.idxOf id : Int)))]) := by
 have hlt := List.idxOf_lt_length_of_mem hm
 unfold eqF
 refine z13 Try.func78 rfl (by decide +kernel) (by rw [Try.ntmps78];simp) ?_;rw [Try.ntmps78];simp only [frOf]
 (repeat (first | apply j4 | refine q8 rfl ?_ | refine z8 rfl ?_ | apply j7 | (refine j0 fun K hK => ?_) | (refine x5 fun K hK => ?_) | ((first | apply j6 | apply z7 | ((first | refine z6 (hK _ ?_) | refine x6 (hK _ _ j5 ?_));clear hK K));(first | show AWP _ _ _ _ _ | ((try simp only [x7]);first | show loopQ _ _ _ _ _ _ | show cutQ _ _ _ _ | show AWP _ _ _ _ _))) | ((first | refine x8 [] rfl ?_ | refine j8 [] rfl ?_);simp (disch:=omega) only [go_sem,seval];(repeat (first | refine ⟨by omega,?_⟩ | refine ⟨True.intro,?_⟩)))))
 refine z23 (ifI zs id) (fun s => zs.length - s.i) ⟨0,by omega⟩ ?_ (fun s => ?_)
 ·unfold ifI eqF
  refine Weak.list ?_ ?_;(all_goals simp (disch:=omega) only [AllF,AllL,j13,q14,x13,exists_eq_left',go_sem,seval]);(all_goals (repeat' (with_reducible apply And.intro)));(all_goals try (first | exact z10 rfl | (refine z14 ?_;omega) | (refine z10 ?_;simp;done)))
 obtain ⟨i,hi⟩ := s
 unfold ifI eqF
 simp only []
 have r1 := q44 zs i
 have hx := x137 hm hi
 have ke := z88 (zs.getD i 0) id
 rw [hx] at ke
 generalize zs.getD i 0 = x at *
 by_cases e : i = zs.idxOf id
 ·rw [decide_eq_true e] at ke
  rw [← e]
  (repeat (first | apply j4 | refine q8 rfl ?_ | refine z8 rfl ?_ | apply j7 | (refine j0 fun K hK => ?_) | (refine x5 fun K hK => ?_) | ((first | apply j6 | apply z7 | ((first | refine z6 (hK _ ?_) | refine x6 (hK _ _ j5 ?_));clear hK K));(first | show AWP _ _ _ _ _ | ((try simp only [x7]);first | show loopQ _ _ _ _ _ _ | show cutQ _ _ _ _ | show AWP _ _ _ _ _))) | ((first | refine x10 rfl rfl rfl ?_ | refine j10 rfl rfl rfl ?_);simp (disch:=omega) only [go_sem,seval,r1];(first | refine ⟨_,ke,?_⟩)) | ((first | refine x8 [] rfl ?_ | refine j8 [] rfl ?_);simp (disch:=omega) only [go_sem,seval,r1];(repeat (first | refine ⟨by omega,?_⟩ | refine ⟨True.intro,?_⟩)))))
  refine q10 ⟨_,?_,rfl⟩;rw [Try.results78];simp (disch:=omega) only [ResVars,ResVar,ptrLoc,go_sem,seval,r1]
 ·rw [decide_eq_false e] at ke
  (repeat (first | apply j4 | refine q8 rfl ?_ | refine z8 rfl ?_ | apply j7 | (refine j0 fun K hK => ?_) | (refine x5 fun K hK => ?_) | ((first | apply j6 | apply z7 | ((first | refine z6 (hK _ ?_) | refine x6 (hK _ _ j5 ?_));clear hK K));(first | show AWP _ _ _ _ _ | ((try simp only [x7]);first | show loopQ _ _ _ _ _ _ | show cutQ _ _ _ _ | show AWP _ _ _ _ _))) | ((first | refine x10 rfl rfl rfl ?_ | refine j10 rfl rfl rfl ?_);simp (disch:=omega) only [go_sem,seval,r1];(first | refine ⟨_,ke,?_⟩)) | ((first | refine x8 [] rfl ?_ | refine j8 [] rfl ?_);simp (disch:=omega) only [go_sem,seval,r1];(repeat (first | refine ⟨by omega,?_⟩ | refine ⟨True.intro,?_⟩)))))
  refine ⟨⟨i + 1,by omega⟩,by simp only [];omega,?_⟩
  refine Weak.list ?_ ?_;(all_goals simp (disch:=omega) only [AllF,AllL,j13,q14,x13,exists_eq_left',go_sem,seval,r1]);(all_goals (repeat' (with_reducible apply And.intro)));(all_goals try (first | exact z10 rfl | (refine z14 ?_;omega) | (refine z10 ?_;simp;done)))
def movF (zs : List Int) (i j k : Nat) : List Dat := if i ≤ k ∧ k + 1 < j then rowZ zs (k + 1) else rowZ zs k
structure DfS (zs : List Int) (id : Int) (b c : Nat) (M0 : Nat → Option Ent) where
 j : Nat
 f : Nat → List Dat
 hj : zs.idxOf id < j ∧ j ≤ zs.length
 hf : ∀ k,k < zs.length → f k = movF zs (zs.idxOf id) j k
def dfI (zs : List Int) (id : Int) (b c : Nat) (M0 : Nat → Option Ent) (s : DfS zs id b c M0) : ASt :=
 ⟨[(6,.p (.d (.v (.int .i64 (s.j : Int))))),(5,.p (.d (.v (.int .i64 ((s.j : Int) - 1))))),(1,.p (eqF id)),(0,.p (.d (.v (.slice (some ⟨b,0,none⟩) zs.length c))))],[(1999,.raw (setM M0 b (some ⟨3,1,c,zs.length,s.f⟩)))]⟩
theorem q138 {zs : List Int} {id : Int} (hu : zs.Nodup) {j : Nat} (hj : zs.idxOf id < j) (hl : j < zs.length) (hm : id ∈ zs) : (zs.getD j 0 == id) = false := by
 have hlt := List.idxOf_lt_length_of_mem hm
 rw [List.getD_eq_getElem?_getD,List.getElem?_eq_getElem hl,Option.getD_some,beq_eq_false_iff_ne]
 intro e
 have := (List.getElem_inj (i := j) (j := zs.idxOf id) (h₀ := hl) (h₁ := hlt) hu).1 (by rw [e,List.getElem_idxOf hlt])
 omega
set_option maxRecDepth 100000 in
theorem j88 (M : Nat → Option Ent) (b c : Nat) (f : Nat → List Dat) (zs : List Int) (id : Int) (hM : M b = some ⟨3,1,c,zs.length,f⟩) (hf : ∀ k,k < zs.length → f k = rowZ zs k) (hm : id ∈ zs) (hu : zs.Nodup) (hc : zs.length ≤ c) (hl : zs.length ≤ 1099511627776) :
  MCalls Try.prog 44 [.p (.d (.v (.slice (some ⟨b,0,none⟩) zs.length c))),.p (eqF id)] [(1999,.raw M)]
   (fun rs L => ∃ r : {f' : Nat → List Dat // ∀ k,k < zs.length - 1 → f' k = movF zs (zs.idxOf id) zs.length k},rs = [.p (.d (.v (.slice (some ⟨b,0,none⟩) (zs.length - 1) c)))] ∧ L = [(1999,.raw (setM M b (some ⟨3,1,c,zs.length - 1,r.val⟩)))]) := by
 have hlt := List.idxOf_lt_length_of_mem hm
 have hrd : RdD M (.v (.slice (some ⟨b,0,none⟩) zs.length c)) (.sl 1 zs.length (rowZ zs)) := HoldR.rd (.inr ⟨b,c,c,f,rfl,hc,hM,hf⟩)
 have ki := j137 zs id hm hl
 have q : ((zs.idxOf id : Int) == -1) = false := ieq_ff (by omega)
 unfold eqF at ki ⊢
 refine j15 Try.func44 rfl (by decide +kernel) (by rw [Try.ntmps44];simp) (fun l X h => by simp only [AL.look] at h;(repeat' split at h);all_goals first | omega | cases h) ?_;rw [Try.ntmps44];simp only [frA]
 (repeat ((fail_if_success (show AWP _ _ (.region 1 _ _) _ _));first | apply j4 | refine q8 rfl ?_ | refine z8 rfl ?_ | apply j7 | (refine j0 fun K hK => ?_) | (refine x5 fun K hK => ?_) | ((first | apply j6 | apply z7 | ((first | refine z6 (hK _ ?_) | refine x6 (hK _ _ j5 ?_));clear hK K));(first | show AWP _ _ _ _ _ | ((try simp only [x7]);first | show loopQ _ _ _ _ _ _ | show cutQ _ _ _ _ | show AWP _ _ _ _ _))) | ((first | refine x8 [] rfl ?_ | refine j8 [] rfl ?_);simp (disch:=omega) only [go_sem,seval,hM,q];(repeat (first | refine ⟨by omega,?_⟩ | refine ⟨True.intro,?_⟩)))))
 refine j0 fun K hK => ?_
 iterate 2 ((first | refine z12 [] rfl rfl ?_ | refine x12 [] rfl rfl ?_ | refine j11 rfl rfl ?_ | refine q12 rfl rfl ?_);simp (disch:=omega) only [go_sem,seval,hM,q];(repeat (first | refine ⟨by omega,?_⟩ | refine ⟨True.intro,?_⟩)))
 (refine z17 _ (q18 [(1999,1999)] rfl rfl rfl rfl rfl rfl (ACalls.borrow (M := M) (xs := [.d (.v (.slice (some ⟨b,0,none⟩) zs.length c)),eqF id]) ki (.cons (.d hrd) (.cons (.refl _) .nil)) (by intro r hr;simp at hr;subst hr;trivial)) rfl (q11 (by repeat (first | exact trivial | refine ⟨rfl,?_⟩)) (by kernel_rfl))) ?_);simp (disch:=omega) only [go_sem,seval,hM,q]
 (repeat (first | apply j4 | refine q8 rfl ?_ | refine z8 rfl ?_ | apply j7 | (refine j0 fun K hK => ?_) | (refine x5 fun K hK => ?_) | ((first | apply j6 | apply z7 | ((first | refine z6 (hK _ ?_) | refine x6 (hK _ _ j5 ?_));clear hK K));(first | show AWP _ _ _ _ _ | ((try simp only [x7]);first | show loopQ _ _ _ _ _ _ | show cutQ _ _ _ _ | show AWP _ _ _ _ _))) | ((first | refine x8 [] rfl ?_ | refine j8 [] rfl ?_);simp (disch:=omega) only [go_sem,seval,hM,q];(repeat (first | refine ⟨by omega,?_⟩ | refine ⟨True.intro,?_⟩)))))
 refine z23 (dfI zs id b c M) (fun s => zs.length - s.j) ⟨zs.idxOf id + 1,f,by omega,fun k hk => by unfold movF;rw [if_neg (by omega)];exact hf k hk⟩ ?_ (fun s => ?_)
 ·unfold dfI eqF
  simp only []
  rw [setM_id hM]
  refine Weak.list ?_ ?_;(all_goals simp (disch:=omega) only [AllF,AllL,j13,q14,x13,exists_eq_left',go_sem,seval,hM,q]);(all_goals (repeat' (with_reducible apply And.intro)));(all_goals try (first | exact z10 rfl | (refine z14 ?_;omega) | (refine z10 ?_;simp;done)))
 obtain ⟨j,g,hj,hg⟩ := s
 unfold dfI eqF
 simp only [] at hj hg ⊢
 have e1 : ((j : Int) - 1).toNat = j - 1 := by omega
 by_cases hjl : j < zs.length
 ·have r1 : g j = [.v (.int .i64 (zs.getD j 0))] := by
   rw [hg j hjl];unfold movF;rw [if_neg (by omega)];rfl
  have hn := q138 hu hj.1 hjl hm
  have ke := z88 (zs.getD j 0) id
  rw [hn] at ke
  have hg2 : ∀ k,k < zs.length → putEl g (j - 1) 0 [.v (.int .i64 (zs.getD j 0))] k = movF zs (zs.idxOf id) (j + 1) k := by
   intro k hk
   unfold putEl
   by_cases e : k = j - 1
   ·rw [if_pos e]
    have hs : ∃ x,g (j - 1) = [x] := by
     rw [hg (j - 1) (by omega)]
     unfold movF
     split <;> exact ⟨_,rfl⟩
    obtain ⟨x,hx⟩ := hs
    rw [hx]
    unfold movF
    rw [if_pos ⟨by omega,by omega⟩,e,show j - 1 + 1 = j by omega]
    rfl
   ·rw [if_neg e,hg k hk]
    unfold movF
    by_cases h : zs.idxOf id ≤ k ∧ k + 1 < j
    ·rw [if_pos h,if_pos ⟨h.1,by omega⟩]
    ·rw [if_neg h,if_neg (by omega)]
  generalize zs.getD j 0 = x at *
  (repeat (first | apply j4 | refine q8 rfl ?_ | refine z8 rfl ?_ | apply j7 | (refine j0 fun K hK => ?_) | (refine x5 fun K hK => ?_) | ((first | apply j6 | apply z7 | ((first | refine z6 (hK _ ?_) | refine x6 (hK _ _ j5 ?_));clear hK K));(first | show AWP _ _ _ _ _ | ((try simp only [x7]);first | show loopQ _ _ _ _ _ _ | show cutQ _ _ _ _ | show AWP _ _ _ _ _))) | ((first | refine x10 rfl rfl rfl ?_ | refine j10 rfl rfl rfl ?_);simp (disch:=omega) only [go_sem,seval,q13,j34,r1,e1];(first | refine ⟨_,ke,?_⟩)) | ((first | refine x8 [] rfl ?_ | refine j8 [] rfl ?_);simp (disch:=omega) only [go_sem,seval,q13,j34,r1,e1];(repeat (first | refine ⟨by omega,?_⟩ | refine ⟨True.intro,?_⟩)))))
  refine ⟨⟨j + 1,putEl g (j - 1) 0 [.v (.int .i64 x)],⟨by omega,by omega⟩,hg2⟩,by simp only [];omega,?_⟩
  refine Weak.list ?_ ?_;(all_goals simp (disch:=omega) only [AllF,AllL,j13,q14,x13,exists_eq_left',go_sem,seval,q13,j34,r1,e1]);(all_goals (repeat' (with_reducible apply And.intro)));(all_goals try (first | exact z10 rfl | (refine z14 ?_;omega) | (refine z10 ?_;simp;done)))
 ·have ej : j = zs.length := by omega
  subst ej
  have e4 : zs.length - (zs.length - 1) = 1 := by omega
  have e5 : (zs.length - 1) * 1 / 1 = zs.length - 1 := by omega
  have e6 : ((zs.length : Int) - 1) = ((zs.length - 1 : Nat) : Int) := by omega
  (repeat (first | apply j4 | refine q8 rfl ?_ | refine z8 rfl ?_ | apply j7 | (refine j0 fun K hK => ?_) | (refine x5 fun K hK => ?_) | ((first | apply j6 | apply z7 | ((first | refine z6 (hK _ ?_) | refine x6 (hK _ _ j5 ?_));clear hK K));(first | show AWP _ _ _ _ _ | ((try simp only [x7]);first | show loopQ _ _ _ _ _ _ | show cutQ _ _ _ _ | show AWP _ _ _ _ _))) | ((first | refine x8 [] rfl ?_ | refine j8 [] rfl ?_);simp (disch:=omega) only [go_sem,seval,q13,j34,e1,e4,e5];(repeat (first | refine ⟨by omega,?_⟩ | refine ⟨True.intro,?_⟩)))))
  refine x27 (Weak.shrink _ _ b (zs.length - 1) ⟨3,1,c,zs.length,_⟩ rfl (q13 _ _ _) (by simp only [];omega)) ?_
  rw [j34]
  have hg3 : ∀ k,k < zs.length - 1 → (if (zs.length - 1) / 1 ≤ k ∧ k < (zs.length - 1) / 1 + 1 then [Dat.v (.int .i64 0)] else g k) = movF zs (zs.idxOf id) zs.length k := fun k hk => by
   rw [if_neg (by omega)]
   exact hg k (by omega)
  refine q10 ?_
  refine (q16 ⟨⟨fun k => if (zs.length - 1) / 1 ≤ k ∧ k < (zs.length - 1) / 1 + 1 then [.v (.int .i64 0)] else g k,hg3⟩,rfl,rfl⟩ ?_ ?_).1
  ·exact ⟨rfl,trivial⟩
  ·intro p hp;obtain rfl := List.mem_singleton.1 hp;rfl
theorem z138 {zs : List Int} {id : Int} (hm : id ∈ zs) (hu : zs.Nodup) : (zs.filter fun n => !(n == id)).length = zs.length - 1 ∧ ∀ k,k < zs.length - 1 → movF zs (zs.idxOf id) zs.length k = rowZ (zs.filter fun n => !(n == id)) k := by
 have hlt := List.idxOf_lt_length_of_mem hm
 have e : (zs.filter fun n => !(n == id)) = zs.eraseIdx (zs.idxOf id) := by
  have h1 := hu.erase_eq_filter id
  have h2 := List.erase_eq_eraseIdx_of_idxOf (l := zs) (a := id) (i := zs.idxOf id) rfl
  rw [← h2,h1]
  rfl
 rw [e]
 refine ⟨List.length_eraseIdx_of_lt hlt,fun k hk => ?_⟩
 unfold movF rowZ
 rw [List.getD_eq_getElem?_getD,List.getD_eq_getElem?_getD,List.getD_eq_getElem?_getD,List.getElem?_eraseIdx]
 by_cases h : zs.idxOf id ≤ k
 ·rw [if_pos ⟨h,by omega⟩,if_neg (by omega)]
 ·rw [if_neg (by omega),if_pos (by omega)]
theorem TrM.inplace {I : List Nat → List Int} {M M' : Nat → Option Ent} {A : List Nat → Option Nat} {V : List Nat → Value} (T : TrM I M A V) {p : List Nat} {l : List Int} {b n c n' : Nat} (hp : hasP A p = true) (hV : V p = .slice (some ⟨b,0,none⟩) n c)
  (hv : IdsV M' (.slice (some ⟨b,0,none⟩) n' c) l) (h2 : ∀ x,A p = some x → NodeAt M' A (updV V p (.slice (some ⟨b,0,none⟩) n' c)) p x) (h3 : ∀ x,x ≠ b → A p ≠ some x → M' x = M x) :
  TrM (updI I p l) M' A (updV V p (.slice (some ⟨b,0,none⟩) n' c)) := by
 obtain ⟨f,hf⟩ := T.intAt hp hV
 have nd : ∀ q x,A q = some x → x ≠ b := fun q x hq e => by subst e;exact T.nodeInt hq hf
 have rw' : ∀ q x m k,q ≠ p → hasP A q = true → V q = .slice (some ⟨x,0,none⟩) m k → x ≠ b := fun q x m k hne hq e e' => by
  subst e'
  exact hne (T.injV _ _ _ _ _ _ _ hq hp e hV)
 refine T.set hp hv h2 (fun b' n2 c2 e => ?_) fun x hx => ?_
 ·have e0 : b' = b := by cases e;rfl
  subst e0
  exact ⟨fun q hq => nd q _ hq rfl,fun q n3 c3 hne hq e => rw' q _ _ _ hne hq e rfl⟩
 ·rcases hx with ⟨q,hne,hq⟩ | ⟨q,m,k,hne,hq,e⟩
  ·exact h3 x (nd q x hq) fun e => hne (T.inj _ _ _ hq e)
  ·refine h3 x (rw' q x m k hne hq e) fun e' => ?_
   obtain ⟨f',hf'⟩ := T.intAt hq e
   exact T.nodeInt e' hf'
theorem q89 {l : Items} (hu : Uniq l) (p : List Nat) : (idsAt l p).Nodup := by
 unfold idsAt
 exact List.Nodup.sublist (List.Sublist.map _ List.filter_sublist) hu
theorem q61 {l : Items} {id : Int} {c : Cube} (h : (id,c) ∈ l) : id ∈ idsAt l (pathC c) := by
 unfold idsAt
 exact List.mem_map.2 ⟨(id,c),List.mem_filter.2 ⟨h,by simp⟩,rfl⟩
theorem z89 {M' : Nat → Option Ent} {b c : Nat} {zs : List Int} {id : Int} {f : Nat → List Dat} (hm : id ∈ zs) (hu : zs.Nodup) (hc : zs.length ≤ c) (hb : M' b = some ⟨3,1,c,zs.length - 1,f⟩) (hf : ∀ k,k < zs.length - 1 → f k = movF zs (zs.idxOf id) zs.length k) :
  IdsV M' (.slice (some ⟨b,0,none⟩) (zs.length - 1) c) (zs.filter fun n => !(n == id)) := by
 obtain ⟨h1,h2⟩ := z138 hm hu
 exact .inr ⟨b,c,f,by rw [h1],by omega,by rw [h1];exact hb,fun k hk => by rw [h1] at hk;rw [hf k hk,h2 k hk]⟩
set_option maxRecDepth 100000 in
theorem x138 {l : Items} {M : Nat → Option Ent} {A : List Nat → Option Nat} {V : List Nat → Value} (id : Int) (h : getI l id = none) :
  MCalls Try.prog 20 [.loc 1000 0,.p (.d (.v (.int .i64 id)))] (trL A V M (esI l)) (fun rs L => rs = [.p (.d (.v (.bool false)))] ∧ L = trL A V M (esI l)) := by
 have q1 := (x46 (q35.1 h)).1
 unfold trL trC
 refine j15 Try.func20 rfl (by decide +kernel) (by rw [Try.ntmps20];simp) (fun l X h => by simp only [AL.look] at h;(repeat' split at h);all_goals first | omega | cases h) ?_;rw [Try.ntmps20];simp only [frA]
 (repeat (first | apply j4 | refine q8 rfl ?_ | refine z8 rfl ?_ | apply j7 | (refine j0 fun K hK => ?_) | (refine x5 fun K hK => ?_) | ((first | apply j6 | apply z7 | ((first | refine z6 (hK _ ?_) | refine x6 (hK _ _ j5 ?_));clear hK K));(first | show AWP _ _ _ _ _ | ((try simp only [x7]);first | show loopQ _ _ _ _ _ _ | show cutQ _ _ _ _ | show AWP _ _ _ _ _))) | ((first | refine x8 [] rfl ?_ | refine j8 [] rfl ?_);simp (disch:=omega) only [go_sem,seval,hd,cb,q1];(repeat (first | refine ⟨by omega,?_⟩ | refine ⟨True.intro,?_⟩)))))
 refine q10 ?_
 refine (q16 ⟨rfl,rfl⟩ ?_ ?_).1
 ·exact ⟨rfl,trivial⟩
 ·simp [AL.look]
set_option maxRecDepth 100000 in
theorem j138 {l : Items} {M : Nat → Option Ent} {A : List Nat → Option Nat} {V : List Nat → Value} (T : TrM (idsAt l) M A V) (id : Int) (c : Cube) (h : getI l id = some c) (hu : Uniq l) (hl : l.length ≤ 1099511627776) (hp0 : pathC c = []) :
  MCalls Try.prog 20 [.loc 1000 0,.p (.d (.v (.int .i64 id)))] (trL A V M (esI l))
   (fun rs L => ∃ r : {r : (List Nat → Option Nat) × (List Nat → Value) × (Nat → Option Ent) // TrM (idsAt (delI l id)) r.2.2 r.1 r.2.1},rs = [.p (.d (.v (.bool true)))] ∧ L = trL r.val.1 r.val.2.1 r.val.2.2 (esI (delI l id))) := by
 have hmem := q86 h
 have q1 := j60 h
 have q2 := j85 (id := id) hu
 have hp := z87 T (esI (delI l id)) c hp0
 have hI := x86 hu hmem
 have hzm := q61 hmem
 have hzu := q89 hu (pathC c)
 have hlen := j46 l (pathC c)
 unfold cb at q1
 unfold trL trC at *
 refine j15 Try.func20 rfl (by decide +kernel) (by rw [Try.ntmps20];simp) (fun l X h => by simp only [AL.look] at h;(repeat' split at h);all_goals first | omega | cases h) ?_;rw [Try.ntmps20];simp only [frA]
 (repeat ((fail_if_success (show AWP _ _ (.region 7 _ _) _ _));first | apply j4 | refine q8 rfl ?_ | refine z8 rfl ?_ | apply j7 | (refine j0 fun K hK => ?_) | (refine x5 fun K hK => ?_) | ((first | apply j6 | apply z7 | ((first | refine z6 (hK _ ?_) | refine x6 (hK _ _ j5 ?_));clear hK K));(first | show AWP _ _ _ _ _ | ((try simp only [x7]);first | show loopQ _ _ _ _ _ _ | show cutQ _ _ _ _ | show AWP _ _ _ _ _))) | ((first | refine x8 [] rfl ?_ | refine j8 [] rfl ?_);simp (disch:=omega) only [go_sem,seval,hd,cb,q1,q2];(repeat (first | refine ⟨by omega,?_⟩ | refine ⟨True.intro,?_⟩)))))
 refine j0 fun K hK => ?_
 iterate 2 ((first | refine z12 [] rfl rfl ?_ | refine x12 [] rfl rfl ?_ | refine j11 rfl rfl ?_ | refine q12 rfl rfl ?_);simp (disch:=omega) only [go_sem,seval,hd,cb,q1,q2];(repeat (first | refine ⟨by omega,?_⟩ | refine ⟨True.intro,?_⟩)))
 (refine x17 (j16 [(1000,1000),(1001,1001),(1999,1999)] rfl rfl rfl rfl rfl rfl (hp) (fun _ => rfl) (q11 (by repeat (first | exact trivial | refine ⟨rfl,?_⟩)) (by kernel_rfl)) (fun _ => (q11 (by repeat (first | exact trivial | refine ⟨rfl,?_⟩)) (by kernel_rfl)))) ?_);rintro ⟨⟨A1,V1,M1⟩,T1⟩;simp (disch:=omega) only [go_sem,seval,hd,cb,q1,q2]
 simp only [] at T1
 have hp1 := x83 A1
 (repeat ((fail_if_success (show AWP _ _ (.region 8 _ _) _ _));first | apply j4 | refine q8 rfl ?_ | refine z8 rfl ?_ | apply j7 | (refine j0 fun K hK => ?_) | (refine x5 fun K hK => ?_) | ((first | apply j6 | apply z7 | ((first | refine z6 (hK _ ?_) | refine x6 (hK _ _ j5 ?_));clear hK K));(first | show AWP _ _ _ _ _ | ((try simp only [x7]);first | show loopQ _ _ _ _ _ _ | show cutQ _ _ _ _ | show AWP _ _ _ _ _))) | ((first | refine x8 [] rfl ?_ | refine j8 [] rfl ?_);simp (disch:=omega) only [go_sem,seval,hd,cb,q1,q2];(repeat (first | refine ⟨by omega,?_⟩ | refine ⟨True.intro,?_⟩)))))
 generalize esI (delI l id) = es at *
 rw [hI]
 generalize pathC c = p at *
 subst hp0
 have hids := T1.ids [] hp1
 generalize idsAt l [] = zs at *
 rcases hids with ⟨hI0,hV⟩ | ⟨b,c2,f,hV,hle,hb,hf⟩
 ·rw [hI0] at hzm;cases hzm
 have kd := j88 M1 b c2 f zs id hb hf hzm hzu hle (by omega)
 unfold eqF at kd
 refine j0 fun K hK => ?_
 iterate 6 ((first | refine z12 [] rfl rfl ?_ | refine x12 [] rfl rfl ?_ | refine j11 rfl rfl ?_ | refine q12 rfl rfl ?_);simp (disch:=omega) only [go_sem,seval,hd,cb,hV];(repeat (first | refine ⟨by omega,?_⟩ | refine ⟨True.intro,?_⟩)))
 (refine x17 (j16 [(1999,1999)] rfl rfl rfl rfl rfl rfl (kd) (fun _ => rfl) (q11 (by repeat (first | exact trivial | refine ⟨rfl,?_⟩)) (by kernel_rfl)) (fun _ => (q11 (by repeat (first | exact trivial | refine ⟨rfl,?_⟩)) (by kernel_rfl)))) ?_);rintro ⟨f2,hf2⟩;simp (disch:=omega) only [go_sem,seval,hd,cb,hV]
 (repeat (first | apply j4 | refine q8 rfl ?_ | refine z8 rfl ?_ | apply j7 | (refine j0 fun K hK => ?_) | (refine x5 fun K hK => ?_) | ((first | apply j6 | apply z7 | ((first | refine z6 (hK _ ?_) | refine x6 (hK _ _ j5 ?_));clear hK K));(first | show AWP _ _ _ _ _ | ((try simp only [x7]);first | show loopQ _ _ _ _ _ _ | show cutQ _ _ _ _ | show AWP _ _ _ _ _))) | ((first | refine x8 [] rfl ?_ | refine j8 [] rfl ?_);simp (disch:=omega) only [go_sem,seval,hd,cb,hV];(repeat (first | refine ⟨by omega,?_⟩ | refine ⟨True.intro,?_⟩)))))
 have T2 := T1.inplace (M' := (setM M1 b (some ⟨3,1,c2,zs.length - 1,f2⟩))) (n' := zs.length - 1) (l := zs.filter fun n => !(n == id)) hp1 hV (z89 hzm hzu hle (q13 _ _ _) hf2) (fun x e => by rw [T1.root] at e;cases e) (fun x hx _ => j12 _ _ hx)
 have c0 := z20 V1 [] (.slice (some ⟨b,0,none⟩) (zs.length - 1) c2)
 refine q10 ?_
 refine (q16 ⟨⟨(A1,updV V1 [] (.slice (some ⟨b,0,none⟩) (zs.length - 1) c2),(setM M1 b (some ⟨3,1,c2,zs.length - 1,f2⟩))),T2⟩,rfl,rfl⟩ ?_ ?_).1
 ·exact ⟨rfl,trivial⟩
 ·simp only [c0]
  simp [AL.look,q15]
set_option maxRecDepth 100000 in
theorem q139 {l : Items} {M : Nat → Option Ent} {A : List Nat → Option Nat} {V : List Nat → Value} (T : TrM (idsAt l) M A V) (id : Int) (c : Cube) (h : getI l id = some c) (hu : Uniq l) (hl : l.length ≤ 1099511627776) (hp0 : pathC c ≠ []) :
  MCalls Try.prog 20 [.loc 1000 0,.p (.d (.v (.int .i64 id)))] (trL A V M (esI l))
   (fun rs L => ∃ r : {r : (List Nat → Option Nat) × (List Nat → Value) × (Nat → Option Ent) // TrM (idsAt (delI l id)) r.2.2 r.1 r.2.1},rs = [.p (.d (.v (.bool true)))] ∧ L = trL r.val.1 r.val.2.1 r.val.2.2 (esI (delI l id))) := by
 have hmem := q86 h
 have q1 := j60 h
 have q2 := j85 (id := id) hu
 have hp := x87 T (esI (delI l id)) c hp0
 have hI := x86 hu hmem
 have hzm := q61 hmem
 have hzu := q89 hu (pathC c)
 have hlen := j46 l (pathC c)
 unfold cb at q1
 unfold trL trC at *
 refine j15 Try.func20 rfl (by decide +kernel) (by rw [Try.ntmps20];simp) (fun l X h => by simp only [AL.look] at h;(repeat' split at h);all_goals first | omega | cases h) ?_;rw [Try.ntmps20];simp only [frA]
 (repeat ((fail_if_success (show AWP _ _ (.region 7 _ _) _ _));first | apply j4 | refine q8 rfl ?_ | refine z8 rfl ?_ | apply j7 | (refine j0 fun K hK => ?_) | (refine x5 fun K hK => ?_) | ((first | apply j6 | apply z7 | ((first | refine z6 (hK _ ?_) | refine x6 (hK _ _ j5 ?_));clear hK K));(first | show AWP _ _ _ _ _ | ((try simp only [x7]);first | show loopQ _ _ _ _ _ _ | show cutQ _ _ _ _ | show AWP _ _ _ _ _))) | ((first | refine x8 [] rfl ?_ | refine j8 [] rfl ?_);simp (disch:=omega) only [go_sem,seval,hd,cb,q1,q2];(repeat (first | refine ⟨by omega,?_⟩ | refine ⟨True.intro,?_⟩)))))
 refine j0 fun K hK => ?_
 iterate 2 ((first | refine z12 [] rfl rfl ?_ | refine x12 [] rfl rfl ?_ | refine j11 rfl rfl ?_ | refine q12 rfl rfl ?_);simp (disch:=omega) only [go_sem,seval,hd,cb,q1,q2];(repeat (first | refine ⟨by omega,?_⟩ | refine ⟨True.intro,?_⟩)))
 (refine x17 (j16 [(1000,1000),(1001,1001),(1999,1999)] rfl rfl rfl rfl rfl rfl (hp) (fun _ => rfl) (q11 (by repeat (first | exact trivial | refine ⟨rfl,?_⟩)) (by kernel_rfl)) (fun _ => (q11 (by repeat (first | exact trivial | refine ⟨rfl,?_⟩)) (by kernel_rfl)))) ?_);rintro ⟨⟨A1,V1,M1,b0⟩,T1,hb0⟩;simp (disch:=omega) only [go_sem,seval,hd,cb,q1,q2]
 simp only [] at T1 hb0
 have hp1 := z18 hb0
 (repeat ((fail_if_success (show AWP _ _ (.region 8 _ _) _ _));first | apply j4 | refine q8 rfl ?_ | refine z8 rfl ?_ | apply j7 | (refine j0 fun K hK => ?_) | (refine x5 fun K hK => ?_) | ((first | apply j6 | apply z7 | ((first | refine z6 (hK _ ?_) | refine x6 (hK _ _ j5 ?_));clear hK K));(first | show AWP _ _ _ _ _ | ((try simp only [x7]);first | show loopQ _ _ _ _ _ _ | show cutQ _ _ _ _ | show AWP _ _ _ _ _))) | ((first | refine x8 [] rfl ?_ | refine j8 [] rfl ?_);simp (disch:=omega) only [go_sem,seval,hd,cb,q1,q2];(repeat (first | refine ⟨by omega,?_⟩ | refine ⟨True.intro,?_⟩)))))
 generalize esI (delI l id) = es at *
 rw [hI]
 generalize pathC c = p at *
 obtain ⟨f0,hMb,hf0⟩ := T1.node p b0 hb0
 unfold nodeC at hf0
 have hids := T1.ids p hp1
 generalize idsAt l p = zs at *
 rcases hids with ⟨hI0,hV⟩ | ⟨b,c2,f,hV,hle,hb,hf⟩
 ·rw [hI0] at hzm;cases hzm
 rw [hV] at hf0
 have kd := j88 M1 b c2 f zs id hb hf hzm hzu hle (by omega)
 unfold eqF at kd
 refine j0 fun K hK => ?_
 iterate 6 ((first | refine z12 [] rfl rfl ?_ | refine x12 [] rfl rfl ?_ | refine j11 rfl rfl ?_ | refine q12 rfl rfl ?_);simp (disch:=omega) only [go_sem,seval,hd,cb,hV,hMb,hf0];(repeat (first | refine ⟨by omega,?_⟩ | refine ⟨True.intro,?_⟩)))
 (refine x17 (j16 [(1999,1999)] rfl rfl rfl rfl rfl rfl (kd) (fun _ => rfl) (q11 (by repeat (first | exact trivial | refine ⟨rfl,?_⟩)) (by kernel_rfl)) (fun _ => (q11 (by repeat (first | exact trivial | refine ⟨rfl,?_⟩)) (by kernel_rfl)))) ?_);rintro ⟨f2,hf2⟩;simp (disch:=omega) only [go_sem,seval,hd,cb,hV,hMb,hf0]
 have hne : b0 ≠ b := fun e => T1.nodeInt hb0 (e ▸ hb)
 have hMb2 := fun E => (j12 M1 E hne).trans hMb
 (repeat (first | apply j4 | refine q8 rfl ?_ | refine z8 rfl ?_ | apply j7 | (refine j0 fun K hK => ?_) | (refine x5 fun K hK => ?_) | ((first | apply j6 | apply z7 | ((first | refine z6 (hK _ ?_) | refine x6 (hK _ _ j5 ?_));clear hK K));(first | show AWP _ _ _ _ _ | ((try simp only [x7]);first | show loopQ _ _ _ _ _ _ | show cutQ _ _ _ _ | show AWP _ _ _ _ _))) | ((first | refine x8 [] rfl ?_ | refine j8 [] rfl ?_);simp (disch:=omega) only [go_sem,seval,hd,cb,hV,hMb2,hf0];(repeat (first | refine ⟨by omega,?_⟩ | refine ⟨True.intro,?_⟩)))))
 have hf3 : putEl f0 0 3 [.v (.slice (some ⟨b,0,none⟩) (zs.length - 1) c2)] 0 = nodeC A1 (updV V1 p (.slice (some ⟨b,0,none⟩) (zs.length - 1) c2)) p := by
  unfold putEl nodeC
  rw [if_pos rfl,hf0,z20];rfl
 have T2 := T1.inplace (M' := (setM (setM M1 b (some ⟨3,1,c2,zs.length - 1,f2⟩)) b0 (some ⟨94,4,1,1,putEl f0 0 3 [.v (.slice (some ⟨b,0,none⟩) (zs.length - 1) c2)]⟩))) (n' := zs.length - 1) (l := zs.filter fun n => !(n == id)) hp1 hV (z89 hzm hzu hle ((j12 _ _ (Ne.symm hne)).trans (q13 _ _ _)) hf2) (fun x e => by rw [hb0] at e;cases e;exact ⟨_,q13 _ _ _,hf3⟩) (fun x hx hx2 => (j12 _ _ (fun e => hx2 (by rw [e];exact hb0))).trans (j12 _ _ hx))
 have c0 := x15 V1 (.slice (some ⟨b,0,none⟩) (zs.length - 1) c2) (Ne.symm hp0)
 refine q10 ?_
 refine (q16 ⟨⟨(A1,updV V1 p (.slice (some ⟨b,0,none⟩) (zs.length - 1) c2),(setM (setM M1 b (some ⟨3,1,c2,zs.length - 1,f2⟩)) b0 (some ⟨94,4,1,1,putEl f0 0 3 [.v (.slice (some ⟨b,0,none⟩) (zs.length - 1) c2)]⟩))),T2⟩,rfl,rfl⟩ ?_ ?_).1
 ·exact ⟨rfl,trivial⟩
 ·simp only [c0]
  simp [AL.look,q15]
def isV (u : Value) : AV := .is (· = u)
def trX (u0 u1 u2 u3 : Value) (o : Obj) : List (Nat × LV) := [(1000,.cells 96 [isV u0,isV u1,isV u2,isV u3,.mp 1001]),(1001,.obj o)]
set_option maxRecDepth 100000 in
theorem Len_x (u0 u1 u2 u3 : Value) (arr : Array MapEntry) (clock : Nat) : MCalls Try.prog 22 [.loc 1000 0] (trX u0 u1 u2 u3 (.map arr clock)) (fun rs L => rs = [.p (.d (.v (.int .i64 (arr.size : Int))))] ∧ L = trX u0 u1 u2 u3 (.map arr clock)) := by
 unfold trX
 refine j15 Try.func22 rfl (by decide +kernel) (by rw [Try.ntmps22];simp) (fun l X h => by simp only [AL.look] at h;(repeat' split at h);all_goals first | omega | cases h) ?_;rw [Try.ntmps22];simp only [frA]
 (repeat (first | apply j4 | refine q8 rfl ?_ | refine z8 rfl ?_ | apply j7 | (refine j0 fun K hK => ?_) | (refine x5 fun K hK => ?_) | ((first | apply j6 | apply z7 | ((first | refine z6 (hK _ ?_) | refine x6 (hK _ _ j5 ?_));clear hK K));(first | show AWP _ _ _ _ _ | ((try simp only [x7]);first | show loopQ _ _ _ _ _ _ | show cutQ _ _ _ _ | show AWP _ _ _ _ _))) | ((first | refine x8 [] rfl ?_ | refine j8 [] rfl ?_);simp (disch:=omega) only [go_sem,seval,hd,cb,trX,isV];(repeat (first | refine ⟨by omega,?_⟩ | refine ⟨True.intro,?_⟩)))))
 refine q10 ?_
 refine (q16 ⟨rfl,rfl⟩ ?_ ?_).1
 ·exact ⟨rfl,trivial⟩
 ·simp [AL.look,isV]
set_option maxRecDepth 100000 in
theorem LenX_c (A : List Nat → Option Nat) (V : List Nat → Value) (M : Nat → Option Ent) (es : List (List Int × PV)) : RCalls Try.prog 22 [.loc 1000 0] (trL A V M es) (.p (.d (.v (.int .i64 (es.length : Int))))) := by
 intro w h vs hz hr hl
 obtain ⟨l0,l1,l9⟩ := j83 (A := A) (V := V) (M := M) (es := es)
 obtain ⟨arr,c1,c2,c3,c4,c5⟩ := hl.1 1000 _ l0
 obtain ⟨marr,clock,m1,m2,m3,m4⟩ := hl.1 1001 _ l1
 have hsz : marr.size = es.length := m4.size
 have hL2 : LocsOK (fun _ => True) w h (trX (kidV A [0]) (kidV A [1]) (kidV A [2]) (V []) (.map marr clock)) := by
  refine ⟨fun l X hX => ?_,fun l l' X X' b hne e1 e2 hb hb' => ?_⟩
  ·simp only [trX,AL.look] at hX
   split at hX
   ·rename_i e;subst e;cases hX
    refine ⟨arr,trivial,c2,by rw [c3];rfl,c4,fun i v x hv hx => ?_⟩
    have key : ∀ (u : Value),(trC A V)[i]? = some (.p (.d (.v u))) → RelA w h v (isV u) ∧ v.oneCell' = true := by
     intro u hu
     obtain ⟨r1,r2⟩ := c5 i v _ hv hu
     exact ⟨z11 r1,r2⟩
    match i,hx with
    | 0,hx => cases hx;exact key _ rfl
    | 1,hx => cases hx;exact key _ rfl
    | 2,hx => cases hx;exact key _ rfl
    | 3,hx => cases hx;exact key _ rfl
    | 4,hx => cases hx;exact c5 4 v _ hv rfl
    | i + 5,hx => simp at hx
   ·split at hX
    ·rename_i e;subst e;cases hX
     exact ⟨trivial,m2,m3⟩
    ·cases hX
  ·have back : ∀ k Y,AL.look (trX (kidV A [0]) (kidV A [1]) (kidV A [2]) (V []) (.map marr clock)) k = some Y → ∃ Z,AL.look (trL A V M es) k = some Z ∧ (∀ b,inB h k Y b → inB h k Z b) := by
    intro k Y hY
    simp only [trX,AL.look] at hY
    split at hY
    ·rename_i e;subst e;cases hY;exact ⟨_,l0,fun b hb => hb⟩
    ·split at hY
     ·rename_i e;subst e;cases hY;exact ⟨_,l1,fun b hb => hb⟩
     ·cases hY
   obtain ⟨Z,z1,z2⟩ := back l X e1
   obtain ⟨Z',z3,z4⟩ := back l' X' e2
   exact hl.2 l l' Z Z' b hne z1 z3 (z2 b hb) (z4 b hb')
 have k := j129 (Len_x (kidV A [0]) (kidV A [1]) (kidV A [2]) (V []) marr clock) (fun l X hX => by
  simp only [trX,AL.look] at hX
  split at hX
  ·cases hX
   refine ⟨.cells _ _ fun c hc => ?_,fun k hk => ?_⟩
   ·simp only [List.mem_cons,List.not_mem_nil,or_false] at hc
    rcases hc with rfl | rfl | rfl | rfl | rfl <;> first | exact .is _ | exact .mp _
   ·have : k = 1001 := by simpa [LV.mentions,AV.mentions,isV] using hk
    subst this
    exact ⟨_,rfl⟩
  ·split at hX
   ·cases hX
    exact ⟨.obj _,fun k hk => by simp [LV.mentions] at hk⟩
   ·cases hX) rfl hz hr hL2
 rw [hsz] at k
 exact k
section
variable {M : Nat → Option Ent} {A : List Nat → Option Nat} {V : List Nat → Value}
theorem TrM.up {I : List Nat → List Int} (T : TrM I M A V) (p : List Nat) : ∀ (n : Nat) (r : List Nat),r.length = n → hasP A (p ++ r) = true → hasP A p = true
 |0,r,hr,h => by
  have : r = [] := List.eq_nil_of_length_eq_zero hr
  subst this
  rwa [List.append_nil] at h
 |n + 1,r,hr,h => by
  have hne : r ≠ [] := fun e => by subst e;simp at hr
  have er := (List.dropLast_concat_getLast hne).symm
  rw [er,← List.append_assoc] at h
  obtain ⟨b,hb⟩ := j45 h (by simp)
  exact T.up p n r.dropLast (by simp;omega) (T.pre _ _ _ hb)
theorem x89 {l : Items} (T : TrM (idsAt l) M A V) (c : Cube) : ∀ f p,gathT (hasP A) (idsAt l) c f p = gath l c f p := by
 have none : ∀ f p,hasP A p = false → gath l c f p = [] := by
  intro f p hp
  refine q128 l c f p fun x hx r e => ?_
  have h1 : hasP A (p ++ r) = false := by
   cases h : hasP A (p ++ r) with
   | false => rfl
   | true => rw [T.up p _ r rfl h] at hp;cases hp
  have h2 := T.gone _ h1
  rw [← e] at h2
  have h3 : x.1 ∈ idsAt l (pathC x.2) := q61 (c := x.2) (by simpa using hx)
  rw [h2] at h3;cases h3
 intro f
 induction f with
 |zero =>
  intro p
  unfold gathT gath
  cases hp : hasP A p with
  | true => rfl
  | false => rw [T.gone p hp];rfl
 |succ f ih =>
  intro p
  cases hp : hasP A p with
  |true =>
   rw [x81 _ _ _ _ _ hp]
   unfold gath
   congr 2
   funext k
   exact ih _
  | false => rw [j81 _ _ _ _ _ hp,none _ _ hp]
def fndZ (l : Items) (c : Cube) : List Int := srtZ (foundU l c)
theorem z61 {a b : List Int} (h : a.Perm b) : srtZ a = srtZ b := by
 unfold srtZ
 have tr : ∀ (x y z : Int),decide (x ≤ y) = true → decide (y ≤ z) = true → decide (x ≤ z) = true := fun x y z h1 h2 => by
  simp only [decide_eq_true_eq] at *;omega
 have tot : ∀ (x y : Int),(decide (x ≤ y) || decide (y ≤ x)) = true := fun x y => by
  rw [Bool.or_eq_true,decide_eq_true_eq,decide_eq_true_eq];omega
 refine List.Perm.eq_of_pairwise (le := fun x y => decide (x ≤ y) = true) (fun x y _ _ h1 h2 => ?_) (List.pairwise_mergeSort tr tot a) (List.pairwise_mergeSort tr tot b) (((List.mergeSort_perm a _).trans h).trans (List.mergeSort_perm b _).symm)
 simp only [decide_eq_true_eq] at h1 h2;omega
def AllSnd (l : Items) : Prop := ∀ x ∈ l,x.2.sound = true
theorem z139 : srtZ [] = [] := List.eq_nil_of_length_eq_zero (by unfold srtZ;simp)
theorem j89 {l : Items} (T : TrM (idsAt l) M A V) (hs : AllSnd l) (c : Cube) : ovZ (hasP A) (idsAt l) c = fndZ l c := by
 unfold ovZ fndZ
 cases hc : c.sound with
 |true =>
  rw [if_pos rfl,x89 T]
  exact z61 (x127 hc hs)
 |false =>
  rw [j127 hc]
  simp [z139]
theorem q90 {l : Items} (T : TrM (idsAt l) M A V) (c : Cube) : (gathT (hasP A) (idsAt l) c 128 []).length ≤ l.length := by
 rw [x89 T,(j43 l c 128 []).length_eq,List.length_map]
 exact List.length_filter_le _ _
end
section
variable {l : Items} {M : Nat → Option Ent} {A : List Nat → Option Nat} {V : List Nat → Value}
set_option maxRecDepth 100000 in
theorem z35 (T : TrM (idsAt l) M A V) (hs : AllSnd l) (hl : l.length ≤ 1099511627776) (c : Cube) :
  RCalls Try.prog 15 [.loc 1000 0,.p (.agg (cb c))] (trL A V M (esI l)) (.p (.d (.sl 1 (fndZ l c).length (rowZ (fndZ l c))))) := by
 have := x136 T (esI l) c (by have := q90 T c;omega)
 rw [j89 T hs] at this
 exact this
set_option maxRecDepth 100000 in
theorem j30 (T : TrM (idsAt l) M A V) (hs : AllSnd l) (hl : l.length ≤ 1099511627776) (h : BitVec 128) :
  RCalls Try.prog 16 [.loc 1000 0,.p (.agg (hd h))] (trL A V M (esI l)) (.p (.d (.sl 1 (fndZ l (headC h)).length (rowZ (fndZ l (headC h)))))) := by
 have := j136 T (esI l) h (by have := q90 T (headC h);omega)
 rw [j89 T hs] at this
 exact this
end
set_option maxRecDepth 100000 in
theorem x35 (A : List Nat → Option Nat) (V : List Nat → Value) (M : Nat → Option Ent) (l : Items) : RCalls Try.prog 22 [.loc 1000 0] (trL A V M (esI l)) (.p (.d (.v (.int .i64 (l.length : Int))))) := by
 have := LenX_c A V M (esI l)
 have e : (esI l).length = l.length := by unfold esI;simp
 rw [e] at this
 exact this
end Go.Proofs.Ytbamjcnhmmgnlaa
namespace Go.Proofs.Ytbamjcnhmmgnlaa
open Go Go.Proofs.Ytbamjcnhmmgnlaa.AL Go.RowKit
def awC : Cube := ⟨4,12⟩
def awZ : Cube := ⟨0,0⟩
theorem x61 : cb awC = [.v (.int .u64 0),.v (.int .u64 4),.v (.int .u64 0),.v (.int .u64 12)] := by
 have h1 : hi (4 : BitVec 128) = 0 := by decide
 have h2 : lo (4 : BitVec 128) = 4 := by decide
 have h3 : hi (12 : BitVec 128) = 0 := by decide
 have h4 : lo (12 : BitVec 128) = 12 := by decide
 unfold cb awC
 simp only [h1,h2,h3,h4]
theorem cb_awZ : cb awZ = [.v (.int .u64 0),.v (.int .u64 0),.v (.int .u64 0),.v (.int .u64 0)] := by
 unfold cb awZ
 simp only [j28,q29]
theorem hd_7 : hd 7 = [.v (.int .u64 0),.v (.int .u64 7)] := by
 have h1 : hi (7 : BitVec 128) = 0 := by decide
 have h2 : lo (7 : BitVec 128) = 7 := by decide
 unfold hd;simp only [h1,h2]
theorem hd_8 : hd 8 = [.v (.int .u64 0),.v (.int .u64 8)] := by
 have h1 : hi (8 : BitVec 128) = 0 := by decide
 have h2 : lo (8 : BitVec 128) = 8 := by decide
 unfold hd;simp only [h1,h2]
def awL : Items := [(5,awC),(3,awZ)]
theorem z90 : srtZ [5,3] = [3,5] := by
 have h := z61 (a := [5,3]) (b := [3,5]) (by decide)
 rw [h]
 unfold srtZ
 exact List.mergeSort_of_pairwise (by simp)
theorem srt_one (x : Int) : srtZ [x] = [x] := by
 unfold srtZ
 exact List.mergeSort_of_pairwise (by simp)
theorem fnd_7 : fndZ awL (headC 7) = [3,5] := by
 have : foundU awL (headC 7) = [5,3] := by decide +kernel
 unfold fndZ;rw [this,z90]
theorem fnd_8 : fndZ awL (headC 8) = [3] := by
 have : foundU awL (headC 8) = [3] := by decide +kernel
 unfold fndZ;rw [this,srt_one]
theorem fnd_C : fndZ awL awC = [3,5] := by
 have : foundU awL awC = [5,3] := by decide +kernel
 unfold fndZ;rw [this,z90]
theorem x139 : pathC awC ≠ [] := by
 have : (pathC awC).length = 126 := by rw [x23];decide +kernel
 intro e;rw [e] at this;cases this
theorem j139 : pathC awZ = [] := by
 have : (pathC awZ).length = 0 := by rw [x23];decide +kernel
 exact List.eq_nil_of_length_eq_zero this
theorem j61 : AllSnd awL := by
 intro x hx
 simp only [awL,List.mem_cons,List.not_mem_nil,or_false] at hx
 rcases hx with rfl | rfl <;> decide
set_option maxRecDepth 100000 in
theorem q140 : ACalls Try.prog 12 [] (· = [.d (.v (.bool true))]) := by
 have k0 := j86
 have k1 := q88 TrM.empty 5 awC (by decide) (by simp) x139
 rw [x61] at k1
 unfold trL trC at k1
 refine z13 Try.func12 rfl (by decide +kernel) (by rw [Try.ntmps12];simp) ?_;rw [Try.ntmps12];simp only [frOf]
 (repeat ((fail_if_success (show AWP _ _ (.region 1 _ _) _ _));first | apply j4 | refine q8 rfl ?_ | refine z8 rfl ?_ | apply j7 | (refine j0 fun K hK => ?_) | (refine x5 fun K hK => ?_) | ((first | apply j6 | apply z7 | ((first | refine z6 (hK _ ?_) | refine x6 (hK _ _ j5 ?_));clear hK K));(first | show AWP _ _ _ _ _ | ((try simp only [x7]);first | show loopQ _ _ _ _ _ _ | show cutQ _ _ _ _ | show AWP _ _ _ _ _))) | ((first | refine x8 [] rfl ?_ | refine j8 [] rfl ?_);simp (disch:=omega) only [go_sem,seval,hd,cb];(repeat (first | refine ⟨by omega,?_⟩ | refine ⟨True.intro,?_⟩)))))
 refine j0 fun K hK => ?_
 (refine z17 _ (q18 [(3,503),(1,501)] rfl rfl rfl rfl rfl rfl (k0) rfl (q11 (by repeat (first | exact trivial | refine ⟨rfl,?_⟩)) (by kernel_rfl))) ?_);simp (disch:=omega) only [go_sem,seval,hd,cb]
 (repeat ((fail_if_success (show AWP _ _ (.region 3 _ _) _ _));first | apply j4 | refine q8 rfl ?_ | refine z8 rfl ?_ | apply j7 | (refine j0 fun K hK => ?_) | (refine x5 fun K hK => ?_) | ((first | apply j6 | apply z7 | ((first | refine z6 (hK _ ?_) | refine x6 (hK _ _ j5 ?_));clear hK K));(first | show AWP _ _ _ _ _ | ((try simp only [x7]);first | show loopQ _ _ _ _ _ _ | show cutQ _ _ _ _ | show AWP _ _ _ _ _))) | ((first | refine x8 [] rfl ?_ | refine j8 [] rfl ?_);simp (disch:=omega) only [go_sem,seval,hd,cb];(repeat (first | refine ⟨by omega,?_⟩ | refine ⟨True.intro,?_⟩)))))
 refine z80 rfl ?_
 refine j0 fun K hK => ?_
 iterate 5 ((first | refine z12 [] rfl rfl ?_ | refine x12 [] rfl rfl ?_ | refine j11 rfl rfl ?_ | refine q12 rfl rfl ?_);simp (disch:=omega) only [go_sem,seval,hd,cb];(repeat (first | refine ⟨by omega,?_⟩ | refine ⟨True.intro,?_⟩)))
 (refine x17 (j16 [(1000,503),(1001,501),(1999,1999)] rfl rfl rfl rfl rfl rfl (k1) (fun _ => rfl) (q11 (by repeat (first | exact trivial | refine ⟨rfl,?_⟩)) (by kernel_rfl)) (fun _ => (q11 (by repeat (first | exact trivial | refine ⟨rfl,?_⟩)) (by kernel_rfl)))) ?_);rintro ⟨⟨A1,V1,M1⟩,T1⟩;simp (disch:=omega) only [go_sem,seval,hd,cb]
 simp only [] at T1
 have k2 := j87 T1 3 awZ (by decide +kernel) (by simp) j139
 rw [cb_awZ] at k2
 unfold trL trC at k2
 iterate 5 ((first | refine z12 [] rfl rfl ?_ | refine x12 [] rfl rfl ?_ | refine j11 rfl rfl ?_ | refine q12 rfl rfl ?_);simp (disch:=omega) only [go_sem,seval,hd,cb];(repeat (first | refine ⟨by omega,?_⟩ | refine ⟨True.intro,?_⟩)))
 (refine x17 (j16 [(1000,503),(1001,501),(1999,1999)] rfl rfl rfl rfl rfl rfl (k2) (fun _ => rfl) (q11 (by repeat (first | exact trivial | refine ⟨rfl,?_⟩)) (by kernel_rfl)) (fun _ => (q11 (by repeat (first | exact trivial | refine ⟨rfl,?_⟩)) (by kernel_rfl)))) ?_);rintro ⟨⟨A2,V2,M2⟩,T2⟩;simp (disch:=omega) only [go_sem,seval,hd,cb]
 have T2 : TrM (idsAt awL) M2 A2 V2 := T2
 have k3 := q87 (l := awL) (M := M2) (A := A2) (V := V2) 5 awC (by decide +kernel)
 rw [show addE awL 5 awC = 8 from by decide +kernel,x61] at k3
 unfold trL trC at k3
 iterate 5 ((first | refine z12 [] rfl rfl ?_ | refine x12 [] rfl rfl ?_ | refine j11 rfl rfl ?_ | refine q12 rfl rfl ?_);simp (disch:=omega) only [go_sem,seval,hd,cb];(repeat (first | refine ⟨by omega,?_⟩ | refine ⟨True.intro,?_⟩)))
 (refine z17 _ (q18 [(1000,503),(1001,501),(1999,1999)] rfl rfl rfl rfl rfl rfl (k3) rfl (q11 (by repeat (first | exact trivial | refine ⟨rfl,?_⟩)) (by kernel_rfl))) ?_);simp (disch:=omega) only [go_sem,seval,hd,cb]
 (repeat ((fail_if_success (show AWP _ _ (.region 5 _ _) _ _));first | apply j4 | refine q8 rfl ?_ | refine z8 rfl ?_ | apply j7 | (refine j0 fun K hK => ?_) | (refine x5 fun K hK => ?_) | ((first | apply j6 | apply z7 | ((first | refine z6 (hK _ ?_) | refine x6 (hK _ _ j5 ?_));clear hK K));(first | show AWP _ _ _ _ _ | ((try simp only [x7]);first | show loopQ _ _ _ _ _ _ | show cutQ _ _ _ _ | show AWP _ _ _ _ _))) | ((first | refine x8 [] rfl ?_ | refine j8 [] rfl ?_);simp (disch:=omega) only [go_sem,seval,hd,cb];(repeat (first | refine ⟨by omega,?_⟩ | refine ⟨True.intro,?_⟩)))))
 have k4 := j44 (j30 T2 j61 (by decide) 7)
 have k5 := j44 (j30 T2 j61 (by decide) 8)
 have k6 := j44 (z35 T2 j61 (by decide) awC)
 have k7 := j44 (x35 A2 V2 M2 awL)
 rw [fnd_7,hd_7] at k4
 rw [fnd_8,hd_8] at k5
 rw [fnd_C,x61] at k6
 rw [show ((awL.length : Nat) : Int) = 2 from rfl] at k7
 unfold trL trC at k4 k5 k6 k7
 have r0 : rowZ [3,5] 0 = [.v (.int .i64 3)] := rfl
 have r1 : rowZ [3,5] 1 = [.v (.int .i64 5)] := rfl
 refine j0 fun K hK => ?_
 iterate 2 ((first | refine z12 [] rfl rfl ?_ | refine x12 [] rfl rfl ?_ | refine j11 rfl rfl ?_ | refine q12 rfl rfl ?_);simp (disch:=omega) only [go_sem,seval,hd,cb,r0,r1];(repeat (first | refine ⟨by omega,?_⟩ | refine ⟨True.intro,?_⟩)))
 (refine z17 _ (q18 [(1000,503),(1001,501),(1999,1999)] rfl rfl rfl rfl rfl rfl (k4) rfl (q11 (by repeat (first | exact trivial | refine ⟨rfl,?_⟩)) (by kernel_rfl))) ?_);simp (disch:=omega) only [go_sem,seval,hd,cb,r0,r1]
 iterate 2 ((first | refine z12 [] rfl rfl ?_ | refine x12 [] rfl rfl ?_ | refine j11 rfl rfl ?_ | refine q12 rfl rfl ?_);simp (disch:=omega) only [go_sem,seval,hd,cb,r0,r1];(repeat (first | refine ⟨by omega,?_⟩ | refine ⟨True.intro,?_⟩)))
 (refine z17 _ (q18 [(1000,503),(1001,501),(1999,1999)] rfl rfl rfl rfl rfl rfl (k5) rfl (q11 (by repeat (first | exact trivial | refine ⟨rfl,?_⟩)) (by kernel_rfl))) ?_);simp (disch:=omega) only [go_sem,seval,hd,cb,r0,r1]
 (repeat ((fail_if_success (show AWP _ _ (.region 6 _ _) _ _));first | apply j4 | refine q8 rfl ?_ | refine z8 rfl ?_ | apply j7 | (refine j0 fun K hK => ?_) | (refine x5 fun K hK => ?_) | ((first | apply j6 | apply z7 | ((first | refine z6 (hK _ ?_) | refine x6 (hK _ _ j5 ?_));clear hK K));(first | show AWP _ _ _ _ _ | ((try simp only [x7]);first | show loopQ _ _ _ _ _ _ | show cutQ _ _ _ _ | show AWP _ _ _ _ _))) | ((first | refine x8 [] rfl ?_ | refine j8 [] rfl ?_);simp (disch:=omega) only [go_sem,seval,hd,cb,r0,r1];(repeat (first | refine ⟨by omega,?_⟩ | refine ⟨True.intro,?_⟩)))))
 refine j0 fun K hK => ?_
 iterate 22 ((first | refine z12 [] rfl rfl ?_ | refine x12 [] rfl rfl ?_ | refine j11 rfl rfl ?_ | refine q12 rfl rfl ?_);simp (disch:=omega) only [go_sem,seval,hd,cb,r0,r1];(repeat (first | refine ⟨by omega,?_⟩ | refine ⟨True.intro,?_⟩)))
 (refine z17 _ (q18 [(1000,503),(1001,501),(1999,1999)] rfl rfl rfl rfl rfl rfl (k7) rfl (q11 (by repeat (first | exact trivial | refine ⟨rfl,?_⟩)) (by kernel_rfl))) ?_);simp (disch:=omega) only [go_sem,seval,hd,cb,r0,r1]
 iterate 5 ((first | refine z12 [] rfl rfl ?_ | refine x12 [] rfl rfl ?_ | refine j11 rfl rfl ?_ | refine q12 rfl rfl ?_);simp (disch:=omega) only [go_sem,seval,hd,cb,r0,r1];(repeat (first | refine ⟨by omega,?_⟩ | refine ⟨True.intro,?_⟩)))
 (refine z17 _ (q18 [(1000,503),(1001,501),(1999,1999)] rfl rfl rfl rfl rfl rfl (k6) rfl (q11 (by repeat (first | exact trivial | refine ⟨rfl,?_⟩)) (by kernel_rfl))) ?_);simp (disch:=omega) only [go_sem,seval,hd,cb,r0,r1]
 (repeat (first | apply j4 | refine q8 rfl ?_ | refine z8 rfl ?_ | apply j7 | (refine j0 fun K hK => ?_) | (refine x5 fun K hK => ?_) | ((first | apply j6 | apply z7 | ((first | refine z6 (hK _ ?_) | refine x6 (hK _ _ j5 ?_));clear hK K));(first | show AWP _ _ _ _ _ | ((try simp only [x7]);first | show loopQ _ _ _ _ _ _ | show cutQ _ _ _ _ | show AWP _ _ _ _ _))) | ((first | refine x8 [] rfl ?_ | refine j8 [] rfl ?_);simp (disch:=omega) only [go_sem,seval,hd,cb,r0,r1];(repeat (first | refine ⟨by omega,?_⟩ | refine ⟨True.intro,?_⟩)))))
 refine q10 ⟨_,?_,rfl⟩;rw [Try.results12];simp (disch:=omega) only [ResVars,ResVar,ptrLoc,go_sem,seval,hd,cb,r0,r1]
theorem x90 (l : List Int) (i : Nat) (h : i < l.length) : l.drop i = l.getD i 0 :: l.drop (i + 1) := by
 rw [List.drop_eq_getElem_cons h,List.getD_eq_getElem?_getD,List.getElem?_eq_getElem h];rfl
theorem j90 {l : Items} (hu : Uniq l) (id : Int) : Uniq (delI l id) := by
 unfold Uniq delI at *
 exact List.Nodup.sublist (List.Sublist.map _ List.filter_sublist) hu
theorem q91 {l : Items} (hs : AllSnd l) (id : Int) : AllSnd (delI l id) := fun x hx => hs x (List.mem_filter.1 hx).1
theorem z140 {l : Items} (hu : Uniq l) {id : Int} (h : idIn l id = false) (c : Cube) : Uniq (l ++ [(id,c)]) := by
 unfold Uniq at *
 rw [List.map_append,List.nodup_append]
 refine ⟨hu,by simp,fun a ha b hb => ?_⟩
 simp at hb
 subst hb
 intro e
 subst e
 obtain ⟨x,hx,e⟩ := List.mem_map.1 ha
 have := List.any_eq_false.1 h x hx
 simp [e] at this
theorem snd_add {l : Items} (hs : AllSnd l) (id : Int) {c : Cube} (hc : c.sound = true) : AllSnd (l ++ [(id,c)]) := by
 intro x hx
 rcases List.mem_append.1 hx with hx | hx
 ·exact hs x hx
 ·simp at hx;subst hx;exact hc
end Go.Proofs.Ytbamjcnhmmgnlaa
namespace Go.Proofs.Ytbamjcnhmmgnlaa.AL
open Go.RowKit
end Go.Proofs.Ytbamjcnhmmgnlaa.AL
namespace Go.Proofs.Ytbamjcnhmmgnlaa
open Go Go.Proofs.Ytbamjcnhmmgnlaa.AL Go.RowKit
def intsI (a b : List Int) (s : {i : Nat // i ≤ a.length ∧ (a.drop i == b.drop i) = (a == b)}) : ASt :=
 ⟨[(5,.p (.d (.v (.int .i64 (s.val : Int))))),(1,.p (.d (.sl 1 a.length (rowZ b)))),(0,.p (.d (.sl 1 a.length (rowZ a))))],[]⟩
theorem x47 (a b : List Int) (ha : a.length ≤ 1099511627776) (hb : b.length ≤ 1099511627776) : ACalls Try.prog 23 [.d (.sl 1 a.length (rowZ a)),.d (.sl 1 b.length (rowZ b))] (· = [.d (.v (.bool (a == b)))]) := by
 by_cases hn : a.length = b.length
 ·rw [← hn]
  generalize hR : (a == b) = R
  have q0 : ((a.length : Int) != (a.length : Int)) = false := bne_self_eq_false _
  refine z13 Try.func23 rfl (by decide +kernel) (by rw [Try.ntmps23];simp) ?_;rw [Try.ntmps23];simp only [frOf]
  (repeat (first | apply j4 | refine q8 rfl ?_ | refine z8 rfl ?_ | apply j7 | (refine j0 fun K hK => ?_) | (refine x5 fun K hK => ?_) | ((first | apply j6 | apply z7 | ((first | refine z6 (hK _ ?_) | refine x6 (hK _ _ j5 ?_));clear hK K));(first | show AWP _ _ _ _ _ | ((try simp only [x7]);first | show loopQ _ _ _ _ _ _ | show cutQ _ _ _ _ | show AWP _ _ _ _ _))) | ((first | refine x8 [] rfl ?_ | refine j8 [] rfl ?_);simp (disch:=omega) only [go_sem,seval,hd,cb,q0];(repeat (first | refine ⟨by omega,?_⟩ | refine ⟨True.intro,?_⟩)))))
  refine z23 (intsI a b) (fun s => a.length - s.val) ⟨0,Nat.zero_le _,by rw [List.drop_zero,List.drop_zero]⟩ ?_ (fun s => ?_)
  ·unfold intsI
   refine Weak.list ?_ ?_;(all_goals simp (disch:=omega) only [AllF,AllL,j13,q14,x13,exists_eq_left',go_sem,seval,hd,cb]);(all_goals (repeat' (with_reducible apply And.intro)));(all_goals try (first | exact z10 rfl | (refine z14 ?_;omega) | (refine z10 ?_;simp;done)))
  obtain ⟨i,h1,h2⟩ := s
  unfold intsI
  simp only [] at h1 h2 ⊢
  rw [hR] at h2
  by_cases h : i < a.length
  ·have h3 : i < b.length := by omega
   rw [x90 a i h,x90 b i h3] at h2
   have r1 := q44 a i
   have r2 := q44 b i
   generalize a.getD i 0 = x at h2 r1
   generalize b.getD i 0 = y at h2 r2
   by_cases hxy : x = y
   ·subst hxy
    have q : (x != x) = false := bne_self_eq_false x
    have h4 : (a.drop (i + 1) == b.drop (i + 1)) = (a == b) := by
     rw [hR,← h2];simp
    (repeat (first | apply j4 | refine q8 rfl ?_ | refine z8 rfl ?_ | apply j7 | (refine j0 fun K hK => ?_) | (refine x5 fun K hK => ?_) | ((first | apply j6 | apply z7 | ((first | refine z6 (hK _ ?_) | refine x6 (hK _ _ j5 ?_));clear hK K));(first | show AWP _ _ _ _ _ | ((try simp only [x7]);first | show loopQ _ _ _ _ _ _ | show cutQ _ _ _ _ | show AWP _ _ _ _ _))) | ((first | refine x8 [] rfl ?_ | refine j8 [] rfl ?_);simp (disch:=omega) only [go_sem,seval,hd,cb,r1,r2,q];(repeat (first | refine ⟨by omega,?_⟩ | refine ⟨True.intro,?_⟩)))))
    refine ⟨⟨i + 1,by omega,h4⟩,by simp only [];omega,?_⟩
    refine Weak.list ?_ ?_;(all_goals simp (disch:=omega) only [AllF,AllL,j13,q14,x13,exists_eq_left',go_sem,seval,hd,cb,r1,r2,q]);(all_goals (repeat' (with_reducible apply And.intro)));(all_goals try (first | exact z10 rfl | (refine z14 ?_;omega) | (refine z10 ?_;simp;done)))
   ·have q : (x != y) = true := by simpa using hxy
    have h4 : R = false := by rw [← h2];simp [hxy]
    rw [h4]
    (repeat (first | apply j4 | refine q8 rfl ?_ | refine z8 rfl ?_ | apply j7 | (refine j0 fun K hK => ?_) | (refine x5 fun K hK => ?_) | ((first | apply j6 | apply z7 | ((first | refine z6 (hK _ ?_) | refine x6 (hK _ _ j5 ?_));clear hK K));(first | show AWP _ _ _ _ _ | ((try simp only [x7]);first | show loopQ _ _ _ _ _ _ | show cutQ _ _ _ _ | show AWP _ _ _ _ _))) | ((first | refine x8 [] rfl ?_ | refine j8 [] rfl ?_);simp (disch:=omega) only [go_sem,seval,hd,cb,r1,r2,q];(repeat (first | refine ⟨by omega,?_⟩ | refine ⟨True.intro,?_⟩)))))
    refine q10 ⟨_,?_,rfl⟩;rw [Try.results23];simp (disch:=omega) only [ResVars,ResVar,ptrLoc,go_sem,seval,hd,cb,r1,r2,q]
  ·have h4 : R = true := by
    rw [← h2,List.drop_eq_nil_of_le (by omega),List.drop_eq_nil_of_le (by omega)];rfl
   rw [h4]
   (repeat (first | apply j4 | refine q8 rfl ?_ | refine z8 rfl ?_ | apply j7 | (refine j0 fun K hK => ?_) | (refine x5 fun K hK => ?_) | ((first | apply j6 | apply z7 | ((first | refine z6 (hK _ ?_) | refine x6 (hK _ _ j5 ?_));clear hK K));(first | show AWP _ _ _ _ _ | ((try simp only [x7]);first | show loopQ _ _ _ _ _ _ | show cutQ _ _ _ _ | show AWP _ _ _ _ _))) | ((first | refine x8 [] rfl ?_ | refine j8 [] rfl ?_);simp (disch:=omega) only [go_sem,seval,hd,cb];(repeat (first | refine ⟨by omega,?_⟩ | refine ⟨True.intro,?_⟩)))))
   refine q10 ⟨_,?_,rfl⟩;rw [Try.results23];simp (disch:=omega) only [ResVars,ResVar,ptrLoc,go_sem,seval,hd,cb]
 ·have h4 : (a == b) = false := by
   rw [Bool.eq_false_iff]
   intro h;exact hn (by rw [eq_of_beq h])
  have q : ((a.length : Int) != (b.length : Int)) = true := by simpa using (by omega : ¬ (a.length : Int) = (b.length : Int))
  rw [h4]
  refine z13 Try.func23 rfl (by decide +kernel) (by rw [Try.ntmps23];simp) ?_;rw [Try.ntmps23];simp only [frOf]
  (repeat (first | apply j4 | refine q8 rfl ?_ | refine z8 rfl ?_ | apply j7 | (refine j0 fun K hK => ?_) | (refine x5 fun K hK => ?_) | ((first | apply j6 | apply z7 | ((first | refine z6 (hK _ ?_) | refine x6 (hK _ _ j5 ?_));clear hK K));(first | show AWP _ _ _ _ _ | ((try simp only [x7]);first | show loopQ _ _ _ _ _ _ | show cutQ _ _ _ _ | show AWP _ _ _ _ _))) | ((first | refine x8 [] rfl ?_ | refine j8 [] rfl ?_);simp (disch:=omega) only [go_sem,seval,hd,cb,q];(repeat (first | refine ⟨by omega,?_⟩ | refine ⟨True.intro,?_⟩)))))
  refine q10 ⟨_,?_,rfl⟩;rw [Try.results23];simp (disch:=omega) only [ResVars,ResVar,ptrLoc,go_sem,seval,hd,cb,q]
theorem j47 {l : Items} (hs : AllSnd l) (c : Cube) : (fndZ l c).length ≤ l.length := by
 unfold fndZ srtZ foundU
 rw [List.length_mergeSort,List.length_map]
 exact List.length_filter_le _ _
theorem q48 (l : List Cube) (i : Nat) : rowC l i = cb (l.getD i ⟨0,0⟩) := rfl
def addI (l : Items) (id : Int) (c : Cube) : Items := if addE l id c = 0 then l ++ [(id,c)] else l
theorem j35 (l : Items) (id : Int) (c : Cube) : (addI l id c).length ≤ l.length + 1 := by
 unfold addI;split <;> simp
theorem q36 {l : Items} (hu : Uniq l) (id : Int) (c : Cube) : Uniq (addI l id c) := by
 unfold addI
 split
 ·exact z140 hu (q47 ‹_›).2.2 c
 ·exact hu
theorem z36 {l : Items} (hs : AllSnd l) (id : Int) (c : Cube) : AllSnd (addI l id c) := by
 unfold addI
 split
 ·exact snd_add hs id (q47 ‹_›).2.1
 ·exact hs
set_option maxRecDepth 100000 in
theorem x36 {l : Items} {M : Nat → Option Ent} {A : List Nat → Option Nat} {V : List Nat → Value} (T : TrM (idsAt l) M A V) (id : Int) (c : Cube) (hl : l.length < 1099511627776) :
  MCalls Try.prog 13 [.loc 1000 0,.p (.d (.v (.int .i64 id))),.p (.agg (cb c))] (trL A V M (esI l))
   (fun rs L => ∃ r : {r : (List Nat → Option Nat) × (List Nat → Value) × (Nat → Option Ent) // TrM (idsAt (addI l id c)) r.2.2 r.1 r.2.1},rs = [.p (.d (.v (.int .i64 (addE l id c))))] ∧ L = trL r.val.1 r.val.2.1 r.val.2.2 (esI (addI l id c))) := by
 by_cases he : addE l id c = 0
 ·have e : addI l id c = l ++ [(id,c)] := by unfold addI;rw [if_pos he]
  rw [e,he]
  by_cases hp0 : pathC c = []
  ·exact j87 T id c he hl hp0
  ·exact q88 T id c he hl hp0
 ·have e : addI l id c = l := by unfold addI;rw [if_neg he]
  rw [e]
  exact (q87 (M := M) (A := A) (V := V) id c he).mono fun rs L ⟨h1,h2⟩ => ⟨⟨(A,V,M),T⟩,h1,h2⟩
def wiL (A : List Nat → Option Nat) (V : List Nat → Value) (M : Nat → Option Ent) (l : Items) : List (Nat × LV) :=
 [(503,.cells 96 [.p (.d (.v (kidV A [0]))),.p (.d (.v (kidV A [1]))),.p (.d (.v (kidV A [2]))),.p (.d (.v (V []))),.mp 501]),(501,.map [.i64] (esI l)),(1999,.raw M)]
end Go.Proofs.Ytbamjcnhmmgnlaa
namespace Go.Proofs.Ytbamjcnhmmgnlaa.AL
theorem Weak.arenaAt (A : ASt) (l : Nat) (hn : look A.locs l = none) : Weak A ⟨A.fr,(l,.raw noM) :: A.locs⟩ := by
 intro w0 g0 nt h a w r
 have hin : ∀ b,¬ inB h l (.raw noM) b := fun b hb => hb rfl
 refine ⟨h,r.size,r.defers,r.fr,fun k L hL => ?_,fun k k' L L' b hne hL hL' hb hb' => ?_,r.ext,r.pin⟩
 ·simp only [look] at hL
  split at hL
  ·rename_i e;subst e;cases hL;intro b E hb;cases hb
  ·exact r.locs k L hL
 ·simp only [look] at hL hL'
  split at hL
  ·rename_i e;subst e;cases hL;exact hin b hb
  ·split at hL'
   ·rename_i e;subst e;cases hL';exact hin b hb'
   ·exact r.sep k k' L L' b hne hL hL' hb hb'
theorem x140 {P : Program} {nt : Nat} {c : Code} {Q : Exit → ASt → Prop} {A : ASt} (l : Nat) (hn : look A.locs l = none) (h : AWP P nt c Q ⟨A.fr,(l,.raw noM) :: A.locs⟩) : AWP P nt c Q A := x27 (Weak.arenaAt A l hn) h
end Go.Proofs.Ytbamjcnhmmgnlaa.AL
namespace Go.Proofs.Ytbamjcnhmmgnlaa
open Go Go.Proofs.Ytbamjcnhmmgnlaa.AL Go.RowKit
set_option maxRecDepth 100000 in
theorem z91 {l : Items} {M : Nat → Option Ent} {A : List Nat → Option Nat} {V : List Nat → Value} (T : TrM (idsAt l) M A V) (hu : Uniq l) (id : Int) (hl : l.length ≤ 1099511627776) :
  MCalls Try.prog 20 [.loc 1000 0,.p (.d (.v (.int .i64 id)))] (trL A V M (esI l))
   (fun rs L => ∃ r : {r : (List Nat → Option Nat) × (List Nat → Value) × (Nat → Option Ent) // TrM (idsAt (delI l id)) r.2.2 r.1 r.2.1},rs = [.p (.d (.v (.bool (idIn l id))))] ∧ L = trL r.val.1 r.val.2.1 r.val.2.2 (esI (delI l id))) := by
 cases hg : getI l id with
 |none =>
  have hin := q35.1 hg
  have e : delI l id = l := by
   unfold delI
   rw [List.filter_eq_self]
   intro x hx
   have := List.any_eq_false.1 hin x hx
   simpa using this
  rw [e,hin]
  exact (x138 (M := M) (A := A) (V := V) id hg).mono fun rs L ⟨h1,h2⟩ => ⟨⟨(A,V,M),T⟩,h1,h2⟩
 |some c =>
  have hin : idIn l id = true := by
   cases e : idIn l id with
   | true => rfl
   | false => rw [q35.2 e] at hg;cases hg
  rw [hin]
  by_cases hp0 : pathC c = []
  ·exact j138 T id c hg hu hl hp0
  ·exact q139 T id c hg hu hl hp0
def numb (cs : List Cube) : Nat → Nat → Items
 | _,0 => []
 | i,n + 1 => (if (cs.getD i ⟨0,0⟩).sound then [((i : Int),cs.getD i ⟨0,0⟩)] else []) ++ numb cs (i + 1) n
theorem x91 (cs : List Cube) : ∀ (n i : Nat),numb cs i (n + 1) = numb cs i n ++ (if (cs.getD (i + n) ⟨0,0⟩).sound then [(((i + n : Nat) : Int),cs.getD (i + n) ⟨0,0⟩)] else [])
 | 0,i => by simp [numb]
 |n + 1,i => by
  have ih := x91 cs n (i + 1)
  have e : i + 1 + n = i + (n + 1) := by omega
  rw [e] at ih
  rw [numb,ih,numb,List.append_assoc]
theorem z48 (cs : List Cube) : ∀ (n i : Nat) (x : Int × Cube),x ∈ numb cs i n → (i : Int) ≤ x.1 ∧ x.1 < ((i + n : Nat) : Int)
 | 0,i,x,h => by cases h
 |n + 1,i,x,h => by
  rw [numb] at h
  rcases List.mem_append.1 h with h | h
  ·split at h
   ·simp at h;subst h;simp only [];omega
   ·cases h
  ·have := z48 cs n (i + 1) x h
   omega
theorem j91 {l : Items} {id : Int} (h0 : 0 ≤ id) (hi : idIn l id = false) (c : Cube) : addI l id c = l ++ (if c.sound then [(id,c)] else []) := by
 have e : addE l id c = if c.sound then 0 else 2 := by
  unfold addE
  rw [if_neg (by omega),hi];rfl
 unfold addI
 rw [e]
 cases c.sound <;> simp
theorem q92 {l : Items} {cs : List Cube} {i : Nat} (h : l = numb cs 0 i) : addI l (i : Int) (cs.getD i ⟨0,0⟩) = numb cs 0 (i + 1) := by
 subst h
 have hin : idIn (numb cs 0 i) (i : Int) = false := by
  unfold idIn
  rw [List.any_eq_false]
  intro x hx
  have := z48 cs i 0 x hx
  simp;omega
 rw [x91,Nat.zero_add]
 exact j91 (by omega) hin _
def InB (cs : List Cube) (k n : Nat) (g : Items) (l : Items) : Prop := l.Perm (g ++ numb cs k n)
theorem addB {cs : List Cube} {k n : Nat} {g l : Items} (hg : ∀ x ∈ g,x.1 = 100) (hk : k + 1 + n ≤ 40) (h : InB cs (k + 1) n g l) : InB cs k (n + 1) g (addI l (k : Int) (cs.getD k ⟨0,0⟩)) := by
 unfold InB at *
 have hin : idIn l (k : Int) = false := by
  unfold idIn
  rw [List.any_eq_false]
  intro x hx
  rcases List.mem_append.1 (h.mem_iff.1 hx) with hx | hx
  ·have := hg x hx;simp;omega
  ·have := z48 cs n (k + 1) x hx
   simp;omega
 rw [numb,j91 (by omega) hin]
 cases hs : (cs.getD k ⟨0,0⟩).sound with
 | false => simpa using h
 |true =>
  simp only [if_true]
  refine List.perm_append_comm.trans ?_
  refine (List.Perm.cons _ h).trans ?_
  exact List.perm_middle.symm
theorem delB {cs : List Cube} {n : Nat} {g l : Items} (hg : ∀ x ∈ g,x.1 = 100) (hn : n ≤ 40) (h : InB cs 0 n g l) : (delI l 100).Perm (numb cs 0 n) := by
 unfold InB at h
 unfold delI
 refine (h.filter _).trans ?_
 rw [List.filter_append]
 have e1 : (g.filter fun x => !(x.1 == 100)) = [] := by
  rw [List.filter_eq_nil_iff]
  intro x hx
  simp [hg x hx]
 have e2 : ((numb cs 0 n).filter fun x => !(x.1 == 100)) = numb cs 0 n := by
  rw [List.filter_eq_self]
  intro x hx
  have := z48 cs n 0 x hx
  simp;omega
 rw [e1,e2]
 exact List.Perm.refl _
theorem x48 {a b : Items} (h : a.Perm b) (c : Cube) : fndZ a c = fndZ b c := by
 unfold fndZ foundU
 exact z61 ((h.filter _).map _)
structure OrS (cs : List Cube) (n : Nat) (g : Items) where
 i : Nat
 la : Items
 A : List Nat → Option Nat
 V : List Nat → Value
 M : Nat → Option Ent
 lb : Items
 B : List Nat → Option Nat
 W : List Nat → Value
 K : Nat → Option Ent
 hi : i ≤ n
 ha : la = numb cs 0 i
 hb : InB cs (n - i) i g lb
 hl : la.length ≤ i ∧ lb.length ≤ i + 1
 TA : TrM (idsAt la) M A V
 TB : TrM (idsAt lb) K B W
 ua : Uniq la
 ub : Uniq lb
 sa : AllSnd la
 sb : AllSnd lb
def wiB (A : List Nat → Option Nat) (V : List Nat → Value) (M : Nat → Option Ent) (l : Items) : List (Nat × LV) :=
 [(603,.cells 96 [.p (.d (.v (kidV A [0]))),.p (.d (.v (kidV A [1]))),.p (.d (.v (kidV A [2]))),.p (.d (.v (V []))),.mp 601]),(601,.map [.i64] (esI l)),(699,.raw M)]
def orI (cs : List Cube) (n : Nat) (g : Items) (c : Cube) (h : BitVec 128) (s : OrS cs n g) : ASt :=
 ⟨[(11,.p (.d (.v (.int .i64 (s.i : Int))))),(10,.loc 603 0),(9,.loc 503 0),(7,.p (.d (.bx (cb c)))),(6,.p (.d (.bx (hd h)))),(0,.p (.d (.sl 4 n (rowC cs))))],wiL s.A s.V s.M s.la ++ wiB s.B s.W s.K s.lb⟩
theorem j140 (c : Cube) : ∀ x ∈ addI [] 100 c,x.1 = 100 := by
 intro x hx
 unfold addI at hx
 split at hx
 ·simp at hx;subst hx;rfl
 ·cases hx
set_option maxRecDepth 100000 in
theorem q141 (cs : List Cube) (gone : Cube) (h : BitVec 128) (c : Cube) (hcs : cs.length ≤ 1099511627775) : ACalls Try.prog 6 [.d (.sl 4 cs.length (rowC cs)),.agg (cb gone),.agg (hd h),.agg (cb c)] (· = [.d (.v (.bool true))]) := by
 have k0 := j86
 have ka := q140
 have kg := x36 TrM.empty 100 gone (by simp)
 have hg := j140 gone
 have hgl := j35 [] 100 gone
 have gu := q36 (l := []) List.Pairwise.nil 100 gone
 have gs := z36 (l := []) (fun x hx => by cases hx) 100 gone
 generalize addI [] 100 gone = g at *
 unfold cb trL trC at kg
 refine z13 Try.func6 rfl (by decide +kernel) (by rw [Try.ntmps6];simp) ?_;rw [Try.ntmps6];simp only [frOf]
 (repeat ((fail_if_success (show AWP _ _ (.region 1 _ _) _ _));first | apply j4 | refine q8 rfl ?_ | refine z8 rfl ?_ | apply j7 | (refine j0 fun K hK => ?_) | (refine x5 fun K hK => ?_) | ((first | apply j6 | apply z7 | ((first | refine z6 (hK _ ?_) | refine x6 (hK _ _ j5 ?_));clear hK K));(first | show AWP _ _ _ _ _ | ((try simp only [x7]);first | show loopQ _ _ _ _ _ _ | show cutQ _ _ _ _ | show AWP _ _ _ _ _))) | ((first | refine x8 [] rfl ?_ | refine j8 [] rfl ?_);simp (disch:=omega) only [go_sem,seval,hd,cb];(repeat (first | refine ⟨by omega,?_⟩ | refine ⟨True.intro,?_⟩)))))
 refine j0 fun K hK => ?_
 (refine z17 _ (q18 [(3,503),(1,501)] rfl rfl rfl rfl rfl rfl (k0) rfl (q11 (by repeat (first | exact trivial | refine ⟨rfl,?_⟩)) (by kernel_rfl))) ?_);simp (disch:=omega) only [go_sem,seval,hd,cb]
 (refine z17 _ (q18 [(3,603),(1,601)] rfl rfl rfl rfl rfl rfl (k0) rfl (q11 (by repeat (first | exact trivial | refine ⟨rfl,?_⟩)) (by kernel_rfl))) ?_);simp (disch:=omega) only [go_sem,seval,hd,cb]
 (repeat ((fail_if_success (show AWP _ _ (.region 4 _ _) _ _));first | apply j4 | refine q8 rfl ?_ | refine z8 rfl ?_ | apply j7 | (refine j0 fun K hK => ?_) | (refine x5 fun K hK => ?_) | ((first | apply j6 | apply z7 | ((first | refine z6 (hK _ ?_) | refine x6 (hK _ _ j5 ?_));clear hK K));(first | show AWP _ _ _ _ _ | ((try simp only [x7]);first | show loopQ _ _ _ _ _ _ | show cutQ _ _ _ _ | show AWP _ _ _ _ _))) | ((first | refine x10 rfl rfl rfl ?_ | refine j10 rfl rfl rfl ?_);simp (disch:=omega) only [go_sem,seval,hd,cb];(first | refine ⟨_,ka,?_⟩)) | ((first | refine x8 [] rfl ?_ | refine j8 [] rfl ?_);simp (disch:=omega) only [go_sem,seval,hd,cb];(repeat (first | refine ⟨by omega,?_⟩ | refine ⟨True.intro,?_⟩)))))
 refine z80 rfl ?_
 refine x140 699 rfl ?_
 by_cases hn : 40 < cs.length
 ·have qn : decide ((cs.length : Int) > 40) = true := decide_eq_true (by omega)
  have hn40 : 40 ≤ 40 := by omega
  have hnc : 40 ≤ cs.length := by omega
  (repeat ((fail_if_success (show AWP _ _ (.region 6 _ _) _ _));first | apply j4 | refine q8 rfl ?_ | refine z8 rfl ?_ | apply j7 | (refine j0 fun K hK => ?_) | (refine x5 fun K hK => ?_) | ((first | apply j6 | apply z7 | ((first | refine z6 (hK _ ?_) | refine x6 (hK _ _ j5 ?_));clear hK K));(first | show AWP _ _ _ _ _ | ((try simp only [x7]);first | show loopQ _ _ _ _ _ _ | show cutQ _ _ _ _ | show AWP _ _ _ _ _))) | ((first | refine x8 [] rfl ?_ | refine j8 [] rfl ?_);simp (disch:=omega) only [go_sem,seval,hd,cb,qn];(repeat (first | refine ⟨by omega,?_⟩ | refine ⟨True.intro,?_⟩)))))
  refine j0 fun K hK => ?_
  iterate 2 ((first | refine z12 [] rfl rfl ?_ | refine x12 [] rfl rfl ?_ | refine j11 rfl rfl ?_ | refine q12 rfl rfl ?_);simp (disch:=omega) only [go_sem,seval,hd,cb,qn];(repeat (first | refine ⟨by omega,?_⟩ | refine ⟨True.intro,?_⟩)))
  (refine x17 (j16 [(1000,603),(1001,601),(1999,699)] rfl rfl rfl rfl rfl rfl (kg) (fun _ => rfl) (q11 (by repeat (first | exact trivial | refine ⟨rfl,?_⟩)) (by kernel_rfl)) (fun _ => (q11 (by repeat (first | exact trivial | refine ⟨rfl,?_⟩)) (by kernel_rfl)))) ?_);rintro ⟨⟨B0,W0,K0⟩,T0⟩;simp (disch:=omega) only [go_sem,seval,hd,cb,qn]
  simp only [] at T0
  (repeat (first | apply j4 | refine q8 rfl ?_ | refine z8 rfl ?_ | apply j7 | (refine j0 fun K hK => ?_) | (refine x5 fun K hK => ?_) | ((first | apply j6 | apply z7 | ((first | refine z6 (hK _ ?_) | refine x6 (hK _ _ j5 ?_));clear hK K));(first | show AWP _ _ _ _ _ | ((try simp only [x7]);first | show loopQ _ _ _ _ _ _ | show cutQ _ _ _ _ | show AWP _ _ _ _ _))) | ((first | refine x8 [] rfl ?_ | refine j8 [] rfl ?_);simp (disch:=omega) only [go_sem,seval,hd,cb,qn];(repeat (first | refine ⟨by omega,?_⟩ | refine ⟨True.intro,?_⟩)))))
  refine z23 (orI cs 40 g c h) (fun s => 40 - s.i) ⟨0,[],noA,noV,noM,g,B0,W0,K0,by omega,rfl,by unfold InB numb;simp,⟨by simp,by simpa using hgl⟩,TrM.empty,T0,List.Pairwise.nil,gu,fun x hx => (by cases hx),gs⟩ ?_ (fun s => ?_)
  ·unfold orI wiL wiB
   simp only [List.cons_append,List.nil_append,show kidV noA [0] = .pointer none from rfl,show kidV noA [1] = .pointer none from rfl,show kidV noA [2] = .pointer none from rfl,show noV [] = .slice none 0 0 from rfl,show esI [] = [] from rfl]
   refine Weak.list ?_ ?_;(all_goals simp (disch:=omega) only [AllF,AllL,j13,q14,x13,exists_eq_left',go_sem,seval,hd,cb,qn]);(all_goals (repeat' (with_reducible apply And.intro)));(all_goals try (first | exact z10 rfl | (refine z14 ?_;omega) | (refine z10 ?_;simp;done)))
  obtain ⟨i,la,A,V,M,lb,B,W,K1,hi,ha,hb,hl,TA,TB,ua,ub,sa,sb⟩ := s
  unfold orI wiL wiB
  simp only [List.cons_append,List.nil_append] at hi ha hb hl ⊢
  by_cases hlt : i < 40
  ·have r1 := q48 cs i
   have r2 := q48 cs (40 - 1 - i)
   have e1 : ((39 : Int) - (i : Int)).toNat = 40 - 1 - i := by omega
   have e2 : ((40 - 1 - i : Nat) : Int) = (39 : Int) - (i : Int) := by omega
   have ka1 := x36 TA (i : Int) (cs.getD i ⟨0,0⟩) (by omega)
   have kb1 := x36 TB ((40 - 1 - i : Nat) : Int) (cs.getD (40 - 1 - i) ⟨0,0⟩) (by omega)
   have na := q92 ha
   have nb := addB (k := 40 - 1 - i) (n := i) hg (by omega) (by rw [show 40 - 1 - i + 1 = 40 - i by omega];exact hb)
   have ua2 := q36 ua (i : Int) (cs.getD i ⟨0,0⟩)
   have sa2 := z36 sa (i : Int) (cs.getD i ⟨0,0⟩)
   have la2 := j35 la (i : Int) (cs.getD i ⟨0,0⟩)
   have ub2 := q36 ub ((40 - 1 - i : Nat) : Int) (cs.getD (40 - 1 - i) ⟨0,0⟩)
   have sb2 := z36 sb ((40 - 1 - i : Nat) : Int) (cs.getD (40 - 1 - i) ⟨0,0⟩)
   have lb2 := j35 lb ((40 - 1 - i : Nat) : Int) (cs.getD (40 - 1 - i) ⟨0,0⟩)
   generalize addI la (i : Int) (cs.getD i ⟨0,0⟩) = la' at *
   generalize addI lb ((40 - 1 - i : Nat) : Int) (cs.getD (40 - 1 - i) ⟨0,0⟩) = lb' at *
   generalize cs.getD i ⟨0,0⟩ = x at *
   generalize cs.getD (40 - 1 - i) ⟨0,0⟩ = y at *
   rw [e2] at kb1
   unfold cb at r1 r2 ka1 kb1
   unfold trL trC at ka1 kb1
   (repeat (first | apply j4 | refine q8 rfl ?_ | refine z8 rfl ?_ | apply j7 | (refine j0 fun K hK => ?_) | (refine x5 fun K hK => ?_) | ((first | apply j6 | apply z7 | ((first | refine z6 (hK _ ?_) | refine x6 (hK _ _ j5 ?_));clear hK K));(first | show AWP _ _ _ _ _ | ((try simp only [x7]);first | show loopQ _ _ _ _ _ _ | show cutQ _ _ _ _ | show AWP _ _ _ _ _))) | ((first | refine x8 [] rfl ?_ | refine j8 [] rfl ?_);simp (disch:=omega) only [go_sem,seval,hd,cb,r1,r2,e1];(repeat (first | refine ⟨by omega,?_⟩ | refine ⟨True.intro,?_⟩)))))
   (refine x17 (j16 [(1000,503),(1001,501),(1999,1999)] rfl rfl rfl rfl rfl rfl (ka1) (fun _ => rfl) (q11 (by repeat (first | exact trivial | refine ⟨rfl,?_⟩)) (by kernel_rfl)) (fun _ => (q11 (by repeat (first | exact trivial | refine ⟨rfl,?_⟩)) (by kernel_rfl)))) ?_);rintro ⟨⟨A1,V1,M1⟩,T1⟩;simp (disch:=omega) only [go_sem,seval,hd,cb,r1,r2,e1]
   (repeat (first | apply j4 | refine q8 rfl ?_ | refine z8 rfl ?_ | apply j7 | (refine j0 fun K hK => ?_) | (refine x5 fun K hK => ?_) | ((first | apply j6 | apply z7 | ((first | refine z6 (hK _ ?_) | refine x6 (hK _ _ j5 ?_));clear hK K));(first | show AWP _ _ _ _ _ | ((try simp only [x7]);first | show loopQ _ _ _ _ _ _ | show cutQ _ _ _ _ | show AWP _ _ _ _ _))) | ((first | refine x8 [] rfl ?_ | refine j8 [] rfl ?_);simp (disch:=omega) only [go_sem,seval,hd,cb,r1,r2,e1];(repeat (first | refine ⟨by omega,?_⟩ | refine ⟨True.intro,?_⟩)))))
   (refine x17 (j16 [(1000,603),(1001,601),(1999,699)] rfl rfl rfl rfl rfl rfl (kb1) (fun _ => rfl) (q11 (by repeat (first | exact trivial | refine ⟨rfl,?_⟩)) (by kernel_rfl)) (fun _ => (q11 (by repeat (first | exact trivial | refine ⟨rfl,?_⟩)) (by kernel_rfl)))) ?_);rintro ⟨⟨B1,W1,K2⟩,T2⟩;simp (disch:=omega) only [go_sem,seval,hd,cb,r1,r2,e1]
   (repeat (first | apply j4 | refine q8 rfl ?_ | refine z8 rfl ?_ | apply j7 | (refine j0 fun K hK => ?_) | (refine x5 fun K hK => ?_) | ((first | apply j6 | apply z7 | ((first | refine z6 (hK _ ?_) | refine x6 (hK _ _ j5 ?_));clear hK K));(first | show AWP _ _ _ _ _ | ((try simp only [x7]);first | show loopQ _ _ _ _ _ _ | show cutQ _ _ _ _ | show AWP _ _ _ _ _))) | ((first | refine x8 [] rfl ?_ | refine j8 [] rfl ?_);simp (disch:=omega) only [go_sem,seval,hd,cb,r1,r2,e1];(repeat (first | refine ⟨by omega,?_⟩ | refine ⟨True.intro,?_⟩)))))
   refine ⟨⟨i + 1,la',A1,V1,M1,lb',B1,W1,K2,by omega,na,by rw [show 40 - (i + 1) = 40 - 1 - i by omega];exact nb,⟨by omega,by omega⟩,T1,T2,ua2,ub2,sa2,sb2⟩,by simp only [];omega,?_⟩
   refine Weak.list ?_ ?_;(all_goals simp (disch:=omega) only [AllF,AllL,j13,q14,x13,exists_eq_left',go_sem,seval,hd,cb,r1,r2,e1]);(all_goals (repeat' (with_reducible apply And.intro)));(all_goals try (first | exact z10 rfl | (refine z14 ?_;omega) | (refine z10 ?_;simp;done)))
  ·have ei : i = 40 := by omega
   have hp : (delI lb 100).Perm la := by
    rw [ha,ei]
    refine delB hg hn40 ?_
    rw [ei,Nat.sub_self] at hb
    exact hb
   have kr := z91 TB ub 100 (by omega)
   have du := j90 ub 100
   have ds := q91 sb 100
   have dl : (delI lb 100).length = la.length := hp.length_eq
   have f1 := x48 hp (headC h)
   have f2 := x48 hp c
   generalize delI lb 100 = ld at *
   generalize idIn lb 100 = bi at kr
   unfold trL trC at kr
   (repeat (first | apply j4 | refine q8 rfl ?_ | refine z8 rfl ?_ | apply j7 | (refine j0 fun K hK => ?_) | (refine x5 fun K hK => ?_) | ((first | apply j6 | apply z7 | ((first | refine z6 (hK _ ?_) | refine x6 (hK _ _ j5 ?_));clear hK K));(first | show AWP _ _ _ _ _ | ((try simp only [x7]);first | show loopQ _ _ _ _ _ _ | show cutQ _ _ _ _ | show AWP _ _ _ _ _))) | ((first | refine x8 [] rfl ?_ | refine j8 [] rfl ?_);simp (disch:=omega) only [go_sem,seval,hd,cb];(repeat (first | refine ⟨by omega,?_⟩ | refine ⟨True.intro,?_⟩)))))
   (refine x17 (j16 [(1000,603),(1001,601),(1999,699)] rfl rfl rfl rfl rfl rfl (kr) (fun _ => rfl) (q11 (by repeat (first | exact trivial | refine ⟨rfl,?_⟩)) (by kernel_rfl)) (fun _ => (q11 (by repeat (first | exact trivial | refine ⟨rfl,?_⟩)) (by kernel_rfl)))) ?_);rintro ⟨⟨B1,W1,K2⟩,T2⟩;simp (disch:=omega) only [go_sem,seval,hd,cb]
   simp only [] at T2
   have kMa := j30 TA sa (by omega) h
   have kMb := j30 T2 ds (by omega) h
   have kOa := z35 TA sa (by omega) c
   have kOb := z35 T2 ds (by omega) c
   have kLa := x35 A V M la
   have kLb := x35 B1 W1 K2 ld
   rw [f1] at kMb
   rw [f2] at kOb
   rw [dl] at kLb
   have b1 := j47 sa (headC h)
   have b2 := j47 sa c
   have i1 := x47 (fndZ la (headC h)) (fndZ la (headC h)) (by omega) (by omega)
   have i2 := x47 (fndZ la c) (fndZ la c) (by omega) (by omega)
   rw [beq_self_eq_true] at i1 i2
   have qe : ((la.length : Int) == (la.length : Int)) = true := beq_self_eq_true _
   unfold trL trC at kMa kMb kOa kOb kLa kLb
   unfold hd at kMa kMb
   unfold cb at kOa kOb
   (repeat ((fail_if_success (show AWP _ _ (.region 14 _ _) _ _));first | apply j4 | refine q8 rfl ?_ | refine z8 rfl ?_ | apply j7 | (refine j0 fun K hK => ?_) | (refine x5 fun K hK => ?_) | ((first | apply j6 | apply z7 | ((first | refine z6 (hK _ ?_) | refine x6 (hK _ _ j5 ?_));clear hK K));(first | show AWP _ _ _ _ _ | ((try simp only [x7]);first | show loopQ _ _ _ _ _ _ | show cutQ _ _ _ _ | show AWP _ _ _ _ _))) | ((first | refine x8 [] rfl ?_ | refine j8 [] rfl ?_);simp (disch:=omega) only [go_sem,seval,hd,cb,qe];(repeat (first | refine ⟨by omega,?_⟩ | refine ⟨True.intro,?_⟩)))))
   refine x5 fun K hK => ?_
   iterate 2 ((first | refine z12 [] rfl rfl ?_ | refine x12 [] rfl rfl ?_ | refine j11 rfl rfl ?_ | refine q12 rfl rfl ?_);simp (disch:=omega) only [go_sem,seval,hd,cb,qe];(repeat (first | refine ⟨by omega,?_⟩ | refine ⟨True.intro,?_⟩)))
   (refine j20 [(1000,503),(1001,501),(1999,1999)] [503,501,1999] rfl rfl rfl rfl rfl rfl (kMa) (by repeat (first | exact trivial | refine ⟨rfl,rfl,rfl,?_⟩)) ?_);simp (disch:=omega) only [go_sem,seval,hd,cb,qe]
   iterate 2 ((first | refine z12 [] rfl rfl ?_ | refine x12 [] rfl rfl ?_ | refine j11 rfl rfl ?_ | refine q12 rfl rfl ?_);simp (disch:=omega) only [go_sem,seval,hd,cb,qe];(repeat (first | refine ⟨by omega,?_⟩ | refine ⟨True.intro,?_⟩)))
   (refine j20 [(1000,603),(1001,601),(1999,699)] [603,601,699] rfl rfl rfl rfl rfl rfl (kMb) (by repeat (first | exact trivial | refine ⟨rfl,rfl,rfl,?_⟩)) ?_);simp (disch:=omega) only [go_sem,seval,hd,cb,qe]
   (repeat (first | apply j4 | refine q8 rfl ?_ | refine z8 rfl ?_ | apply j7 | (refine j0 fun K hK => ?_) | (refine x5 fun K hK => ?_) | ((first | apply j6 | apply z7 | ((first | refine z6 (hK _ ?_) | refine x6 (hK _ _ j5 ?_));clear hK K));(first | show AWP _ _ _ _ _ | ((try simp only [x7]);first | show loopQ _ _ _ _ _ _ | show cutQ _ _ _ _ | show AWP _ _ _ _ _))) | ((first | refine x10 rfl rfl rfl ?_ | refine j10 rfl rfl rfl ?_);simp (disch:=omega) only [go_sem,seval,hd,cb,qe];(first | refine ⟨_,i1,?_⟩)) | ((first | refine x8 [] rfl ?_ | refine j8 [] rfl ?_);simp (disch:=omega) only [go_sem,seval,hd,cb,qe];(repeat (first | refine ⟨by omega,?_⟩ | refine ⟨True.intro,?_⟩)))))
   (refine j20 [(1000,503),(1001,501),(1999,1999)] [503,501,1999] rfl rfl rfl rfl rfl rfl (kOa) (by repeat (first | exact trivial | refine ⟨rfl,rfl,rfl,?_⟩)) ?_);simp (disch:=omega) only [go_sem,seval,hd,cb,qe]
   iterate 2 ((first | refine z12 [] rfl rfl ?_ | refine x12 [] rfl rfl ?_ | refine j11 rfl rfl ?_ | refine q12 rfl rfl ?_);simp (disch:=omega) only [go_sem,seval,hd,cb,qe];(repeat (first | refine ⟨by omega,?_⟩ | refine ⟨True.intro,?_⟩)))
   (refine j20 [(1000,603),(1001,601),(1999,699)] [603,601,699] rfl rfl rfl rfl rfl rfl (kOb) (by repeat (first | exact trivial | refine ⟨rfl,rfl,rfl,?_⟩)) ?_);simp (disch:=omega) only [go_sem,seval,hd,cb,qe]
   (repeat (first | apply j4 | refine q8 rfl ?_ | refine z8 rfl ?_ | apply j7 | (refine j0 fun K hK => ?_) | (refine x5 fun K hK => ?_) | ((first | apply j6 | apply z7 | ((first | refine z6 (hK _ ?_) | refine x6 (hK _ _ j5 ?_));clear hK K));(first | show AWP _ _ _ _ _ | ((try simp only [x7]);first | show loopQ _ _ _ _ _ _ | show cutQ _ _ _ _ | show AWP _ _ _ _ _))) | ((first | refine x10 rfl rfl rfl ?_ | refine j10 rfl rfl rfl ?_);simp (disch:=omega) only [go_sem,seval,hd,cb,qe];(first | refine ⟨_,i2,?_⟩)) | ((first | refine x8 [] rfl ?_ | refine j8 [] rfl ?_);simp (disch:=omega) only [go_sem,seval,hd,cb,qe];(repeat (first | refine ⟨by omega,?_⟩ | refine ⟨True.intro,?_⟩)))))
   (refine j20 [(1000,503),(1001,501),(1999,1999)] [503,501,1999] rfl rfl rfl rfl rfl rfl (kLa) (by repeat (first | exact trivial | refine ⟨rfl,rfl,rfl,?_⟩)) ?_);simp (disch:=omega) only [go_sem,seval,hd,cb,qe]
   iterate 1 ((first | refine z12 [] rfl rfl ?_ | refine x12 [] rfl rfl ?_ | refine j11 rfl rfl ?_ | refine q12 rfl rfl ?_);simp (disch:=omega) only [go_sem,seval,hd,cb,qe];(repeat (first | refine ⟨by omega,?_⟩ | refine ⟨True.intro,?_⟩)))
   (refine j20 [(1000,603),(1001,601),(1999,699)] [603,601,699] rfl rfl rfl rfl rfl rfl (kLb) (by repeat (first | exact trivial | refine ⟨rfl,rfl,rfl,?_⟩)) ?_);simp (disch:=omega) only [go_sem,seval,hd,cb,qe]
   (repeat (first | apply j4 | refine q8 rfl ?_ | refine z8 rfl ?_ | apply j7 | (refine j0 fun K hK => ?_) | (refine x5 fun K hK => ?_) | ((first | apply j6 | apply z7 | ((first | refine z6 (hK _ ?_) | refine x6 (hK _ _ j5 ?_));clear hK K));(first | show AWP _ _ _ _ _ | ((try simp only [x7]);first | show loopQ _ _ _ _ _ _ | show cutQ _ _ _ _ | show AWP _ _ _ _ _))) | ((first | refine x8 [] rfl ?_ | refine j8 [] rfl ?_);simp (disch:=omega) only [go_sem,seval,hd,cb,qe];(repeat (first | refine ⟨by omega,?_⟩ | refine ⟨True.intro,?_⟩)))))
   refine q10 ⟨_,?_,rfl⟩;rw [Try.results6];simp (disch:=omega) only [ResVars,ResVar,ptrLoc,go_sem,seval,hd,cb,qe]
 ·have qn : decide ((cs.length : Int) > 40) = false := decide_eq_false (by omega)
  have hn40 : cs.length ≤ 40 := by omega
  have hnc : cs.length ≤ cs.length := by omega
  (repeat ((fail_if_success (show AWP _ _ (.region 6 _ _) _ _));first | apply j4 | refine q8 rfl ?_ | refine z8 rfl ?_ | apply j7 | (refine j0 fun K hK => ?_) | (refine x5 fun K hK => ?_) | ((first | apply j6 | apply z7 | ((first | refine z6 (hK _ ?_) | refine x6 (hK _ _ j5 ?_));clear hK K));(first | show AWP _ _ _ _ _ | ((try simp only [x7]);first | show loopQ _ _ _ _ _ _ | show cutQ _ _ _ _ | show AWP _ _ _ _ _))) | ((first | refine x8 [] rfl ?_ | refine j8 [] rfl ?_);simp (disch:=omega) only [go_sem,seval,hd,cb,qn];(repeat (first | refine ⟨by omega,?_⟩ | refine ⟨True.intro,?_⟩)))))
  refine j0 fun K hK => ?_
  iterate 2 ((first | refine z12 [] rfl rfl ?_ | refine x12 [] rfl rfl ?_ | refine j11 rfl rfl ?_ | refine q12 rfl rfl ?_);simp (disch:=omega) only [go_sem,seval,hd,cb,qn];(repeat (first | refine ⟨by omega,?_⟩ | refine ⟨True.intro,?_⟩)))
  (refine x17 (j16 [(1000,603),(1001,601),(1999,699)] rfl rfl rfl rfl rfl rfl (kg) (fun _ => rfl) (q11 (by repeat (first | exact trivial | refine ⟨rfl,?_⟩)) (by kernel_rfl)) (fun _ => (q11 (by repeat (first | exact trivial | refine ⟨rfl,?_⟩)) (by kernel_rfl)))) ?_);rintro ⟨⟨B0,W0,K0⟩,T0⟩;simp (disch:=omega) only [go_sem,seval,hd,cb,qn]
  simp only [] at T0
  (repeat (first | apply j4 | refine q8 rfl ?_ | refine z8 rfl ?_ | apply j7 | (refine j0 fun K hK => ?_) | (refine x5 fun K hK => ?_) | ((first | apply j6 | apply z7 | ((first | refine z6 (hK _ ?_) | refine x6 (hK _ _ j5 ?_));clear hK K));(first | show AWP _ _ _ _ _ | ((try simp only [x7]);first | show loopQ _ _ _ _ _ _ | show cutQ _ _ _ _ | show AWP _ _ _ _ _))) | ((first | refine x8 [] rfl ?_ | refine j8 [] rfl ?_);simp (disch:=omega) only [go_sem,seval,hd,cb,qn];(repeat (first | refine ⟨by omega,?_⟩ | refine ⟨True.intro,?_⟩)))))
  refine z23 (orI cs cs.length g c h) (fun s => cs.length - s.i) ⟨0,[],noA,noV,noM,g,B0,W0,K0,by omega,rfl,by unfold InB numb;simp,⟨by simp,by simpa using hgl⟩,TrM.empty,T0,List.Pairwise.nil,gu,fun x hx => (by cases hx),gs⟩ ?_ (fun s => ?_)
  ·unfold orI wiL wiB
   simp only [List.cons_append,List.nil_append,show kidV noA [0] = .pointer none from rfl,show kidV noA [1] = .pointer none from rfl,show kidV noA [2] = .pointer none from rfl,show noV [] = .slice none 0 0 from rfl,show esI [] = [] from rfl]
   refine Weak.list ?_ ?_;(all_goals simp (disch:=omega) only [AllF,AllL,j13,q14,x13,exists_eq_left',go_sem,seval,hd,cb,qn]);(all_goals (repeat' (with_reducible apply And.intro)));(all_goals try (first | exact z10 rfl | (refine z14 ?_;omega) | (refine z10 ?_;simp;done)))
  obtain ⟨i,la,A,V,M,lb,B,W,K1,hi,ha,hb,hl,TA,TB,ua,ub,sa,sb⟩ := s
  unfold orI wiL wiB
  simp only [List.cons_append,List.nil_append] at hi ha hb hl ⊢
  by_cases hlt : i < cs.length
  ·have r1 := q48 cs i
   have r2 := q48 cs (cs.length - 1 - i)
   have e1 : ((cs.length : Int) - 1 - (i : Int)).toNat = cs.length - 1 - i := by omega
   have e2 : ((cs.length - 1 - i : Nat) : Int) = (cs.length : Int) - 1 - (i : Int) := by omega
   have ka1 := x36 TA (i : Int) (cs.getD i ⟨0,0⟩) (by omega)
   have kb1 := x36 TB ((cs.length - 1 - i : Nat) : Int) (cs.getD (cs.length - 1 - i) ⟨0,0⟩) (by omega)
   have na := q92 ha
   have nb := addB (k := cs.length - 1 - i) (n := i) hg (by omega) (by rw [show cs.length - 1 - i + 1 = cs.length - i by omega];exact hb)
   have ua2 := q36 ua (i : Int) (cs.getD i ⟨0,0⟩)
   have sa2 := z36 sa (i : Int) (cs.getD i ⟨0,0⟩)
   have la2 := j35 la (i : Int) (cs.getD i ⟨0,0⟩)
   have ub2 := q36 ub ((cs.length - 1 - i : Nat) : Int) (cs.getD (cs.length - 1 - i) ⟨0,0⟩)
   have sb2 := z36 sb ((cs.length - 1 - i : Nat) : Int) (cs.getD (cs.length - 1 - i) ⟨0,0⟩)
   have lb2 := j35 lb ((cs.length - 1 - i : Nat) : Int) (cs.getD (cs.length - 1 - i) ⟨0,0⟩)
   generalize addI la (i : Int) (cs.getD i ⟨0,0⟩) = la' at *
   generalize addI lb ((cs.length - 1 - i : Nat) : Int) (cs.getD (cs.length - 1 - i) ⟨0,0⟩) = lb' at *
   generalize cs.getD i ⟨0,0⟩ = x at *
   generalize cs.getD (cs.length - 1 - i) ⟨0,0⟩ = y at *
   rw [e2] at kb1
   unfold cb at r1 r2 ka1 kb1
   unfold trL trC at ka1 kb1
   (repeat (first | apply j4 | refine q8 rfl ?_ | refine z8 rfl ?_ | apply j7 | (refine j0 fun K hK => ?_) | (refine x5 fun K hK => ?_) | ((first | apply j6 | apply z7 | ((first | refine z6 (hK _ ?_) | refine x6 (hK _ _ j5 ?_));clear hK K));(first | show AWP _ _ _ _ _ | ((try simp only [x7]);first | show loopQ _ _ _ _ _ _ | show cutQ _ _ _ _ | show AWP _ _ _ _ _))) | ((first | refine x8 [] rfl ?_ | refine j8 [] rfl ?_);simp (disch:=omega) only [go_sem,seval,hd,cb,r1,r2,e1];(repeat (first | refine ⟨by omega,?_⟩ | refine ⟨True.intro,?_⟩)))))
   (refine x17 (j16 [(1000,503),(1001,501),(1999,1999)] rfl rfl rfl rfl rfl rfl (ka1) (fun _ => rfl) (q11 (by repeat (first | exact trivial | refine ⟨rfl,?_⟩)) (by kernel_rfl)) (fun _ => (q11 (by repeat (first | exact trivial | refine ⟨rfl,?_⟩)) (by kernel_rfl)))) ?_);rintro ⟨⟨A1,V1,M1⟩,T1⟩;simp (disch:=omega) only [go_sem,seval,hd,cb,r1,r2,e1]
   (repeat (first | apply j4 | refine q8 rfl ?_ | refine z8 rfl ?_ | apply j7 | (refine j0 fun K hK => ?_) | (refine x5 fun K hK => ?_) | ((first | apply j6 | apply z7 | ((first | refine z6 (hK _ ?_) | refine x6 (hK _ _ j5 ?_));clear hK K));(first | show AWP _ _ _ _ _ | ((try simp only [x7]);first | show loopQ _ _ _ _ _ _ | show cutQ _ _ _ _ | show AWP _ _ _ _ _))) | ((first | refine x8 [] rfl ?_ | refine j8 [] rfl ?_);simp (disch:=omega) only [go_sem,seval,hd,cb,r1,r2,e1];(repeat (first | refine ⟨by omega,?_⟩ | refine ⟨True.intro,?_⟩)))))
   (refine x17 (j16 [(1000,603),(1001,601),(1999,699)] rfl rfl rfl rfl rfl rfl (kb1) (fun _ => rfl) (q11 (by repeat (first | exact trivial | refine ⟨rfl,?_⟩)) (by kernel_rfl)) (fun _ => (q11 (by repeat (first | exact trivial | refine ⟨rfl,?_⟩)) (by kernel_rfl)))) ?_);rintro ⟨⟨B1,W1,K2⟩,T2⟩;simp (disch:=omega) only [go_sem,seval,hd,cb,r1,r2,e1]
   (repeat (first | apply j4 | refine q8 rfl ?_ | refine z8 rfl ?_ | apply j7 | (refine j0 fun K hK => ?_) | (refine x5 fun K hK => ?_) | ((first | apply j6 | apply z7 | ((first | refine z6 (hK _ ?_) | refine x6 (hK _ _ j5 ?_));clear hK K));(first | show AWP _ _ _ _ _ | ((try simp only [x7]);first | show loopQ _ _ _ _ _ _ | show cutQ _ _ _ _ | show AWP _ _ _ _ _))) | ((first | refine x8 [] rfl ?_ | refine j8 [] rfl ?_);simp (disch:=omega) only [go_sem,seval,hd,cb,r1,r2,e1];(repeat (first | refine ⟨by omega,?_⟩ | refine ⟨True.intro,?_⟩)))))
   refine ⟨⟨i + 1,la',A1,V1,M1,lb',B1,W1,K2,by omega,na,by rw [show cs.length - (i + 1) = cs.length - 1 - i by omega];exact nb,⟨by omega,by omega⟩,T1,T2,ua2,ub2,sa2,sb2⟩,by simp only [];omega,?_⟩
   refine Weak.list ?_ ?_;(all_goals simp (disch:=omega) only [AllF,AllL,j13,q14,x13,exists_eq_left',go_sem,seval,hd,cb,r1,r2,e1]);(all_goals (repeat' (with_reducible apply And.intro)));(all_goals try (first | exact z10 rfl | (refine z14 ?_;omega) | (refine z10 ?_;simp;done)))
  ·have ei : i = cs.length := by omega
   have hp : (delI lb 100).Perm la := by
    rw [ha,ei]
    refine delB hg hn40 ?_
    rw [ei,Nat.sub_self] at hb
    exact hb
   have kr := z91 TB ub 100 (by omega)
   have du := j90 ub 100
   have ds := q91 sb 100
   have dl : (delI lb 100).length = la.length := hp.length_eq
   have f1 := x48 hp (headC h)
   have f2 := x48 hp c
   generalize delI lb 100 = ld at *
   generalize idIn lb 100 = bi at kr
   unfold trL trC at kr
   (repeat (first | apply j4 | refine q8 rfl ?_ | refine z8 rfl ?_ | apply j7 | (refine j0 fun K hK => ?_) | (refine x5 fun K hK => ?_) | ((first | apply j6 | apply z7 | ((first | refine z6 (hK _ ?_) | refine x6 (hK _ _ j5 ?_));clear hK K));(first | show AWP _ _ _ _ _ | ((try simp only [x7]);first | show loopQ _ _ _ _ _ _ | show cutQ _ _ _ _ | show AWP _ _ _ _ _))) | ((first | refine x8 [] rfl ?_ | refine j8 [] rfl ?_);simp (disch:=omega) only [go_sem,seval,hd,cb];(repeat (first | refine ⟨by omega,?_⟩ | refine ⟨True.intro,?_⟩)))))
   (refine x17 (j16 [(1000,603),(1001,601),(1999,699)] rfl rfl rfl rfl rfl rfl (kr) (fun _ => rfl) (q11 (by repeat (first | exact trivial | refine ⟨rfl,?_⟩)) (by kernel_rfl)) (fun _ => (q11 (by repeat (first | exact trivial | refine ⟨rfl,?_⟩)) (by kernel_rfl)))) ?_);rintro ⟨⟨B1,W1,K2⟩,T2⟩;simp (disch:=omega) only [go_sem,seval,hd,cb]
   simp only [] at T2
   have kMa := j30 TA sa (by omega) h
   have kMb := j30 T2 ds (by omega) h
   have kOa := z35 TA sa (by omega) c
   have kOb := z35 T2 ds (by omega) c
   have kLa := x35 A V M la
   have kLb := x35 B1 W1 K2 ld
   rw [f1] at kMb
   rw [f2] at kOb
   rw [dl] at kLb
   have b1 := j47 sa (headC h)
   have b2 := j47 sa c
   have i1 := x47 (fndZ la (headC h)) (fndZ la (headC h)) (by omega) (by omega)
   have i2 := x47 (fndZ la c) (fndZ la c) (by omega) (by omega)
   rw [beq_self_eq_true] at i1 i2
   have qe : ((la.length : Int) == (la.length : Int)) = true := beq_self_eq_true _
   unfold trL trC at kMa kMb kOa kOb kLa kLb
   unfold hd at kMa kMb
   unfold cb at kOa kOb
   (repeat ((fail_if_success (show AWP _ _ (.region 14 _ _) _ _));first | apply j4 | refine q8 rfl ?_ | refine z8 rfl ?_ | apply j7 | (refine j0 fun K hK => ?_) | (refine x5 fun K hK => ?_) | ((first | apply j6 | apply z7 | ((first | refine z6 (hK _ ?_) | refine x6 (hK _ _ j5 ?_));clear hK K));(first | show AWP _ _ _ _ _ | ((try simp only [x7]);first | show loopQ _ _ _ _ _ _ | show cutQ _ _ _ _ | show AWP _ _ _ _ _))) | ((first | refine x8 [] rfl ?_ | refine j8 [] rfl ?_);simp (disch:=omega) only [go_sem,seval,hd,cb,qe];(repeat (first | refine ⟨by omega,?_⟩ | refine ⟨True.intro,?_⟩)))))
   refine x5 fun K hK => ?_
   iterate 2 ((first | refine z12 [] rfl rfl ?_ | refine x12 [] rfl rfl ?_ | refine j11 rfl rfl ?_ | refine q12 rfl rfl ?_);simp (disch:=omega) only [go_sem,seval,hd,cb,qe];(repeat (first | refine ⟨by omega,?_⟩ | refine ⟨True.intro,?_⟩)))
   (refine j20 [(1000,503),(1001,501),(1999,1999)] [503,501,1999] rfl rfl rfl rfl rfl rfl (kMa) (by repeat (first | exact trivial | refine ⟨rfl,rfl,rfl,?_⟩)) ?_);simp (disch:=omega) only [go_sem,seval,hd,cb,qe]
   iterate 2 ((first | refine z12 [] rfl rfl ?_ | refine x12 [] rfl rfl ?_ | refine j11 rfl rfl ?_ | refine q12 rfl rfl ?_);simp (disch:=omega) only [go_sem,seval,hd,cb,qe];(repeat (first | refine ⟨by omega,?_⟩ | refine ⟨True.intro,?_⟩)))
   (refine j20 [(1000,603),(1001,601),(1999,699)] [603,601,699] rfl rfl rfl rfl rfl rfl (kMb) (by repeat (first | exact trivial | refine ⟨rfl,rfl,rfl,?_⟩)) ?_);simp (disch:=omega) only [go_sem,seval,hd,cb,qe]
   (repeat (first | apply j4 | refine q8 rfl ?_ | refine z8 rfl ?_ | apply j7 | (refine j0 fun K hK => ?_) | (refine x5 fun K hK => ?_) | ((first | apply j6 | apply z7 | ((first | refine z6 (hK _ ?_) | refine x6 (hK _ _ j5 ?_));clear hK K));(first | show AWP _ _ _ _ _ | ((try simp only [x7]);first | show loopQ _ _ _ _ _ _ | show cutQ _ _ _ _ | show AWP _ _ _ _ _))) | ((first | refine x10 rfl rfl rfl ?_ | refine j10 rfl rfl rfl ?_);simp (disch:=omega) only [go_sem,seval,hd,cb,qe];(first | refine ⟨_,i1,?_⟩)) | ((first | refine x8 [] rfl ?_ | refine j8 [] rfl ?_);simp (disch:=omega) only [go_sem,seval,hd,cb,qe];(repeat (first | refine ⟨by omega,?_⟩ | refine ⟨True.intro,?_⟩)))))
   (refine j20 [(1000,503),(1001,501),(1999,1999)] [503,501,1999] rfl rfl rfl rfl rfl rfl (kOa) (by repeat (first | exact trivial | refine ⟨rfl,rfl,rfl,?_⟩)) ?_);simp (disch:=omega) only [go_sem,seval,hd,cb,qe]
   iterate 2 ((first | refine z12 [] rfl rfl ?_ | refine x12 [] rfl rfl ?_ | refine j11 rfl rfl ?_ | refine q12 rfl rfl ?_);simp (disch:=omega) only [go_sem,seval,hd,cb,qe];(repeat (first | refine ⟨by omega,?_⟩ | refine ⟨True.intro,?_⟩)))
   (refine j20 [(1000,603),(1001,601),(1999,699)] [603,601,699] rfl rfl rfl rfl rfl rfl (kOb) (by repeat (first | exact trivial | refine ⟨rfl,rfl,rfl,?_⟩)) ?_);simp (disch:=omega) only [go_sem,seval,hd,cb,qe]
   (repeat (first | apply j4 | refine q8 rfl ?_ | refine z8 rfl ?_ | apply j7 | (refine j0 fun K hK => ?_) | (refine x5 fun K hK => ?_) | ((first | apply j6 | apply z7 | ((first | refine z6 (hK _ ?_) | refine x6 (hK _ _ j5 ?_));clear hK K));(first | show AWP _ _ _ _ _ | ((try simp only [x7]);first | show loopQ _ _ _ _ _ _ | show cutQ _ _ _ _ | show AWP _ _ _ _ _))) | ((first | refine x10 rfl rfl rfl ?_ | refine j10 rfl rfl rfl ?_);simp (disch:=omega) only [go_sem,seval,hd,cb,qe];(first | refine ⟨_,i2,?_⟩)) | ((first | refine x8 [] rfl ?_ | refine j8 [] rfl ?_);simp (disch:=omega) only [go_sem,seval,hd,cb,qe];(repeat (first | refine ⟨by omega,?_⟩ | refine ⟨True.intro,?_⟩)))))
   (refine j20 [(1000,503),(1001,501),(1999,1999)] [503,501,1999] rfl rfl rfl rfl rfl rfl (kLa) (by repeat (first | exact trivial | refine ⟨rfl,rfl,rfl,?_⟩)) ?_);simp (disch:=omega) only [go_sem,seval,hd,cb,qe]
   iterate 1 ((first | refine z12 [] rfl rfl ?_ | refine x12 [] rfl rfl ?_ | refine j11 rfl rfl ?_ | refine q12 rfl rfl ?_);simp (disch:=omega) only [go_sem,seval,hd,cb,qe];(repeat (first | refine ⟨by omega,?_⟩ | refine ⟨True.intro,?_⟩)))
   (refine j20 [(1000,603),(1001,601),(1999,699)] [603,601,699] rfl rfl rfl rfl rfl rfl (kLb) (by repeat (first | exact trivial | refine ⟨rfl,rfl,rfl,?_⟩)) ?_);simp (disch:=omega) only [go_sem,seval,hd,cb,qe]
   (repeat (first | apply j4 | refine q8 rfl ?_ | refine z8 rfl ?_ | apply j7 | (refine j0 fun K hK => ?_) | (refine x5 fun K hK => ?_) | ((first | apply j6 | apply z7 | ((first | refine z6 (hK _ ?_) | refine x6 (hK _ _ j5 ?_));clear hK K));(first | show AWP _ _ _ _ _ | ((try simp only [x7]);first | show loopQ _ _ _ _ _ _ | show cutQ _ _ _ _ | show AWP _ _ _ _ _))) | ((first | refine x8 [] rfl ?_ | refine j8 [] rfl ?_);simp (disch:=omega) only [go_sem,seval,hd,cb,qe];(repeat (first | refine ⟨by omega,?_⟩ | refine ⟨True.intro,?_⟩)))))
   refine q10 ⟨_,?_,rfl⟩;rw [Try.results6];simp (disch:=omega) only [ResVars,ResVar,ptrLoc,go_sem,seval,hd,cb,qe]
end Go.Proofs.Ytbamjcnhmmgnlaa
