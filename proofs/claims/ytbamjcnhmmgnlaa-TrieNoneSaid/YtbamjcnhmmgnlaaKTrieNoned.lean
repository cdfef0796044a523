/- Part 4 of a proof: lemmas beneath the theorem that the last text bears. Conditions: none. -/
import Derived.Test.YtbamjcnhmmgnlaaKTrieNonec
set_option maxHeartbeats 64000000
set_option linter.unusedSimpArgs false
set_option linter.unusedVariables false
namespace Go.Proofs.Ytbamjcnhmmgnlaa
open Go Go.Proofs.Ytbamjcnhmmgnlaa.AL Go.RowKit
def noA : List Nat → Option Nat := fun _ => none
def noV : List Nat → Value := fun _ => .slice none 0 0
theorem TrM.empty : TrM (idsAt []) noM noA noV := by
 refine ⟨rfl,fun p b h => (by cases h),fun p q b h => (by cases h),fun p k b h => (by cases h),fun p b h => (by cases h),fun p _ => .inl ⟨rfl,rfl⟩,fun p q b n c n' c' _ _ h => (by cases h),fun p _ => rfl⟩
set_option maxRecDepth 100000 in
theorem NewT_c : MCalls Try.prog 11 [] [] (fun rs L => rs = [.loc 3 0] ∧ L = [(3,.cells 96 [.p (.d (.v (.pointer none))),.p (.d (.v (.pointer none))),.p (.d (.v (.pointer none))),.p (.d (.v (.slice none 0 0))),.mp 1]),(1,.map [.i64] [])]) := by
 refine z17 Try.func11 rfl (by decide +kernel) (by rw [Try.ntmps11];simp) (fun l X h => by simp only [AL.look] at h;(repeat' split at h);all_goals first | omega | cases h) ?_;rw [Try.ntmps11];simp only [frA]
 (repeat (first | apply x4 | refine j7 rfl ?_ | refine q8 rfl ?_ | apply x7 | (refine j0 fun K hK => ?_) | (refine j4 fun K hK => ?_) | ((first | apply x6 | apply j6 | ((first | refine j5 (hK _ ?_) | refine z6 (hK _ _ x5 ?_));clear hK K));(first | show AWP _ _ _ _ _ | ((try simp only [z7]);first | show loopQ _ _ _ _ _ _ | show cutQ _ _ _ _ | show AWP _ _ _ _ _))) | ((first | refine z8 [1,3] rfl ?_ | refine x8 [1,3] rfl ?_);simp (disch:=omega) only [go_sem,seval,hd,cb];(repeat (first | refine ⟨by omega,?_⟩ | refine ⟨True.intro,?_⟩)))))
 refine j9 ?_
 refine (x17 ⟨rfl,rfl⟩ ?_ ?_).1
 ·exact ⟨rfl,trivial⟩
 ·simp [AL.look]
def addE (l : Items) (id : Int) (c : Cube) : Int := if id < 0 then 1 else if c.sound then (if idIn l id then 8 else 0) else 2
set_option maxRecDepth 100000 in
theorem j123 {l : Items} {M : Nat → Option Ent} {A : List Nat → Option Nat} {V : List Nat → Value} (id : Int) (c : Cube) (h : addE l id c ≠ 0) :
  MCalls Try.prog 13 [.loc 1000 0,.p (.d (.v (.int .i64 id))),.p (.agg (cb c))] (trL A V M (esI l)) (fun rs L => rs = [.p (.d (.v (.int .i64 (addE l id c))))] ∧ L = trL A V M (esI l)) := by
 have hs := z39 c
 unfold addE at *
 unfold trL trC
 by_cases h0 : id < 0
 ·have q0 : decide (id < 0) = true := decide_eq_true h0
  rw [if_pos h0]
  refine z17 Try.func13 rfl (by decide +kernel) (by rw [Try.ntmps13];simp) (fun l X h => by simp only [AL.look] at h;(repeat' split at h);all_goals first | omega | cases h) ?_;rw [Try.ntmps13];simp only [frA]
  (repeat (first | apply x4 | refine j7 rfl ?_ | refine q8 rfl ?_ | apply x7 | (refine j0 fun K hK => ?_) | (refine j4 fun K hK => ?_) | ((first | apply x6 | apply j6 | ((first | refine j5 (hK _ ?_) | refine z6 (hK _ _ x5 ?_));clear hK K));(first | show AWP _ _ _ _ _ | ((try simp only [z7]);first | show loopQ _ _ _ _ _ _ | show cutQ _ _ _ _ | show AWP _ _ _ _ _))) | ((first | refine z10 rfl rfl rfl ?_ | refine x10 rfl rfl rfl ?_);simp (disch:=omega) only [go_sem,seval,hd,cb,q0];(first | refine ⟨_,hs,?_⟩)) | ((first | refine z8 [] rfl ?_ | refine x8 [] rfl ?_);simp (disch:=omega) only [go_sem,seval,hd,cb,q0];(repeat (first | refine ⟨by omega,?_⟩ | refine ⟨True.intro,?_⟩)))))
  refine j9 ?_
  refine (x17 ⟨rfl,rfl⟩ ?_ ?_).1
  ·exact ⟨rfl,trivial⟩
  ·simp [AL.look]
 ·have q0 : decide (id < 0) = false := decide_eq_false h0
  rw [if_neg h0] at h ⊢
  generalize c.sound = s at *
  cases s with
  |false =>
   simp only [Bool.false_eq_true,if_false]
   refine z17 Try.func13 rfl (by decide +kernel) (by rw [Try.ntmps13];simp) (fun l X h => by simp only [AL.look] at h;(repeat' split at h);all_goals first | omega | cases h) ?_;rw [Try.ntmps13];simp only [frA]
   (repeat (first | apply x4 | refine j7 rfl ?_ | refine q8 rfl ?_ | apply x7 | (refine j0 fun K hK => ?_) | (refine j4 fun K hK => ?_) | ((first | apply x6 | apply j6 | ((first | refine j5 (hK _ ?_) | refine z6 (hK _ _ x5 ?_));clear hK K));(first | show AWP _ _ _ _ _ | ((try simp only [z7]);first | show loopQ _ _ _ _ _ _ | show cutQ _ _ _ _ | show AWP _ _ _ _ _))) | ((first | refine z10 rfl rfl rfl ?_ | refine x10 rfl rfl rfl ?_);simp (disch:=omega) only [go_sem,seval,hd,cb,q0];(first | refine ⟨_,hs,?_⟩)) | ((first | refine z8 [] rfl ?_ | refine x8 [] rfl ?_);simp (disch:=omega) only [go_sem,seval,hd,cb,q0];(repeat (first | refine ⟨by omega,?_⟩ | refine ⟨True.intro,?_⟩)))))
   refine j9 ?_
   refine (x17 ⟨rfl,rfl⟩ ?_ ?_).1
   ·exact ⟨rfl,trivial⟩
   ·simp [AL.look]
  |true =>
   cases hi : getI l id with
   |none =>
    rw [q77.1 hi] at h
    simp at h
   |some c' =>
    have hn : idIn l id = true := by
     cases e : idIn l id with
     | true => rfl
     | false => rw [q77.2 e] at hi;cases hi
    rw [hn]
    simp only [if_true]
    have q1 := x123 hi
    refine z17 Try.func13 rfl (by decide +kernel) (by rw [Try.ntmps13];simp) (fun l X h => by simp only [AL.look] at h;(repeat' split at h);all_goals first | omega | cases h) ?_;rw [Try.ntmps13];simp only [frA]
    (repeat (first | apply x4 | refine j7 rfl ?_ | refine q8 rfl ?_ | apply x7 | (refine j0 fun K hK => ?_) | (refine j4 fun K hK => ?_) | ((first | apply x6 | apply j6 | ((first | refine j5 (hK _ ?_) | refine z6 (hK _ _ x5 ?_));clear hK K));(first | show AWP _ _ _ _ _ | ((try simp only [z7]);first | show loopQ _ _ _ _ _ _ | show cutQ _ _ _ _ | show AWP _ _ _ _ _))) | ((first | refine z10 rfl rfl rfl ?_ | refine x10 rfl rfl rfl ?_);simp (disch:=omega) only [go_sem,seval,hd,cb,q0,q1];(first | refine ⟨_,hs,?_⟩)) | ((first | refine z8 [] rfl ?_ | refine x8 [] rfl ?_);simp (disch:=omega) only [go_sem,seval,hd,cb,q0,q1];(repeat (first | refine ⟨by omega,?_⟩ | refine ⟨True.intro,?_⟩)))))
    refine j9 ?_
    refine (x17 ⟨rfl,rfl⟩ ?_ ?_).1
    ·exact ⟨rfl,trivial⟩
    ·simp [AL.look]
theorem x77 (l : Items) (p : List Nat) : (idsAt l p).length ≤ l.length := by
 unfold idsAt;rw [List.length_map];exact List.length_filter_le _ _
theorem j77 {l : Items} {id : Int} {c : Cube} (h : addE l id c = 0) : 0 ≤ id ∧ c.sound = true ∧ idIn l id = false := by
 unfold addE at h
 by_cases h0 : id < 0
 ·rw [if_pos h0] at h;cases h
 ·rw [if_neg h0] at h
  cases hs : c.sound with
  | false => rw [hs] at h;simp at h
  |true =>
   rw [hs] at h
   cases hi : idIn l id with
   | true => rw [hi] at h;simp at h
   | false => exact ⟨by omega,rfl,rfl⟩
set_option maxRecDepth 100000 in
theorem q124 {I : List Nat → List Int} {M : Nat → Option Ent} {A : List Nat → Option Nat} {V : List Nat → Value} (T : TrM I M A V) (es : List (List Int × PV)) (k : Cube) (hk : pathC k = []) :
  MCalls Try.prog 36 [.loc 1000 0,.p (.agg (cb k))] (trL A V M es)
   (fun rs L => ∃ r : {r : (List Nat → Option Nat) × (List Nat → Value) × (Nat → Option Ent) // TrM I r.2.2 r.1 r.2.1},rs = [.loc 1000 0] ∧ L = trL r.val.1 r.val.2.1 r.val.2.2 es) :=
 (x76 T es k).mono fun rs L ⟨r,h1,h2⟩ => ⟨⟨r.val,r.property.1⟩,h1.trans ((show ∀ q,q = [] → [atAV r.val.1 q] = [.loc 1000 0] from fun q e => by subst e;rfl) _ hk),h2⟩
set_option maxRecDepth 100000 in
theorem z124 {I : List Nat → List Int} {M : Nat → Option Ent} {A : List Nat → Option Nat} {V : List Nat → Value} (T : TrM I M A V) (es : List (List Int × PV)) (k : Cube) (hk : pathC k ≠ []) :
  MCalls Try.prog 36 [.loc 1000 0,.p (.agg (cb k))] (trL A V M es)
   (fun rs L => ∃ r : {r : (List Nat → Option Nat) × (List Nat → Value) × (Nat → Option Ent) × Nat // TrM I r.2.2.1 r.1 r.2.1 ∧ r.1 (pathC k) = some r.2.2.2},rs = [.p (.d (.v (.pointer (some ⟨r.val.2.2.2,0,none⟩))))] ∧ L = trL r.val.1 r.val.2.1 r.val.2.2.1 es) :=
 (x76 T es k).mono fun rs L ⟨r,h1,h2⟩ => by
  obtain ⟨b,hb⟩ := x40 r.property.2 hk
  exact ⟨⟨(r.val.1,r.val.2.1,r.val.2.2,b),r.property.1,hb⟩,h1.trans (by rw [q18 hb hk]),h2⟩
theorem q41 {M' : Nat → Option Ent} {b2 c3 n : Nat} {zs : List Int} {id : Int} {f : Nat → List Dat} (hn : zs.length = n) (hle : n + 1 ≤ c3) (hb : M' b2 = some ⟨3,1,c3,n + 1,catF n f fun i => [[Dat.v (.int .i64 id)]].getD i []⟩) (hf : ∀ k,k < n → f k = rowZ zs k) :
  IdsV M' (.slice (some ⟨b2,0,none⟩) (n + 1) c3) (zs ++ [id]) := by
 subst hn
 have e : (zs ++ [id]).length = zs.length + 1 := by simp
 refine .inr ⟨b2,c3,_,by rw [e],by omega,by rw [e];exact hb,fun k hk => ?_⟩
 rw [e] at hk
 have h2 := q115 zs id k hk
 rw [← h2]
 unfold catF
 split
 ·exact hf k ‹_›
 ·rfl
set_option maxRecDepth 100000 in
theorem x124 {l : Items} {M : Nat → Option Ent} {A : List Nat → Option Nat} {V : List Nat → Value} (T : TrM (idsAt l) M A V) (id : Int) (c : Cube) (h : addE l id c = 0) (hl : l.length < 1099511627776) (hp0 : pathC c = []) :
  MCalls Try.prog 13 [.loc 1000 0,.p (.d (.v (.int .i64 id))),.p (.agg (cb c))] (trL A V M (esI l))
   (fun rs L => ∃ r : {r : (List Nat → Option Nat) × (List Nat → Value) × (Nat → Option Ent) // TrM (idsAt (l ++ [(id,c)])) r.2.2 r.1 r.2.1},rs = [.p (.d (.v (.int .i64 0)))] ∧ L = trL r.val.1 r.val.2.1 r.val.2.2 (esI (l ++ [(id,c)]))) := by
 obtain ⟨h0,hcs,hi⟩ := j77 h
 have hs := z39 c
 rw [hcs] at hs
 have q0 : decide (id < 0) = false := decide_eq_false (by omega)
 have q1 := (x52 hi).1
 have q2 := j76 (c := c) hi
 have hp := q124 T (esI (l ++ [(id,c)])) c hp0
 have hI := z77 l id c
 unfold cb at q2
 unfold trL trC at *
 refine z17 Try.func13 rfl (by decide +kernel) (by rw [Try.ntmps13];simp) (fun l X h => by simp only [AL.look] at h;(repeat' split at h);all_goals first | omega | cases h) ?_;rw [Try.ntmps13];simp only [frA]
 (repeat ((fail_if_success (show AWP _ _ (.region 9 _ _) _ _));first | apply x4 | refine j7 rfl ?_ | refine q8 rfl ?_ | apply x7 | (refine j0 fun K hK => ?_) | (refine j4 fun K hK => ?_) | ((first | apply x6 | apply j6 | ((first | refine j5 (hK _ ?_) | refine z6 (hK _ _ x5 ?_));clear hK K));(first | show AWP _ _ _ _ _ | ((try simp only [z7]);first | show loopQ _ _ _ _ _ _ | show cutQ _ _ _ _ | show AWP _ _ _ _ _))) | ((first | refine z10 rfl rfl rfl ?_ | refine x10 rfl rfl rfl ?_);simp (disch:=omega) only [go_sem,seval,hd,cb,q0,q1,q2];(first | refine ⟨_,hs,?_⟩)) | ((first | refine z8 [] rfl ?_ | refine x8 [] rfl ?_);simp (disch:=omega) only [go_sem,seval,hd,cb,q0,q1,q2];(repeat (first | refine ⟨by omega,?_⟩ | refine ⟨True.intro,?_⟩)))))
 refine j0 fun K hK => ?_
 iterate 2 ((first | refine z13 [] rfl rfl ?_ | refine x13 [] rfl rfl ?_ | refine x12 rfl rfl ?_ | refine j12 rfl rfl ?_);simp (disch:=omega) only [go_sem,seval,hd,cb,q0,q1,q2];(repeat (first | refine ⟨by omega,?_⟩ | refine ⟨True.intro,?_⟩)))
 (refine j37 (z32 [(1000,1000),(1001,1001),(1999,1999)] rfl rfl rfl rfl rfl rfl (hp) (fun _ => rfl) (q14 (by repeat (first | exact trivial | refine ⟨rfl,?_⟩)) (by kernel_rfl)) (fun _ => (q14 (by repeat (first | exact trivial | refine ⟨rfl,?_⟩)) (by kernel_rfl)))) ?_);rintro ⟨⟨A1,V1,M1⟩,T1⟩;simp (disch:=omega) only [go_sem,seval,hd,cb,q0,q1,q2]
 simp only [] at T1
 have hp1 := z122 A1
 (repeat ((fail_if_success (show AWP _ _ (.region 10 _ _) _ _));first | apply x4 | refine j7 rfl ?_ | refine q8 rfl ?_ | apply x7 | (refine j0 fun K hK => ?_) | (refine j4 fun K hK => ?_) | ((first | apply x6 | apply j6 | ((first | refine j5 (hK _ ?_) | refine z6 (hK _ _ x5 ?_));clear hK K));(first | show AWP _ _ _ _ _ | ((try simp only [z7]);first | show loopQ _ _ _ _ _ _ | show cutQ _ _ _ _ | show AWP _ _ _ _ _))) | ((first | refine z8 [] rfl ?_ | refine x8 [] rfl ?_);simp (disch:=omega) only [go_sem,seval,hd,cb,q0,q1,q2];(repeat (first | refine ⟨by omega,?_⟩ | refine ⟨True.intro,?_⟩)))))
 generalize esI (l ++ [(id,c)]) = es at *
 rw [hI]
 have hlen := x77 l (pathC c)
 generalize pathC c = p at *
 subst hp0
 rcases T1.ids [] hp1 with ⟨hI0,hV⟩ | ⟨b,c2,f,hV,hle,hb,hf⟩
 ·rw [hI0]
  refine j0 fun K hK => ?_
  iterate 5 ((first | refine z13 [] rfl rfl ?_ | refine x13 [] rfl rfl ?_ | refine x12 rfl rfl ?_ | refine j12 rfl rfl ?_);simp (disch:=omega) only [go_sem,seval,hd,cb,hV];(repeat (first | refine ⟨by omega,?_⟩ | refine ⟨True.intro,?_⟩)))
  refine q38 (Weak.own _ 44 600 1 3 (rowZ []) rfl (by kernel_rfl) rfl) ?_
  have hF : Freed M1 (V1 []) M1 := .inl ⟨hV,rfl⟩
  iterate 3 ((first | refine z13 [] rfl rfl ?_ | refine x13 [] rfl rfl ?_ | refine x12 rfl rfl ?_ | refine j12 rfl rfl ?_);simp (disch:=omega) only [go_sem,seval,hd,cb,hV];(repeat (first | refine ⟨by omega,?_⟩ | refine ⟨True.intro,?_⟩)))
  refine x20 (WeakX.packRow _ 47 600 _ _ _ _ _ _ rfl rfl rfl (by decide)) ?_
  rintro _ ⟨v,M3,hpk,rfl⟩
  rcases hpk with ⟨h0,_⟩ | ⟨b2,c3,hle3,hb2,rfl,rfl⟩
  ·simp at h0
  (repeat (first | apply x4 | refine j7 rfl ?_ | refine q8 rfl ?_ | apply x7 | (refine j0 fun K hK => ?_) | (refine j4 fun K hK => ?_) | ((first | apply x6 | apply j6 | ((first | refine j5 (hK _ ?_) | refine z6 (hK _ _ x5 ?_));clear hK K));(first | show AWP _ _ _ _ _ | ((try simp only [z7]);first | show loopQ _ _ _ _ _ _ | show cutQ _ _ _ _ | show AWP _ _ _ _ _))) | ((first | refine z8 [] rfl ?_ | refine x8 [] rfl ?_);simp (disch:=omega) only [go_sem,seval,hd,cb,hV,j13];(repeat (first | refine ⟨by omega,?_⟩ | refine ⟨True.intro,?_⟩)))))
  have T2 := T1.row (M' := (setM M1 b2 (some ⟨3,1,c3,(0 + 1),catF 0 (rowZ []) fun i => [[Dat.v (.int .i64 id)]].getD i []⟩))) (n := (0 + 1)) (c2 := c3) (l := [] ++ [id]) hp1 hF hb2 (q41 (zs := []) (f := (rowZ [])) rfl (by omega) (z12 _ _ _) (fun k hk => rfl)) (fun b e => by rw [T1.root] at e;cases e) (fun c hc _ => x11 _ _ hc)
  have c0 := j19 V1 [] (.slice (some ⟨b2,0,none⟩) (0 + 1) c3)
  refine j9 ?_
  refine (x17 ⟨⟨(A1,updV V1 [] (.slice (some ⟨b2,0,none⟩) (0 + 1) c3),(setM M1 b2 (some ⟨3,1,c3,(0 + 1),catF 0 (rowZ []) fun i => [[Dat.v (.int .i64 id)]].getD i []⟩))),T2⟩,rfl,rfl⟩ ?_ ?_).1
  ·exact ⟨rfl,trivial⟩
  ·simp only [c0]
   simp [AL.look,j13]
 ·generalize hn : (idsAt l []).length = n at *
  generalize hzs : idsAt l [] = zs at *
  refine j0 fun K hK => ?_
  iterate 5 ((first | refine z13 [] rfl rfl ?_ | refine x13 [] rfl rfl ?_ | refine x12 rfl rfl ?_ | refine j12 rfl rfl ?_);simp (disch:=omega) only [go_sem,seval,hd,cb,hV];(repeat (first | refine ⟨by omega,?_⟩ | refine ⟨True.intro,?_⟩)))
  refine q38 (Weak.focus _ 44 600 b c2 1 n 3 f M1 rfl rfl hb (by kernel_rfl) rfl) ?_
  have hF : Freed M1 (V1 []) (setM M1 b none) := .inr ⟨b,n,c2,hV,rfl⟩
  iterate 3 ((first | refine z13 [] rfl rfl ?_ | refine x13 [] rfl rfl ?_ | refine x12 rfl rfl ?_ | refine j12 rfl rfl ?_);simp (disch:=omega) only [go_sem,seval,hd,cb,hV];(repeat (first | refine ⟨by omega,?_⟩ | refine ⟨True.intro,?_⟩)))
  refine x20 (WeakX.packRow _ 47 600 _ _ _ _ _ _ rfl rfl rfl (by decide)) ?_
  rintro _ ⟨v,M3,hpk,rfl⟩
  rcases hpk with ⟨h0,_⟩ | ⟨b2,c3,hle3,hb2,rfl,rfl⟩
  ·simp at h0
  (repeat (first | apply x4 | refine j7 rfl ?_ | refine q8 rfl ?_ | apply x7 | (refine j0 fun K hK => ?_) | (refine j4 fun K hK => ?_) | ((first | apply x6 | apply j6 | ((first | refine j5 (hK _ ?_) | refine z6 (hK _ _ x5 ?_));clear hK K));(first | show AWP _ _ _ _ _ | ((try simp only [z7]);first | show loopQ _ _ _ _ _ _ | show cutQ _ _ _ _ | show AWP _ _ _ _ _))) | ((first | refine z8 [] rfl ?_ | refine x8 [] rfl ?_);simp (disch:=omega) only [go_sem,seval,hd,cb,hV,j13];(repeat (first | refine ⟨by omega,?_⟩ | refine ⟨True.intro,?_⟩)))))
  have hzn : zs.length = n := hn
  have T2 := T1.row (M' := (setM (setM M1 b none) b2 (some ⟨3,1,c3,(n + 1),catF n f fun i => [[Dat.v (.int .i64 id)]].getD i []⟩))) (n := (n + 1)) (c2 := c3) (l := zs ++ [id]) hp1 hF hb2 (q41 (zs := zs) (f := f) hzn (by omega) (z12 _ _ _) hf) (fun b e => by rw [T1.root] at e;cases e) (fun c hc _ => x11 _ _ hc)
  have c0 := j19 V1 [] (.slice (some ⟨b2,0,none⟩) (n + 1) c3)
  refine j9 ?_
  refine (x17 ⟨⟨(A1,updV V1 [] (.slice (some ⟨b2,0,none⟩) (n + 1) c3),(setM (setM M1 b none) b2 (some ⟨3,1,c3,(n + 1),catF n f fun i => [[Dat.v (.int .i64 id)]].getD i []⟩))),T2⟩,rfl,rfl⟩ ?_ ?_).1
  ·exact ⟨rfl,trivial⟩
  ·simp only [c0]
   simp [AL.look,j13]
set_option maxRecDepth 100000 in
theorem j124 {l : Items} {M : Nat → Option Ent} {A : List Nat → Option Nat} {V : List Nat → Value} (T : TrM (idsAt l) M A V) (id : Int) (c : Cube) (h : addE l id c = 0) (hl : l.length < 1099511627776) (hp0 : pathC c ≠ []) :
  MCalls Try.prog 13 [.loc 1000 0,.p (.d (.v (.int .i64 id))),.p (.agg (cb c))] (trL A V M (esI l))
   (fun rs L => ∃ r : {r : (List Nat → Option Nat) × (List Nat → Value) × (Nat → Option Ent) // TrM (idsAt (l ++ [(id,c)])) r.2.2 r.1 r.2.1},rs = [.p (.d (.v (.int .i64 0)))] ∧ L = trL r.val.1 r.val.2.1 r.val.2.2 (esI (l ++ [(id,c)]))) := by
 obtain ⟨h0,hcs,hi⟩ := j77 h
 have hs := z39 c
 rw [hcs] at hs
 have q0 : decide (id < 0) = false := decide_eq_false (by omega)
 have q1 := (x52 hi).1
 have q2 := j76 (c := c) hi
 have hp := z124 T (esI (l ++ [(id,c)])) c hp0
 have hI := z77 l id c
 unfold cb at q2
 unfold trL trC at *
 refine z17 Try.func13 rfl (by decide +kernel) (by rw [Try.ntmps13];simp) (fun l X h => by simp only [AL.look] at h;(repeat' split at h);all_goals first | omega | cases h) ?_;rw [Try.ntmps13];simp only [frA]
 (repeat ((fail_if_success (show AWP _ _ (.region 9 _ _) _ _));first | apply x4 | refine j7 rfl ?_ | refine q8 rfl ?_ | apply x7 | (refine j0 fun K hK => ?_) | (refine j4 fun K hK => ?_) | ((first | apply x6 | apply j6 | ((first | refine j5 (hK _ ?_) | refine z6 (hK _ _ x5 ?_));clear hK K));(first | show AWP _ _ _ _ _ | ((try simp only [z7]);first | show loopQ _ _ _ _ _ _ | show cutQ _ _ _ _ | show AWP _ _ _ _ _))) | ((first | refine z10 rfl rfl rfl ?_ | refine x10 rfl rfl rfl ?_);simp (disch:=omega) only [go_sem,seval,hd,cb,q0,q1,q2];(first | refine ⟨_,hs,?_⟩)) | ((first | refine z8 [] rfl ?_ | refine x8 [] rfl ?_);simp (disch:=omega) only [go_sem,seval,hd,cb,q0,q1,q2];(repeat (first | refine ⟨by omega,?_⟩ | refine ⟨True.intro,?_⟩)))))
 refine j0 fun K hK => ?_
 iterate 2 ((first | refine z13 [] rfl rfl ?_ | refine x13 [] rfl rfl ?_ | refine x12 rfl rfl ?_ | refine j12 rfl rfl ?_);simp (disch:=omega) only [go_sem,seval,hd,cb,q0,q1,q2];(repeat (first | refine ⟨by omega,?_⟩ | refine ⟨True.intro,?_⟩)))
 (refine j37 (z32 [(1000,1000),(1001,1001),(1999,1999)] rfl rfl rfl rfl rfl rfl (hp) (fun _ => rfl) (q14 (by repeat (first | exact trivial | refine ⟨rfl,?_⟩)) (by kernel_rfl)) (fun _ => (q14 (by repeat (first | exact trivial | refine ⟨rfl,?_⟩)) (by kernel_rfl)))) ?_);rintro ⟨⟨A1,V1,M1,b0⟩,T1,hb0⟩;simp (disch:=omega) only [go_sem,seval,hd,cb,q0,q1,q2]
 simp only [] at T1 hb0
 have hp1 := j17 hb0
 (repeat ((fail_if_success (show AWP _ _ (.region 10 _ _) _ _));first | apply x4 | refine j7 rfl ?_ | refine q8 rfl ?_ | apply x7 | (refine j0 fun K hK => ?_) | (refine j4 fun K hK => ?_) | ((first | apply x6 | apply j6 | ((first | refine j5 (hK _ ?_) | refine z6 (hK _ _ x5 ?_));clear hK K));(first | show AWP _ _ _ _ _ | ((try simp only [z7]);first | show loopQ _ _ _ _ _ _ | show cutQ _ _ _ _ | show AWP _ _ _ _ _))) | ((first | refine z8 [] rfl ?_ | refine x8 [] rfl ?_);simp (disch:=omega) only [go_sem,seval,hd,cb,q0,q1,q2];(repeat (first | refine ⟨by omega,?_⟩ | refine ⟨True.intro,?_⟩)))))
 generalize esI (l ++ [(id,c)]) = es at *
 rw [hI]
 have hlen := x77 l (pathC c)
 generalize pathC c = p at *
 obtain ⟨f0,hMb,hf0⟩ := T1.node p b0 hb0
 unfold nodeC at hf0
 rcases T1.ids p hp1 with ⟨hI0,hV⟩ | ⟨b,c2,f,hV,hle,hb,hf⟩
 ·rw [hI0]
  rw [hV] at hf0
  refine j0 fun K hK => ?_
  iterate 5 ((first | refine z13 [] rfl rfl ?_ | refine x13 [] rfl rfl ?_ | refine x12 rfl rfl ?_ | refine j12 rfl rfl ?_);simp (disch:=omega) only [go_sem,seval,hd,cb,hV,hMb,hf0];(repeat (first | refine ⟨by omega,?_⟩ | refine ⟨True.intro,?_⟩)))
  refine q38 (Weak.own _ 44 600 1 3 (rowZ []) rfl (by kernel_rfl) rfl) ?_
  have hF : Freed M1 (V1 p) M1 := .inl ⟨hV,rfl⟩
  iterate 3 ((first | refine z13 [] rfl rfl ?_ | refine x13 [] rfl rfl ?_ | refine x12 rfl rfl ?_ | refine j12 rfl rfl ?_);simp (disch:=omega) only [go_sem,seval,hd,cb,hV,hMb,hf0];(repeat (first | refine ⟨by omega,?_⟩ | refine ⟨True.intro,?_⟩)))
  refine x20 (WeakX.packRow _ 47 600 _ _ _ _ _ _ rfl rfl rfl (by decide)) ?_
  rintro _ ⟨v,M3,hpk,rfl⟩
  rcases hpk with ⟨h0,_⟩ | ⟨b2,c3,hle3,hb2,rfl,rfl⟩
  ·simp at h0
  have hne2 : b0 ≠ b2 := fun e => by rw [← e,hMb] at hb2;cases hb2
  have hMb3 := fun E => (x11 M1 E hne2).trans hMb
  (repeat (first | apply x4 | refine j7 rfl ?_ | refine q8 rfl ?_ | apply x7 | (refine j0 fun K hK => ?_) | (refine j4 fun K hK => ?_) | ((first | apply x6 | apply j6 | ((first | refine j5 (hK _ ?_) | refine z6 (hK _ _ x5 ?_));clear hK K));(first | show AWP _ _ _ _ _ | ((try simp only [z7]);first | show loopQ _ _ _ _ _ _ | show cutQ _ _ _ _ | show AWP _ _ _ _ _))) | ((first | refine z8 [] rfl ?_ | refine x8 [] rfl ?_);simp (disch:=omega) only [go_sem,seval,hd,cb,hV,j13,hMb3,hf0];(repeat (first | refine ⟨by omega,?_⟩ | refine ⟨True.intro,?_⟩)))))
  have hf2 : putEl f0 0 3 [.v (.slice (some ⟨b2,0,none⟩) (0 + 1) c3)] 0 = nodeC A1 (updV V1 p (.slice (some ⟨b2,0,none⟩) (0 + 1) c3)) p := by
   unfold putEl nodeC
   rw [if_pos rfl,hf0,j19];rfl
  have T2 := T1.row (M' := (setM (setM M1 b2 (some ⟨3,1,c3,(0 + 1),catF 0 (rowZ []) fun i => [[Dat.v (.int .i64 id)]].getD i []⟩)) b0 (some ⟨94,4,1,1,putEl f0 0 3 [.v (.slice (some ⟨b2,0,none⟩) (0 + 1) c3)]⟩))) (n := (0 + 1)) (c2 := c3) (l := [] ++ [id]) hp1 hF hb2 (q41 (zs := []) (f := (rowZ [])) rfl (by omega) ((x11 _ _ (Ne.symm hne2)).trans (z12 _ _ _)) (fun k hk => rfl)) (fun b e => by rw [hb0] at e;cases e;exact ⟨_,z12 _ _ _,hf2⟩) (fun c hc hc2 => (x11 _ _ (fun e => hc2 (by rw [e];exact hb0))).trans (x11 _ _ hc))
  have c0 := z14 V1 (.slice (some ⟨b2,0,none⟩) (0 + 1) c3) (Ne.symm hp0)
  refine j9 ?_
  refine (x17 ⟨⟨(A1,updV V1 p (.slice (some ⟨b2,0,none⟩) (0 + 1) c3),(setM (setM M1 b2 (some ⟨3,1,c3,(0 + 1),catF 0 (rowZ []) fun i => [[Dat.v (.int .i64 id)]].getD i []⟩)) b0 (some ⟨94,4,1,1,putEl f0 0 3 [.v (.slice (some ⟨b2,0,none⟩) (0 + 1) c3)]⟩))),T2⟩,rfl,rfl⟩ ?_ ?_).1
  ·exact ⟨rfl,trivial⟩
  ·simp only [c0]
   simp [AL.look,j13]
 ·generalize hn : (idsAt l p).length = n at *
  generalize hzs : idsAt l p = zs at *
  rw [hV] at hf0
  refine j0 fun K hK => ?_
  iterate 5 ((first | refine z13 [] rfl rfl ?_ | refine x13 [] rfl rfl ?_ | refine x12 rfl rfl ?_ | refine j12 rfl rfl ?_);simp (disch:=omega) only [go_sem,seval,hd,cb,hV,hMb,hf0];(repeat (first | refine ⟨by omega,?_⟩ | refine ⟨True.intro,?_⟩)))
  refine q38 (Weak.focus _ 44 600 b c2 1 n 3 f M1 rfl rfl hb (by kernel_rfl) rfl) ?_
  have hF : Freed M1 (V1 p) (setM M1 b none) := .inr ⟨b,n,c2,hV,rfl⟩
  have hne : b0 ≠ b := fun e => T1.nodeInt hb0 (e ▸ hb)
  have hMb2 := (x11 M1 none hne).trans hMb
  iterate 3 ((first | refine z13 [] rfl rfl ?_ | refine x13 [] rfl rfl ?_ | refine x12 rfl rfl ?_ | refine j12 rfl rfl ?_);simp (disch:=omega) only [go_sem,seval,hd,cb,hV,hMb,hf0];(repeat (first | refine ⟨by omega,?_⟩ | refine ⟨True.intro,?_⟩)))
  refine x20 (WeakX.packRow _ 47 600 _ _ _ _ _ _ rfl rfl rfl (by decide)) ?_
  rintro _ ⟨v,M3,hpk,rfl⟩
  rcases hpk with ⟨h0,_⟩ | ⟨b2,c3,hle3,hb2,rfl,rfl⟩
  ·simp at h0
  have hne2 : b0 ≠ b2 := fun e => by rw [← e,hMb2] at hb2;cases hb2
  have hMb3 := fun E => (x11 (setM M1 b none) E hne2).trans hMb2
  (repeat (first | apply x4 | refine j7 rfl ?_ | refine q8 rfl ?_ | apply x7 | (refine j0 fun K hK => ?_) | (refine j4 fun K hK => ?_) | ((first | apply x6 | apply j6 | ((first | refine j5 (hK _ ?_) | refine z6 (hK _ _ x5 ?_));clear hK K));(first | show AWP _ _ _ _ _ | ((try simp only [z7]);first | show loopQ _ _ _ _ _ _ | show cutQ _ _ _ _ | show AWP _ _ _ _ _))) | ((first | refine z8 [] rfl ?_ | refine x8 [] rfl ?_);simp (disch:=omega) only [go_sem,seval,hd,cb,hV,j13,hMb3,hf0];(repeat (first | refine ⟨by omega,?_⟩ | refine ⟨True.intro,?_⟩)))))
  have hzn : zs.length = n := hn
  have hf2 : putEl f0 0 3 [.v (.slice (some ⟨b2,0,none⟩) (n + 1) c3)] 0 = nodeC A1 (updV V1 p (.slice (some ⟨b2,0,none⟩) (n + 1) c3)) p := by
   unfold putEl nodeC
   rw [if_pos rfl,hf0,j19];rfl
  have T2 := T1.row (M' := (setM (setM (setM M1 b none) b2 (some ⟨3,1,c3,(n + 1),catF n f fun i => [[Dat.v (.int .i64 id)]].getD i []⟩)) b0 (some ⟨94,4,1,1,putEl f0 0 3 [.v (.slice (some ⟨b2,0,none⟩) (n + 1) c3)]⟩))) (n := (n + 1)) (c2 := c3) (l := zs ++ [id]) hp1 hF hb2 (q41 (zs := zs) (f := f) hzn (by omega) ((x11 _ _ (Ne.symm hne2)).trans (z12 _ _ _)) hf) (fun b e => by rw [hb0] at e;cases e;exact ⟨_,z12 _ _ _,hf2⟩) (fun c hc hc2 => (x11 _ _ (fun e => hc2 (by rw [e];exact hb0))).trans (x11 _ _ hc))
  have c0 := z14 V1 (.slice (some ⟨b2,0,none⟩) (n + 1) c3) (Ne.symm hp0)
  refine j9 ?_
  refine (x17 ⟨⟨(A1,updV V1 p (.slice (some ⟨b2,0,none⟩) (n + 1) c3),(setM (setM (setM M1 b none) b2 (some ⟨3,1,c3,(n + 1),catF n f fun i => [[Dat.v (.int .i64 id)]].getD i []⟩)) b0 (some ⟨94,4,1,1,putEl f0 0 3 [.v (.slice (some ⟨b2,0,none⟩) (n + 1) c3)]⟩))),T2⟩,rfl,rfl⟩ ?_ ?_).1
  ·exact ⟨rfl,trivial⟩
  ·simp only [c0]
   simp [AL.look,j13]
theorem mem_ids {l : Items} {id : Int} {c : Cube} (h : (id,c) ∈ l) : id ∈ idsAt l (pathC c) := by
 unfold idsAt
 exact List.mem_map.2 ⟨(id,c),List.mem_filter.2 ⟨h,by simp⟩,rfl⟩
def isV (u : Value) : AV := .is (· = u)
def trX (u0 u1 u2 u3 : Value) (o : Obj) : List (Nat × LV) := [(1000,.cells 96 [isV u0,isV u1,isV u2,isV u3,.mp 1001]),(1001,.obj o)]
set_option maxRecDepth 100000 in
theorem Len_x (u0 u1 u2 u3 : Value) (arr : Array MapEntry) (clock : Nat) : MCalls Try.prog 22 [.loc 1000 0] (trX u0 u1 u2 u3 (.map arr clock)) (fun rs L => rs = [.p (.d (.v (.int .i64 (arr.size : Int))))] ∧ L = trX u0 u1 u2 u3 (.map arr clock)) := by
 unfold trX
 refine z17 Try.func22 rfl (by decide +kernel) (by rw [Try.ntmps22];simp) (fun l X h => by simp only [AL.look] at h;(repeat' split at h);all_goals first | omega | cases h) ?_;rw [Try.ntmps22];simp only [frA]
 (repeat (first | apply x4 | refine j7 rfl ?_ | refine q8 rfl ?_ | apply x7 | (refine j0 fun K hK => ?_) | (refine j4 fun K hK => ?_) | ((first | apply x6 | apply j6 | ((first | refine j5 (hK _ ?_) | refine z6 (hK _ _ x5 ?_));clear hK K));(first | show AWP _ _ _ _ _ | ((try simp only [z7]);first | show loopQ _ _ _ _ _ _ | show cutQ _ _ _ _ | show AWP _ _ _ _ _))) | ((first | refine z8 [] rfl ?_ | refine x8 [] rfl ?_);simp (disch:=omega) only [go_sem,seval,hd,cb,trX,isV];(repeat (first | refine ⟨by omega,?_⟩ | refine ⟨True.intro,?_⟩)))))
 refine j9 ?_
 refine (x17 ⟨rfl,rfl⟩ ?_ ?_).1
 ·exact ⟨rfl,trivial⟩
 ·simp [AL.look,isV]
set_option maxRecDepth 100000 in
theorem LenX_c (A : List Nat → Option Nat) (V : List Nat → Value) (M : Nat → Option Ent) (es : List (List Int × PV)) : RCalls Try.prog 22 [.loc 1000 0] (trL A V M es) (.p (.d (.v (.int .i64 (es.length : Int))))) := by
 intro w h vs hz hr hl
 obtain ⟨l0,l1,l9⟩ := z75 (A := A) (V := V) (M := M) (es := es)
 obtain ⟨arr,c1,c2,c3,c4,c5⟩ := hl.1 1000 _ l0
 obtain ⟨marr,clock,m1,m2,m3,m4⟩ := hl.1 1001 _ l1
 have hsz : marr.size = es.length := m4.size
 have hL2 : LocsOK (fun _ => True) w h (trX (kidV A [0]) (kidV A [1]) (kidV A [2]) (V []) (.map marr clock)) := by
  refine ⟨fun l X hX => ?_,fun l l' X X' b hne e1 e2 hb hb' => ?_⟩
  ·simp only [trX,AL.look] at hX
   split at hX
   ·rename_i e;subst e;cases hX
    refine ⟨arr,trivial,c2,by rw [c3];rfl,c4,fun i v x hv hx => ?_⟩
    have key : ∀ (u : Value),(trC A V)[i]? = some (.p (.d (.v u))) → RelA w h v (isV u) ∧ v.oneCell' = true := by
     intro u hu
     obtain ⟨r1,r2⟩ := c5 i v _ hv hu
     exact ⟨q10 r1,r2⟩
    match i,hx with
    | 0,hx => cases hx;exact key _ rfl
    | 1,hx => cases hx;exact key _ rfl
    | 2,hx => cases hx;exact key _ rfl
    | 3,hx => cases hx;exact key _ rfl
    | 4,hx => cases hx;exact c5 4 v _ hv rfl
    | i + 5,hx => simp at hx
   ·split at hX
    ·rename_i e;subst e;cases hX
     exact ⟨trivial,m2,m3⟩
    ·cases hX
  ·have back : ∀ k Y,AL.look (trX (kidV A [0]) (kidV A [1]) (kidV A [2]) (V []) (.map marr clock)) k = some Y → ∃ Z,AL.look (trL A V M es) k = some Z ∧ (∀ b,inB h k Y b → inB h k Z b) := by
    intro k Y hY
    simp only [trX,AL.look] at hY
    split at hY
    ·rename_i e;subst e;cases hY;exact ⟨_,l0,fun b hb => hb⟩
    ·split at hY
     ·rename_i e;subst e;cases hY;exact ⟨_,l1,fun b hb => hb⟩
     ·cases hY
   obtain ⟨Z,z1,z2⟩ := back l X e1
   obtain ⟨Z',z3,z4⟩ := back l' X' e2
   exact hl.2 l l' Z Z' b hne z1 z3 (z2 b hb) (z4 b hb')
 have k := j116 (Len_x (kidV A [0]) (kidV A [1]) (kidV A [2]) (V []) marr clock) (fun l X hX => by
  simp only [trX,AL.look] at hX
  split at hX
  ·cases hX
   refine ⟨.cells _ _ fun c hc => ?_,fun k hk => ?_⟩
   ·simp only [List.mem_cons,List.not_mem_nil,or_false] at hc
    rcases hc with rfl | rfl | rfl | rfl | rfl <;> first | exact .is _ | exact .mp _
   ·have : k = 1001 := by simpa [LV.mentions,AV.mentions,isV] using hk
    subst this
    exact ⟨_,rfl⟩
  ·split at hX
   ·cases hX
    exact ⟨.obj _,fun k hk => by simp [LV.mentions] at hk⟩
   ·cases hX) rfl hz hr hL2
 rw [hsz] at k
 exact k
theorem q125 : ACalls Try.prog 22 [.d (.v (.pointer none))] (· = [.d (.v (.int .i64 0))]) := by
 refine z11 Try.func22 rfl (by decide +kernel) (by rw [Try.ntmps22];simp) ?_;rw [Try.ntmps22];simp only [frOf]
 (repeat (first | apply x4 | refine j7 rfl ?_ | refine q8 rfl ?_ | apply x7 | (refine j0 fun K hK => ?_) | (refine j4 fun K hK => ?_) | ((first | apply x6 | apply j6 | ((first | refine j5 (hK _ ?_) | refine z6 (hK _ _ x5 ?_));clear hK K));(first | show AWP _ _ _ _ _ | ((try simp only [z7]);first | show loopQ _ _ _ _ _ _ | show cutQ _ _ _ _ | show AWP _ _ _ _ _))) | ((first | refine z8 [] rfl ?_ | refine x8 [] rfl ?_);simp (disch:=omega) only [go_sem,seval,hd,cb];(repeat (first | refine ⟨by omega,?_⟩ | refine ⟨True.intro,?_⟩)))))
 refine j9 ⟨_,?_,rfl⟩;rw [Try.results22];simp (disch:=omega) only [ResVars,ResVar,ptrLoc,go_sem,seval,hd,cb]
theorem z125 (id : Int) (c : Cube) : ACalls Try.prog 13 [.d (.v (.pointer none)),.d (.v (.int .i64 id)),.agg (cb c)] (· = [.d (.v (.int .i64 1))]) := by
 refine z11 Try.func13 rfl (by decide +kernel) (by rw [Try.ntmps13];simp) ?_;rw [Try.ntmps13];simp only [frOf]
 (repeat (first | apply x4 | refine j7 rfl ?_ | refine q8 rfl ?_ | apply x7 | (refine j0 fun K hK => ?_) | (refine j4 fun K hK => ?_) | ((first | apply x6 | apply j6 | ((first | refine j5 (hK _ ?_) | refine z6 (hK _ _ x5 ?_));clear hK K));(first | show AWP _ _ _ _ _ | ((try simp only [z7]);first | show loopQ _ _ _ _ _ _ | show cutQ _ _ _ _ | show AWP _ _ _ _ _))) | ((first | refine z8 [] rfl ?_ | refine x8 [] rfl ?_);simp (disch:=omega) only [go_sem,seval,hd,cb];(repeat (first | refine ⟨by omega,?_⟩ | refine ⟨True.intro,?_⟩)))))
 refine j9 ⟨_,?_,rfl⟩;rw [Try.results13];simp (disch:=omega) only [ResVars,ResVar,ptrLoc,go_sem,seval,hd,cb]
theorem x125 (id : Int) : ACalls Try.prog 20 [.d (.v (.pointer none)),.d (.v (.int .i64 id))] (· = [.d (.v (.bool false))]) := by
 refine z11 Try.func20 rfl (by decide +kernel) (by rw [Try.ntmps20];simp) ?_;rw [Try.ntmps20];simp only [frOf]
 (repeat (first | apply x4 | refine j7 rfl ?_ | refine q8 rfl ?_ | apply x7 | (refine j0 fun K hK => ?_) | (refine j4 fun K hK => ?_) | ((first | apply x6 | apply j6 | ((first | refine j5 (hK _ ?_) | refine z6 (hK _ _ x5 ?_));clear hK K));(first | show AWP _ _ _ _ _ | ((try simp only [z7]);first | show loopQ _ _ _ _ _ _ | show cutQ _ _ _ _ | show AWP _ _ _ _ _))) | ((first | refine z8 [] rfl ?_ | refine x8 [] rfl ?_);simp (disch:=omega) only [go_sem,seval,hd,cb];(repeat (first | refine ⟨by omega,?_⟩ | refine ⟨True.intro,?_⟩)))))
 refine j9 ⟨_,?_,rfl⟩;rw [Try.results20];simp (disch:=omega) only [ResVars,ResVar,ptrLoc,go_sem,seval,hd,cb]
theorem q78 (c : Cube) : ACalls Try.prog 15 [.d (.v (.pointer none)),.agg (cb c)] (· = [.d (.v (.slice none 0 0))]) := by
 refine z11 Try.func15 rfl (by decide +kernel) (by rw [Try.ntmps15];simp) ?_;rw [Try.ntmps15];simp only [frOf]
 (repeat (first | apply x4 | refine j7 rfl ?_ | refine q8 rfl ?_ | apply x7 | (refine j0 fun K hK => ?_) | (refine j4 fun K hK => ?_) | ((first | apply x6 | apply j6 | ((first | refine j5 (hK _ ?_) | refine z6 (hK _ _ x5 ?_));clear hK K));(first | show AWP _ _ _ _ _ | ((try simp only [z7]);first | show loopQ _ _ _ _ _ _ | show cutQ _ _ _ _ | show AWP _ _ _ _ _))) | ((first | refine z8 [] rfl ?_ | refine x8 [] rfl ?_);simp (disch:=omega) only [go_sem,seval,hd,cb];(repeat (first | refine ⟨by omega,?_⟩ | refine ⟨True.intro,?_⟩)))))
 refine j9 ⟨_,?_,rfl⟩;rw [Try.results15];simp (disch:=omega) only [ResVars,ResVar,ptrLoc,go_sem,seval,hd,cb]
theorem j125 (h : BitVec 128) : ACalls Try.prog 16 [.d (.v (.pointer none)),.agg (hd h)] (· = [.d (.v (.slice none 0 0))]) := by
 have km := q75
 have kk := q72 h (ones 128 <<< 0)
 generalize (ones 128 <<< 0 : BitVec 128) = m at *
 have ko := q78 (mkC h m)
 generalize mkC h m = c at *
 refine z11 Try.func16 rfl (by decide +kernel) (by rw [Try.ntmps16];simp) ?_;rw [Try.ntmps16];simp only [frOf]
 (repeat (first | apply x4 | refine j7 rfl ?_ | refine q8 rfl ?_ | apply x7 | (refine j0 fun K hK => ?_) | (refine j4 fun K hK => ?_) | ((first | apply x6 | apply j6 | ((first | refine j5 (hK _ ?_) | refine z6 (hK _ _ x5 ?_));clear hK K));(first | show AWP _ _ _ _ _ | ((try simp only [z7]);first | show loopQ _ _ _ _ _ _ | show cutQ _ _ _ _ | show AWP _ _ _ _ _))) | ((first | refine z10 rfl rfl rfl ?_ | refine x10 rfl rfl rfl ?_);simp (disch:=omega) only [go_sem,seval,hd,cb];(first | refine ⟨_,km,?_⟩ | refine ⟨_,kk,?_⟩ | refine ⟨_,ko,?_⟩)) | ((first | refine z8 [] rfl ?_ | refine x8 [] rfl ?_);simp (disch:=omega) only [go_sem,seval,hd,cb];(repeat (first | refine ⟨by omega,?_⟩ | refine ⟨True.intro,?_⟩)))))
 refine j9 ⟨_,?_,rfl⟩;rw [Try.results16];simp (disch:=omega) only [ResVars,ResVar,ptrLoc,go_sem,seval,hd,cb]
section
variable {M : Nat → Option Ent} {A : List Nat → Option Nat} {V : List Nat → Value}
theorem TrM.up {I : List Nat → List Int} (T : TrM I M A V) (p : List Nat) : ∀ (n : Nat) (r : List Nat),r.length = n → hasP A (p ++ r) = true → hasP A p = true
 |0,r,hr,h => by
  have : r = [] := List.eq_nil_of_length_eq_zero hr
  subst this
  rwa [List.append_nil] at h
 |n + 1,r,hr,h => by
  have hne : r ≠ [] := fun e => by subst e;simp at hr
  have er := (List.dropLast_concat_getLast hne).symm
  rw [er,← List.append_assoc] at h
  obtain ⟨b,hb⟩ := x40 h (by simp)
  exact T.up p n r.dropLast (by simp;omega) (T.pre _ _ _ hb)
theorem z78 {l : Items} (T : TrM (idsAt l) M A V) (c : Cube) : ∀ f p,gathT (hasP A) (idsAt l) c f p = gath l c f p := by
 have none : ∀ f p,hasP A p = false → gath l c f p = [] := by
  intro f p hp
  refine j114 l c f p fun x hx r e => ?_
  have h1 : hasP A (p ++ r) = false := by
   cases h : hasP A (p ++ r) with
   | false => rfl
   | true => rw [T.up p _ r rfl h] at hp;cases hp
  have h2 := T.gone _ h1
  rw [← e] at h2
  have h3 : x.1 ∈ idsAt l (pathC x.2) := mem_ids (c := x.2) (by simpa using hx)
  rw [h2] at h3;cases h3
 intro f
 induction f with
 |zero =>
  intro p
  unfold gathT gath
  cases hp : hasP A p with
  | true => rfl
  | false => rw [T.gone p hp];rfl
 |succ f ih =>
  intro p
  cases hp : hasP A p with
  |true =>
   rw [q73 _ _ _ _ _ hp]
   unfold gath
   congr 2
   funext k
   exact ih _
  | false => rw [z73 _ _ _ _ _ hp,none _ _ hp]
def fndZ (l : Items) (c : Cube) : List Int := srtZ (foundU l c)
theorem x78 {a b : List Int} (h : a.Perm b) : srtZ a = srtZ b := by
 unfold srtZ
 have tr : ∀ (x y z : Int),decide (x ≤ y) = true → decide (y ≤ z) = true → decide (x ≤ z) = true := fun x y z h1 h2 => by
  simp only [decide_eq_true_eq] at *;omega
 have tot : ∀ (x y : Int),(decide (x ≤ y) || decide (y ≤ x)) = true := fun x y => by
  rw [Bool.or_eq_true,decide_eq_true_eq,decide_eq_true_eq];omega
 refine List.Perm.eq_of_pairwise (le := fun x y => decide (x ≤ y) = true) (fun x y _ _ h1 h2 => ?_) (List.pairwise_mergeSort tr tot a) (List.pairwise_mergeSort tr tot b) (((List.mergeSort_perm a _).trans h).trans (List.mergeSort_perm b _).symm)
 simp only [decide_eq_true_eq] at h1 h2;omega
def AllSnd (l : Items) : Prop := ∀ x ∈ l,x.2.sound = true
theorem q126 : srtZ [] = [] := List.eq_nil_of_length_eq_zero (by unfold srtZ;simp)
theorem j78 {l : Items} (T : TrM (idsAt l) M A V) (hs : AllSnd l) (c : Cube) : ovZ (hasP A) (idsAt l) c = fndZ l c := by
 unfold ovZ fndZ
 cases hc : c.sound with
 |true =>
  rw [if_pos rfl,z78 T]
  exact x78 (z114 hc hs)
 |false =>
  rw [x114 hc]
  simp [q126]
theorem q79 {l : Items} (T : TrM (idsAt l) M A V) (c : Cube) : (gathT (hasP A) (idsAt l) c 128 []).length ≤ l.length := by
 rw [z78 T,(x39 l c 128 []).length_eq,List.length_map]
 exact List.length_filter_le _ _
end
section
variable {l : Items} {M : Nat → Option Ent} {A : List Nat → Option Nat} {V : List Nat → Value}
set_option maxRecDepth 100000 in
theorem z126 (T : TrM (idsAt l) M A V) (hs : AllSnd l) (hl : l.length ≤ 1099511627776) (c : Cube) :
  RCalls Try.prog 15 [.loc 1000 0,.p (.agg (cb c))] (trL A V M (esI l)) (.p (.d (.sl 1 (fndZ l c).length (rowZ (fndZ l c))))) := by
 have := x122 T (esI l) c (by have := q79 T c;omega)
 rw [j78 T hs] at this
 exact this
set_option maxRecDepth 100000 in
theorem z79 (T : TrM (idsAt l) M A V) (hs : AllSnd l) (hl : l.length ≤ 1099511627776) (h : BitVec 128) :
  RCalls Try.prog 16 [.loc 1000 0,.p (.agg (hd h))] (trL A V M (esI l)) (.p (.d (.sl 1 (fndZ l (headC h)).length (rowZ (fndZ l (headC h)))))) := by
 have := j122 T (esI l) h (by have := q79 T (headC h);omega)
 rw [j78 T hs] at this
 exact this
end
set_option maxRecDepth 100000 in
theorem LenF_c (A : List Nat → Option Nat) (V : List Nat → Value) (M : Nat → Option Ent) (l : Items) : RCalls Try.prog 22 [.loc 1000 0] (trL A V M (esI l)) (.p (.d (.v (.int .i64 (l.length : Int))))) := by
 have := LenX_c A V M (esI l)
 have e : (esI l).length = l.length := by unfold esI;simp
 rw [e] at this
 exact this
end Go.Proofs.Ytbamjcnhmmgnlaa
namespace Go.Proofs.Ytbamjcnhmmgnlaa
open Go Go.Proofs.Ytbamjcnhmmgnlaa.AL Go.RowKit
def awC : Cube := ⟨4,12⟩
def awZ : Cube := ⟨0,0⟩
theorem j52 : cb awC = [.v (.int .u64 0),.v (.int .u64 4),.v (.int .u64 0),.v (.int .u64 12)] := by
 have h1 : hi (4 : BitVec 128) = 0 := by decide
 have h2 : lo (4 : BitVec 128) = 4 := by decide
 have h3 : hi (12 : BitVec 128) = 0 := by decide
 have h4 : lo (12 : BitVec 128) = 12 := by decide
 unfold cb awC
 simp only [h1,h2,h3,h4]
theorem cb_awZ : cb awZ = [.v (.int .u64 0),.v (.int .u64 0),.v (.int .u64 0),.v (.int .u64 0)] := by
 unfold cb awZ
 simp only [q31,z31]
theorem hd_7 : hd 7 = [.v (.int .u64 0),.v (.int .u64 7)] := by
 have h1 : hi (7 : BitVec 128) = 0 := by decide
 have h2 : lo (7 : BitVec 128) = 7 := by decide
 unfold hd;simp only [h1,h2]
theorem hd_8 : hd 8 = [.v (.int .u64 0),.v (.int .u64 8)] := by
 have h1 : hi (8 : BitVec 128) = 0 := by decide
 have h2 : lo (8 : BitVec 128) = 8 := by decide
 unfold hd;simp only [h1,h2]
def awL : Items := [(5,awC),(3,awZ)]
theorem x79 : srtZ [5,3] = [3,5] := by
 have h := x78 (a := [5,3]) (b := [3,5]) (by decide)
 rw [h]
 unfold srtZ
 exact List.mergeSort_of_pairwise (by simp)
theorem srt_one (x : Int) : srtZ [x] = [x] := by
 unfold srtZ
 exact List.mergeSort_of_pairwise (by simp)
theorem fnd_7 : fndZ awL (headC 7) = [3,5] := by
 have : foundU awL (headC 7) = [5,3] := by decide +kernel
 unfold fndZ;rw [this,x79]
theorem fnd_8 : fndZ awL (headC 8) = [3] := by
 have : foundU awL (headC 8) = [3] := by decide +kernel
 unfold fndZ;rw [this,srt_one]
theorem fnd_C : fndZ awL awC = [3,5] := by
 have : foundU awL awC = [5,3] := by decide +kernel
 unfold fndZ;rw [this,x79]
theorem x126 : pathC awC ≠ [] := by
 have : (pathC awC).length = 126 := by rw [q22];decide +kernel
 intro e;rw [e] at this;cases this
theorem j126 : pathC awZ = [] := by
 have : (pathC awZ).length = 0 := by rw [q22];decide +kernel
 exact List.eq_nil_of_length_eq_zero this
theorem q53 : AllSnd awL := by
 intro x hx
 simp only [awL,List.mem_cons,List.not_mem_nil,or_false] at hx
 rcases hx with rfl | rfl <;> decide
set_option maxRecDepth 100000 in
theorem q127 : ACalls Try.prog 12 [] (· = [.d (.v (.bool true))]) := by
 have k0 := NewT_c
 have k1 := j124 TrM.empty 5 awC (by decide) (by simp) x126
 rw [j52] at k1
 unfold trL trC at k1
 refine z11 Try.func12 rfl (by decide +kernel) (by rw [Try.ntmps12];simp) ?_;rw [Try.ntmps12];simp only [frOf]
 (repeat ((fail_if_success (show AWP _ _ (.region 1 _ _) _ _));first | apply x4 | refine j7 rfl ?_ | refine q8 rfl ?_ | apply x7 | (refine j0 fun K hK => ?_) | (refine j4 fun K hK => ?_) | ((first | apply x6 | apply j6 | ((first | refine j5 (hK _ ?_) | refine z6 (hK _ _ x5 ?_));clear hK K));(first | show AWP _ _ _ _ _ | ((try simp only [z7]);first | show loopQ _ _ _ _ _ _ | show cutQ _ _ _ _ | show AWP _ _ _ _ _))) | ((first | refine z8 [] rfl ?_ | refine x8 [] rfl ?_);simp (disch:=omega) only [go_sem,seval,hd,cb];(repeat (first | refine ⟨by omega,?_⟩ | refine ⟨True.intro,?_⟩)))))
 refine j0 fun K hK => ?_
 (refine x18 _ (j18 [(3,503),(1,501)] rfl rfl rfl rfl rfl rfl (k0) rfl (q14 (by repeat (first | exact trivial | refine ⟨rfl,?_⟩)) (by kernel_rfl))) ?_);simp (disch:=omega) only [go_sem,seval,hd,cb]
 (repeat ((fail_if_success (show AWP _ _ (.region 3 _ _) _ _));first | apply x4 | refine j7 rfl ?_ | refine q8 rfl ?_ | apply x7 | (refine j0 fun K hK => ?_) | (refine j4 fun K hK => ?_) | ((first | apply x6 | apply j6 | ((first | refine j5 (hK _ ?_) | refine z6 (hK _ _ x5 ?_));clear hK K));(first | show AWP _ _ _ _ _ | ((try simp only [z7]);first | show loopQ _ _ _ _ _ _ | show cutQ _ _ _ _ | show AWP _ _ _ _ _))) | ((first | refine z8 [] rfl ?_ | refine x8 [] rfl ?_);simp (disch:=omega) only [go_sem,seval,hd,cb];(repeat (first | refine ⟨by omega,?_⟩ | refine ⟨True.intro,?_⟩)))))
 refine z116 rfl ?_
 refine j0 fun K hK => ?_
 iterate 5 ((first | refine z13 [] rfl rfl ?_ | refine x13 [] rfl rfl ?_ | refine x12 rfl rfl ?_ | refine j12 rfl rfl ?_);simp (disch:=omega) only [go_sem,seval,hd,cb];(repeat (first | refine ⟨by omega,?_⟩ | refine ⟨True.intro,?_⟩)))
 (refine j37 (z32 [(1000,503),(1001,501),(1999,1999)] rfl rfl rfl rfl rfl rfl (k1) (fun _ => rfl) (q14 (by repeat (first | exact trivial | refine ⟨rfl,?_⟩)) (by kernel_rfl)) (fun _ => (q14 (by repeat (first | exact trivial | refine ⟨rfl,?_⟩)) (by kernel_rfl)))) ?_);rintro ⟨⟨A1,V1,M1⟩,T1⟩;simp (disch:=omega) only [go_sem,seval,hd,cb]
 simp only [] at T1
 have k2 := x124 T1 3 awZ (by decide +kernel) (by simp) j126
 rw [cb_awZ] at k2
 unfold trL trC at k2
 iterate 5 ((first | refine z13 [] rfl rfl ?_ | refine x13 [] rfl rfl ?_ | refine x12 rfl rfl ?_ | refine j12 rfl rfl ?_);simp (disch:=omega) only [go_sem,seval,hd,cb];(repeat (first | refine ⟨by omega,?_⟩ | refine ⟨True.intro,?_⟩)))
 (refine j37 (z32 [(1000,503),(1001,501),(1999,1999)] rfl rfl rfl rfl rfl rfl (k2) (fun _ => rfl) (q14 (by repeat (first | exact trivial | refine ⟨rfl,?_⟩)) (by kernel_rfl)) (fun _ => (q14 (by repeat (first | exact trivial | refine ⟨rfl,?_⟩)) (by kernel_rfl)))) ?_);rintro ⟨⟨A2,V2,M2⟩,T2⟩;simp (disch:=omega) only [go_sem,seval,hd,cb]
 have T2 : TrM (idsAt awL) M2 A2 V2 := T2
 have k3 := j123 (l := awL) (M := M2) (A := A2) (V := V2) 5 awC (by decide +kernel)
 rw [show addE awL 5 awC = 8 from by decide +kernel,j52] at k3
 unfold trL trC at k3
 iterate 5 ((first | refine z13 [] rfl rfl ?_ | refine x13 [] rfl rfl ?_ | refine x12 rfl rfl ?_ | refine j12 rfl rfl ?_);simp (disch:=omega) only [go_sem,seval,hd,cb];(repeat (first | refine ⟨by omega,?_⟩ | refine ⟨True.intro,?_⟩)))
 (refine x18 _ (j18 [(1000,503),(1001,501),(1999,1999)] rfl rfl rfl rfl rfl rfl (k3) rfl (q14 (by repeat (first | exact trivial | refine ⟨rfl,?_⟩)) (by kernel_rfl))) ?_);simp (disch:=omega) only [go_sem,seval,hd,cb]
 (repeat ((fail_if_success (show AWP _ _ (.region 5 _ _) _ _));first | apply x4 | refine j7 rfl ?_ | refine q8 rfl ?_ | apply x7 | (refine j0 fun K hK => ?_) | (refine j4 fun K hK => ?_) | ((first | apply x6 | apply j6 | ((first | refine j5 (hK _ ?_) | refine z6 (hK _ _ x5 ?_));clear hK K));(first | show AWP _ _ _ _ _ | ((try simp only [z7]);first | show loopQ _ _ _ _ _ _ | show cutQ _ _ _ _ | show AWP _ _ _ _ _))) | ((first | refine z8 [] rfl ?_ | refine x8 [] rfl ?_);simp (disch:=omega) only [go_sem,seval,hd,cb];(repeat (first | refine ⟨by omega,?_⟩ | refine ⟨True.intro,?_⟩)))))
 have k4 := q40 (z79 T2 q53 (by decide) 7)
 have k5 := q40 (z79 T2 q53 (by decide) 8)
 have k6 := q40 (z126 T2 q53 (by decide) awC)
 have k7 := q40 (LenF_c A2 V2 M2 awL)
 rw [fnd_7,hd_7] at k4
 rw [fnd_8,hd_8] at k5
 rw [fnd_C,j52] at k6
 rw [show ((awL.length : Nat) : Int) = 2 from rfl] at k7
 unfold trL trC at k4 k5 k6 k7
 have r0 : rowZ [3,5] 0 = [.v (.int .i64 3)] := rfl
 have r1 : rowZ [3,5] 1 = [.v (.int .i64 5)] := rfl
 refine j0 fun K hK => ?_
 iterate 2 ((first | refine z13 [] rfl rfl ?_ | refine x13 [] rfl rfl ?_ | refine x12 rfl rfl ?_ | refine j12 rfl rfl ?_);simp (disch:=omega) only [go_sem,seval,hd,cb,r0,r1];(repeat (first | refine ⟨by omega,?_⟩ | refine ⟨True.intro,?_⟩)))
 (refine x18 _ (j18 [(1000,503),(1001,501),(1999,1999)] rfl rfl rfl rfl rfl rfl (k4) rfl (q14 (by repeat (first | exact trivial | refine ⟨rfl,?_⟩)) (by kernel_rfl))) ?_);simp (disch:=omega) only [go_sem,seval,hd,cb,r0,r1]
 iterate 2 ((first | refine z13 [] rfl rfl ?_ | refine x13 [] rfl rfl ?_ | refine x12 rfl rfl ?_ | refine j12 rfl rfl ?_);simp (disch:=omega) only [go_sem,seval,hd,cb,r0,r1];(repeat (first | refine ⟨by omega,?_⟩ | refine ⟨True.intro,?_⟩)))
 (refine x18 _ (j18 [(1000,503),(1001,501),(1999,1999)] rfl rfl rfl rfl rfl rfl (k5) rfl (q14 (by repeat (first | exact trivial | refine ⟨rfl,?_⟩)) (by kernel_rfl))) ?_);simp (disch:=omega) only [go_sem,seval,hd,cb,r0,r1]
 (repeat ((fail_if_success (show AWP _ _ (.region 6 _ _) _ _));first | apply x4 | refine j7 rfl ?_ | refine q8 rfl ?_ | apply x7 | (refine j0 fun K hK => ?_) | (refine j4 fun K hK => ?_) | ((first | apply x6 | apply j6 | ((first | refine j5 (hK _ ?_) | refine z6 (hK _ _ x5 ?_));clear hK K));(first | show AWP _ _ _ _ _ | ((try simp only [z7]);first | show loopQ _ _ _ _ _ _ | show cutQ _ _ _ _ | show AWP _ _ _ _ _))) | ((first | refine z8 [] rfl ?_ | refine x8 [] rfl ?_);simp (disch:=omega) only [go_sem,seval,hd,cb,r0,r1];(repeat (first | refine ⟨by omega,?_⟩ | refine ⟨True.intro,?_⟩)))))
 refine j0 fun K hK => ?_
 iterate 22 ((first | refine z13 [] rfl rfl ?_ | refine x13 [] rfl rfl ?_ | refine x12 rfl rfl ?_ | refine j12 rfl rfl ?_);simp (disch:=omega) only [go_sem,seval,hd,cb,r0,r1];(repeat (first | refine ⟨by omega,?_⟩ | refine ⟨True.intro,?_⟩)))
 (refine x18 _ (j18 [(1000,503),(1001,501),(1999,1999)] rfl rfl rfl rfl rfl rfl (k7) rfl (q14 (by repeat (first | exact trivial | refine ⟨rfl,?_⟩)) (by kernel_rfl))) ?_);simp (disch:=omega) only [go_sem,seval,hd,cb,r0,r1]
 iterate 5 ((first | refine z13 [] rfl rfl ?_ | refine x13 [] rfl rfl ?_ | refine x12 rfl rfl ?_ | refine j12 rfl rfl ?_);simp (disch:=omega) only [go_sem,seval,hd,cb,r0,r1];(repeat (first | refine ⟨by omega,?_⟩ | refine ⟨True.intro,?_⟩)))
 (refine x18 _ (j18 [(1000,503),(1001,501),(1999,1999)] rfl rfl rfl rfl rfl rfl (k6) rfl (q14 (by repeat (first | exact trivial | refine ⟨rfl,?_⟩)) (by kernel_rfl))) ?_);simp (disch:=omega) only [go_sem,seval,hd,cb,r0,r1]
 (repeat (first | apply x4 | refine j7 rfl ?_ | refine q8 rfl ?_ | apply x7 | (refine j0 fun K hK => ?_) | (refine j4 fun K hK => ?_) | ((first | apply x6 | apply j6 | ((first | refine j5 (hK _ ?_) | refine z6 (hK _ _ x5 ?_));clear hK K));(first | show AWP _ _ _ _ _ | ((try simp only [z7]);first | show loopQ _ _ _ _ _ _ | show cutQ _ _ _ _ | show AWP _ _ _ _ _))) | ((first | refine z8 [] rfl ?_ | refine x8 [] rfl ?_);simp (disch:=omega) only [go_sem,seval,hd,cb,r0,r1];(repeat (first | refine ⟨by omega,?_⟩ | refine ⟨True.intro,?_⟩)))))
 refine j9 ⟨_,?_,rfl⟩;rw [Try.results12];simp (disch:=omega) only [ResVars,ResVar,ptrLoc,go_sem,seval,hd,cb,r0,r1]
set_option maxRecDepth 100000 in
theorem z127 (id : Int) (c : Cube) (h : BitVec 128) : ACalls Try.prog 5 [.d (.v (.int .i64 id)),.agg (cb c),.agg (hd h)] (· = [.d (.v (.bool true))]) := by
 have k0 := q127
 have k1 := z125 id c
 have k2 := x125 id
 have k3 := j125 h
 have k4 := q78 c
 have k5 := q125
 refine z11 Try.func5 rfl (by decide +kernel) (by rw [Try.ntmps5];simp) ?_;rw [Try.ntmps5];simp only [frOf]
 (repeat (first | apply x4 | refine j7 rfl ?_ | refine q8 rfl ?_ | apply x7 | (refine j0 fun K hK => ?_) | (refine j4 fun K hK => ?_) | ((first | apply x6 | apply j6 | ((first | refine j5 (hK _ ?_) | refine z6 (hK _ _ x5 ?_));clear hK K));(first | show AWP _ _ _ _ _ | ((try simp only [z7]);first | show loopQ _ _ _ _ _ _ | show cutQ _ _ _ _ | show AWP _ _ _ _ _))) | ((first | refine z10 rfl rfl rfl ?_ | refine x10 rfl rfl rfl ?_);simp (disch:=omega) only [go_sem,seval,hd,cb];(first | refine ⟨_,k0,?_⟩ | refine ⟨_,k1,?_⟩ | refine ⟨_,k2,?_⟩ | refine ⟨_,k3,?_⟩ | refine ⟨_,k4,?_⟩ | refine ⟨_,k5,?_⟩)) | ((first | refine z8 [] rfl ?_ | refine x8 [] rfl ?_);simp (disch:=omega) only [go_sem,seval,hd,cb];(repeat (first | refine ⟨by omega,?_⟩ | refine ⟨True.intro,?_⟩)))))
 refine j9 ⟨_,?_,rfl⟩;rw [Try.results5];simp (disch:=omega) only [ResVars,ResVar,ptrLoc,go_sem,seval,hd,cb]
end Go.Proofs.Ytbamjcnhmmgnlaa
