/- Part 5 of a proof: lemmas beneath the theorem that the last text bears. Conditions: none. -/
import Derived.Test.YtjfammnjpeeahaaKConfigClonesd
set_option maxHeartbeats 64000000
set_option linter.unusedSimpArgs false
set_option linter.unusedVariables false
namespace Go.Proofs.Ytjfammnjpeeahaa
open Go Go.Proofs.Ytjfammnjpeeahaa.AL
theorem z30 {α : Type} {e : α → α → Bool} {d : α} (h : ∀ x,e x x = true) (a : List α) : eqBy e d a a = true := by
 unfold eqBy
 rw [if_pos rfl,x58]
 exact fun k _ _ => h _
theorem z143 (c : Config) : sameC c c = true := by
 unfold sameC
 rw [z30 (e := eqPP) (fun x => by unfold eqPP;exact z30 (fun y => beq_self_eq_true y) x),z30 (e := (· == ·)) (fun x => beq_self_eq_true x) c.po.peers,z30 (e := (· == ·)) (fun x => beq_self_eq_true x) c.po.ways,
  z30 (e := eqTT) (fun x => by unfold eqTT;exact z30 (e := eqRR) (fun y => by unfold eqRR;exact z30 (fun z => beq_self_eq_true z) y) x)]
 simp
theorem cfgX_rd {M : Nat → Option Ent} {c : Config} {sP : Nat → Value} {vp vw : Value} {S : Nat → Nat → Value} (h : OwnC M c sP vp vw S) : RdP M (.agg (cfgX c sP vp vw S)) (.agg (configD c)) := by
 have h1 : RdD M (.sl 1 c.tp.length (rowVal sP)) (.sl 1 c.tp.length (rowPP c.tp)) := h.tp.rd fun i _ => rfl
 have h2 := h.pe.rd
 have h3 := h.wa.rd
 have h4 : RdD M (.sl 1 c.tb.length (rowSS c.tb S)) (.sl 1 c.tb.length (rowTT c.tb)) := by
  refine .sl _ _ _ _ (fun i hi => rfl) fun i j x y hi hx hy => ?_
  rw [q92] at hx
  rw [z24] at hy
  cases j with
  |zero =>
   simp at hx hy
   subst hx hy
   exact (h.tb i hi).rd fun k _ => rfl
  | succ j => simp at hx
 have hC : configD c = [.sl 1 c.tp.length (rowPP c.tp),.v (.int .i64 c.po.tn),.sl 2 c.po.peers.length (rowA c.po.peers),.sl 3 c.po.ways.length (rowW c.po.ways),.sl 1 c.tb.length (rowTT c.tb)] := rfl
 rw [hC]
 unfold cfgX
 refine .agg _ _ rfl fun j x y hx hy => ?_
 match j with
 | 0 => simp at hx hy;subst hx hy;exact h1
 | 1 => simp at hx hy;subst hx hy;exact .refl _
 | 2 => simp at hx hy;subst hx hy;exact h2
 | 3 => simp at hx hy;subst hx hy;exact h3
 | 4 => simp at hx hy;subst hx hy;exact h4
 | j + 5 => simp at hx
structure ShapeC (M : Nat → Option Ent) (c : Config) (sP : Nat → Value) (vp vw : Value) (S : Nat → Nat → Value) : Prop where
 tp : ∀ n,n < c.tp.length → HoldS M 47 5 [4] (c.tp.getD n []).length (sP n)
 pe : HoldS M 48 2 [0] c.po.peers.length vp
 wa : HoldS M 50 3 [2] c.po.ways.length vw
 tb : ∀ n i,n < c.tb.length → i < (c.tb.getD n []).length → HoldS M 44 12 [0] ((c.tb.getD n []).getD i []).length (S n i)
theorem ShapeC.store {M : Nat → Option Ent} {c : Config} {sP : Nat → Value} {vp vw : Value} {S : Nat → Nat → Value} (h : ShapeC M c sP vp vw S) {b : Nat} {E : Ent} (hE : M b = some E) (i j : Nat) (x : Int) (hj : j < E.sz) :
  ShapeC (setM M b (some { E with f := putEl E.f i j [.v (.int .i64 x)] })) c sP vp vw S :=
 ⟨fun n hn => (h.tp n hn).store hE i j x hj,h.pe.store hE i j x hj,h.wa.store hE i j x hj,fun n k hn hk => (h.tb n k hn hk).store hE i j x hj⟩
theorem q49 {sz : Nat} {q : Nat} {ds : List Dat} {x : Int} (hl : ds.length = sz) (h : ds[q]? = some (.v (.int .i64 x))) : Shape sz [q] ds := ⟨hl,fun j hj => by
 simp only [List.mem_cons,List.not_mem_nil,or_false] at hj
 subst hj
 exact ⟨x,h⟩⟩
theorem OwnC.shape {M : Nat → Option Ent} {c : Config} {sP : Nat → Value} {vp vw : Value} {S : Nat → Nat → Value} (h : OwnC M c sP vp vw S) : ShapeC M c sP vp vw S :=
 ⟨fun n hn => HoldR.shape (h.tp n hn) fun k _ => q49 rfl rfl,h.pe.shape fun k _ => q49 rfl rfl,h.wa.shape fun k _ => q49 rfl rfl,fun n i hn hi => HoldR.shape (h.tb n hn i hi) fun k _ => q49 rfl rfl⟩
theorem z49 {M : Nat → Option Ent} {e : TypeId} {sz n : Nat} {js : List Nat} {v : Value} (h : HoldS M e sz js n v) : ∃ a c,v = .slice a n c := by
 rcases h with ⟨h1,a,c,h2⟩ | ⟨b,c,cap,f',h1,_⟩
 ·exact ⟨a,c,by rw [h1];exact h2⟩
 ·exact ⟨_,_,h1⟩
structure SpN (c : Config) (sP : Nat → Value) (vp vw : Value) (S : Nat → Nat → Value) (N : Nat) where
 k : Nat
 M : Nat → Option Ent
 h : ShapeC M c sP vp vw S
 hk : k ≤ N
def frX (c : Config) : List (Nat × AV) := [(6,.loc 6 0),(5,.loc 5 0),(2,.p (.d (.bx (configD c))))]
def lcX (c : Config) (sP : Nat → Value) (vp vw : Value) (S : Nat → Nat → Value) (M : Nat → Option Ent) : List (Nat × LV) :=
 [(6,.cells 31 [.p (.d (.sl 1 c.tp.length (rowVal sP))),.p (.d (.v (.int .i64 c.po.tn))),.p (.d (.v vp)),.p (.d (.v vw)),.p (.d (.sl 1 c.tb.length (rowSS c.tb S)))]),
  (5,.cells 31 [.p (.d (.sl 1 c.tp.length (rowPP c.tp))),.p (.d (.v (.int .i64 c.po.tn))),.p (.d (.sl 2 c.po.peers.length (rowA c.po.peers))),.p (.d (.sl 3 c.po.ways.length (rowW c.po.ways))),.p (.d (.sl 1 c.tb.length (rowTT c.tb)))]),(1999,.raw M)]
section
variable (c : Config) (sP : Nat → Value) (vp vw : Value) (S : Nat → Nat → Value)
def ccA (x : SpN c sP vp vw S c.tb.length) : ASt := ⟨(7,.p (.d (.v (.int .i64 (x.k : Int))))) :: frX c,lcX c sP vp vw S x.M⟩
def ccB (n N : Nat) (x : SpN c sP vp vw S N) : ASt := ⟨(8,.p (.d (.v (.int .i64 (x.k : Int))))) :: (7,.p (.d (.v (.int .i64 (n : Int))))) :: frX c,lcX c sP vp vw S x.M⟩
def ccC (n i N : Nat) (x : SpN c sP vp vw S N) : ASt := ⟨(9,.p (.d (.v (.int .i64 (x.k : Int))))) :: (8,.p (.d (.v (.int .i64 (i : Int))))) :: (7,.p (.d (.v (.int .i64 (n : Int))))) :: frX c,lcX c sP vp vw S x.M⟩
def ccD (x : SpN c sP vp vw S c.tp.length) : ASt := ⟨(10,.p (.d (.v (.int .i64 (x.k : Int))))) :: frX c,lcX c sP vp vw S x.M⟩
def ccE (n N : Nat) (x : SpN c sP vp vw S N) : ASt := ⟨(11,.p (.d (.v (.int .i64 (x.k : Int))))) :: (10,.p (.d (.v (.int .i64 (n : Int))))) :: frX c,lcX c sP vp vw S x.M⟩
def ccF (x : SpN c sP vp vw S c.po.peers.length) : ASt := ⟨(12,.p (.d (.v (.int .i64 (x.k : Int))))) :: frX c,lcX c sP vp vw S x.M⟩
def ccG (x : SpN c sP vp vw S c.po.ways.length) : ASt := ⟨(13,.p (.d (.v (.int .i64 (x.k : Int))))) :: frX c,lcX c sP vp vw S x.M⟩
end
set_option maxRecDepth 100000 in
theorem x143 (c d : Config) (hc : c.small) (hd : d.small) : ACalls Try.prog 3 [.agg (configD c),.agg (configD d)] (· = [.d (.v (.bool true))]) := by
 have hp := hc.po.1
 have hw := hc.po.2
 have htp := hc.tp
 have htp1 := htp.1
 have t1 := hc.tb
 have hat := hc.at
 have k0 := Copy8_c c hc
 have k1 := z140 c hc noM
 have k2 := x92 c c hc hc
 have k3 := j60 c c hc hc
 have k4 := j60 c d hc hd
 have k5 := x92 c d hc hd
 rw [z143] at k2 k3
 obtain ⟨q,hq⟩ : ∃ q,sameC c d = q := ⟨_,rfl⟩
 rw [hq] at k4 k5
 refine x9 Try.func3 rfl (by decide +kernel) (by rw [Try.ntmps3];simp) ?_;rw [Try.ntmps3];simp only [frOf]
 refine j134 rfl ?_
 (repeat ((fail_if_success (show AWP _ _ (.region 2 _ _) _ _));first | apply j0 | refine q8 rfl ?_ | refine z8 rfl ?_ | apply z7 | (refine x4 fun K hK => ?_) | (refine j4 fun K hK => ?_) | ((first | apply j6 | apply x7 | ((first | refine j5 (hK _ ?_) | refine x6 (hK _ _ x5 ?_));clear hK K));(first | show AWP _ _ _ _ _ | ((try simp only [j7]);first | show loopQ _ _ _ _ _ _ | show cutQ _ _ _ _ | show AWP _ _ _ _ _))) | ((first | refine q10 rfl rfl rfl ?_ | refine z10 rfl rfl rfl ?_);simp (disch:=omega) only [go_sem,seval,policyD,topoD,configD,frX,lcX,cfgX];(first | refine ⟨_,k0,?_⟩)) | ((first | refine x8 [] rfl ?_ | refine j8 [] rfl ?_);simp (disch:=omega) only [go_sem,seval,policyD,topoD,configD,frX,lcX,cfgX];(repeat (first | refine ⟨by omega,?_⟩ | refine ⟨True.intro,?_⟩)))))
 refine x4 fun K hK => ?_
 iterate 1 ((first | refine j20 [] rfl rfl ?_ | refine q21 [] rfl rfl ?_ | refine z19 rfl rfl ?_ | refine x19 rfl rfl ?_);simp (disch:=omega) only [go_sem,seval,policyD,topoD,configD,frX,lcX,cfgX];(repeat (first | refine ⟨by omega,?_⟩ | refine ⟨True.intro,?_⟩)))
 (refine z55 (x45 [(1999,1999)] rfl rfl rfl rfl rfl rfl (k1) (fun _ => rfl) (x25 (by repeat (first | exact trivial | refine ⟨rfl,?_⟩)) (by kernel_rfl)) (fun _ => (x25 (by repeat (first | exact trivial | refine ⟨rfl,?_⟩)) (by kernel_rfl)))) ?_);rintro ⟨⟨sP,⟨vp,vw⟩,S,M⟩,hO,hg⟩;simp (disch:=omega) only [go_sem,seval,policyD,topoD,configD,frX,lcX,cfgX]
 (repeat ((fail_if_success (show AWP _ _ (.region 3 _ _) _ _));first | apply j0 | refine q8 rfl ?_ | refine z8 rfl ?_ | apply z7 | (refine x4 fun K hK => ?_) | (refine j4 fun K hK => ?_) | ((first | apply j6 | apply x7 | ((first | refine j5 (hK _ ?_) | refine x6 (hK _ _ x5 ?_));clear hK K));(first | show AWP _ _ _ _ _ | ((try simp only [j7]);first | show loopQ _ _ _ _ _ _ | show cutQ _ _ _ _ | show AWP _ _ _ _ _))) | ((first | refine x8 [] rfl ?_ | refine j8 [] rfl ?_);simp (disch:=omega) only [go_sem,seval,policyD,topoD,configD,frX,lcX,cfgX];(repeat (first | refine ⟨by omega,?_⟩ | refine ⟨True.intro,?_⟩)))))
 have hO : OwnC M c sP vp vw S := hO
 have rd := cfgX_rd hO
 have b1 : RCalls Try.prog 8 [.p (.agg (cfgX c sP vp vw S)),.p (.agg (configD c))] [(1999,.raw M)] (.p (.d (.v (.bool true)))) := RCalls.borrow (M := M) (xs := [.agg (cfgX c sP vp vw S),.agg (configD c)]) k2 (.cons rd (.cons (.refl _) .nil)) trivial
 have b2 : RCalls Try.prog 9 [.p (.agg (configD c)),.p (.agg (cfgX c sP vp vw S))] [(1999,.raw M)] (.p (.d (.v (.bool true)))) := RCalls.borrow (M := M) (xs := [.agg (configD c),.agg (cfgX c sP vp vw S)]) k3 (.cons (.refl _) (.cons rd .nil)) trivial
 (refine q45 [2,3,5,6] [5,6,1999] ?_);simp only [AL.keep,AL.look,↓reduceIte,Nat.reduceEqDiff,reduceCtorEq]
 refine awp_to (fun _ : Unit => ⟨(36,.p (.d (.v (.bool false)))) :: frX c,lcX c sP vp vw S M⟩) ?_ (fun _ => ?_)
 ·cases q
  all_goals
   refine j4 fun K hK => ?_
   iterate 2 ((first | refine j20 [] rfl rfl ?_ | refine q21 [] rfl rfl ?_ | refine z19 rfl rfl ?_ | refine x19 rfl rfl ?_);simp (disch:=omega) only [go_sem,seval,policyD,topoD,configD,frX,lcX,cfgX];(repeat (first | refine ⟨by omega,?_⟩ | refine ⟨True.intro,?_⟩)))
   (refine z33 [(1999,1999)] [1999] rfl rfl rfl rfl rfl rfl (b1) (by repeat (first | exact trivial | refine ⟨rfl,rfl,rfl,?_⟩)) ?_);simp (disch:=omega) only [go_sem,seval,policyD,topoD,configD,frX,lcX,cfgX]
   iterate 4 ((first | refine j20 [] rfl rfl ?_ | refine q21 [] rfl rfl ?_ | refine z19 rfl rfl ?_ | refine x19 rfl rfl ?_);simp (disch:=omega) only [go_sem,seval,policyD,topoD,configD,frX,lcX,cfgX];(repeat (first | refine ⟨by omega,?_⟩ | refine ⟨True.intro,?_⟩)))
   (first | refine x11 [] _ _ ?_ | refine j11 [] _ _ _ ?_);simp (disch:=omega) only [go_sem,seval,policyD,topoD,configD,frX,lcX,cfgX];(repeat refine ⟨by omega,?_⟩)
   (first | refine q10 rfl rfl rfl ?_ | refine z10 rfl rfl rfl ?_);simp (disch:=omega) only [go_sem,seval,policyD,topoD,configD,frX,lcX,cfgX]
   refine ⟨_,k4,?_⟩
   (first | refine x11 [] _ _ ?_ | refine j11 [] _ _ _ ?_);simp (disch:=omega) only [go_sem,seval,policyD,topoD,configD,frX,lcX,cfgX];(repeat refine ⟨by omega,?_⟩)
   (first | refine q10 rfl rfl rfl ?_ | refine z10 rfl rfl rfl ?_);simp (disch:=omega) only [go_sem,seval,policyD,topoD,configD,frX,lcX,cfgX]
   refine ⟨_,k5,?_⟩
   iterate 5 ((first | refine j20 [] rfl rfl ?_ | refine q21 [] rfl rfl ?_ | refine z19 rfl rfl ?_ | refine x19 rfl rfl ?_);simp (disch:=omega) only [go_sem,seval,policyD,topoD,configD,frX,lcX,cfgX];(repeat (first | refine ⟨by omega,?_⟩ | refine ⟨True.intro,?_⟩)))
   (refine z33 [(1999,1999)] [1999] rfl rfl rfl rfl rfl rfl (b2) (by repeat (first | exact trivial | refine ⟨rfl,rfl,rfl,?_⟩)) ?_);simp (disch:=omega) only [go_sem,seval,policyD,topoD,configD,frX,lcX,cfgX]
   (repeat (first | apply j0 | refine q8 rfl ?_ | refine z8 rfl ?_ | apply z7 | (refine x4 fun K hK => ?_) | (refine j4 fun K hK => ?_) | ((first | apply j6 | apply x7 | ((first | refine j5 (hK _ ?_) | refine x6 (hK _ _ x5 ?_));clear hK K));(first | show AWP _ _ _ _ _ | ((try simp only [j7]);first | show loopQ _ _ _ _ _ _ | show cutQ _ _ _ _ | show AWP _ _ _ _ _))) | ((first | refine x8 [] rfl ?_ | refine j8 [] rfl ?_);simp (disch:=omega) only [go_sem,seval,policyD,topoD,configD,frX,lcX,cfgX];(repeat (first | refine ⟨by omega,?_⟩ | refine ⟨True.intro,?_⟩)))))
   (show cutQ _ _ .normal _);refine q39 (()) ?_
   unfold frX lcX
   refine Weak.list ?_ ?_;(all_goals simp (disch:=omega) only [AllF,AllL,j10,q11,x10,exists_eq_left',go_sem,seval,policyD,topoD,configD,frX,lcX,cfgX]);(all_goals (repeat' (with_reducible apply And.intro)));(all_goals try (first | exact q9 rfl | (refine z11 ?_;omega) | (refine q9 ?_;simp;done)))
 have hS := hO.shape
 clear b1 b2 k1 k3 k4 k5 k0 rd hO hg hq q
 unfold frX lcX
 (repeat (first | apply j0 | refine q8 rfl ?_ | refine z8 rfl ?_ | apply z7 | (refine x4 fun K hK => ?_) | (refine j4 fun K hK => ?_) | ((first | apply j6 | apply x7 | ((first | refine j5 (hK _ ?_) | refine x6 (hK _ _ x5 ?_));clear hK K));(first | show AWP _ _ _ _ _ | ((try simp only [j7]);first | show loopQ _ _ _ _ _ _ | show cutQ _ _ _ _ | show AWP _ _ _ _ _))) | ((first | refine x8 [] rfl ?_ | refine j8 [] rfl ?_);simp (disch:=omega) only [go_sem,seval,policyD,topoD,configD,frX,lcX,cfgX];(repeat (first | refine ⟨by omega,?_⟩ | refine ⟨True.intro,?_⟩)))))
 refine x12 (ccA c sP vp vw S) (fun x => c.tb.length - x.k) ⟨0,M,hS,by omega⟩ ?_ (fun x => ?_)
 ·unfold ccA frX lcX
  refine Weak.list ?_ ?_;(all_goals simp (disch:=omega) only [AllF,AllL,j10,q11,x10,exists_eq_left',go_sem,seval,policyD,topoD,configD,frX,lcX,cfgX]);(all_goals (repeat' (with_reducible apply And.intro)));(all_goals try (first | exact q9 rfl | (refine z11 ?_;omega) | (refine q9 ?_;simp;done)))
 obtain ⟨n,M,hM,hn⟩ := x
 unfold ccA frX lcX
 by_cases h : n < c.tb.length
 ·have r1 := q92 c.tb S n
  have hT := hat n
  have hv1 : ∀ M,ShapeC M c sP vp vw S → ∀ i,i < (c.tb.getD n []).length → HoldS M 44 12 [0] ((c.tb.getD n []).getD i []).length (S n i) := fun M hM i hi => hM.tb n i h hi
  generalize c.tb.getD n [] = T at r1 hT hv1
  have hb1 := hT.1
  (repeat (first | apply j0 | refine q8 rfl ?_ | refine z8 rfl ?_ | apply z7 | (refine x4 fun K hK => ?_) | (refine j4 fun K hK => ?_) | ((first | apply j6 | apply x7 | ((first | refine j5 (hK _ ?_) | refine x6 (hK _ _ x5 ?_));clear hK K));(first | show AWP _ _ _ _ _ | ((try simp only [j7]);first | show loopQ _ _ _ _ _ _ | show cutQ _ _ _ _ | show AWP _ _ _ _ _))) | ((first | refine x8 [] rfl ?_ | refine j8 [] rfl ?_);simp (disch:=omega) only [go_sem,seval,policyD,topoD,configD,frX,lcX,r1];(repeat (first | refine ⟨by omega,?_⟩ | refine ⟨True.intro,?_⟩)))))
  refine x12 (ccB c sP vp vw S n T.length) (fun x => T.length - x.k) ⟨0,M,hM,by omega⟩ ?_ (fun x => ?_)
  ·unfold ccB frX lcX
   refine Weak.list ?_ ?_;(all_goals simp (disch:=omega) only [AllF,AllL,j10,q11,x10,exists_eq_left',go_sem,seval,policyD,topoD,configD,frX,lcX,r1]);(all_goals (repeat' (with_reducible apply And.intro)));(all_goals try (first | exact q9 rfl | (refine z11 ?_;omega) | (refine q9 ?_;simp;done)))
  obtain ⟨i,M,hM,hi⟩ := x
  unfold ccB frX lcX
  by_cases h2 : i < T.length
  ·have hb2 := q23 hT i
   have hv2 : ∀ M,ShapeC M c sP vp vw S → HoldS M 44 12 [0] (T.getD i []).length (S n i) := fun M hM => hv1 M hM i h2
   generalize (T.getD i []).length = m at hb2 hv2
   have r2 := z89 (S n) i
   obtain ⟨a,cc,hsl⟩ := z49 (hv2 M hM)
   rw [hsl] at r2
   (repeat (first | apply j0 | refine q8 rfl ?_ | refine z8 rfl ?_ | apply z7 | (refine x4 fun K hK => ?_) | (refine j4 fun K hK => ?_) | ((first | apply j6 | apply x7 | ((first | refine j5 (hK _ ?_) | refine x6 (hK _ _ x5 ?_));clear hK K));(first | show AWP _ _ _ _ _ | ((try simp only [j7]);first | show loopQ _ _ _ _ _ _ | show cutQ _ _ _ _ | show AWP _ _ _ _ _))) | ((first | refine x8 [] rfl ?_ | refine j8 [] rfl ?_);simp (disch:=omega) only [go_sem,seval,policyD,topoD,configD,frX,lcX,r1,r2];(repeat (first | refine ⟨by omega,?_⟩ | refine ⟨True.intro,?_⟩)))))
   refine x12 (ccC c sP vp vw S n i m) (fun x => m - x.k) ⟨0,M,hM,by omega⟩ ?_ (fun x => ?_)
   ·unfold ccC frX lcX
    refine Weak.list ?_ ?_;(all_goals simp (disch:=omega) only [AllF,AllL,j10,q11,x10,exists_eq_left',go_sem,seval,policyD,topoD,configD,frX,lcX,r1,r2]);(all_goals (repeat' (with_reducible apply And.intro)));(all_goals try (first | exact q9 rfl | (refine z11 ?_;omega) | (refine q9 ?_;simp;done)))
   obtain ⟨k,M,hM,hk⟩ := x
   unfold ccC frX lcX
   by_cases h3 : k < m
   ·rcases hv2 M hM with ⟨e,_⟩ | ⟨b,c',cap,f',e,hnc,hMb,hf⟩
    ·omega
    ·rw [hsl] at e
     cases e
     obtain ⟨sh,p,hp⟩ : (f' k).length = 12 ∧ ∃ p,(f' k)[0]? = some (.v (.int .i64 p)) := ⟨(hf k h3).1,(hf k h3).2 0 (by simp)⟩
     have hst := hM.store hMb k 0 (bits .xor .i64 p 1) (show 0 < 12 by omega)
     (repeat (first | apply j0 | refine q8 rfl ?_ | refine z8 rfl ?_ | apply z7 | (refine x4 fun K hK => ?_) | (refine j4 fun K hK => ?_) | ((first | apply j6 | apply x7 | ((first | refine j5 (hK _ ?_) | refine x6 (hK _ _ x5 ?_));clear hK K));(first | show AWP _ _ _ _ _ | ((try simp only [j7]);first | show loopQ _ _ _ _ _ _ | show cutQ _ _ _ _ | show AWP _ _ _ _ _))) | ((first | refine x8 [] rfl ?_ | refine j8 [] rfl ?_);simp (disch:=omega) only [go_sem,seval,policyD,topoD,configD,frX,lcX,r1,r2,hMb,hp];(repeat (first | refine ⟨by omega,?_⟩ | refine ⟨True.intro,?_⟩)))))
     refine ⟨⟨k + 1,_,hst,by omega⟩,by simp only [];omega,?_⟩
     refine Weak.list ?_ ?_;(all_goals simp (disch:=omega) only [AllF,AllL,j10,q11,x10,exists_eq_left',go_sem,seval,policyD,topoD,configD,frX,lcX,r1,r2,hMb,hp]);(all_goals (repeat' (with_reducible apply And.intro)));(all_goals try (first | exact q9 rfl | (refine z11 ?_;omega) | (refine q9 ?_;simp;done)))
   ·(repeat (first | apply j0 | refine q8 rfl ?_ | refine z8 rfl ?_ | apply z7 | (refine x4 fun K hK => ?_) | (refine j4 fun K hK => ?_) | ((first | apply j6 | apply x7 | ((first | refine j5 (hK _ ?_) | refine x6 (hK _ _ x5 ?_));clear hK K));(first | show AWP _ _ _ _ _ | ((try simp only [j7]);first | show loopQ _ _ _ _ _ _ | show cutQ _ _ _ _ | show AWP _ _ _ _ _))) | ((first | refine x8 [] rfl ?_ | refine j8 [] rfl ?_);simp (disch:=omega) only [go_sem,seval,policyD,topoD,configD,frX,lcX,r1,r2];(repeat (first | refine ⟨by omega,?_⟩ | refine ⟨True.intro,?_⟩)))))
    refine ⟨⟨i + 1,M,hM,by omega⟩,by simp only [];omega,?_⟩
    refine Weak.list ?_ ?_;(all_goals simp (disch:=omega) only [AllF,AllL,j10,q11,x10,exists_eq_left',go_sem,seval,policyD,topoD,configD,frX,lcX,r1,r2]);(all_goals (repeat' (with_reducible apply And.intro)));(all_goals try (first | exact q9 rfl | (refine z11 ?_;omega) | (refine q9 ?_;simp;done)))
  ·(repeat (first | apply j0 | refine q8 rfl ?_ | refine z8 rfl ?_ | apply z7 | (refine x4 fun K hK => ?_) | (refine j4 fun K hK => ?_) | ((first | apply j6 | apply x7 | ((first | refine j5 (hK _ ?_) | refine x6 (hK _ _ x5 ?_));clear hK K));(first | show AWP _ _ _ _ _ | ((try simp only [j7]);first | show loopQ _ _ _ _ _ _ | show cutQ _ _ _ _ | show AWP _ _ _ _ _))) | ((first | refine x8 [] rfl ?_ | refine j8 [] rfl ?_);simp (disch:=omega) only [go_sem,seval,policyD,topoD,configD,frX,lcX,r1];(repeat (first | refine ⟨by omega,?_⟩ | refine ⟨True.intro,?_⟩)))))
   refine ⟨⟨n + 1,M,hM,by omega⟩,by simp only [];omega,?_⟩
   refine Weak.list ?_ ?_;(all_goals simp (disch:=omega) only [AllF,AllL,j10,q11,x10,exists_eq_left',go_sem,seval,policyD,topoD,configD,frX,lcX,r1]);(all_goals (repeat' (with_reducible apply And.intro)));(all_goals try (first | exact q9 rfl | (refine z11 ?_;omega) | (refine q9 ?_;simp;done)))
 (repeat (first | apply j0 | refine q8 rfl ?_ | refine z8 rfl ?_ | apply z7 | (refine x4 fun K hK => ?_) | (refine j4 fun K hK => ?_) | ((first | apply j6 | apply x7 | ((first | refine j5 (hK _ ?_) | refine x6 (hK _ _ x5 ?_));clear hK K));(first | show AWP _ _ _ _ _ | ((try simp only [j7]);first | show loopQ _ _ _ _ _ _ | show cutQ _ _ _ _ | show AWP _ _ _ _ _))) | ((first | refine x8 [] rfl ?_ | refine j8 [] rfl ?_);simp (disch:=omega) only [go_sem,seval,policyD,topoD,configD,frX,lcX];(repeat (first | refine ⟨by omega,?_⟩ | refine ⟨True.intro,?_⟩)))))
 refine x12 (ccD c sP vp vw S) (fun x => c.tp.length - x.k) ⟨0,M,hM,by omega⟩ ?_ (fun x => ?_)
 ·unfold ccD frX lcX
  refine Weak.list ?_ ?_;(all_goals simp (disch:=omega) only [AllF,AllL,j10,q11,x10,exists_eq_left',go_sem,seval,policyD,topoD,configD,frX,lcX]);(all_goals (repeat' (with_reducible apply And.intro)));(all_goals try (first | exact q9 rfl | (refine z11 ?_;omega) | (refine q9 ?_;simp;done)))
 obtain ⟨n,M,hM,hn⟩ := x
 unfold ccD frX lcX
 by_cases h : n < c.tp.length
 ·have hb2 := j16 htp n
  have hv2 : ∀ M,ShapeC M c sP vp vw S → HoldS M 47 5 [4] (c.tp.getD n []).length (sP n) := fun M hM => hM.tp n h
  generalize (c.tp.getD n []).length = m at hb2 hv2
  have r2 := z89 sP n
  obtain ⟨a,cc,hsl⟩ := z49 (hv2 M hM)
  rw [hsl] at r2
  (repeat (first | apply j0 | refine q8 rfl ?_ | refine z8 rfl ?_ | apply z7 | (refine x4 fun K hK => ?_) | (refine j4 fun K hK => ?_) | ((first | apply j6 | apply x7 | ((first | refine j5 (hK _ ?_) | refine x6 (hK _ _ x5 ?_));clear hK K));(first | show AWP _ _ _ _ _ | ((try simp only [j7]);first | show loopQ _ _ _ _ _ _ | show cutQ _ _ _ _ | show AWP _ _ _ _ _))) | ((first | refine x8 [] rfl ?_ | refine j8 [] rfl ?_);simp (disch:=omega) only [go_sem,seval,policyD,topoD,configD,frX,lcX,r2];(repeat (first | refine ⟨by omega,?_⟩ | refine ⟨True.intro,?_⟩)))))
  refine x12 (ccE c sP vp vw S n m) (fun x => m - x.k) ⟨0,M,hM,by omega⟩ ?_ (fun x => ?_)
  ·unfold ccE frX lcX
   refine Weak.list ?_ ?_;(all_goals simp (disch:=omega) only [AllF,AllL,j10,q11,x10,exists_eq_left',go_sem,seval,policyD,topoD,configD,frX,lcX,r2]);(all_goals (repeat' (with_reducible apply And.intro)));(all_goals try (first | exact q9 rfl | (refine z11 ?_;omega) | (refine q9 ?_;simp;done)))
  obtain ⟨k,M,hM,hk⟩ := x
  unfold ccE frX lcX
  by_cases h3 : k < m
  ·rcases hv2 M hM with ⟨e,_⟩ | ⟨b,c',cap,f',e,hnc,hMb,hf⟩
   ·omega
   ·rw [hsl] at e
    cases e
    obtain ⟨sh,p,hp⟩ : (f' k).length = 5 ∧ ∃ p,(f' k)[4]? = some (.v (.int .i64 p)) := ⟨(hf k h3).1,(hf k h3).2 4 (by simp)⟩
    have hst := hM.store hMb k 4 (bits .xor .i64 p 1) (show 4 < 5 by omega)
    (repeat (first | apply j0 | refine q8 rfl ?_ | refine z8 rfl ?_ | apply z7 | (refine x4 fun K hK => ?_) | (refine j4 fun K hK => ?_) | ((first | apply j6 | apply x7 | ((first | refine j5 (hK _ ?_) | refine x6 (hK _ _ x5 ?_));clear hK K));(first | show AWP _ _ _ _ _ | ((try simp only [j7]);first | show loopQ _ _ _ _ _ _ | show cutQ _ _ _ _ | show AWP _ _ _ _ _))) | ((first | refine x8 [] rfl ?_ | refine j8 [] rfl ?_);simp (disch:=omega) only [go_sem,seval,policyD,topoD,configD,frX,lcX,r2,hMb,hp];(repeat (first | refine ⟨by omega,?_⟩ | refine ⟨True.intro,?_⟩)))))
    refine ⟨⟨k + 1,_,hst,by omega⟩,by simp only [];omega,?_⟩
    refine Weak.list ?_ ?_;(all_goals simp (disch:=omega) only [AllF,AllL,j10,q11,x10,exists_eq_left',go_sem,seval,policyD,topoD,configD,frX,lcX,r2,hMb,hp]);(all_goals (repeat' (with_reducible apply And.intro)));(all_goals try (first | exact q9 rfl | (refine z11 ?_;omega) | (refine q9 ?_;simp;done)))
  ·(repeat (first | apply j0 | refine q8 rfl ?_ | refine z8 rfl ?_ | apply z7 | (refine x4 fun K hK => ?_) | (refine j4 fun K hK => ?_) | ((first | apply j6 | apply x7 | ((first | refine j5 (hK _ ?_) | refine x6 (hK _ _ x5 ?_));clear hK K));(first | show AWP _ _ _ _ _ | ((try simp only [j7]);first | show loopQ _ _ _ _ _ _ | show cutQ _ _ _ _ | show AWP _ _ _ _ _))) | ((first | refine x8 [] rfl ?_ | refine j8 [] rfl ?_);simp (disch:=omega) only [go_sem,seval,policyD,topoD,configD,frX,lcX,r2];(repeat (first | refine ⟨by omega,?_⟩ | refine ⟨True.intro,?_⟩)))))
   refine ⟨⟨n + 1,M,hM,by omega⟩,by simp only [];omega,?_⟩
   refine Weak.list ?_ ?_;(all_goals simp (disch:=omega) only [AllF,AllL,j10,q11,x10,exists_eq_left',go_sem,seval,policyD,topoD,configD,frX,lcX,r2]);(all_goals (repeat' (with_reducible apply And.intro)));(all_goals try (first | exact q9 rfl | (refine z11 ?_;omega) | (refine q9 ?_;simp;done)))
 obtain ⟨a,cc,rfl⟩ := z49 hM.pe
 (repeat (first | apply j0 | refine q8 rfl ?_ | refine z8 rfl ?_ | apply z7 | (refine x4 fun K hK => ?_) | (refine j4 fun K hK => ?_) | ((first | apply j6 | apply x7 | ((first | refine j5 (hK _ ?_) | refine x6 (hK _ _ x5 ?_));clear hK K));(first | show AWP _ _ _ _ _ | ((try simp only [j7]);first | show loopQ _ _ _ _ _ _ | show cutQ _ _ _ _ | show AWP _ _ _ _ _))) | ((first | refine x8 [] rfl ?_ | refine j8 [] rfl ?_);simp (disch:=omega) only [go_sem,seval,policyD,topoD,configD,frX,lcX];(repeat (first | refine ⟨by omega,?_⟩ | refine ⟨True.intro,?_⟩)))))
 refine x12 (ccF c sP (.slice a c.po.peers.length cc) vw S) (fun x => c.po.peers.length - x.k) ⟨0,M,hM,by omega⟩ ?_ (fun x => ?_)
 ·unfold ccF frX lcX
  refine Weak.list ?_ ?_;(all_goals simp (disch:=omega) only [AllF,AllL,j10,q11,x10,exists_eq_left',go_sem,seval,policyD,topoD,configD,frX,lcX]);(all_goals (repeat' (with_reducible apply And.intro)));(all_goals try (first | exact q9 rfl | (refine z11 ?_;omega) | (refine q9 ?_;simp;done)))
 obtain ⟨k,M,hM,hk⟩ := x
 unfold ccF frX lcX
 by_cases h3 : k < c.po.peers.length
 ·rcases hM.pe with ⟨e,_⟩ | ⟨b,c',cap,f',e,hnc,hMb,hf⟩
  ·omega
  ·cases e
   obtain ⟨sh,p,hp⟩ : (f' k).length = 2 ∧ ∃ p,(f' k)[0]? = some (.v (.int .i64 p)) := ⟨(hf k h3).1,(hf k h3).2 0 (by simp)⟩
   have hst := hM.store hMb k 0 (bits .xor .i64 p 1) (show 0 < 2 by omega)
   (repeat (first | apply j0 | refine q8 rfl ?_ | refine z8 rfl ?_ | apply z7 | (refine x4 fun K hK => ?_) | (refine j4 fun K hK => ?_) | ((first | apply j6 | apply x7 | ((first | refine j5 (hK _ ?_) | refine x6 (hK _ _ x5 ?_));clear hK K));(first | show AWP _ _ _ _ _ | ((try simp only [j7]);first | show loopQ _ _ _ _ _ _ | show cutQ _ _ _ _ | show AWP _ _ _ _ _))) | ((first | refine x8 [] rfl ?_ | refine j8 [] rfl ?_);simp (disch:=omega) only [go_sem,seval,policyD,topoD,configD,frX,lcX,hMb,hp];(repeat (first | refine ⟨by omega,?_⟩ | refine ⟨True.intro,?_⟩)))))
   refine ⟨⟨k + 1,_,hst,by omega⟩,by simp only [];omega,?_⟩
   refine Weak.list ?_ ?_;(all_goals simp (disch:=omega) only [AllF,AllL,j10,q11,x10,exists_eq_left',go_sem,seval,policyD,topoD,configD,frX,lcX,hMb,hp]);(all_goals (repeat' (with_reducible apply And.intro)));(all_goals try (first | exact q9 rfl | (refine z11 ?_;omega) | (refine q9 ?_;simp;done)))
 obtain ⟨a2,cc2,rfl⟩ := z49 hM.wa
 (repeat (first | apply j0 | refine q8 rfl ?_ | refine z8 rfl ?_ | apply z7 | (refine x4 fun K hK => ?_) | (refine j4 fun K hK => ?_) | ((first | apply j6 | apply x7 | ((first | refine j5 (hK _ ?_) | refine x6 (hK _ _ x5 ?_));clear hK K));(first | show AWP _ _ _ _ _ | ((try simp only [j7]);first | show loopQ _ _ _ _ _ _ | show cutQ _ _ _ _ | show AWP _ _ _ _ _))) | ((first | refine x8 [] rfl ?_ | refine j8 [] rfl ?_);simp (disch:=omega) only [go_sem,seval,policyD,topoD,configD,frX,lcX];(repeat (first | refine ⟨by omega,?_⟩ | refine ⟨True.intro,?_⟩)))))
 refine x12 (ccG c sP (.slice a c.po.peers.length cc) (.slice a2 c.po.ways.length cc2) S) (fun x => c.po.ways.length - x.k) ⟨0,M,hM,by omega⟩ ?_ (fun x => ?_)
 ·unfold ccG frX lcX
  refine Weak.list ?_ ?_;(all_goals simp (disch:=omega) only [AllF,AllL,j10,q11,x10,exists_eq_left',go_sem,seval,policyD,topoD,configD,frX,lcX]);(all_goals (repeat' (with_reducible apply And.intro)));(all_goals try (first | exact q9 rfl | (refine z11 ?_;omega) | (refine q9 ?_;simp;done)))
 obtain ⟨k,M,hM,hk⟩ := x
 unfold ccG frX lcX
 by_cases h3 : k < c.po.ways.length
 ·rcases hM.wa with ⟨e,_⟩ | ⟨b,c',cap,f',e,hnc,hMb,hf⟩
  ·omega
  ·cases e
   obtain ⟨sh,p,hp⟩ : (f' k).length = 3 ∧ ∃ p,(f' k)[2]? = some (.v (.int .i64 p)) := ⟨(hf k h3).1,(hf k h3).2 2 (by simp)⟩
   have hst := hM.store hMb k 2 (bits .xor .i64 p 1) (show 2 < 3 by omega)
   (repeat (first | apply j0 | refine q8 rfl ?_ | refine z8 rfl ?_ | apply z7 | (refine x4 fun K hK => ?_) | (refine j4 fun K hK => ?_) | ((first | apply j6 | apply x7 | ((first | refine j5 (hK _ ?_) | refine x6 (hK _ _ x5 ?_));clear hK K));(first | show AWP _ _ _ _ _ | ((try simp only [j7]);first | show loopQ _ _ _ _ _ _ | show cutQ _ _ _ _ | show AWP _ _ _ _ _))) | ((first | refine x8 [] rfl ?_ | refine j8 [] rfl ?_);simp (disch:=omega) only [go_sem,seval,policyD,topoD,configD,frX,lcX,hMb,hp];(repeat (first | refine ⟨by omega,?_⟩ | refine ⟨True.intro,?_⟩)))))
   refine ⟨⟨k + 1,_,hst,by omega⟩,by simp only [];omega,?_⟩
   refine Weak.list ?_ ?_;(all_goals simp (disch:=omega) only [AllF,AllL,j10,q11,x10,exists_eq_left',go_sem,seval,policyD,topoD,configD,frX,lcX,hMb,hp]);(all_goals (repeat' (with_reducible apply And.intro)));(all_goals try (first | exact q9 rfl | (refine z11 ?_;omega) | (refine q9 ?_;simp;done)))
 (repeat (first | apply j0 | refine q8 rfl ?_ | refine z8 rfl ?_ | apply z7 | (refine x4 fun K hK => ?_) | (refine j4 fun K hK => ?_) | ((first | apply j6 | apply x7 | ((first | refine j5 (hK _ ?_) | refine x6 (hK _ _ x5 ?_));clear hK K));(first | show AWP _ _ _ _ _ | ((try simp only [j7]);first | show loopQ _ _ _ _ _ _ | show cutQ _ _ _ _ | show AWP _ _ _ _ _))) | ((first | refine q10 rfl rfl rfl ?_ | refine z10 rfl rfl rfl ?_);simp (disch:=omega) only [go_sem,seval,policyD,topoD,configD,frX,lcX];(first | refine ⟨_,q143,?_⟩ | refine ⟨_,k2,?_⟩)) | ((first | refine x8 [] rfl ?_ | refine j8 [] rfl ?_);simp (disch:=omega) only [go_sem,seval,policyD,topoD,configD,frX,lcX];(repeat (first | refine ⟨by omega,?_⟩ | refine ⟨True.intro,?_⟩)))))
 refine z9 ⟨_,?_,rfl⟩;rw [Try.results3];simp (disch:=omega) only [ResVars,ResVar,ptrLoc,go_sem,seval,policyD,topoD,configD,frX,lcX]
end Go.Proofs.Ytjfammnjpeeahaa
