/- Part 3 of a proof: lemmas beneath the theorem that the last text bears. Conditions: none. -/
import Derived.Test.YtemcdefpihkfpaaGreatKSlimRunsb
set_option maxHeartbeats 64000000
set_option linter.unusedSimpArgs false
set_option linter.unusedVariables false
namespace Go.Proofs.YtemcdefpihkfpaaGreat
open Go.Proofs.YtemcdefpihkfpaaGreat.AL
theorem q23 {α : Type} {L : List α} {i : Nat} (h : i < L.length) (z : α) : L.getD i z ∈ L := by
 rw [List.getD_eq_getElem?_getD,List.getElem?_eq_getElem h];exact List.getElem_mem h
theorem x33 {α : Type} (L : List α) (i : Nat) (z : α) (h : i < L.length) : L.drop i = L.getD i z :: L.drop (i + 1) := by
 rw [List.getD_eq_getElem?_getD,List.getElem?_eq_getElem h,List.drop_eq_getElem_cons h];rfl
theorem x42 {P : Program} {f : FuncId} {sz : Nat} {g : Nat → List Dat} {xs : List PV} {Q : List PV → Prop} (h : ∀ a c,ACalls P f (.d (.v (.slice a 0 c)) :: xs) Q) : ACalls P f (.d (.sl sz 0 g) :: xs) Q := by
 refine q26.2 fun w gg vs hz hr => ?_
 obtain ⟨v,vs',rfl,h0,ht⟩ := RelPs.cons_inv hr
 have : ∃ a c,v = .slice a 0 c := by
  cases h0 with
  |d _ _ h0 =>
   cases h0 with
   | sl0 a c => exact ⟨a,c,rfl⟩
   | sl b off _ c => exact ⟨_,c,rfl⟩
 obtain ⟨a,c,rfl⟩ := this
 exact q26.1 (h a c) w gg _ hz (.cons (.d _ _ (.v _ rfl)) ht)
theorem z23 {a : Option Addr} {c sz : Nat} {f : Nat → List Dat} : Le (.p (.d (.v (.slice a 0 c)))) (.p (.d (.sl sz 0 f))) := by
 intro w h v r
 have := j16 r
 subst this
 exact .d _ _ (.sl0 _ _ _ _)
theorem q73 {α : Type} (l : List α) (i : Nat) (z : α) (h : i < l.length) : l.take (i + 1) = l.take i ++ [l.getD i z] := by
 rw [List.take_succ_eq_append_getElem h,List.getD_eq_getElem?_getD,List.getElem?_eq_getElem h];rfl
theorem j157 {P : Program} {nt : Nat} {c : Code} {Q : Exit → ASt → Prop} {A : ASt} (l : Nat) {e : TypeId} {sz n gen : Nat} {f : Nat → List Dat} (f' : Nat → List Dat) (ht : AL.look A.locs l = some (.own e sz n gen f)) (hf : ∀ i,i < n → f i = f' i)
  (h : AWP P nt c Q ⟨A.fr,(l,.own e sz n gen f') :: A.locs⟩) : AWP P nt c Q A := by
 refine q18 ?_ h
 intro w0 g0 nt h a w r
 have hl : LLe (.own e sz n gen f) (.own e sz n gen f') := z20 rfl rfl hf
 have hb : ∀ k L,AL.look ((l,LV.own e sz n gen f') :: A.locs) k = some L → ∃ L0,AL.look A.locs k = some L0 ∧ LocOK w0.O w h k L ∧ inB h k L = inB h k L0 := by
  intro k L hL
  simp only [AL.look] at hL
  split at hL
  ·rename_i e;subst e;cases hL;exact ⟨_,ht,(x32 hl (r.locs _ _ ht)).1,(x32 hl (r.locs _ _ ht)).2⟩
  ·exact ⟨L,hL,r.locs k L hL,rfl⟩
 refine ⟨h,r.size,r.defers,r.fr,fun k L hL => ?_,fun k k' L L' b hne hL hL' hbk => ?_,r.ext,r.pin⟩
 ·obtain ⟨_,_,h1,_⟩ := hb k L hL;exact h1
 ·obtain ⟨L0,e1,_,e2⟩ := hb k L hL
  obtain ⟨L0',e3,_,e4⟩ := hb k' L' hL'
  rw [e4]
  exact r.sep k k' L0 L0' b hne e1 e3 (by rw [← e2];exact hbk)
theorem q158 {P : Program} {fn : Func} {Q : List AV → List (Nat × LV) → Prop} {A : ASt} {l t : Nat} {X : LV} {x : AV} (hr : fn.results.toList = [.tmp t]) (hx : AL.look A.fr t = some x) (hl : AL.look A.locs l = some X) (hq : Q [x] [(l,X)]) : retM P fn Q .ret A := by
 refine ⟨[x],[(l,X)],by rw [hr];exact ⟨hx,trivial⟩,fun k Y h => ?_,hq⟩
 simp only [AL.look] at h
 split at h
 ·rename_i e;subst e;cases h;exact hl
 ·cases h
def PLe (x y : PV) : Prop := ∀ (w : World) (g : Nat → Nat) (v : Value),RelP w g v x → RelP w g v y
theorem j42 (x : PV) : PLe x x := fun _ _ _ h => h
theorem z37 {sz n n' : Nat} {f f' : Nat → List Dat} (hn : n = n') (hf : ∀ i,i < n → f i = f' i) : PLe (.d (.sl sz n f)) (.d (.sl sz n' f')) := by
 subst hn
 intro w g v h
 cases h with
 | d _ _ h => exact .d _ _ (h.sl_congr hf)
inductive PLes : List PV → List PV → Prop
 | nil : PLes [] []
 | cons {x y : PV} {xs ys : List PV} (h : PLe x y) (t : PLes xs ys) : PLes (x :: xs) (y :: ys)
theorem PLes.rel {xs ys : List PV} (h : PLes xs ys) {w : World} {g : Nat → Nat} {vs : List Value} (r : RelPs w g vs xs) : RelPs w g vs ys := by
 induction h generalizing vs with
 | nil => exact r
 |cons h t ih =>
  obtain ⟨v,vs',rfl,h1,h2⟩ := r.cons_inv
  exact RelPs.cons (h _ _ _ h1) (ih h2)
theorem x37 {P : Program} {f : FuncId} {xs ys : List PV} {Q : List PV → Prop} (h : PLes xs ys) (c : ACalls P f ys Q) : ACalls P f xs Q :=
 q26.2 fun w g vs hz hr => q26.1 c w g vs hz (h.rel hr)
theorem hi0 : hi 0#128 = 0 := by decide
theorem hi1 : hi 1#128 = 0 := by decide
theorem relP_v {w : World} {g : Nat → Nat} {v x : Value} (h : RelP w g v (.d (.v x))) : v = x := by
 cases h with
 | d _ _ h => cases h;rfl
theorem z73 {w : World} {g : Nat → Nat} : ∀ (xs vs : List Value),RelPs w g vs (xs.map fun x => .d (.v x)) → vs = xs
 | [],vs,h => by have := h.1;simp at this;exact this
 |x :: xs,vs,h => by
  cases vs with
  | nil => have := h.1;simp at this
  |cons v vs =>
   have h0 := relP_v (h.2 0 v _ rfl rfl)
   have ht := z73 xs vs ⟨by simpa using h.1,fun j v' x' h1 h2 => h.2 (j + 1) v' x' (by simpa using h1) (by simpa using h2)⟩
   rw [h0,ht]
theorem z158 {P : Program} {f : FuncId} {xs : List Value} {v : Value} {rs : List PV} (hr : ∀ w,(callFunc f xs.toArray).run P w = .ok (.value v) w) (hv : ∀ w g,RelR w g v rs) :
  ACalls P f (xs.map fun x => .d (.v x)) (· = rs) := by
 refine q26.2 fun w g vs hz h => ?_
 rw [z73 xs vs h,hr w]
 exact ⟨g,rs,Ext.refl hz,rfl,hv w g⟩
theorem x158 {P : Program} {f : FuncId} {fn : Func} {c : Code} (args : Array Value) (w : World) (hf : P.funcs[f]? = some fn) (hb : fn.body = some c) (hname : (fn.name == "runtime.NumGoroutine") = false) :
  (callFunc f args).run P w = .ok (.enter f args) w := by
 simp only [callFunc,program,Sem.run,Bind.bind,Sem.bind,hf,hname,hb];rfl
theorem z14 {a b : Int} (h : a ≠ b) : (a == b) = false := by simpa using h
theorem j14 {a b : Int} (h : a = b) : (a == b) = true := by simpa using h
theorem x14 {a b : Int} (h : a = b) : (a != b) = false := by simpa using h
theorem q14 {a b : Int} (h : a ≠ b) : (a != b) = true := by simpa using h
def rowO {α : Type} (enc : α → List Dat) (d : α) (l : List α) : Nat → List Dat := fun i => enc (l.getD i d)
theorem x73 {α : Type} (enc : α → List Dat) (d : α) (l : List α) (c : α) (x : List Dat) (hx : enc c = x) (i : Nat) (hlt : i < l.length + 1) : AL.catF l.length (rowO enc d l) (fun i => [x].getD i []) i = rowO enc d (l ++ [c]) i := by
 unfold AL.catF rowO
 simp only [List.getD_eq_getElem?_getD]
 split
 ·rw [List.getElem?_append_left (by assumption)]
 ·have : i = l.length := by omega
  subst this
  simp [hx]
theorem j158 (a b c : Bool) : a = false ∨ (a = true ∧ b = false) ∨ (a = true ∧ b = true ∧ c = false) ∨ (a = true ∧ b = true ∧ c = true) := by cases a <;> cases b <;> cases c <;> simp
theorem q159 (a b c d : Bool) : a = false ∨ (a = true ∧ b = false) ∨ (a = true ∧ b = true ∧ c = false) ∨ (a = true ∧ b = true ∧ c = true ∧ d = false) ∨ (a = true ∧ b = true ∧ c = true ∧ d = true) := by cases a <;> cases b <;> cases c <;> cases d <;> simp
theorem z159 (a b c d e : Bool) : a = false ∨ (a = true ∧ b = false) ∨ (a = true ∧ b = true ∧ c = false) ∨ (a = true ∧ b = true ∧ c = true ∧ d = false) ∨ (a = true ∧ b = true ∧ c = true ∧ d = true ∧ e = false) ∨ (a = true ∧ b = true ∧ c = true ∧ d = true ∧ e = true) := by
 cases a <;> cases b <;> cases c <;> cases d <;> cases e <;> simp
theorem less_c (x y : BitVec 128) : ACalls Tryz.prog 125 [.agg (hd x),.agg (hd y)] (· = [.agg (hd (x &&& ~~~y))]) := by
 refine q12 Tryz.func125 rfl (by decide +kernel) (by rw [Tryz.ntmps125];simp) ?_;rw [Tryz.ntmps125];simp only [frOf]
 (repeat refine j0 ?_);refine x5 fun K hK => ?_;refine j11 [] _ _ ?_;simp (disch:=omega) only [go_sem,seval,hd];(repeat refine ⟨by omega,?_⟩);(refine j4 (hK _ ?_);clear hK K;show AWP _ _ _ _ _)
 (repeat refine j0 ?_);refine x5 fun K hK => ?_;refine j11 [] _ _ ?_;simp (disch:=omega) only [go_sem,seval,hd];(repeat refine ⟨by omega,?_⟩);(refine j4 (hK _ ?_);clear hK K;show AWP _ _ _ _ _)
 refine j9 ⟨_,?_,rfl⟩;rw [Tryz.results125];simp (disch:=omega) only [ResVars,ResVar,ptrLoc,go_sem,seval,hd]
 simp only [hi_less,lo_less,and_true]
theorem and_c (x y : BitVec 128) : ACalls Tryz.prog 158 [.agg (hd x),.agg (hd y)] (· = [.agg (hd (x &&& y))]) := by
 refine q12 Tryz.func158 rfl (by decide +kernel) (by rw [Tryz.ntmps158];simp) ?_;rw [Tryz.ntmps158];simp only [frOf]
 (repeat refine j0 ?_);refine x5 fun K hK => ?_;refine j11 [] _ _ ?_;simp (disch:=omega) only [go_sem,seval,hd];(repeat refine ⟨by omega,?_⟩);(refine j4 (hK _ ?_);clear hK K;show AWP _ _ _ _ _)
 (repeat refine j0 ?_);refine x5 fun K hK => ?_;refine j11 [] _ _ ?_;simp (disch:=omega) only [go_sem,seval,hd];(repeat refine ⟨by omega,?_⟩);(refine j4 (hK _ ?_);clear hK K;show AWP _ _ _ _ _)
 refine j9 ⟨_,?_,rfl⟩;rw [Tryz.results158];simp (disch:=omega) only [ResVars,ResVar,ptrLoc,go_sem,seval,hd]
 simp only [hi_and,lo_and,and_true]
theorem or_c (x y : BitVec 128) : ACalls Tryz.prog 175 [.agg (hd x),.agg (hd y)] (· = [.agg (hd (x ||| y))]) := by
 refine q12 Tryz.func175 rfl (by decide +kernel) (by rw [Tryz.ntmps175];simp) ?_;rw [Tryz.ntmps175];simp only [frOf]
 (repeat refine j0 ?_);refine x5 fun K hK => ?_;refine j11 [] _ _ ?_;simp (disch:=omega) only [go_sem,seval,hd];(repeat refine ⟨by omega,?_⟩);(refine j4 (hK _ ?_);clear hK K;show AWP _ _ _ _ _)
 (repeat refine j0 ?_);refine x5 fun K hK => ?_;refine j11 [] _ _ ?_;simp (disch:=omega) only [go_sem,seval,hd];(repeat refine ⟨by omega,?_⟩);(refine j4 (hK _ ?_);clear hK K;show AWP _ _ _ _ _)
 refine j9 ⟨_,?_,rfl⟩;rw [Tryz.results175];simp (disch:=omega) only [ResVars,ResVar,ptrLoc,go_sem,seval,hd]
 simp only [hi_or,lo_or,and_true]
theorem xor_c (x y : BitVec 128) : ACalls Tryz.prog 180 [.agg (hd x),.agg (hd y)] (· = [.agg (hd (x ^^^ y))]) := by
 refine q12 Tryz.func180 rfl (by decide +kernel) (by rw [Tryz.ntmps180];simp) ?_;rw [Tryz.ntmps180];simp only [frOf]
 (repeat refine j0 ?_);refine x5 fun K hK => ?_;refine j11 [] _ _ ?_;simp (disch:=omega) only [go_sem,seval,hd];(repeat refine ⟨by omega,?_⟩);(refine j4 (hK _ ?_);clear hK K;show AWP _ _ _ _ _)
 (repeat refine j0 ?_);refine x5 fun K hK => ?_;refine j11 [] _ _ ?_;simp (disch:=omega) only [go_sem,seval,hd];(repeat refine ⟨by omega,?_⟩);(refine j4 (hK _ ?_);clear hK K;show AWP _ _ _ _ _)
 refine j9 ⟨_,?_,rfl⟩;rw [Tryz.results180];simp (disch:=omega) only [ResVars,ResVar,ptrLoc,go_sem,seval,hd]
 simp only [hi_xor,lo_xor,and_true]
theorem z58 (g : FuncId) (x y z : BitVec 128) (hg : ACalls Tryz.prog g [.agg (hd x),.agg (hd y)] (· = [.agg (hd z)])) : ACalls Tryz.prog 124 [.fn (.func g) [] [],.agg (hd x),.agg (hd y)] (· = [.agg (hd z)]) := by
 refine q12 Tryz.func124 rfl (by decide +kernel) (by rw [Tryz.ntmps124];simp) ?_;rw [Tryz.ntmps124];simp only [frOf]
 (repeat refine j0 ?_);refine x5 fun K hK => ?_;refine j11 [] _ _ ?_;simp (disch:=omega) only [go_sem,seval,hd];(repeat refine ⟨by omega,?_⟩);(refine j4 (hK _ ?_);clear hK K;show AWP _ _ _ _ _)
 (repeat refine j0 ?_);refine x5 fun K hK => ?_
 refine j11 [] _ _ ?_;simp (disch:=omega) only [go_sem,seval,hd];(repeat refine ⟨by omega,?_⟩)
 refine x10 rfl rfl rfl ?_;simp (disch:=omega) only [go_sem,seval,hd]
 refine ⟨_,hg,?_⟩
 refine j11 [] _ _ ?_;simp (disch:=omega) only [go_sem,seval,hd];(repeat refine ⟨by omega,?_⟩)
 (refine j4 (hK _ ?_);clear hK K;show AWP _ _ _ _ _)
 refine j9 ⟨_,?_,rfl⟩;rw [Tryz.results124];simp (disch:=omega) only [ResVars,ResVar,ptrLoc,go_sem,seval,hd]
theorem x58 (x y : BitVec 128) : ACalls Tryz.prog 86 [.agg (hd x),.agg (hd y)] (· = [.agg (hd (x &&& ~~~y))]) := by
 refine q12 Tryz.func86 rfl (by decide +kernel) (by rw [Tryz.ntmps86];simp) ?_;rw [Tryz.ntmps86];simp only [frOf]
 (repeat refine j0 ?_);refine x5 fun K hK => ?_;refine j11 [] _ _ ?_;simp (disch:=omega) only [go_sem,seval,hd];(repeat refine ⟨by omega,?_⟩);(refine j4 (hK _ ?_);clear hK K;show AWP _ _ _ _ _)
 (repeat refine j0 ?_);refine x5 fun K hK => ?_
 refine j11 [] _ _ ?_;simp (disch:=omega) only [go_sem,seval,hd];(repeat refine ⟨by omega,?_⟩)
 refine x10 rfl rfl rfl ?_;simp (disch:=omega) only [go_sem,seval,hd]
 refine ⟨_,z58 _ _ _ _ (less_c x y),?_⟩
 refine j11 [] _ _ ?_;simp (disch:=omega) only [go_sem,seval,hd];(repeat refine ⟨by omega,?_⟩)
 (refine j4 (hK _ ?_);clear hK K;show AWP _ _ _ _ _)
 refine j9 ⟨_,?_,rfl⟩;rw [Tryz.results86];simp (disch:=omega) only [ResVars,ResVar,ptrLoc,go_sem,seval,hd]
theorem And_c (x y : BitVec 128) : ACalls Tryz.prog 129 [.agg (hd x),.agg (hd y)] (· = [.agg (hd (x &&& y))]) := by
 refine q12 Tryz.func129 rfl (by decide +kernel) (by rw [Tryz.ntmps129];simp) ?_;rw [Tryz.ntmps129];simp only [frOf]
 (repeat refine j0 ?_);refine x5 fun K hK => ?_;refine j11 [] _ _ ?_;simp (disch:=omega) only [go_sem,seval,hd];(repeat refine ⟨by omega,?_⟩);(refine j4 (hK _ ?_);clear hK K;show AWP _ _ _ _ _)
 (repeat refine j0 ?_);refine x5 fun K hK => ?_
 refine j11 [] _ _ ?_;simp (disch:=omega) only [go_sem,seval,hd];(repeat refine ⟨by omega,?_⟩)
 refine x10 rfl rfl rfl ?_;simp (disch:=omega) only [go_sem,seval,hd]
 refine ⟨_,z58 _ _ _ _ (and_c x y),?_⟩
 refine j11 [] _ _ ?_;simp (disch:=omega) only [go_sem,seval,hd];(repeat refine ⟨by omega,?_⟩)
 (refine j4 (hK _ ?_);clear hK K;show AWP _ _ _ _ _)
 refine j9 ⟨_,?_,rfl⟩;rw [Tryz.results129];simp (disch:=omega) only [ResVars,ResVar,ptrLoc,go_sem,seval,hd]
theorem Or_c (x y : BitVec 128) : ACalls Tryz.prog 144 [.agg (hd x),.agg (hd y)] (· = [.agg (hd (x ||| y))]) := by
 refine q12 Tryz.func144 rfl (by decide +kernel) (by rw [Tryz.ntmps144];simp) ?_;rw [Tryz.ntmps144];simp only [frOf]
 (repeat refine j0 ?_);refine x5 fun K hK => ?_;refine j11 [] _ _ ?_;simp (disch:=omega) only [go_sem,seval,hd];(repeat refine ⟨by omega,?_⟩);(refine j4 (hK _ ?_);clear hK K;show AWP _ _ _ _ _)
 (repeat refine j0 ?_);refine x5 fun K hK => ?_
 refine j11 [] _ _ ?_;simp (disch:=omega) only [go_sem,seval,hd];(repeat refine ⟨by omega,?_⟩)
 refine x10 rfl rfl rfl ?_;simp (disch:=omega) only [go_sem,seval,hd]
 refine ⟨_,z58 _ _ _ _ (or_c x y),?_⟩
 refine j11 [] _ _ ?_;simp (disch:=omega) only [go_sem,seval,hd];(repeat refine ⟨by omega,?_⟩)
 (refine j4 (hK _ ?_);clear hK K;show AWP _ _ _ _ _)
 refine j9 ⟨_,?_,rfl⟩;rw [Tryz.results144];simp (disch:=omega) only [ResVars,ResVar,ptrLoc,go_sem,seval,hd]
theorem Xor_c (x y : BitVec 128) : ACalls Tryz.prog 147 [.agg (hd x),.agg (hd y)] (· = [.agg (hd (x ^^^ y))]) := by
 refine q12 Tryz.func147 rfl (by decide +kernel) (by rw [Tryz.ntmps147];simp) ?_;rw [Tryz.ntmps147];simp only [frOf]
 (repeat refine j0 ?_);refine x5 fun K hK => ?_;refine j11 [] _ _ ?_;simp (disch:=omega) only [go_sem,seval,hd];(repeat refine ⟨by omega,?_⟩);(refine j4 (hK _ ?_);clear hK K;show AWP _ _ _ _ _)
 (repeat refine j0 ?_);refine x5 fun K hK => ?_
 refine j11 [] _ _ ?_;simp (disch:=omega) only [go_sem,seval,hd];(repeat refine ⟨by omega,?_⟩)
 refine x10 rfl rfl rfl ?_;simp (disch:=omega) only [go_sem,seval,hd]
 refine ⟨_,z58 _ _ _ _ (xor_c x y),?_⟩
 refine j11 [] _ _ ?_;simp (disch:=omega) only [go_sem,seval,hd];(repeat refine ⟨by omega,?_⟩)
 (refine j4 (hK _ ?_);clear hK K;show AWP _ _ _ _ _)
 refine j9 ⟨_,?_,rfl⟩;rw [Tryz.results147];simp (disch:=omega) only [ResVars,ResVar,ptrLoc,go_sem,seval,hd]
theorem right_c (x : BitVec 128) (n : Nat) (hn : n ≤ 128) : ACalls Tryz.prog 176 [.agg (hd x),.d (.v (.int .i64 (n : Int)))] (· = [.agg (hd (x >>> n))]) := by
 refine q12 Tryz.func176 rfl (by decide +kernel) (by rw [Tryz.ntmps176];simp) ?_;rw [Tryz.ntmps176];simp only [frOf]
 (repeat refine j0 ?_);refine x5 fun K hK => ?_;refine j11 [] _ _ ?_;simp (disch:=omega) only [go_sem,seval,hd];(repeat refine ⟨by omega,?_⟩);(refine j4 (hK _ ?_);clear hK K;show AWP _ _ _ _ _)
 (repeat refine j0 ?_);refine x5 fun K hK => ?_;refine j11 [] _ _ ?_;simp (disch:=omega) only [go_sem,seval,hd];(repeat refine ⟨by omega,?_⟩);(refine j4 (hK _ ?_);clear hK K;show AWP _ _ _ _ _)
 (repeat refine j0 ?_);refine j15 rfl (fun ht => ?_) (fun ht => ?_)
 ·simp only [decide_eq_true_eq] at ht
  (repeat refine j0 ?_);refine x5 fun K hK => ?_;refine j11 [] _ _ ?_;simp (disch:=omega) only [go_sem,seval,hd];(repeat refine ⟨by omega,?_⟩);(refine j4 (hK _ ?_);clear hK K;show AWP _ _ _ _ _)
  refine j9 ⟨_,?_,rfl⟩;rw [Tryz.results176];simp (disch:=omega) only [ResVars,ResVar,ptrLoc,go_sem,seval,hd]
  rw [j150 x n (by omega),← x150 x n (by omega)]
 ·refine j5 ?_;show AWP _ _ _ _ _
  simp only [decide_eq_false_iff_not] at ht
  (repeat refine j0 ?_);refine x5 fun K hK => ?_;refine j11 [] _ _ ?_;simp (disch:=omega) only [go_sem,seval,hd];(repeat refine ⟨by omega,?_⟩);(refine j4 (hK _ ?_);clear hK K;show AWP _ _ _ _ _)
  refine j9 ⟨_,?_,rfl⟩;rw [Tryz.results176];simp (disch:=omega) only [ResVars,ResVar,ptrLoc,go_sem,seval,hd]
  rw [z150 x n (by omega),q150 x n (by omega)]
theorem x100 (x : BitVec 128) (n : Nat) (hn : n ≤ 128) : ACalls Tryz.prog 179 [.agg (hd x),.d (.v (.int .i64 (n : Int)))] (· = [.agg (hd (x <<< n))]) := by
 refine q12 Tryz.func179 rfl (by decide +kernel) (by rw [Tryz.ntmps179];simp) ?_;rw [Tryz.ntmps179];simp only [frOf]
 (repeat refine j0 ?_);refine x5 fun K hK => ?_;refine j11 [] _ _ ?_;simp (disch:=omega) only [go_sem,seval,hd];(repeat refine ⟨by omega,?_⟩);(refine j4 (hK _ ?_);clear hK K;show AWP _ _ _ _ _)
 (repeat refine j0 ?_);refine x5 fun K hK => ?_;refine j11 [] _ _ ?_;simp (disch:=omega) only [go_sem,seval,hd];(repeat refine ⟨by omega,?_⟩);(refine j4 (hK _ ?_);clear hK K;show AWP _ _ _ _ _)
 (repeat refine j0 ?_);refine j15 rfl (fun ht => ?_) (fun ht => ?_)
 ·simp only [decide_eq_true_eq] at ht
  (repeat refine j0 ?_);refine x5 fun K hK => ?_;refine j11 [] _ _ ?_;simp (disch:=omega) only [go_sem,seval,hd];(repeat refine ⟨by omega,?_⟩);(refine j4 (hK _ ?_);clear hK K;show AWP _ _ _ _ _)
  refine j9 ⟨_,?_,rfl⟩;rw [Tryz.results179];simp (disch:=omega) only [ResVars,ResVar,ptrLoc,go_sem,seval,hd]
  rw [j151 x n (by omega),← x151 x n (by omega)]
 ·refine j5 ?_;show AWP _ _ _ _ _
  simp only [decide_eq_false_iff_not] at ht
  (repeat refine j0 ?_);refine x5 fun K hK => ?_;refine j11 [] _ _ ?_;simp (disch:=omega) only [go_sem,seval,hd];(repeat refine ⟨by omega,?_⟩);(refine j4 (hK _ ?_);clear hK K;show AWP _ _ _ _ _)
  refine j9 ⟨_,?_,rfl⟩;rw [Tryz.results179];simp (disch:=omega) only [ResVars,ResVar,ptrLoc,go_sem,seval,hd]
  rw [q151 x n (by omega),z151 x n (by omega)]
theorem j100 (a b m : Int) (hb : -9223372036854775808 ≤ b ∧ b < 9223372036854775808) (hm : m ≤ 128) : ACalls Tryz.prog 177 [.d (.v (.int .i64 a)),.d (.v (.int .i64 b)),.d (.v (.int .i64 m))] (· = [.d (.v (.bool (fieldB a b m)))]) := by
 have hh : ¬ 0 ≤ a ∨ (0 ≤ a ∧ ¬ 0 ≤ b) ∨ (0 ≤ a ∧ 0 ≤ b ∧ ¬ b ≤ m) ∨ (0 ≤ a ∧ 0 ≤ b ∧ b ≤ m ∧ ¬ a + b ≤ 128) ∨ (0 ≤ a ∧ 0 ≤ b ∧ b ≤ m ∧ a + b ≤ 128) := by omega
 rcases hh with h | h | h | h | h
 all_goals
  refine q12 Tryz.func177 rfl (by decide +kernel) (by rw [Tryz.ntmps177];simp) ?_;rw [Tryz.ntmps177];simp only [frOf]
  (repeat refine j0 ?_);refine x5 fun K hK => ?_;refine j11 [] _ _ ?_;simp (disch:=omega) only [go_sem,seval,hd];(repeat refine ⟨by omega,?_⟩);(refine j4 (hK _ ?_);clear hK K;show AWP _ _ _ _ _)
  (repeat refine j0 ?_);refine x5 fun K hK => ?_;refine j11 [] _ _ ?_;simp (disch:=omega) only [go_sem,seval,hd];(repeat refine ⟨by omega,?_⟩);(refine j4 (hK _ ?_);clear hK K;show AWP _ _ _ _ _)
  refine j9 ⟨_,?_,rfl⟩;rw [Tryz.results177];simp (disch:=omega) only [ResVars,ResVar,ptrLoc,go_sem,seval,hd]
  simp only [fieldB,h,and_true,and_false,true_and,false_and,decide_true,decide_false]
def subE : Array Value → Sem Value := fun args => do
 let (x, y, b) ← Extern.MathBitsCarry.three "Sub64" args
 pure (Extern.MathBitsCarry.pair ((x + Extern.MathBitsCarry.m64 - y - b) % Extern.MathBitsCarry.m64) (if x < y + b then 1 else 0))
theorem sub_c (x : Nat) : ACalls Tryz.prog 197 [.d (.v (.int .u64 (x : Int))),.d (.v (.int .u64 1)),.d (.v (.int .u64 0))]
  (· = [.d (.v (.int .u64 (((x + 18446744073709551616 - 1) % 18446744073709551616 : Nat) : Int))),.d (.v (.int .u64 ((if x < 1 then 1 else 0 : Nat) : Int)))]) := by
 refine z158 (xs := [.int .u64 (x : Int),.int .u64 1,.int .u64 0]) (v := .tuple #[.int .u64 (((x + 18446744073709551616 - 1) % 18446744073709551616 : Nat) : Int),.int .u64 ((if x < 1 then 1 else 0 : Nat) : Int)]) (fun w => ?_) (fun w g => ?_)
 ·rw [run_callFunc_extern (fn := Tryz.f197) (by kernel_rfl) (by kernel_rfl) (by kernel_rfl) (by kernel_rfl) (e := subE) (by kernel_rfl)]
  rfl
 ·exact ⟨[_,_],rfl,.cons (.d _ _ (.v _ rfl)) (.cons (.d _ _ (.v _ rfl)) (.nil w g))⟩
theorem low_c (n : Nat) (hn : n ≤ 128) : ACalls Tryz.prog 178 [.d (.v (.int .i64 (n : Int)))] (· = [.agg (hd (ones n))]) := by
 refine q12 Tryz.func178 rfl (by decide +kernel) (by rw [Tryz.ntmps178];simp) ?_;rw [Tryz.ntmps178];simp only [frOf]
 (repeat refine j0 ?_);refine x5 fun K hK => ?_;refine j11 [] _ _ ?_;simp (disch:=omega) only [go_sem,↓reduceIte,reduceCtorEq,Nat.reduceLT,Nat.reducePow,Nat.reduceLeDiff,Nat.reduceAdd,Nat.reduceMul,Nat.reduceSub,Nat.reduceEqDiff,Nat.reduceBEq,Int.reduceToNat,Int.reduceBEq,Int.reduceBNe,hd];(repeat refine ⟨by omega,?_⟩);(refine j4 (hK _ ?_);clear hK K;show AWP _ _ _ _ _)
 (repeat refine j0 ?_);refine x5 fun K hK => ?_;refine j11 [] _ _ ?_;simp (disch:=omega) only [go_sem,↓reduceIte,reduceCtorEq,Nat.reduceLT,Nat.reducePow,Nat.reduceLeDiff,Nat.reduceAdd,Nat.reduceMul,Nat.reduceSub,Nat.reduceEqDiff,Nat.reduceBEq,Int.reduceToNat,Int.reduceBEq,Int.reduceBNe,hd];(repeat refine ⟨by omega,?_⟩);(refine j4 (hK _ ?_);clear hK K;show AWP _ _ _ _ _)
 (repeat refine j0 ?_);refine j15 rfl (fun ht => ?_) (fun ht => ?_)
 ·simp only [decide_eq_true_eq] at ht
  (repeat refine j0 ?_);refine x5 fun K hK => ?_;refine j11 [] _ _ ?_;simp (disch:=omega) only [go_sem,↓reduceIte,reduceCtorEq,Nat.reduceLT,Nat.reducePow,Nat.reduceLeDiff,Nat.reduceAdd,Nat.reduceMul,Nat.reduceSub,Nat.reduceEqDiff,Nat.reduceBEq,Int.reduceToNat,Int.reduceBEq,Int.reduceBNe,hd];(repeat refine ⟨by omega,?_⟩);(refine j4 (hK _ ?_);clear hK K;show AWP _ _ _ _ _)
  refine j9 ⟨_,?_,rfl⟩;rw [Tryz.results178];simp (disch:=omega) only [ResVars,ResVar,ptrLoc,go_sem,↓reduceIte,reduceCtorEq,Nat.reduceLT,Nat.reducePow,Nat.reduceLeDiff,Nat.reduceAdd,Nat.reduceMul,Nat.reduceSub,Nat.reduceEqDiff,Nat.reduceBEq,Int.reduceToNat,Int.reduceBEq,Int.reduceBNe,hd]
  have : n = 128 := by omega
  subst this
  rw [show hi (ones 128) = 18446744073709551615 from by decide,show lo (ones 128) = 18446744073709551615 from by decide]
 ·refine j5 ?_;show AWP _ _ _ _ _
  simp only [decide_eq_false_iff_not] at ht
  (repeat refine j0 ?_);refine x5 fun K hK => ?_
  refine j11 [] _ _ ?_;simp (disch:=omega) only [go_sem,↓reduceIte,reduceCtorEq,Nat.reduceLT,Nat.reducePow,Nat.reduceLeDiff,Nat.reduceAdd,Nat.reduceMul,Nat.reduceSub,Nat.reduceEqDiff,Nat.reduceBEq,Int.reduceToNat,Int.reduceBEq,Int.reduceBNe,hd];(repeat refine ⟨by omega,?_⟩)
  refine x10 rfl rfl rfl ?_;simp (disch:=omega) only [go_sem,↓reduceIte,reduceCtorEq,Nat.reduceLT,Nat.reducePow,Nat.reduceLeDiff,Nat.reduceAdd,Nat.reduceMul,Nat.reduceSub,Nat.reduceEqDiff,Nat.reduceBEq,Int.reduceToNat,Int.reduceBEq,Int.reduceBNe,hd]
  refine ⟨_,x100 1 n hn,?_⟩
  refine j11 [] _ _ ?_;simp (disch:=omega) only [go_sem,↓reduceIte,reduceCtorEq,Nat.reduceLT,Nat.reducePow,Nat.reduceLeDiff,Nat.reduceAdd,Nat.reduceMul,Nat.reduceSub,Nat.reduceEqDiff,Nat.reduceBEq,Int.reduceToNat,Int.reduceBEq,Int.reduceBNe,hd];(repeat refine ⟨by omega,?_⟩)
  (refine j4 (hK _ ?_);clear hK K;show AWP _ _ _ _ _)
  (repeat refine j0 ?_);refine x5 fun K hK => ?_
  refine j11 [] _ _ ?_;simp (disch:=omega) only [go_sem,↓reduceIte,reduceCtorEq,Nat.reduceLT,Nat.reducePow,Nat.reduceLeDiff,Nat.reduceAdd,Nat.reduceMul,Nat.reduceSub,Nat.reduceEqDiff,Nat.reduceBEq,Int.reduceToNat,Int.reduceBEq,Int.reduceBNe,hd];(repeat refine ⟨by omega,?_⟩)
  refine x10 rfl rfl rfl ?_;simp (disch:=omega) only [go_sem,↓reduceIte,reduceCtorEq,Nat.reduceLT,Nat.reducePow,Nat.reduceLeDiff,Nat.reduceAdd,Nat.reduceMul,Nat.reduceSub,Nat.reduceEqDiff,Nat.reduceBEq,Int.reduceToNat,Int.reduceBEq,Int.reduceBNe,hd]
  refine ⟨_,sub_c _,?_⟩
  refine j11 [] _ _ ?_;simp (disch:=omega) only [go_sem,↓reduceIte,reduceCtorEq,Nat.reduceLT,Nat.reducePow,Nat.reduceLeDiff,Nat.reduceAdd,Nat.reduceMul,Nat.reduceSub,Nat.reduceEqDiff,Nat.reduceBEq,Int.reduceToNat,Int.reduceBEq,Int.reduceBNe,hd];(repeat refine ⟨by omega,?_⟩)
  (refine j4 (hK _ ?_);clear hK K;show AWP _ _ _ _ _)
  (repeat refine j0 ?_);refine x5 fun K hK => ?_;refine j11 [] _ _ ?_;simp (disch:=omega) only [go_sem,↓reduceIte,reduceCtorEq,Nat.reduceLT,Nat.reducePow,Nat.reduceLeDiff,Nat.reduceAdd,Nat.reduceMul,Nat.reduceSub,Nat.reduceEqDiff,Nat.reduceBEq,Int.reduceToNat,Int.reduceBEq,Int.reduceBNe,hd];(repeat refine ⟨by omega,?_⟩);(refine j4 (hK _ ?_);clear hK K;show AWP _ _ _ _ _)
  refine j9 ⟨_,?_,rfl⟩;rw [Tryz.results178];simp (disch:=omega) only [ResVars,ResVar,ptrLoc,go_sem,↓reduceIte,reduceCtorEq,Nat.reduceLT,Nat.reducePow,Nat.reduceLeDiff,Nat.reduceAdd,Nat.reduceMul,Nat.reduceSub,Nat.reduceEqDiff,Nat.reduceBEq,Int.reduceToNat,Int.reduceBEq,Int.reduceBNe,hd]
  rw [low_lo n (by omega),low_hi n (by omega)]
theorem Bit_c (x : BitVec 128) (n : Int) : ACalls Tryz.prog 145 [.agg (hd x),.d (.v (.int .i64 n))] (· = [.d (.v (.bool (if 0 ≤ n ∧ n < 128 then x.getLsbD n.toNat else false)))]) := by
 have hh : ¬ 0 ≤ n ∨ (0 ≤ n ∧ ¬ n < 128) ∨ (0 ≤ n ∧ n < 128) := by omega
 rcases hh with h | h | h
 ·refine q12 Tryz.func145 rfl (by decide +kernel) (by rw [Tryz.ntmps145];simp) ?_;rw [Tryz.ntmps145];simp only [frOf]
  (repeat refine j0 ?_);refine x5 fun K hK => ?_;refine j11 [] _ _ ?_;simp (disch:=omega) only [go_sem,seval,hd];(repeat refine ⟨by omega,?_⟩);(refine j4 (hK _ ?_);clear hK K;show AWP _ _ _ _ _)
  (repeat refine j0 ?_);refine x5 fun K hK => ?_;refine j11 [] _ _ ?_;simp (disch:=omega) only [go_sem,seval,hd];(repeat refine ⟨by omega,?_⟩);(refine j4 (hK _ ?_);clear hK K;show AWP _ _ _ _ _)
  refine j9 ⟨_,?_,rfl⟩;rw [Tryz.results145];simp (disch:=omega) only [ResVars,ResVar,ptrLoc,go_sem,seval,hd]
  simp only [h,false_and,if_false]
 ·refine q12 Tryz.func145 rfl (by decide +kernel) (by rw [Tryz.ntmps145];simp) ?_;rw [Tryz.ntmps145];simp only [frOf]
  (repeat refine j0 ?_);refine x5 fun K hK => ?_;refine j11 [] _ _ ?_;simp (disch:=omega) only [go_sem,seval,hd];(repeat refine ⟨by omega,?_⟩);(refine j4 (hK _ ?_);clear hK K;show AWP _ _ _ _ _)
  (repeat refine j0 ?_);refine x5 fun K hK => ?_;refine j11 [] _ _ ?_;simp (disch:=omega) only [go_sem,seval,hd];(repeat refine ⟨by omega,?_⟩);(refine j4 (hK _ ?_);clear hK K;show AWP _ _ _ _ _)
  refine j9 ⟨_,?_,rfl⟩;rw [Tryz.results145];simp (disch:=omega) only [ResVars,ResVar,ptrLoc,go_sem,seval,hd]
  simp only [h,and_false,if_false]
 ·refine q12 Tryz.func145 rfl (by decide +kernel) (by rw [Tryz.ntmps145];simp) ?_;rw [Tryz.ntmps145];simp only [frOf]
  (repeat refine j0 ?_);refine x5 fun K hK => ?_;refine j11 [] _ _ ?_;simp (disch:=omega) only [go_sem,seval,hd];(repeat refine ⟨by omega,?_⟩);(refine j4 (hK _ ?_);clear hK K;show AWP _ _ _ _ _)
  (repeat refine j0 ?_);refine x5 fun K hK => ?_
  refine j11 [] _ _ ?_;simp (disch:=omega) only [go_sem,seval,hd];(repeat refine ⟨by omega,?_⟩)
  refine x10 rfl rfl rfl ?_;simp (disch:=omega) only [go_sem,seval,hd]
  refine ⟨_,by have := right_c x n.toNat (by omega);rw [Int.toNat_of_nonneg h.1] at this;exact this,?_⟩
  refine j11 [] _ _ ?_;simp (disch:=omega) only [go_sem,seval,hd];(repeat refine ⟨by omega,?_⟩)
  (refine j4 (hK _ ?_);clear hK K;show AWP _ _ _ _ _)
  refine j9 ⟨_,?_,rfl⟩;rw [Tryz.results145];simp (disch:=omega) only [ResVars,ResVar,ptrLoc,go_sem,seval,hd]
  rw [bit_lo];simp [h]
theorem Mask_c (a b : Int) (hb : -9223372036854775808 ≤ b ∧ b < 9223372036854775808) : ACalls Tryz.prog 146 [.d (.v (.int .i64 a)),.d (.v (.int .i64 b))]
  (· = [.agg (hd (if fieldB a b 128 then ones b.toNat <<< a.toNat else 0)),.d (.v (.int .i64 (if fieldB a b 128 then 0 else 1)))]) := by
 cases h : fieldB a b 128
 ·refine q12 Tryz.func146 rfl (by decide +kernel) (by rw [Tryz.ntmps146];simp) ?_;rw [Tryz.ntmps146];simp only [frOf]
  (repeat refine j0 ?_);refine x5 fun K hK => ?_;refine j11 [] _ _ ?_;simp (disch:=omega) only [go_sem,↓reduceIte,reduceCtorEq,Nat.reduceLT,Nat.reduceAdd,Nat.reduceEqDiff,hd,h];(repeat refine ⟨by omega,?_⟩);(refine j4 (hK _ ?_);clear hK K;show AWP _ _ _ _ _)
  (repeat refine j0 ?_);refine x5 fun K hK => ?_
  refine j11 [] _ _ ?_;simp (disch:=omega) only [go_sem,↓reduceIte,reduceCtorEq,Nat.reduceLT,Nat.reduceAdd,Nat.reduceEqDiff,hd,h];(repeat refine ⟨by omega,?_⟩)
  refine x10 rfl rfl rfl ?_;simp (disch:=omega) only [go_sem,↓reduceIte,reduceCtorEq,Nat.reduceLT,Nat.reduceAdd,Nat.reduceEqDiff,hd,h]
  refine ⟨_,j100 a b 128 hb (by omega),?_⟩
  refine j11 [] _ _ ?_;simp (disch:=omega) only [go_sem,↓reduceIte,reduceCtorEq,Nat.reduceLT,Nat.reduceAdd,Nat.reduceEqDiff,hd,h];(repeat refine ⟨by omega,?_⟩)
  (refine j4 (hK _ ?_);clear hK K;show AWP _ _ _ _ _)
  (repeat refine j0 ?_);refine j15 rfl (fun ht => ?_) (fun ht => ?_)
  ·(repeat refine j0 ?_);refine x5 fun K hK => ?_;refine j11 [] _ _ ?_;simp (disch:=omega) only [go_sem,↓reduceIte,reduceCtorEq,Nat.reduceLT,Nat.reduceAdd,Nat.reduceEqDiff,hd,h];(repeat refine ⟨by omega,?_⟩);(refine j4 (hK _ ?_);clear hK K;show AWP _ _ _ _ _)
   refine j9 ⟨_,?_,rfl⟩;rw [Tryz.results146];simp (disch:=omega) only [ResVars,ResVar,ptrLoc,go_sem,↓reduceIte,reduceCtorEq,Nat.reduceLT,Nat.reduceAdd,Nat.reduceEqDiff,hd,h]
   rw [z24,x24]
  ·exact absurd ht (by decide)
 ·have hh := of_decide_eq_true h
  refine q12 Tryz.func146 rfl (by decide +kernel) (by rw [Tryz.ntmps146];simp) ?_;rw [Tryz.ntmps146];simp only [frOf]
  (repeat refine j0 ?_);refine x5 fun K hK => ?_;refine j11 [] _ _ ?_;simp (disch:=omega) only [go_sem,↓reduceIte,reduceCtorEq,Nat.reduceLT,Nat.reduceAdd,Nat.reduceEqDiff,hd,h];(repeat refine ⟨by omega,?_⟩);(refine j4 (hK _ ?_);clear hK K;show AWP _ _ _ _ _)
  (repeat refine j0 ?_);refine x5 fun K hK => ?_
  refine j11 [] _ _ ?_;simp (disch:=omega) only [go_sem,↓reduceIte,reduceCtorEq,Nat.reduceLT,Nat.reduceAdd,Nat.reduceEqDiff,hd,h];(repeat refine ⟨by omega,?_⟩)
  refine x10 rfl rfl rfl ?_;simp (disch:=omega) only [go_sem,↓reduceIte,reduceCtorEq,Nat.reduceLT,Nat.reduceAdd,Nat.reduceEqDiff,hd,h]
  refine ⟨_,j100 a b 128 hb (by omega),?_⟩
  refine j11 [] _ _ ?_;simp (disch:=omega) only [go_sem,↓reduceIte,reduceCtorEq,Nat.reduceLT,Nat.reduceAdd,Nat.reduceEqDiff,hd,h];(repeat refine ⟨by omega,?_⟩)
  (refine j4 (hK _ ?_);clear hK K;show AWP _ _ _ _ _)
  (repeat refine j0 ?_);refine j15 rfl (fun ht => ?_) (fun ht => ?_)
  ·exact absurd ht (by decide)
  ·refine j5 ?_;show AWP _ _ _ _ _
   (repeat refine j0 ?_);refine x5 fun K hK => ?_
   refine j11 [] _ _ ?_;simp (disch:=omega) only [go_sem,↓reduceIte,reduceCtorEq,Nat.reduceLT,Nat.reduceAdd,Nat.reduceEqDiff,hd,h];(repeat refine ⟨by omega,?_⟩)
   refine x10 rfl rfl rfl ?_;simp (disch:=omega) only [go_sem,↓reduceIte,reduceCtorEq,Nat.reduceLT,Nat.reduceAdd,Nat.reduceEqDiff,hd,h]
   refine ⟨_,by have := low_c b.toNat (by omega);rw [Int.toNat_of_nonneg hh.2.1] at this;exact this,?_⟩
   refine j11 [] _ _ ?_;simp (disch:=omega) only [go_sem,↓reduceIte,reduceCtorEq,Nat.reduceLT,Nat.reduceAdd,Nat.reduceEqDiff,hd,h];(repeat refine ⟨by omega,?_⟩)
   refine x10 rfl rfl rfl ?_;simp (disch:=omega) only [go_sem,↓reduceIte,reduceCtorEq,Nat.reduceLT,Nat.reduceAdd,Nat.reduceEqDiff,hd,h]
   refine ⟨_,by have := x100 (ones b.toNat) a.toNat (by omega);rw [Int.toNat_of_nonneg hh.1] at this;exact this,?_⟩
   refine j11 [] _ _ ?_;simp (disch:=omega) only [go_sem,↓reduceIte,reduceCtorEq,Nat.reduceLT,Nat.reduceAdd,Nat.reduceEqDiff,hd,h];(repeat refine ⟨by omega,?_⟩)
   (refine j4 (hK _ ?_);clear hK K;show AWP _ _ _ _ _)
   refine j9 ⟨_,?_,rfl⟩;rw [Tryz.results146];simp (disch:=omega) only [ResVars,ResVar,ptrLoc,go_sem,↓reduceIte,reduceCtorEq,Nat.reduceLT,Nat.reduceAdd,Nat.reduceEqDiff,hd,h]
theorem q43 (x : BitVec 128) : ACalls Tryz.prog 85 [.agg (hd x)] (· = [.d (.v (.bool (x == 0)))]) := by
 refine q12 Tryz.func85 rfl (by decide +kernel) (by rw [Tryz.ntmps85];simp) ?_;rw [Tryz.ntmps85];simp only [frOf]
 (repeat refine j0 ?_);refine x5 fun K hK => ?_;refine j11 [] _ _ ?_;simp (disch:=omega) only [go_sem,seval,hd,cb,x9,z10,x12,j12];(repeat refine ⟨by omega,?_⟩);(refine j4 (hK _ ?_);clear hK K;show AWP _ _ _ _ _)
 (repeat refine j0 ?_);refine x5 fun K hK => ?_;refine j11 [] _ _ ?_;simp (disch:=omega) only [go_sem,seval,hd,cb,x9,z10,x12,j12];(repeat refine ⟨by omega,?_⟩);(refine j4 (hK _ ?_);clear hK K;show AWP _ _ _ _ _)
 refine j9 ⟨_,?_,rfl⟩;rw [Tryz.results85];simp (disch:=omega) only [ResVars,ResVar,ptrLoc,go_sem,seval,hd,cb,x9,z10,x12,j12]
theorem q19 (k : Cube) : ACalls Tryz.prog 42 [.agg (cb k)] (· = [.d (.v (.bool k.sound))]) := by
 refine q12 Tryz.func42 rfl (by decide +kernel) (by rw [Tryz.ntmps42];simp) ?_;rw [Tryz.ntmps42];simp only [frOf]
 (repeat refine j0 ?_);refine x5 fun K hK => ?_;refine j11 [] _ _ ?_;simp (disch:=omega) only [go_sem,seval,hd,cb,x9,z10,x12,j12];(repeat refine ⟨by omega,?_⟩);(refine j4 (hK _ ?_);clear hK K;show AWP _ _ _ _ _)
 (repeat refine j0 ?_);refine x5 fun K hK => ?_
 refine j11 [] _ _ ?_;simp (disch:=omega) only [go_sem,seval,hd,cb,x9,z10,x12,j12];(repeat refine ⟨by omega,?_⟩)
 refine x10 rfl rfl rfl ?_;simp (disch:=omega) only [go_sem,seval,hd,cb,x9,z10,x12,j12]
 refine ⟨_,x58 k.v k.c,?_⟩
 refine j11 [] _ _ ?_;simp (disch:=omega) only [go_sem,seval,hd,cb,x9,z10,x12,j12];(repeat refine ⟨by omega,?_⟩)
 refine x10 rfl rfl rfl ?_;simp (disch:=omega) only [go_sem,seval,hd,cb,x9,z10,x12,j12]
 refine ⟨_,q43 _,?_⟩
 refine j11 [] _ _ ?_;simp (disch:=omega) only [go_sem,seval,hd,cb,x9,z10,x12,j12];(repeat refine ⟨by omega,?_⟩)
 (refine j4 (hK _ ?_);clear hK K;show AWP _ _ _ _ _)
 refine j9 ⟨_,?_,rfl⟩;rw [Tryz.results42];simp (disch:=omega) only [ResVars,ResVar,ptrLoc,go_sem,seval,hd,cb,x9,z10,x12,j12]
 (first | done | rfl | (refine ⟨?_,?_⟩ <;> rfl))
theorem q101 (a b : Cube) : ACalls Tryz.prog 143 [.agg (cb a),.agg (cb b)] (· = [.agg (hd (apart a b))]) := by
 refine q12 Tryz.func143 rfl (by decide +kernel) (by rw [Tryz.ntmps143];simp) ?_;rw [Tryz.ntmps143];simp only [frOf]
 (repeat refine j0 ?_);(first | refine x5 fun K hK => ?_ | refine x8 fun K hK => ?_);(first | refine j11 [] _ _ ?_ | refine x13 [] _ _ _ ?_);simp (disch:=omega) only [go_sem,seval,hd,cb,x9,z10,x12,j12];(repeat refine ⟨by omega,?_⟩);(first | (refine j4 (hK _ ?_);clear hK K;show AWP _ _ _ _ _) | (refine q9 (hK _ _ j8 ?_);clear hK K;show AWP _ _ _ _ _))
 (repeat refine j0 ?_);(first | refine x5 fun K hK => ?_ | refine x8 fun K hK => ?_)
 (first | refine j11 [] _ _ ?_ | refine x13 [] _ _ _ ?_);simp (disch:=omega) only [go_sem,seval,hd,cb,x9,z10,x12,j12];(repeat refine ⟨by omega,?_⟩)
 (first | refine x10 rfl rfl rfl ?_ | refine q13 rfl rfl rfl ?_);simp (disch:=omega) only [go_sem,seval,hd,cb,x9,z10,x12,j12]
 refine ⟨_,Xor_c a.v b.v,?_⟩
 (first | refine j11 [] _ _ ?_ | refine x13 [] _ _ _ ?_);simp (disch:=omega) only [go_sem,seval,hd,cb,x9,z10,x12,j12];(repeat refine ⟨by omega,?_⟩)
 (first | refine x10 rfl rfl rfl ?_ | refine q13 rfl rfl rfl ?_);simp (disch:=omega) only [go_sem,seval,hd,cb,x9,z10,x12,j12]
 refine ⟨_,And_c a.c b.c,?_⟩
 (first | refine j11 [] _ _ ?_ | refine x13 [] _ _ _ ?_);simp (disch:=omega) only [go_sem,seval,hd,cb,x9,z10,x12,j12];(repeat refine ⟨by omega,?_⟩)
 (first | refine x10 rfl rfl rfl ?_ | refine q13 rfl rfl rfl ?_);simp (disch:=omega) only [go_sem,seval,hd,cb,x9,z10,x12,j12]
 refine ⟨_,And_c _ _,?_⟩
 (first | refine j11 [] _ _ ?_ | refine x13 [] _ _ _ ?_);simp (disch:=omega) only [go_sem,seval,hd,cb,x9,z10,x12,j12];(repeat refine ⟨by omega,?_⟩)
 (first | (refine j4 (hK _ ?_);clear hK K;show AWP _ _ _ _ _) | (refine q9 (hK _ _ j8 ?_);clear hK K;show AWP _ _ _ _ _))
 refine j9 ⟨_,?_,rfl⟩;rw [Tryz.results143];simp (disch:=omega) only [ResVars,ResVar,ptrLoc,go_sem,seval,hd,cb,x9,z10,x12,j12]
 (first | done | rfl | (refine ⟨?_,?_⟩ <;> rfl))
theorem z101 (a b : Cube) : ACalls Tryz.prog 104 [.agg (cb a),.agg (cb b)] (· = [.agg (cb (meetV a b)),.d (.v (.bool (meetO a b)))]) := by
 unfold meetV meetO
 cases h : a.sound
 ·refine q12 Tryz.func104 rfl (by decide +kernel) (by rw [Tryz.ntmps104];simp) ?_;rw [Tryz.ntmps104];simp only [frOf]
  (repeat refine j0 ?_);(first | refine x5 fun K hK => ?_ | refine x8 fun K hK => ?_);(first | refine j11 [] _ _ ?_ | refine x13 [] _ _ _ ?_);simp (disch:=omega) only [go_sem,↓reduceIte,reduceCtorEq,Nat.reduceLT,Nat.reducePow,Nat.reduceLeDiff,Nat.reduceAdd,Nat.reduceMul,Nat.reduceSub,Nat.reduceEqDiff,Nat.reduceBEq,Int.reduceToNat,Int.reduceBEq,Int.reduceBNe,hd,cb,x9,z10,x12,j12,h];(repeat refine ⟨by omega,?_⟩);(first | (refine j4 (hK _ ?_);clear hK K;show AWP _ _ _ _ _) | (refine q9 (hK _ _ j8 ?_);clear hK K;show AWP _ _ _ _ _))
  (repeat refine j0 ?_);(first | refine x5 fun K hK => ?_ | refine x8 fun K hK => ?_)
  (first | refine j11 [] _ _ ?_ | refine x13 [] _ _ _ ?_);simp (disch:=omega) only [go_sem,↓reduceIte,reduceCtorEq,Nat.reduceLT,Nat.reducePow,Nat.reduceLeDiff,Nat.reduceAdd,Nat.reduceMul,Nat.reduceSub,Nat.reduceEqDiff,Nat.reduceBEq,Int.reduceToNat,Int.reduceBEq,Int.reduceBNe,hd,cb,x9,z10,x12,j12,h];(repeat refine ⟨by omega,?_⟩)
  (first | refine x10 rfl rfl rfl ?_ | refine q13 rfl rfl rfl ?_);simp (disch:=omega) only [go_sem,↓reduceIte,reduceCtorEq,Nat.reduceLT,Nat.reducePow,Nat.reduceLeDiff,Nat.reduceAdd,Nat.reduceMul,Nat.reduceSub,Nat.reduceEqDiff,Nat.reduceBEq,Int.reduceToNat,Int.reduceBEq,Int.reduceBNe,hd,cb,x9,z10,x12,j12,h]
  refine ⟨_,q19 a,?_⟩
  (first | refine j11 [] _ _ ?_ | refine x13 [] _ _ _ ?_);simp (disch:=omega) only [go_sem,↓reduceIte,reduceCtorEq,Nat.reduceLT,Nat.reducePow,Nat.reduceLeDiff,Nat.reduceAdd,Nat.reduceMul,Nat.reduceSub,Nat.reduceEqDiff,Nat.reduceBEq,Int.reduceToNat,Int.reduceBEq,Int.reduceBNe,hd,cb,x9,z10,x12,j12,h];(repeat refine ⟨by omega,?_⟩)
  (first | (refine j4 (hK _ ?_);clear hK K;show AWP _ _ _ _ _) | (refine q9 (hK _ _ j8 ?_);clear hK K;show AWP _ _ _ _ _))
  (repeat refine j0 ?_);refine j15 rfl (fun _ => ?_) (fun ht => absurd ht (by decide))
  (repeat refine j0 ?_);(first | refine x5 fun K hK => ?_ | refine x8 fun K hK => ?_);(first | refine j11 [] _ _ ?_ | refine x13 [] _ _ _ ?_);simp (disch:=omega) only [go_sem,↓reduceIte,reduceCtorEq,Nat.reduceLT,Nat.reducePow,Nat.reduceLeDiff,Nat.reduceAdd,Nat.reduceMul,Nat.reduceSub,Nat.reduceEqDiff,Nat.reduceBEq,Int.reduceToNat,Int.reduceBEq,Int.reduceBNe,hd,cb,x9,z10,x12,j12,h];(repeat refine ⟨by omega,?_⟩);(first | (refine j4 (hK _ ?_);clear hK K;show AWP _ _ _ _ _) | (refine q9 (hK _ _ j8 ?_);clear hK K;show AWP _ _ _ _ _))
  refine j9 ⟨_,?_,rfl⟩;rw [Tryz.results104];simp (disch:=omega) only [ResVars,ResVar,ptrLoc,go_sem,↓reduceIte,reduceCtorEq,Nat.reduceLT,Nat.reducePow,Nat.reduceLeDiff,Nat.reduceAdd,Nat.reduceMul,Nat.reduceSub,Nat.reduceEqDiff,Nat.reduceBEq,Int.reduceToNat,Int.reduceBEq,Int.reduceBNe,hd,cb,x9,z10,x12,j12,h]
  (first | done | rfl | (refine ⟨?_,?_⟩ <;> rfl))
 ·cases h2 : b.sound
  ·refine q12 Tryz.func104 rfl (by decide +kernel) (by rw [Tryz.ntmps104];simp) ?_;rw [Tryz.ntmps104];simp only [frOf]
   (repeat refine j0 ?_);(first | refine x5 fun K hK => ?_ | refine x8 fun K hK => ?_);(first | refine j11 [] _ _ ?_ | refine x13 [] _ _ _ ?_);simp (disch:=omega) only [go_sem,↓reduceIte,reduceCtorEq,Nat.reduceLT,Nat.reducePow,Nat.reduceLeDiff,Nat.reduceAdd,Nat.reduceMul,Nat.reduceSub,Nat.reduceEqDiff,Nat.reduceBEq,Int.reduceToNat,Int.reduceBEq,Int.reduceBNe,hd,cb,x9,z10,x12,j12,h,h2];(repeat refine ⟨by omega,?_⟩);(first | (refine j4 (hK _ ?_);clear hK K;show AWP _ _ _ _ _) | (refine q9 (hK _ _ j8 ?_);clear hK K;show AWP _ _ _ _ _))
   (repeat refine j0 ?_);(first | refine x5 fun K hK => ?_ | refine x8 fun K hK => ?_)
   (first | refine j11 [] _ _ ?_ | refine x13 [] _ _ _ ?_);simp (disch:=omega) only [go_sem,↓reduceIte,reduceCtorEq,Nat.reduceLT,Nat.reducePow,Nat.reduceLeDiff,Nat.reduceAdd,Nat.reduceMul,Nat.reduceSub,Nat.reduceEqDiff,Nat.reduceBEq,Int.reduceToNat,Int.reduceBEq,Int.reduceBNe,hd,cb,x9,z10,x12,j12,h,h2];(repeat refine ⟨by omega,?_⟩)
   (first | refine x10 rfl rfl rfl ?_ | refine q13 rfl rfl rfl ?_);simp (disch:=omega) only [go_sem,↓reduceIte,reduceCtorEq,Nat.reduceLT,Nat.reducePow,Nat.reduceLeDiff,Nat.reduceAdd,Nat.reduceMul,Nat.reduceSub,Nat.reduceEqDiff,Nat.reduceBEq,Int.reduceToNat,Int.reduceBEq,Int.reduceBNe,hd,cb,x9,z10,x12,j12,h,h2]
   refine ⟨_,q19 a,?_⟩
   (first | refine j11 [] _ _ ?_ | refine x13 [] _ _ _ ?_);simp (disch:=omega) only [go_sem,↓reduceIte,reduceCtorEq,Nat.reduceLT,Nat.reducePow,Nat.reduceLeDiff,Nat.reduceAdd,Nat.reduceMul,Nat.reduceSub,Nat.reduceEqDiff,Nat.reduceBEq,Int.reduceToNat,Int.reduceBEq,Int.reduceBNe,hd,cb,x9,z10,x12,j12,h,h2];(repeat refine ⟨by omega,?_⟩)
   (first | refine x10 rfl rfl rfl ?_ | refine q13 rfl rfl rfl ?_);simp (disch:=omega) only [go_sem,↓reduceIte,reduceCtorEq,Nat.reduceLT,Nat.reducePow,Nat.reduceLeDiff,Nat.reduceAdd,Nat.reduceMul,Nat.reduceSub,Nat.reduceEqDiff,Nat.reduceBEq,Int.reduceToNat,Int.reduceBEq,Int.reduceBNe,hd,cb,x9,z10,x12,j12,h,h2]
   refine ⟨_,q19 b,?_⟩
   (first | refine j11 [] _ _ ?_ | refine x13 [] _ _ _ ?_);simp (disch:=omega) only [go_sem,↓reduceIte,reduceCtorEq,Nat.reduceLT,Nat.reducePow,Nat.reduceLeDiff,Nat.reduceAdd,Nat.reduceMul,Nat.reduceSub,Nat.reduceEqDiff,Nat.reduceBEq,Int.reduceToNat,Int.reduceBEq,Int.reduceBNe,hd,cb,x9,z10,x12,j12,h,h2];(repeat refine ⟨by omega,?_⟩)
   (first | (refine j4 (hK _ ?_);clear hK K;show AWP _ _ _ _ _) | (refine q9 (hK _ _ j8 ?_);clear hK K;show AWP _ _ _ _ _))
   (repeat refine j0 ?_);refine j15 rfl (fun _ => ?_) (fun ht => absurd ht (by decide))
   (repeat refine j0 ?_);(first | refine x5 fun K hK => ?_ | refine x8 fun K hK => ?_);(first | refine j11 [] _ _ ?_ | refine x13 [] _ _ _ ?_);simp (disch:=omega) only [go_sem,↓reduceIte,reduceCtorEq,Nat.reduceLT,Nat.reducePow,Nat.reduceLeDiff,Nat.reduceAdd,Nat.reduceMul,Nat.reduceSub,Nat.reduceEqDiff,Nat.reduceBEq,Int.reduceToNat,Int.reduceBEq,Int.reduceBNe,hd,cb,x9,z10,x12,j12,h,h2];(repeat refine ⟨by omega,?_⟩);(first | (refine j4 (hK _ ?_);clear hK K;show AWP _ _ _ _ _) | (refine q9 (hK _ _ j8 ?_);clear hK K;show AWP _ _ _ _ _))
   refine j9 ⟨_,?_,rfl⟩;rw [Tryz.results104];simp (disch:=omega) only [ResVars,ResVar,ptrLoc,go_sem,↓reduceIte,reduceCtorEq,Nat.reduceLT,Nat.reducePow,Nat.reduceLeDiff,Nat.reduceAdd,Nat.reduceMul,Nat.reduceSub,Nat.reduceEqDiff,Nat.reduceBEq,Int.reduceToNat,Int.reduceBEq,Int.reduceBNe,hd,cb,x9,z10,x12,j12,h,h2]
   (first | done | rfl | (refine ⟨?_,?_⟩ <;> rfl))
  ·cases h3 : apart a b == 0
   all_goals
    refine q12 Tryz.func104 rfl (by decide +kernel) (by rw [Tryz.ntmps104];simp) ?_;rw [Tryz.ntmps104];simp only [frOf]
    (repeat refine j0 ?_);(first | refine x5 fun K hK => ?_ | refine x8 fun K hK => ?_);(first | refine j11 [] _ _ ?_ | refine x13 [] _ _ _ ?_);simp (disch:=omega) only [go_sem,↓reduceIte,reduceCtorEq,Nat.reduceLT,Nat.reducePow,Nat.reduceLeDiff,Nat.reduceAdd,Nat.reduceMul,Nat.reduceSub,Nat.reduceEqDiff,Nat.reduceBEq,Int.reduceToNat,Int.reduceBEq,Int.reduceBNe,hd,cb,x9,z10,x12,j12,h,h2,h3];(repeat refine ⟨by omega,?_⟩);(first | (refine j4 (hK _ ?_);clear hK K;show AWP _ _ _ _ _) | (refine q9 (hK _ _ j8 ?_);clear hK K;show AWP _ _ _ _ _))
    (repeat refine j0 ?_);(first | refine x5 fun K hK => ?_ | refine x8 fun K hK => ?_)
    (first | refine j11 [] _ _ ?_ | refine x13 [] _ _ _ ?_);simp (disch:=omega) only [go_sem,↓reduceIte,reduceCtorEq,Nat.reduceLT,Nat.reducePow,Nat.reduceLeDiff,Nat.reduceAdd,Nat.reduceMul,Nat.reduceSub,Nat.reduceEqDiff,Nat.reduceBEq,Int.reduceToNat,Int.reduceBEq,Int.reduceBNe,hd,cb,x9,z10,x12,j12,h,h2,h3];(repeat refine ⟨by omega,?_⟩)
    (first | refine x10 rfl rfl rfl ?_ | refine q13 rfl rfl rfl ?_);simp (disch:=omega) only [go_sem,↓reduceIte,reduceCtorEq,Nat.reduceLT,Nat.reducePow,Nat.reduceLeDiff,Nat.reduceAdd,Nat.reduceMul,Nat.reduceSub,Nat.reduceEqDiff,Nat.reduceBEq,Int.reduceToNat,Int.reduceBEq,Int.reduceBNe,hd,cb,x9,z10,x12,j12,h,h2,h3]
    refine ⟨_,q19 a,?_⟩
    (first | refine j11 [] _ _ ?_ | refine x13 [] _ _ _ ?_);simp (disch:=omega) only [go_sem,↓reduceIte,reduceCtorEq,Nat.reduceLT,Nat.reducePow,Nat.reduceLeDiff,Nat.reduceAdd,Nat.reduceMul,Nat.reduceSub,Nat.reduceEqDiff,Nat.reduceBEq,Int.reduceToNat,Int.reduceBEq,Int.reduceBNe,hd,cb,x9,z10,x12,j12,h,h2,h3];(repeat refine ⟨by omega,?_⟩)
    (first | refine x10 rfl rfl rfl ?_ | refine q13 rfl rfl rfl ?_);simp (disch:=omega) only [go_sem,↓reduceIte,reduceCtorEq,Nat.reduceLT,Nat.reducePow,Nat.reduceLeDiff,Nat.reduceAdd,Nat.reduceMul,Nat.reduceSub,Nat.reduceEqDiff,Nat.reduceBEq,Int.reduceToNat,Int.reduceBEq,Int.reduceBNe,hd,cb,x9,z10,x12,j12,h,h2,h3]
    refine ⟨_,q19 b,?_⟩
    (first | refine j11 [] _ _ ?_ | refine x13 [] _ _ _ ?_);simp (disch:=omega) only [go_sem,↓reduceIte,reduceCtorEq,Nat.reduceLT,Nat.reducePow,Nat.reduceLeDiff,Nat.reduceAdd,Nat.reduceMul,Nat.reduceSub,Nat.reduceEqDiff,Nat.reduceBEq,Int.reduceToNat,Int.reduceBEq,Int.reduceBNe,hd,cb,x9,z10,x12,j12,h,h2,h3];(repeat refine ⟨by omega,?_⟩)
    (first | refine x10 rfl rfl rfl ?_ | refine q13 rfl rfl rfl ?_);simp (disch:=omega) only [go_sem,↓reduceIte,reduceCtorEq,Nat.reduceLT,Nat.reducePow,Nat.reduceLeDiff,Nat.reduceAdd,Nat.reduceMul,Nat.reduceSub,Nat.reduceEqDiff,Nat.reduceBEq,Int.reduceToNat,Int.reduceBEq,Int.reduceBNe,hd,cb,x9,z10,x12,j12,h,h2,h3]
    refine ⟨_,q101 a b,?_⟩
    (first | refine j11 [] _ _ ?_ | refine x13 [] _ _ _ ?_);simp (disch:=omega) only [go_sem,↓reduceIte,reduceCtorEq,Nat.reduceLT,Nat.reducePow,Nat.reduceLeDiff,Nat.reduceAdd,Nat.reduceMul,Nat.reduceSub,Nat.reduceEqDiff,Nat.reduceBEq,Int.reduceToNat,Int.reduceBEq,Int.reduceBNe,hd,cb,x9,z10,x12,j12,h,h2,h3];(repeat refine ⟨by omega,?_⟩)
    (first | refine x10 rfl rfl rfl ?_ | refine q13 rfl rfl rfl ?_);simp (disch:=omega) only [go_sem,↓reduceIte,reduceCtorEq,Nat.reduceLT,Nat.reducePow,Nat.reduceLeDiff,Nat.reduceAdd,Nat.reduceMul,Nat.reduceSub,Nat.reduceEqDiff,Nat.reduceBEq,Int.reduceToNat,Int.reduceBEq,Int.reduceBNe,hd,cb,x9,z10,x12,j12,h,h2,h3]
    refine ⟨_,q43 _,?_⟩
    (first | refine j11 [] _ _ ?_ | refine x13 [] _ _ _ ?_);simp (disch:=omega) only [go_sem,↓reduceIte,reduceCtorEq,Nat.reduceLT,Nat.reducePow,Nat.reduceLeDiff,Nat.reduceAdd,Nat.reduceMul,Nat.reduceSub,Nat.reduceEqDiff,Nat.reduceBEq,Int.reduceToNat,Int.reduceBEq,Int.reduceBNe,hd,cb,x9,z10,x12,j12,h,h2,h3];(repeat refine ⟨by omega,?_⟩)
    (first | (refine j4 (hK _ ?_);clear hK K;show AWP _ _ _ _ _) | (refine q9 (hK _ _ j8 ?_);clear hK K;show AWP _ _ _ _ _))
   ·(repeat refine j0 ?_);refine j15 rfl (fun _ => ?_) (fun ht => absurd ht (by decide))
    (repeat refine j0 ?_);(first | refine x5 fun K hK => ?_ | refine x8 fun K hK => ?_);(first | refine j11 [] _ _ ?_ | refine x13 [] _ _ _ ?_);simp (disch:=omega) only [go_sem,↓reduceIte,reduceCtorEq,Nat.reduceLT,Nat.reducePow,Nat.reduceLeDiff,Nat.reduceAdd,Nat.reduceMul,Nat.reduceSub,Nat.reduceEqDiff,Nat.reduceBEq,Int.reduceToNat,Int.reduceBEq,Int.reduceBNe,hd,cb,x9,z10,x12,j12,h,h2,h3];(repeat refine ⟨by omega,?_⟩);(first | (refine j4 (hK _ ?_);clear hK K;show AWP _ _ _ _ _) | (refine q9 (hK _ _ j8 ?_);clear hK K;show AWP _ _ _ _ _))
    refine j9 ⟨_,?_,rfl⟩;rw [Tryz.results104];simp (disch:=omega) only [ResVars,ResVar,ptrLoc,go_sem,↓reduceIte,reduceCtorEq,Nat.reduceLT,Nat.reducePow,Nat.reduceLeDiff,Nat.reduceAdd,Nat.reduceMul,Nat.reduceSub,Nat.reduceEqDiff,Nat.reduceBEq,Int.reduceToNat,Int.reduceBEq,Int.reduceBNe,hd,cb,x9,z10,x12,j12,h,h2,h3]
    (first | done | rfl | (refine ⟨?_,?_⟩ <;> rfl))
   ·(repeat refine j0 ?_);refine j15 rfl (fun ht => absurd ht (by decide)) (fun _ => ?_);refine j5 ?_;show AWP _ _ _ _ _
    (repeat refine j0 ?_);(first | refine x5 fun K hK => ?_ | refine x8 fun K hK => ?_)
    (first | refine j11 [] _ _ ?_ | refine x13 [] _ _ _ ?_);simp (disch:=omega) only [go_sem,↓reduceIte,reduceCtorEq,Nat.reduceLT,Nat.reducePow,Nat.reduceLeDiff,Nat.reduceAdd,Nat.reduceMul,Nat.reduceSub,Nat.reduceEqDiff,Nat.reduceBEq,Int.reduceToNat,Int.reduceBEq,Int.reduceBNe,hd,cb,x9,z10,x12,j12,h,h2,h3];(repeat refine ⟨by omega,?_⟩)
    (first | refine x10 rfl rfl rfl ?_ | refine q13 rfl rfl rfl ?_);simp (disch:=omega) only [go_sem,↓reduceIte,reduceCtorEq,Nat.reduceLT,Nat.reducePow,Nat.reduceLeDiff,Nat.reduceAdd,Nat.reduceMul,Nat.reduceSub,Nat.reduceEqDiff,Nat.reduceBEq,Int.reduceToNat,Int.reduceBEq,Int.reduceBNe,hd,cb,x9,z10,x12,j12,h,h2,h3]
    refine ⟨_,Or_c a.v b.v,?_⟩
    (first | refine j11 [] _ _ ?_ | refine x13 [] _ _ _ ?_);simp (disch:=omega) only [go_sem,↓reduceIte,reduceCtorEq,Nat.reduceLT,Nat.reducePow,Nat.reduceLeDiff,Nat.reduceAdd,Nat.reduceMul,Nat.reduceSub,Nat.reduceEqDiff,Nat.reduceBEq,Int.reduceToNat,Int.reduceBEq,Int.reduceBNe,hd,cb,x9,z10,x12,j12,h,h2,h3];(repeat refine ⟨by omega,?_⟩)
    (first | refine x10 rfl rfl rfl ?_ | refine q13 rfl rfl rfl ?_);simp (disch:=omega) only [go_sem,↓reduceIte,reduceCtorEq,Nat.reduceLT,Nat.reducePow,Nat.reduceLeDiff,Nat.reduceAdd,Nat.reduceMul,Nat.reduceSub,Nat.reduceEqDiff,Nat.reduceBEq,Int.reduceToNat,Int.reduceBEq,Int.reduceBNe,hd,cb,x9,z10,x12,j12,h,h2,h3]
    refine ⟨_,Or_c a.c b.c,?_⟩
    (first | refine j11 [] _ _ ?_ | refine x13 [] _ _ _ ?_);simp (disch:=omega) only [go_sem,↓reduceIte,reduceCtorEq,Nat.reduceLT,Nat.reducePow,Nat.reduceLeDiff,Nat.reduceAdd,Nat.reduceMul,Nat.reduceSub,Nat.reduceEqDiff,Nat.reduceBEq,Int.reduceToNat,Int.reduceBEq,Int.reduceBNe,hd,cb,x9,z10,x12,j12,h,h2,h3];(repeat refine ⟨by omega,?_⟩)
    (first | (refine j4 (hK _ ?_);clear hK K;show AWP _ _ _ _ _) | (refine q9 (hK _ _ j8 ?_);clear hK K;show AWP _ _ _ _ _))
    refine j9 ⟨_,?_,rfl⟩;rw [Tryz.results104];simp (disch:=omega) only [ResVars,ResVar,ptrLoc,go_sem,↓reduceIte,reduceCtorEq,Nat.reduceLT,Nat.reducePow,Nat.reduceLeDiff,Nat.reduceAdd,Nat.reduceMul,Nat.reduceSub,Nat.reduceEqDiff,Nat.reduceBEq,Int.reduceToNat,Int.reduceBEq,Int.reduceBNe,hd,cb,x9,z10,x12,j12,h,h2,h3]
theorem x159 (a b : Cube) : ACalls Tryz.prog 191 [.agg (cb a),.agg (cb b)] (· = [.d (.v (.bool (withinC a b)))]) := by
 unfold withinC
 cases h : a.sound
 ·refine q12 Tryz.func191 rfl (by decide +kernel) (by rw [Tryz.ntmps191];simp) ?_;rw [Tryz.ntmps191];simp only [frOf]
  (repeat refine j0 ?_);refine x5 fun K hK => ?_;refine j11 [] _ _ ?_;simp (disch:=omega) only [go_sem,↓reduceIte,reduceCtorEq,Nat.reduceLT,Nat.reduceAdd,Nat.reduceEqDiff,hd,cb,x9,z10,x12,j12,h];(repeat refine ⟨by omega,?_⟩);(refine j4 (hK _ ?_);clear hK K;show AWP _ _ _ _ _)
  (repeat refine j0 ?_);refine x5 fun K hK => ?_
  refine j11 [] _ _ ?_;simp (disch:=omega) only [go_sem,↓reduceIte,reduceCtorEq,Nat.reduceLT,Nat.reduceAdd,Nat.reduceEqDiff,hd,cb,x9,z10,x12,j12,h];(repeat refine ⟨by omega,?_⟩)
  refine x10 rfl rfl rfl ?_;simp (disch:=omega) only [go_sem,↓reduceIte,reduceCtorEq,Nat.reduceLT,Nat.reduceAdd,Nat.reduceEqDiff,hd,cb,x9,z10,x12,j12,h]
  refine ⟨_,q19 a,?_⟩
  refine j11 [] _ _ ?_;simp (disch:=omega) only [go_sem,↓reduceIte,reduceCtorEq,Nat.reduceLT,Nat.reduceAdd,Nat.reduceEqDiff,hd,cb,x9,z10,x12,j12,h];(repeat refine ⟨by omega,?_⟩)
  (refine j4 (hK _ ?_);clear hK K;show AWP _ _ _ _ _)
  refine j9 ⟨_,?_,rfl⟩;rw [Tryz.results191];simp (disch:=omega) only [ResVars,ResVar,ptrLoc,go_sem,↓reduceIte,reduceCtorEq,Nat.reduceLT,Nat.reduceAdd,Nat.reduceEqDiff,hd,cb,x9,z10,x12,j12,h]
 ·cases h2 : b.sound
  ·refine q12 Tryz.func191 rfl (by decide +kernel) (by rw [Tryz.ntmps191];simp) ?_;rw [Tryz.ntmps191];simp only [frOf]
   (repeat refine j0 ?_);refine x5 fun K hK => ?_;refine j11 [] _ _ ?_;simp (disch:=omega) only [go_sem,↓reduceIte,reduceCtorEq,Nat.reduceLT,Nat.reduceAdd,Nat.reduceEqDiff,hd,cb,x9,z10,x12,j12,h,h2];(repeat refine ⟨by omega,?_⟩);(refine j4 (hK _ ?_);clear hK K;show AWP _ _ _ _ _)
   (repeat refine j0 ?_);refine x5 fun K hK => ?_
   refine j11 [] _ _ ?_;simp (disch:=omega) only [go_sem,↓reduceIte,reduceCtorEq,Nat.reduceLT,Nat.reduceAdd,Nat.reduceEqDiff,hd,cb,x9,z10,x12,j12,h,h2];(repeat refine ⟨by omega,?_⟩)
   refine x10 rfl rfl rfl ?_;simp (disch:=omega) only [go_sem,↓reduceIte,reduceCtorEq,Nat.reduceLT,Nat.reduceAdd,Nat.reduceEqDiff,hd,cb,x9,z10,x12,j12,h,h2]
   refine ⟨_,q19 a,?_⟩
   refine j11 [] _ _ ?_;simp (disch:=omega) only [go_sem,↓reduceIte,reduceCtorEq,Nat.reduceLT,Nat.reduceAdd,Nat.reduceEqDiff,hd,cb,x9,z10,x12,j12,h,h2];(repeat refine ⟨by omega,?_⟩)
   refine x10 rfl rfl rfl ?_;simp (disch:=omega) only [go_sem,↓reduceIte,reduceCtorEq,Nat.reduceLT,Nat.reduceAdd,Nat.reduceEqDiff,hd,cb,x9,z10,x12,j12,h,h2]
   refine ⟨_,q19 b,?_⟩
   refine j11 [] _ _ ?_;simp (disch:=omega) only [go_sem,↓reduceIte,reduceCtorEq,Nat.reduceLT,Nat.reduceAdd,Nat.reduceEqDiff,hd,cb,x9,z10,x12,j12,h,h2];(repeat refine ⟨by omega,?_⟩)
   (refine j4 (hK _ ?_);clear hK K;show AWP _ _ _ _ _)
   refine j9 ⟨_,?_,rfl⟩;rw [Tryz.results191];simp (disch:=omega) only [ResVars,ResVar,ptrLoc,go_sem,↓reduceIte,reduceCtorEq,Nat.reduceLT,Nat.reduceAdd,Nat.reduceEqDiff,hd,cb,x9,z10,x12,j12,h,h2]
  ·cases h3 : b.c &&& ~~~a.c == 0
   ·refine q12 Tryz.func191 rfl (by decide +kernel) (by rw [Tryz.ntmps191];simp) ?_;rw [Tryz.ntmps191];simp only [frOf]
    (repeat refine j0 ?_);refine x5 fun K hK => ?_;refine j11 [] _ _ ?_;simp (disch:=omega) only [go_sem,↓reduceIte,reduceCtorEq,Nat.reduceLT,Nat.reduceAdd,Nat.reduceEqDiff,hd,cb,x9,z10,x12,j12,h,h2,h3];(repeat refine ⟨by omega,?_⟩);(refine j4 (hK _ ?_);clear hK K;show AWP _ _ _ _ _)
    (repeat refine j0 ?_);refine x5 fun K hK => ?_
    refine j11 [] _ _ ?_;simp (disch:=omega) only [go_sem,↓reduceIte,reduceCtorEq,Nat.reduceLT,Nat.reduceAdd,Nat.reduceEqDiff,hd,cb,x9,z10,x12,j12,h,h2,h3];(repeat refine ⟨by omega,?_⟩)
    refine x10 rfl rfl rfl ?_;simp (disch:=omega) only [go_sem,↓reduceIte,reduceCtorEq,Nat.reduceLT,Nat.reduceAdd,Nat.reduceEqDiff,hd,cb,x9,z10,x12,j12,h,h2,h3]
    refine ⟨_,q19 a,?_⟩
    refine j11 [] _ _ ?_;simp (disch:=omega) only [go_sem,↓reduceIte,reduceCtorEq,Nat.reduceLT,Nat.reduceAdd,Nat.reduceEqDiff,hd,cb,x9,z10,x12,j12,h,h2,h3];(repeat refine ⟨by omega,?_⟩)
    refine x10 rfl rfl rfl ?_;simp (disch:=omega) only [go_sem,↓reduceIte,reduceCtorEq,Nat.reduceLT,Nat.reduceAdd,Nat.reduceEqDiff,hd,cb,x9,z10,x12,j12,h,h2,h3]
    refine ⟨_,q19 b,?_⟩
    refine j11 [] _ _ ?_;simp (disch:=omega) only [go_sem,↓reduceIte,reduceCtorEq,Nat.reduceLT,Nat.reduceAdd,Nat.reduceEqDiff,hd,cb,x9,z10,x12,j12,h,h2,h3];(repeat refine ⟨by omega,?_⟩)
    refine x10 rfl rfl rfl ?_;simp (disch:=omega) only [go_sem,↓reduceIte,reduceCtorEq,Nat.reduceLT,Nat.reduceAdd,Nat.reduceEqDiff,hd,cb,x9,z10,x12,j12,h,h2,h3]
    refine ⟨_,x58 b.c a.c,?_⟩
    refine j11 [] _ _ ?_;simp (disch:=omega) only [go_sem,↓reduceIte,reduceCtorEq,Nat.reduceLT,Nat.reduceAdd,Nat.reduceEqDiff,hd,cb,x9,z10,x12,j12,h,h2,h3];(repeat refine ⟨by omega,?_⟩)
    refine x10 rfl rfl rfl ?_;simp (disch:=omega) only [go_sem,↓reduceIte,reduceCtorEq,Nat.reduceLT,Nat.reduceAdd,Nat.reduceEqDiff,hd,cb,x9,z10,x12,j12,h,h2,h3]
    refine ⟨_,q43 _,?_⟩
    refine j11 [] _ _ ?_;simp (disch:=omega) only [go_sem,↓reduceIte,reduceCtorEq,Nat.reduceLT,Nat.reduceAdd,Nat.reduceEqDiff,hd,cb,x9,z10,x12,j12,h,h2,h3];(repeat refine ⟨by omega,?_⟩)
    (refine j4 (hK _ ?_);clear hK K;show AWP _ _ _ _ _)
    refine j9 ⟨_,?_,rfl⟩;rw [Tryz.results191];simp (disch:=omega) only [ResVars,ResVar,ptrLoc,go_sem,↓reduceIte,reduceCtorEq,Nat.reduceLT,Nat.reduceAdd,Nat.reduceEqDiff,hd,cb,x9,z10,x12,j12,h,h2,h3]
   ·refine q12 Tryz.func191 rfl (by decide +kernel) (by rw [Tryz.ntmps191];simp) ?_;rw [Tryz.ntmps191];simp only [frOf]
    (repeat refine j0 ?_);refine x5 fun K hK => ?_;refine j11 [] _ _ ?_;simp (disch:=omega) only [go_sem,↓reduceIte,reduceCtorEq,Nat.reduceLT,Nat.reduceAdd,Nat.reduceEqDiff,hd,cb,x9,z10,x12,j12,h,h2,h3];(repeat refine ⟨by omega,?_⟩);(refine j4 (hK _ ?_);clear hK K;show AWP _ _ _ _ _)
    (repeat refine j0 ?_);refine x5 fun K hK => ?_
    refine j11 [] _ _ ?_;simp (disch:=omega) only [go_sem,↓reduceIte,reduceCtorEq,Nat.reduceLT,Nat.reduceAdd,Nat.reduceEqDiff,hd,cb,x9,z10,x12,j12,h,h2,h3];(repeat refine ⟨by omega,?_⟩)
    refine x10 rfl rfl rfl ?_;simp (disch:=omega) only [go_sem,↓reduceIte,reduceCtorEq,Nat.reduceLT,Nat.reduceAdd,Nat.reduceEqDiff,hd,cb,x9,z10,x12,j12,h,h2,h3]
    refine ⟨_,q19 a,?_⟩
    refine j11 [] _ _ ?_;simp (disch:=omega) only [go_sem,↓reduceIte,reduceCtorEq,Nat.reduceLT,Nat.reduceAdd,Nat.reduceEqDiff,hd,cb,x9,z10,x12,j12,h,h2,h3];(repeat refine ⟨by omega,?_⟩)
    refine x10 rfl rfl rfl ?_;simp (disch:=omega) only [go_sem,↓reduceIte,reduceCtorEq,Nat.reduceLT,Nat.reduceAdd,Nat.reduceEqDiff,hd,cb,x9,z10,x12,j12,h,h2,h3]
    refine ⟨_,q19 b,?_⟩
    refine j11 [] _ _ ?_;simp (disch:=omega) only [go_sem,↓reduceIte,reduceCtorEq,Nat.reduceLT,Nat.reduceAdd,Nat.reduceEqDiff,hd,cb,x9,z10,x12,j12,h,h2,h3];(repeat refine ⟨by omega,?_⟩)
    refine x10 rfl rfl rfl ?_;simp (disch:=omega) only [go_sem,↓reduceIte,reduceCtorEq,Nat.reduceLT,Nat.reduceAdd,Nat.reduceEqDiff,hd,cb,x9,z10,x12,j12,h,h2,h3]
    refine ⟨_,x58 b.c a.c,?_⟩
    refine j11 [] _ _ ?_;simp (disch:=omega) only [go_sem,↓reduceIte,reduceCtorEq,Nat.reduceLT,Nat.reduceAdd,Nat.reduceEqDiff,hd,cb,x9,z10,x12,j12,h,h2,h3];(repeat refine ⟨by omega,?_⟩)
    refine x10 rfl rfl rfl ?_;simp (disch:=omega) only [go_sem,↓reduceIte,reduceCtorEq,Nat.reduceLT,Nat.reduceAdd,Nat.reduceEqDiff,hd,cb,x9,z10,x12,j12,h,h2,h3]
    refine ⟨_,q43 _,?_⟩
    refine j11 [] _ _ ?_;simp (disch:=omega) only [go_sem,↓reduceIte,reduceCtorEq,Nat.reduceLT,Nat.reduceAdd,Nat.reduceEqDiff,hd,cb,x9,z10,x12,j12,h,h2,h3];(repeat refine ⟨by omega,?_⟩)
    refine x10 rfl rfl rfl ?_;simp (disch:=omega) only [go_sem,↓reduceIte,reduceCtorEq,Nat.reduceLT,Nat.reduceAdd,Nat.reduceEqDiff,hd,cb,x9,z10,x12,j12,h,h2,h3]
    refine ⟨_,q101 a b,?_⟩
    refine j11 [] _ _ ?_;simp (disch:=omega) only [go_sem,↓reduceIte,reduceCtorEq,Nat.reduceLT,Nat.reduceAdd,Nat.reduceEqDiff,hd,cb,x9,z10,x12,j12,h,h2,h3];(repeat refine ⟨by omega,?_⟩)
    refine x10 rfl rfl rfl ?_;simp (disch:=omega) only [go_sem,↓reduceIte,reduceCtorEq,Nat.reduceLT,Nat.reduceAdd,Nat.reduceEqDiff,hd,cb,x9,z10,x12,j12,h,h2,h3]
    refine ⟨_,q43 _,?_⟩
    refine j11 [] _ _ ?_;simp (disch:=omega) only [go_sem,↓reduceIte,reduceCtorEq,Nat.reduceLT,Nat.reduceAdd,Nat.reduceEqDiff,hd,cb,x9,z10,x12,j12,h,h2,h3];(repeat refine ⟨by omega,?_⟩)
    (refine j4 (hK _ ?_);clear hK K;show AWP _ _ _ _ _)
    refine j9 ⟨_,?_,rfl⟩;rw [Tryz.results191];simp (disch:=omega) only [ResVars,ResVar,ptrLoc,go_sem,↓reduceIte,reduceCtorEq,Nat.reduceLT,Nat.reduceAdd,Nat.reduceEqDiff,hd,cb,x9,z10,x12,j12,h,h2,h3]
structure Rule where
 pr : Int
 mt : Cube
 kd : Int
 pt : Int
 tb : Int
 st : Cube
deriving DecidableEq
structure Port where
 kd : Int
 tn : Int
 pe : Int
 at' : Int
 co : Int
deriving DecidableEq
def ruleD (r : Rule) : List Dat := [.v (.int .i64 r.pr),.v (.int .u64 (hi r.mt.v)),.v (.int .u64 (lo r.mt.v)),.v (.int .u64 (hi r.mt.c)),.v (.int .u64 (lo r.mt.c)),.v (.int .i64 r.kd),.v (.int .i64 r.pt),.v (.int .i64 r.tb),
 .v (.int .u64 (hi r.st.v)),.v (.int .u64 (lo r.st.v)),.v (.int .u64 (hi r.st.c)),.v (.int .u64 (lo r.st.c))]
def portD (p : Port) : List Dat := [.v (.int .i64 p.kd),.v (.int .i64 p.tn),.v (.int .i64 p.pe),.v (.int .i64 p.at'),.v (.int .i64 p.co)]
def r0 : Rule := ⟨0,⟨0,0⟩,0,0,0,⟨0,0⟩⟩
def p0 : Port := ⟨0,0,0,0,0⟩
def rowR (l : List Rule) : Nat → List Dat := fun i => ruleD (l.getD i r0)
def rowP (l : List Port) : Nat → List Dat := fun i => portD (l.getD i p0)
theorem x21 (l : List Rule) (i : Nat) : rowR l i = ruleD (l.getD i r0) := rfl
theorem j24 (l : List Port) (i : Nat) : rowP l i = portD (l.getD i p0) := rfl
theorem j159 (a b : Rule) : eqI [a.pr,hi a.mt.v,lo a.mt.v,hi a.mt.c,lo a.mt.c,a.kd,a.pt,a.tb,hi a.st.v,lo a.st.v,hi a.st.c,lo a.st.c] [b.pr,hi b.mt.v,lo b.mt.v,hi b.mt.c,lo b.mt.c,b.kd,b.pt,b.tb,hi b.st.v,lo b.st.v,hi b.st.c,lo b.st.c] = (a == b) := by
 obtain ⟨a1,⟨a2,a3⟩,a4,a5,a6,⟨a7,a8⟩⟩ := a
 obtain ⟨b1,⟨b2,b3⟩,b4,b5,b6,⟨b7,b8⟩⟩ := b
 rw [Bool.eq_iff_iff]
 have e : ∀ x y : BitVec 128,((hi x == hi y) && (lo x == lo y)) = true ↔ x = y := fun x y => by rw [q97];exact beq_iff_eq
 simp only [Bool.and_eq_true,beq_iff_eq] at e
 simp only [eqI,Bool.and_eq_true,beq_iff_eq,Bool.and_true,Rule.mk.injEq,Cube.mk.injEq]
 rw [← e a2 b2,← e a3 b3,← e a7 b7,← e a8 b8]
 constructor
 ·rintro ⟨h1,h2,h3,h4,h5,h6,h7,h8,h9,h10,h11,h12⟩;exact ⟨h1,⟨⟨h2,h3⟩,h4,h5⟩,h6,h7,h8,⟨h9,h10⟩,h11,h12⟩
 ·rintro ⟨h1,⟨⟨h2,h3⟩,h4,h5⟩,h6,h7,h8,⟨h9,h10⟩,h11,h12⟩;exact ⟨h1,h2,h3,h4,h5,h6,h7,h8,h9,h10,h11,h12⟩
theorem j37 (a : Int) : ACalls Tryz.prog 164 [.d (.v (.int .i64 a))] (· = [.d (.v (.bool false))]) := by
 have q : (a != a) = false := bne_self_eq_false a
 refine q12 Tryz.func164 rfl (by decide +kernel) (by rw [Tryz.ntmps164];simp) ?_;rw [Tryz.ntmps164];simp only [frOf]
 (repeat (first | apply j0 | refine z7 rfl ?_ | refine x7 rfl ?_ | apply j6 | (refine x5 fun K hK => ?_) | ((first | apply j5 | apply x6 | (refine j4 (hK _ ?_);clear hK K));show AWP _ _ _ _ _) | (refine j7 [] rfl ?_;simp (disch:=omega) only [go_sem,seval,hd,cb,ruleD,portD,z13,q];(repeat refine ⟨by omega,?_⟩))))
 refine j9 ⟨_,?_,rfl⟩;rw [Tryz.results164];simp (disch:=omega) only [ResVars,ResVar,ptrLoc,go_sem,seval,hd,cb,ruleD,portD,z13,q]
def cmpI (a b : Int) : Int := if a < b then -1 else if b < a then 1 else 0
theorem j58 (a b : Int) : ACalls Tryz.prog 140 [.d (.v (.int .i64 a)),.d (.v (.int .i64 b))] (· = [.d (.v (.int .i64 (cmpI a b)))]) := by
 unfold cmpI
 by_cases h1 : a < b
 ·rw [if_pos h1]
  refine q12 Tryz.func140 rfl (by decide +kernel) (by rw [Tryz.ntmps140];simp) ?_;rw [Tryz.ntmps140];simp only [frOf]
  (repeat (first | apply j0 | refine z7 rfl ?_ | refine x7 rfl ?_ | apply j6 | (refine x5 fun K hK => ?_) | ((first | apply j5 | apply x6 | (refine j4 (hK _ ?_);clear hK K));show AWP _ _ _ _ _) | (refine x10 rfl rfl rfl ?_;simp (disch:=omega) only [go_sem,seval,hd,cb,ruleD,portD,z13];(first | refine ⟨_,j37 a,?_⟩ | refine ⟨_,j37 b,?_⟩)) | (refine j7 [] rfl ?_;simp (disch:=omega) only [go_sem,seval,hd,cb,ruleD,portD,z13];(repeat refine ⟨by omega,?_⟩))))
  refine j9 ⟨_,?_,rfl⟩;rw [Tryz.results140];simp (disch:=omega) only [ResVars,ResVar,ptrLoc,go_sem,seval,hd,cb,ruleD,portD,z13]
 ·rw [if_neg h1]
  by_cases h2 : b < a
  ·rw [if_pos h2]
   refine q12 Tryz.func140 rfl (by decide +kernel) (by rw [Tryz.ntmps140];simp) ?_;rw [Tryz.ntmps140];simp only [frOf]
   (repeat (first | apply j0 | refine z7 rfl ?_ | refine x7 rfl ?_ | apply j6 | (refine x5 fun K hK => ?_) | ((first | apply j5 | apply x6 | (refine j4 (hK _ ?_);clear hK K));show AWP _ _ _ _ _) | (refine x10 rfl rfl rfl ?_;simp (disch:=omega) only [go_sem,seval,hd,cb,ruleD,portD,z13];(first | refine ⟨_,j37 a,?_⟩ | refine ⟨_,j37 b,?_⟩)) | (refine j7 [] rfl ?_;simp (disch:=omega) only [go_sem,seval,hd,cb,ruleD,portD,z13];(repeat refine ⟨by omega,?_⟩))))
   refine j9 ⟨_,?_,rfl⟩;rw [Tryz.results140];simp (disch:=omega) only [ResVars,ResVar,ptrLoc,go_sem,seval,hd,cb,ruleD,portD,z13]
  ·rw [if_neg h2]
   refine q12 Tryz.func140 rfl (by decide +kernel) (by rw [Tryz.ntmps140];simp) ?_;rw [Tryz.ntmps140];simp only [frOf]
   (repeat (first | apply j0 | refine z7 rfl ?_ | refine x7 rfl ?_ | apply j6 | (refine x5 fun K hK => ?_) | ((first | apply j5 | apply x6 | (refine j4 (hK _ ?_);clear hK K));show AWP _ _ _ _ _) | (refine x10 rfl rfl rfl ?_;simp (disch:=omega) only [go_sem,seval,hd,cb,ruleD,portD,z13];(first | refine ⟨_,j37 a,?_⟩ | refine ⟨_,j37 b,?_⟩)) | (refine j7 [] rfl ?_;simp (disch:=omega) only [go_sem,seval,hd,cb,ruleD,portD,z13];(repeat refine ⟨by omega,?_⟩))))
   refine j9 ⟨_,?_,rfl⟩;rw [Tryz.results140];simp (disch:=omega) only [ResVars,ResVar,ptrLoc,go_sem,seval,hd,cb,ruleD,portD,z13]
def portR (r : Rule) (k : Int) (ps : List Port) : Bool := r.tb == 0 && decide (0 ≤ r.pt) && decide (r.pt < ps.length) && (ps.getD r.pt.toNat p0).kd == k
def doesR (r : Rule) (t : Int) (ps : List Port) : Bool :=
 if r.kd = 1 then r.pt == 0 && r.tb == 0 else if r.kd = 2 then portR r 1 ps else if r.kd = 3 then portR r 2 ps else if r.kd = 4 then r.pt == 0 && decide (t < r.tb) && decide (r.tb < 3) else false
def soundR (r : Rule) (t : Int) (ps : List Port) : Bool := decide (0 ≤ r.pr) && decide (r.pr ≤ 1048576) && r.mt.sound && r.st.sound && doesR r t ps
theorem x101 (r : Rule) (k : Int) (ps : List Port) (hl : ps.length ≤ 9223372036854775807) : ACalls Tryz.prog 198 [.agg (ruleD r),.d (.v (.int .i64 k)),.d (.sl 5 ps.length (rowP ps))] (· = [.d (.v (.bool (portR r k ps)))]) := by
 obtain ⟨pr,mt,kd,pt,tb,st⟩ := r
 unfold portR
 simp only []
 by_cases h1 : tb = 0
 ·subst h1
  by_cases h2 : 0 ≤ pt
  ·obtain ⟨n,rfl⟩ := Int.eq_ofNat_of_zero_le h2
   by_cases h3 : n < ps.length
   ·have r1 := j24 ps n
    rw [decide_eq_true h2,decide_eq_true (show (n : Int) < ps.length by omega),Int.toNat_natCast]
    generalize ps.getD n p0 = p at r1
    simp only [beq_self_eq_true,Bool.true_and]
    refine q12 Tryz.func198 rfl (by decide +kernel) (by rw [Tryz.ntmps198];simp) ?_;rw [Tryz.ntmps198];simp only [frOf]
    (repeat (first | apply j0 | refine z7 rfl ?_ | refine x7 rfl ?_ | apply j6 | (refine x5 fun K hK => ?_) | ((first | apply j5 | apply x6 | (refine j4 (hK _ ?_);clear hK K));show AWP _ _ _ _ _) | (refine j7 [] rfl ?_;simp (disch:=omega) only [go_sem,seval,hd,cb,ruleD,portD,z13,r1];(repeat refine ⟨by omega,?_⟩))))
    refine j9 ⟨_,?_,rfl⟩;rw [Tryz.results198];simp (disch:=omega) only [ResVars,ResVar,ptrLoc,go_sem,seval,hd,cb,ruleD,portD,z13,r1]
   ·rw [decide_eq_true h2,decide_eq_false (show ¬ (n : Int) < ps.length by omega)]
    simp only [Bool.and_false,Bool.false_and]
    refine q12 Tryz.func198 rfl (by decide +kernel) (by rw [Tryz.ntmps198];simp) ?_;rw [Tryz.ntmps198];simp only [frOf]
    (repeat (first | apply j0 | refine z7 rfl ?_ | refine x7 rfl ?_ | apply j6 | (refine x5 fun K hK => ?_) | ((first | apply j5 | apply x6 | (refine j4 (hK _ ?_);clear hK K));show AWP _ _ _ _ _) | (refine j7 [] rfl ?_;simp (disch:=omega) only [go_sem,seval,hd,cb,ruleD,portD,z13];(repeat refine ⟨by omega,?_⟩))))
    refine j9 ⟨_,?_,rfl⟩;rw [Tryz.results198];simp (disch:=omega) only [ResVars,ResVar,ptrLoc,go_sem,seval,hd,cb,ruleD,portD,z13]
  ·rw [decide_eq_false h2]
   simp only [Bool.and_false,Bool.false_and]
   refine q12 Tryz.func198 rfl (by decide +kernel) (by rw [Tryz.ntmps198];simp) ?_;rw [Tryz.ntmps198];simp only [frOf]
   (repeat (first | apply j0 | refine z7 rfl ?_ | refine x7 rfl ?_ | apply j6 | (refine x5 fun K hK => ?_) | ((first | apply j5 | apply x6 | (refine j4 (hK _ ?_);clear hK K));show AWP _ _ _ _ _) | (refine j7 [] rfl ?_;simp (disch:=omega) only [go_sem,seval,hd,cb,ruleD,portD,z13];(repeat refine ⟨by omega,?_⟩))))
   refine j9 ⟨_,?_,rfl⟩;rw [Tryz.results198];simp (disch:=omega) only [ResVars,ResVar,ptrLoc,go_sem,seval,hd,cb,ruleD,portD,z13]
 ·have q : (tb == 0) = false := by simpa using h1
  rw [q]
  simp only [Bool.false_and]
  refine q12 Tryz.func198 rfl (by decide +kernel) (by rw [Tryz.ntmps198];simp) ?_;rw [Tryz.ntmps198];simp only [frOf]
  (repeat (first | apply j0 | refine z7 rfl ?_ | refine x7 rfl ?_ | apply j6 | (refine x5 fun K hK => ?_) | ((first | apply j5 | apply x6 | (refine j4 (hK _ ?_);clear hK K));show AWP _ _ _ _ _) | (refine j7 [] rfl ?_;simp (disch:=omega) only [go_sem,seval,hd,cb,ruleD,portD,z13,q];(repeat refine ⟨by omega,?_⟩))))
  refine j9 ⟨_,?_,rfl⟩;rw [Tryz.results198];simp (disch:=omega) only [ResVars,ResVar,ptrLoc,go_sem,seval,hd,cb,ruleD,portD,z13,q]
theorem does_c (r : Rule) (t : Int) (ps : List Port) (hl : ps.length ≤ 9223372036854775807) : ACalls Tryz.prog 181 [.agg (ruleD r),.d (.v (.int .i64 t)),.d (.sl 5 ps.length (rowP ps))] (· = [.d (.v (.bool (doesR r t ps)))]) := by
 have p1 := x101 r 1 ps hl
 have p2 := x101 r 2 ps hl
 unfold doesR
 generalize portR r 1 ps = b1 at p1
 generalize portR r 2 ps = b2 at p2
 obtain ⟨pr,mt,kd,pt,tb,st⟩ := r
 simp only [] at p1 p2 ⊢
 by_cases h1 : kd = 1
 ·subst h1
  by_cases h2 : pt = 0
  ·subst h2
   simp only [if_true,beq_self_eq_true,Bool.true_and]
   refine q12 Tryz.func181 rfl (by decide +kernel) (by rw [Tryz.ntmps181];simp) ?_;rw [Tryz.ntmps181];simp only [frOf]
   (repeat (first | apply j0 | refine z7 rfl ?_ | refine x7 rfl ?_ | apply j6 | (refine x5 fun K hK => ?_) | ((first | apply j5 | apply x6 | (refine j4 (hK _ ?_);clear hK K));show AWP _ _ _ _ _) | (refine j7 [] rfl ?_;simp (disch:=omega) only [go_sem,seval,hd,cb,ruleD,portD,z13];(repeat refine ⟨by omega,?_⟩))))
   refine j9 ⟨_,?_,rfl⟩;rw [Tryz.results181];simp (disch:=omega) only [ResVars,ResVar,ptrLoc,go_sem,seval,hd,cb,ruleD,portD,z13]
  ·have q : (pt == 0) = false := by simpa using h2
   rw [q]
   simp only [if_true,Bool.false_and]
   refine q12 Tryz.func181 rfl (by decide +kernel) (by rw [Tryz.ntmps181];simp) ?_;rw [Tryz.ntmps181];simp only [frOf]
   (repeat (first | apply j0 | refine z7 rfl ?_ | refine x7 rfl ?_ | apply j6 | (refine x5 fun K hK => ?_) | ((first | apply j5 | apply x6 | (refine j4 (hK _ ?_);clear hK K));show AWP _ _ _ _ _) | (refine j7 [] rfl ?_;simp (disch:=omega) only [go_sem,seval,hd,cb,ruleD,portD,z13,q];(repeat refine ⟨by omega,?_⟩))))
   refine j9 ⟨_,?_,rfl⟩;rw [Tryz.results181];simp (disch:=omega) only [ResVars,ResVar,ptrLoc,go_sem,seval,hd,cb,ruleD,portD,z13,q]
 ·rw [if_neg h1]
  have q1 : (kd == 1) = false := by simpa using h1
  by_cases h2 : kd = 2
  ·subst h2
   simp only [if_true]
   refine q12 Tryz.func181 rfl (by decide +kernel) (by rw [Tryz.ntmps181];simp) ?_;rw [Tryz.ntmps181];simp only [frOf]
   (repeat (first | apply j0 | refine z7 rfl ?_ | refine x7 rfl ?_ | apply j6 | (refine x5 fun K hK => ?_) | ((first | apply j5 | apply x6 | (refine j4 (hK _ ?_);clear hK K));show AWP _ _ _ _ _) | (refine x10 rfl rfl rfl ?_;simp (disch:=omega) only [go_sem,seval,hd,cb,ruleD,portD,z13];(first | refine ⟨_,p1,?_⟩)) | (refine j7 [] rfl ?_;simp (disch:=omega) only [go_sem,seval,hd,cb,ruleD,portD,z13];(repeat refine ⟨by omega,?_⟩))))
   refine j9 ⟨_,?_,rfl⟩;rw [Tryz.results181];simp (disch:=omega) only [ResVars,ResVar,ptrLoc,go_sem,seval,hd,cb,ruleD,portD,z13]
  ·rw [if_neg h2]
   have q2 : (kd == 2) = false := by simpa using h2
   by_cases h3 : kd = 3
   ·subst h3
    simp only [if_true]
    refine q12 Tryz.func181 rfl (by decide +kernel) (by rw [Tryz.ntmps181];simp) ?_;rw [Tryz.ntmps181];simp only [frOf]
    (repeat (first | apply j0 | refine z7 rfl ?_ | refine x7 rfl ?_ | apply j6 | (refine x5 fun K hK => ?_) | ((first | apply j5 | apply x6 | (refine j4 (hK _ ?_);clear hK K));show AWP _ _ _ _ _) | (refine x10 rfl rfl rfl ?_;simp (disch:=omega) only [go_sem,seval,hd,cb,ruleD,portD,z13];(first | refine ⟨_,p2,?_⟩)) | (refine j7 [] rfl ?_;simp (disch:=omega) only [go_sem,seval,hd,cb,ruleD,portD,z13];(repeat refine ⟨by omega,?_⟩))))
    refine j9 ⟨_,?_,rfl⟩;rw [Tryz.results181];simp (disch:=omega) only [ResVars,ResVar,ptrLoc,go_sem,seval,hd,cb,ruleD,portD,z13]
   ·rw [if_neg h3]
    have q3 : (kd == 3) = false := by simpa using h3
    by_cases h4 : kd = 4
    ·subst h4
     simp only [if_true]
     by_cases h5 : pt = 0
     ·subst h5
      by_cases h6 : t < tb
      ·rw [decide_eq_true h6]
       simp only [beq_self_eq_true,Bool.true_and]
       refine q12 Tryz.func181 rfl (by decide +kernel) (by rw [Tryz.ntmps181];simp) ?_;rw [Tryz.ntmps181];simp only [frOf]
       (repeat (first | apply j0 | refine z7 rfl ?_ | refine x7 rfl ?_ | apply j6 | (refine x5 fun K hK => ?_) | ((first | apply j5 | apply x6 | (refine j4 (hK _ ?_);clear hK K));show AWP _ _ _ _ _) | (refine j7 [] rfl ?_;simp (disch:=omega) only [go_sem,seval,hd,cb,ruleD,portD,z13];(repeat refine ⟨by omega,?_⟩))))
       refine j9 ⟨_,?_,rfl⟩;rw [Tryz.results181];simp (disch:=omega) only [ResVars,ResVar,ptrLoc,go_sem,seval,hd,cb,ruleD,portD,z13]
      ·rw [decide_eq_false h6]
       simp only [Bool.and_false,Bool.false_and]
       refine q12 Tryz.func181 rfl (by decide +kernel) (by rw [Tryz.ntmps181];simp) ?_;rw [Tryz.ntmps181];simp only [frOf]
       (repeat (first | apply j0 | refine z7 rfl ?_ | refine x7 rfl ?_ | apply j6 | (refine x5 fun K hK => ?_) | ((first | apply j5 | apply x6 | (refine j4 (hK _ ?_);clear hK K));show AWP _ _ _ _ _) | (refine j7 [] rfl ?_;simp (disch:=omega) only [go_sem,seval,hd,cb,ruleD,portD,z13];(repeat refine ⟨by omega,?_⟩))))
       refine j9 ⟨_,?_,rfl⟩;rw [Tryz.results181];simp (disch:=omega) only [ResVars,ResVar,ptrLoc,go_sem,seval,hd,cb,ruleD,portD,z13]
     ·have q : (pt == 0) = false := by simpa using h5
      rw [q]
      simp only [Bool.false_and]
      refine q12 Tryz.func181 rfl (by decide +kernel) (by rw [Tryz.ntmps181];simp) ?_;rw [Tryz.ntmps181];simp only [frOf]
      (repeat (first | apply j0 | refine z7 rfl ?_ | refine x7 rfl ?_ | apply j6 | (refine x5 fun K hK => ?_) | ((first | apply j5 | apply x6 | (refine j4 (hK _ ?_);clear hK K));show AWP _ _ _ _ _) | (refine j7 [] rfl ?_;simp (disch:=omega) only [go_sem,seval,hd,cb,ruleD,portD,z13,q];(repeat refine ⟨by omega,?_⟩))))
      refine j9 ⟨_,?_,rfl⟩;rw [Tryz.results181];simp (disch:=omega) only [ResVars,ResVar,ptrLoc,go_sem,seval,hd,cb,ruleD,portD,z13,q]
    ·rw [if_neg h4]
     have q4 : (kd == 4) = false := by simpa using h4
     refine q12 Tryz.func181 rfl (by decide +kernel) (by rw [Tryz.ntmps181];simp) ?_;rw [Tryz.ntmps181];simp only [frOf]
     (repeat (first | apply j0 | refine z7 rfl ?_ | refine x7 rfl ?_ | apply j6 | (refine x5 fun K hK => ?_) | ((first | apply j5 | apply x6 | (refine j4 (hK _ ?_);clear hK K));show AWP _ _ _ _ _) | (refine j7 [] rfl ?_;simp (disch:=omega) only [go_sem,seval,hd,cb,ruleD,portD,z13,q1,q2,q3,q4];(repeat refine ⟨by omega,?_⟩))))
     refine j9 ⟨_,?_,rfl⟩;rw [Tryz.results181];simp (disch:=omega) only [ResVars,ResVar,ptrLoc,go_sem,seval,hd,cb,ruleD,portD,z13,q1,q2,q3,q4]
theorem q160 (r : Rule) (t : Int) (ps : List Port) (hl : ps.length ≤ 9223372036854775807) : ACalls Tryz.prog 151 [.agg (ruleD r),.d (.v (.int .i64 t)),.d (.sl 5 ps.length (rowP ps))] (· = [.d (.v (.bool (soundR r t ps)))]) := by
 have d := does_c r t ps hl
 have s1 := q19 r.mt
 have s2 := q19 r.st
 unfold soundR
 generalize doesR r t ps = b at d
 generalize r.mt.sound = c1 at s1
 generalize r.st.sound = c2 at s2
 by_cases h1 : 0 ≤ r.pr
 ·by_cases h2 : r.pr ≤ 1048576
  ·rw [decide_eq_true h1,decide_eq_true h2]
   cases c1
   ·refine q12 Tryz.func151 rfl (by decide +kernel) (by rw [Tryz.ntmps151];simp) ?_;rw [Tryz.ntmps151];simp only [frOf]
    (repeat (first | apply j0 | refine z7 rfl ?_ | refine x7 rfl ?_ | apply j6 | (refine x5 fun K hK => ?_) | ((first | apply j5 | apply x6 | (refine j4 (hK _ ?_);clear hK K));show AWP _ _ _ _ _) | (refine x10 rfl rfl rfl ?_;simp (disch:=omega) only [go_sem,seval,hd,cb,ruleD,portD,z13];(first | refine ⟨_,s1,?_⟩ | refine ⟨_,s2,?_⟩ | refine ⟨_,d,?_⟩)) | (refine j7 [] rfl ?_;simp (disch:=omega) only [go_sem,seval,hd,cb,ruleD,portD,z13];(repeat refine ⟨by omega,?_⟩))))
    refine j9 ⟨_,?_,rfl⟩;rw [Tryz.results151];simp (disch:=omega) only [ResVars,ResVar,ptrLoc,go_sem,seval,hd,cb,ruleD,portD,z13]
   ·cases c2
    all_goals
     refine q12 Tryz.func151 rfl (by decide +kernel) (by rw [Tryz.ntmps151];simp) ?_;rw [Tryz.ntmps151];simp only [frOf]
     (repeat (first | apply j0 | refine z7 rfl ?_ | refine x7 rfl ?_ | apply j6 | (refine x5 fun K hK => ?_) | ((first | apply j5 | apply x6 | (refine j4 (hK _ ?_);clear hK K));show AWP _ _ _ _ _) | (refine x10 rfl rfl rfl ?_;simp (disch:=omega) only [go_sem,seval,hd,cb,ruleD,portD,z13];(first | refine ⟨_,s1,?_⟩ | refine ⟨_,s2,?_⟩ | refine ⟨_,d,?_⟩)) | (refine j7 [] rfl ?_;simp (disch:=omega) only [go_sem,seval,hd,cb,ruleD,portD,z13];(repeat refine ⟨by omega,?_⟩))))
     refine j9 ⟨_,?_,rfl⟩;rw [Tryz.results151];simp (disch:=omega) only [ResVars,ResVar,ptrLoc,go_sem,seval,hd,cb,ruleD,portD,z13]
  ·rw [decide_eq_true h1,decide_eq_false h2]
   refine q12 Tryz.func151 rfl (by decide +kernel) (by rw [Tryz.ntmps151];simp) ?_;rw [Tryz.ntmps151];simp only [frOf]
   (repeat (first | apply j0 | refine z7 rfl ?_ | refine x7 rfl ?_ | apply j6 | (refine x5 fun K hK => ?_) | ((first | apply j5 | apply x6 | (refine j4 (hK _ ?_);clear hK K));show AWP _ _ _ _ _) | (refine x10 rfl rfl rfl ?_;simp (disch:=omega) only [go_sem,seval,hd,cb,ruleD,portD,z13];(first | refine ⟨_,s1,?_⟩ | refine ⟨_,s2,?_⟩ | refine ⟨_,d,?_⟩)) | (refine j7 [] rfl ?_;simp (disch:=omega) only [go_sem,seval,hd,cb,ruleD,portD,z13];(repeat refine ⟨by omega,?_⟩))))
   refine j9 ⟨_,?_,rfl⟩;rw [Tryz.results151];simp (disch:=omega) only [ResVars,ResVar,ptrLoc,go_sem,seval,hd,cb,ruleD,portD,z13]
 ·rw [decide_eq_false h1]
  refine q12 Tryz.func151 rfl (by decide +kernel) (by rw [Tryz.ntmps151];simp) ?_;rw [Tryz.ntmps151];simp only [frOf]
  (repeat (first | apply j0 | refine z7 rfl ?_ | refine x7 rfl ?_ | apply j6 | (refine x5 fun K hK => ?_) | ((first | apply j5 | apply x6 | (refine j4 (hK _ ?_);clear hK K));show AWP _ _ _ _ _) | (refine x10 rfl rfl rfl ?_;simp (disch:=omega) only [go_sem,seval,hd,cb,ruleD,portD,z13];(first | refine ⟨_,s1,?_⟩ | refine ⟨_,s2,?_⟩ | refine ⟨_,d,?_⟩)) | (refine j7 [] rfl ?_;simp (disch:=omega) only [go_sem,seval,hd,cb,ruleD,portD,z13];(repeat refine ⟨by omega,?_⟩))))
  refine j9 ⟨_,?_,rfl⟩;rw [Tryz.results151];simp (disch:=omega) only [ResVars,ResVar,ptrLoc,go_sem,seval,hd,cb,ruleD,portD,z13]
def ruleSh : Sh := .pair (.int .i64) (.pair cubeSh (.pair (.pair (.int .i64) (.pair (.int .i64) (.pair (.int .i64) (.pair cubeSh .unit)))) .unit))
def portSh : Sh := .pair (.int .i64) (.pair (.int .i64) (.pair (.int .i64) (.pair (.int .i64) (.pair (.int .i64) .unit))))
def in64 (n : Int) : Prop := -9223372036854775808 ≤ n ∧ n < 9223372036854775808
def Rule.ok (r : Rule) : Prop := in64 r.pr ∧ in64 r.kd ∧ in64 r.pt ∧ in64 r.tb
def Port.ok (p : Port) : Prop := in64 p.kd ∧ in64 p.tn ∧ in64 p.pe ∧ in64 p.at' ∧ in64 p.co
theorem is_rule {N : Nat} {ds : List Dat} (h : Is N ruleSh ds) : ∃ r : Rule,ds = ruleD r ∧ r.ok := by
 obtain ⟨_,_,rfl,⟨a,rfl,wa⟩,_,_,rfl,hb,_,_,rfl,⟨_,_,rfl,⟨c,rfl,wc⟩,_,_,rfl,⟨d,rfl,wd⟩,_,_,rfl,⟨e,rfl,we⟩,_,_,rfl,hf,rfl⟩,rfl⟩ := h
 obtain ⟨x,rfl⟩ := is_cb hb
 obtain ⟨y,rfl⟩ := is_cb hf
 exact ⟨⟨a,x,c,d,e,y⟩,rfl,x22 wa,x22 wc,x22 wd,x22 we⟩
theorem is_port {N : Nat} {ds : List Dat} (h : Is N portSh ds) : ∃ p : Port,ds = portD p ∧ p.ok := by
 obtain ⟨_,_,rfl,⟨a,rfl,wa⟩,_,_,rfl,⟨b,rfl,wb⟩,_,_,rfl,⟨c,rfl,wc⟩,_,_,rfl,⟨d,rfl,wd⟩,_,_,rfl,⟨e,rfl,we⟩,rfl⟩ := h
 exact ⟨⟨a,b,c,d,e⟩,rfl,x22 wa,x22 wb,x22 wc,x22 wd,x22 we⟩
theorem z160 {N : Nat} {ds : List Dat} (h : Is N (.slice ruleSh) ds) : ∃ l : List Rule,ds = [.sl 12 l.length (rowR l)] ∧ l.length ≤ N ∧ ∀ r ∈ l,r.ok :=
 z33 ruleD r0 ruleSh (by simp only [ruleD,r0,z24,x24];rfl) (fun ds hd => is_rule hd) h
theorem x160 {N : Nat} {ds : List Dat} (h : Is N (.slice portSh) ds) : ∃ l : List Port,ds = [.sl 5 l.length (rowP l)] ∧ l.length ≤ N ∧ ∀ r ∈ l,r.ok :=
 z33 portD p0 portSh rfl (fun ds hd => is_port hd) h
theorem j160 {N : Nat} {ds : List Dat} (h : Is N (.slice ruleSh) ds) : ∃ l : List Rule,ds = [.sl 12 l.length (rowR l)] ∧ l.length ≤ N := by
 obtain ⟨l,h1,h2,_⟩ := z160 h;exact ⟨l,h1,h2⟩
theorem q161 {N : Nat} {ds : List Dat} (h : Is N (.slice portSh) ds) : ∃ l : List Port,ds = [.sl 5 l.length (rowP l)] ∧ l.length ≤ N := by
 obtain ⟨l,h1,h2,_⟩ := x160 h;exact ⟨l,h1,h2⟩
def rowPP (l : List (List Port)) : Nat → List Dat := fun i => [.sl 5 (l.getD i []).length (rowP (l.getD i []))]
theorem x20 (l : List (List Port)) (i : Nat) : rowPP l i = [.sl 5 (l.getD i []).length (rowP (l.getD i []))] := rfl
def topoD (t : List (List Port)) : List Dat := [.sl 1 t.length (rowPP t)]
structure Spot where
 sw : Int
 po : Int
deriving DecidableEq
def spotD (s : Spot) : List Dat := [.v (.int .i64 s.sw),.v (.int .i64 s.po)]
def s0 : Spot := ⟨0,0⟩
def rowS (l : List Spot) : Nat → List Dat := rowO spotD s0 l
def portT (t : List (List Port)) (n at' : Nat) : Bool :=
 let p := (t.getD n []).getD at' p0
 let q := (t.getD p.pe.toNat []).getD p.at'.toNat p0
 if p.kd = 0 then p.tn == 0 && p.pe == 0 && p.at' == 0 && p.co == 0
 else if p.kd = 1 then decide (0 ≤ p.tn) && decide (p.tn < 4) && p.pe == 0 && p.at' == 0 && p.co == 0
 else if p.kd = 2 ∧ p.tn = 0 ∧ 1 ≤ p.co ∧ p.co ≤ 1000 ∧ 0 ≤ p.pe ∧ p.pe < t.length ∧ p.pe ≠ n ∧ 0 ≤ p.at' ∧ p.at' < (t.getD p.pe.toNat []).length then
  q.kd == 2 && q.tn == 0 && q.pe == n && q.at' == at' && q.co == p.co
 else false
def small (t : List (List Port)) : Prop := t.length ≤ 1048576 ∧ ∀ l ∈ t,l.length ≤ 1048576
theorem q21 {t : List (List Port)} (h : small t) (i : Nat) : (t.getD i []).length ≤ 1048576 := by
 by_cases hi : i < t.length
 ·exact h.2 _ (q23 hi [])
 ·rw [List.getD_eq_getElem?_getD,List.getElem?_eq_none (by omega)];simp
theorem eqI_p0 (tn pe at' co : Int) : eqI [0,tn,pe,at',co] [0,0,0,0,0] = (tn == 0 && pe == 0 && at' == 0 && co == 0) := by simp [eqI,Bool.and_assoc]
theorem eqI_p1 (tn pe at' co : Int) : eqI [1,tn,pe,at',co] [1,tn,0,0,0] = (pe == 0 && at' == 0 && co == 0) := by simp [eqI,Bool.and_assoc]
theorem eqI_p2 (a b c d e n k co : Int) : eqI [a,b,c,d,e] [2,0,n,k,co] = (a == 2 && b == 0 && c == n && d == k && e == co) := by simp [eqI,Bool.and_assoc]
theorem j101 (tn co pe at' : Int) (N n : Nat) (m : Int) : tn ≠ 0 ∨ (tn = 0 ∧ co < 1) ∨ (tn = 0 ∧ ¬ co < 1 ∧ 1000 < co) ∨ (tn = 0 ∧ ¬ co < 1 ∧ ¬ 1000 < co ∧ pe < 0) ∨ (tn = 0 ∧ ¬ co < 1 ∧ ¬ 1000 < co ∧ 0 ≤ pe ∧ (N : Int) ≤ pe) ∨
  (tn = 0 ∧ ¬ co < 1 ∧ ¬ 1000 < co ∧ 0 ≤ pe ∧ pe < (N : Int) ∧ pe = (n : Int)) ∨ (tn = 0 ∧ ¬ co < 1 ∧ ¬ 1000 < co ∧ 0 ≤ pe ∧ pe < (N : Int) ∧ pe ≠ (n : Int) ∧ at' < 0) ∨
  (tn = 0 ∧ ¬ co < 1 ∧ ¬ 1000 < co ∧ 0 ≤ pe ∧ pe < (N : Int) ∧ pe ≠ (n : Int) ∧ 0 ≤ at' ∧ m ≤ at') ∨
  (tn = 0 ∧ ¬ co < 1 ∧ ¬ 1000 < co ∧ 0 ≤ pe ∧ pe < (N : Int) ∧ pe ≠ (n : Int) ∧ 0 ≤ at' ∧ at' < m) := by omega
set_option maxRecDepth 100000 in
theorem portT_c (t : List (List Port)) (n k : Nat) (ht : small t) (hn : n < t.length) (hk : k < (t.getD n []).length) : ACalls Tryz.prog 148 [.agg (topoD t),.d (.v (.int .i64 (n : Int))),.d (.v (.int .i64 (k : Int)))] (· = [.d (.v (.bool (portT t n k)))]) := by
 obtain ⟨ht1,ht2⟩ := ht
 have hs := q21 ⟨ht1,ht2⟩
 have l1 := hs n
 have r1 := x20 t n
 have r2 := j24 (t.getD n []) k
 unfold portT topoD
 generalize t.getD n [] = ps at r1 r2 hk l1
 generalize ps.getD k p0 = p at r2
 obtain ⟨kd,tn,pe,at',co⟩ := p
 simp only [portD] at r2 ⊢
 by_cases h0 : kd = 0
 ·subst h0
  rw [if_pos rfl]
  refine q12 Tryz.func148 rfl (by decide +kernel) (by rw [Tryz.ntmps148];simp) ?_;rw [Tryz.ntmps148];simp only [frOf]
  (repeat (first | apply j0 | refine z7 rfl ?_ | refine x7 rfl ?_ | apply j6 | (refine x5 fun K hK => ?_) | (refine x8 fun K hK => ?_) | ((first | apply j5 | apply x6 | ((first | refine j4 (hK _ ?_) | refine q9 (hK _ _ j8 ?_));clear hK K));show AWP _ _ _ _ _) | ((first | refine j7 [] rfl ?_ | refine q10 [] rfl ?_);simp (disch:=omega) only [go_sem,seval,portD,x15,z14,j14,x14,q14,r1,r2];(repeat (first | refine ⟨by omega,?_⟩ | refine ⟨True.intro,?_⟩)))))
  refine j9 ⟨_,?_,rfl⟩;rw [Tryz.results148];simp (disch:=omega) only [ResVars,ResVar,ptrLoc,go_sem,seval,portD,x15,z14,j14,x14,q14,r1,r2]
  rw [eqI_p0]
 ·rw [if_neg h0]
  by_cases h1 : kd = 1
  ·subst h1
   rw [if_pos rfl]
   have e := eqI_p1 tn pe at' co
   generalize hb : (pe == 0 && at' == 0 && co == 0) = b at e
   rw [Bool.and_assoc,Bool.and_assoc,← Bool.and_assoc (pe == 0),hb]
   cases b
   ·rw [Bool.and_false]
    refine q12 Tryz.func148 rfl (by decide +kernel) (by rw [Tryz.ntmps148];simp) ?_;rw [Tryz.ntmps148];simp only [frOf]
    (repeat (first | apply j0 | refine z7 rfl ?_ | refine x7 rfl ?_ | apply j6 | (refine x5 fun K hK => ?_) | (refine x8 fun K hK => ?_) | ((first | apply j5 | apply x6 | ((first | refine j4 (hK _ ?_) | refine q9 (hK _ _ j8 ?_));clear hK K));show AWP _ _ _ _ _) | ((first | refine j7 [] rfl ?_ | refine q10 [] rfl ?_);simp (disch:=omega) only [go_sem,seval,portD,x15,z14,j14,x14,q14,r1,r2,e];(repeat (first | refine ⟨by omega,?_⟩ | refine ⟨True.intro,?_⟩)))))
    refine j9 ⟨_,?_,rfl⟩;rw [Tryz.results148];simp (disch:=omega) only [ResVars,ResVar,ptrLoc,go_sem,seval,portD,x15,z14,j14,x14,q14,r1,r2,e]
   ·rw [Bool.and_true]
    by_cases h2 : 0 ≤ tn
    ·rw [decide_eq_true h2,Bool.true_and]
     refine q12 Tryz.func148 rfl (by decide +kernel) (by rw [Tryz.ntmps148];simp) ?_;rw [Tryz.ntmps148];simp only [frOf]
     (repeat (first | apply j0 | refine z7 rfl ?_ | refine x7 rfl ?_ | apply j6 | (refine x5 fun K hK => ?_) | (refine x8 fun K hK => ?_) | ((first | apply j5 | apply x6 | ((first | refine j4 (hK _ ?_) | refine q9 (hK _ _ j8 ?_));clear hK K));show AWP _ _ _ _ _) | ((first | refine j7 [] rfl ?_ | refine q10 [] rfl ?_);simp (disch:=omega) only [go_sem,seval,portD,x15,z14,j14,x14,q14,r1,r2,e];(repeat (first | refine ⟨by omega,?_⟩ | refine ⟨True.intro,?_⟩)))))
     refine j9 ⟨_,?_,rfl⟩;rw [Tryz.results148];simp (disch:=omega) only [ResVars,ResVar,ptrLoc,go_sem,seval,portD,x15,z14,j14,x14,q14,r1,r2,e]
    ·rw [decide_eq_false h2,Bool.false_and]
     refine q12 Tryz.func148 rfl (by decide +kernel) (by rw [Tryz.ntmps148];simp) ?_;rw [Tryz.ntmps148];simp only [frOf]
     (repeat (first | apply j0 | refine z7 rfl ?_ | refine x7 rfl ?_ | apply j6 | (refine x5 fun K hK => ?_) | (refine x8 fun K hK => ?_) | ((first | apply j5 | apply x6 | ((first | refine j4 (hK _ ?_) | refine q9 (hK _ _ j8 ?_));clear hK K));show AWP _ _ _ _ _) | ((first | refine j7 [] rfl ?_ | refine q10 [] rfl ?_);simp (disch:=omega) only [go_sem,seval,portD,x15,z14,j14,x14,q14,r1,r2,e];(repeat (first | refine ⟨by omega,?_⟩ | refine ⟨True.intro,?_⟩)))))
     refine j9 ⟨_,?_,rfl⟩;rw [Tryz.results148];simp (disch:=omega) only [ResVars,ResVar,ptrLoc,go_sem,seval,portD,x15,z14,j14,x14,q14,r1,r2,e]
  ·rw [if_neg h1]
   by_cases h2 : kd = 2
   ·subst h2
    have l2 := hs pe.toNat
    have r3 := x20 t pe.toNat
    have r4 := j24 (t.getD pe.toNat []) at'.toNat
    generalize t.getD pe.toNat [] = qs at r3 r4 l2
    generalize qs.getD at'.toNat p0 = q at r4
    obtain ⟨a,b,c,d,e⟩ := q
    simp only [portD] at r4 ⊢
    have lc := j101 tn co pe at' t.length n qs.length
    by_cases hc : True ∧ tn = 0 ∧ 1 ≤ co ∧ co ≤ 1000 ∧ 0 ≤ pe ∧ pe < (t.length : Int) ∧ pe ≠ (n : Int) ∧ 0 ≤ at' ∧ at' < (qs.length : Int)
    ·rw [if_pos hc]
     obtain ⟨_,c1,c2,c3,c4,c5,c6,c7,c8⟩ := hc
     have e2 := eqI_p2 a b c d e n k co
     clear lc
     subst c1
     refine q12 Tryz.func148 rfl (by decide +kernel) (by rw [Tryz.ntmps148];simp) ?_;rw [Tryz.ntmps148];simp only [frOf]
     (repeat ((fail_if_success (show AWP _ _ (.region 8 _ _) _ _));first | apply j0 | refine z7 rfl ?_ | refine x7 rfl ?_ | apply j6 | (refine x5 fun K hK => ?_) | (refine x8 fun K hK => ?_) | ((first | apply j5 | apply x6 | ((first | refine j4 (hK _ ?_) | refine q9 (hK _ _ j8 ?_));clear hK K));show AWP _ _ _ _ _) | ((first | refine j7 [] rfl ?_ | refine q10 [] rfl ?_);simp (disch:=omega) only [go_sem,seval,portD,x15,z14,j14,x14,q14,r1,r2,r3,r4,z14,j14,x14,q14];(repeat (first | refine ⟨by omega,?_⟩ | refine ⟨True.intro,?_⟩)))))
     (refine z32 [1,2,3,7] [7] ?_);simp only [AL.keep,AL.look,↓reduceIte,Nat.reduceEqDiff,reduceCtorEq]
     (repeat ((fail_if_success (show AWP _ _ (.region 11 _ _) _ _));first | apply j0 | refine z7 rfl ?_ | refine x7 rfl ?_ | apply j6 | (refine x5 fun K hK => ?_) | (refine x8 fun K hK => ?_) | ((first | apply j5 | apply x6 | ((first | refine j4 (hK _ ?_) | refine q9 (hK _ _ j8 ?_));clear hK K));show AWP _ _ _ _ _) | ((first | refine j7 [] rfl ?_ | refine q10 [] rfl ?_);simp (disch:=omega) only [go_sem,seval,portD,x15,z14,j14,x14,q14,r1,r2,r3,r4,z14,j14,x14,q14];(repeat (first | refine ⟨by omega,?_⟩ | refine ⟨True.intro,?_⟩)))))
     (refine z32 [1,7,2,8] [7] ?_);simp only [AL.keep,AL.look,↓reduceIte,Nat.reduceEqDiff,reduceCtorEq]
     (repeat (first | apply j0 | refine z7 rfl ?_ | refine x7 rfl ?_ | apply j6 | (refine x5 fun K hK => ?_) | (refine x8 fun K hK => ?_) | ((first | apply j5 | apply x6 | ((first | refine j4 (hK _ ?_) | refine q9 (hK _ _ j8 ?_));clear hK K));show AWP _ _ _ _ _) | ((first | refine j7 [] rfl ?_ | refine q10 [] rfl ?_);simp (disch:=omega) only [go_sem,seval,portD,x15,z14,j14,x14,q14,r1,r2,r3,r4,z14,j14,x14,q14];(repeat (first | refine ⟨by omega,?_⟩ | refine ⟨True.intro,?_⟩)))))
     refine j9 ⟨_,?_,rfl⟩;rw [Tryz.results148];simp (disch:=omega) only [ResVars,ResVar,ptrLoc,go_sem,seval,portD,x15,z14,j14,x14,q14,r1,r2,r3,r4,z14,j14,x14,q14]
     rw [e2]
    ·rw [if_neg hc]
     rcases lc with c1 | ⟨c1,c2⟩ | ⟨c1,c2,c3⟩ | ⟨c1,c2,c3,c4⟩ | ⟨c1,c2,c3,c4,c5⟩ | ⟨c1,c2,c3,c4,c5,c6⟩ | ⟨c1,c2,c3,c4,c5,c6,c7⟩ | ⟨c1,c2,c3,c4,c5,c6,c7,c8⟩ | ⟨c1,c2,c3,c4,c5,c6,c7,c8⟩
     case' inr.inr.inr.inr.inr.inr.inr.inr => exact absurd ⟨trivial,c1,by omega,by omega,c4,c5,c6,c7,c8⟩ hc
     all_goals
      clear hc
      refine q12 Tryz.func148 rfl (by decide +kernel) (by rw [Tryz.ntmps148];simp) ?_;rw [Tryz.ntmps148];simp only [frOf]
      (repeat ((fail_if_success (show AWP _ _ (.region 8 _ _) _ _));first | apply j0 | refine z7 rfl ?_ | refine x7 rfl ?_ | apply j6 | (refine x5 fun K hK => ?_) | (refine x8 fun K hK => ?_) | ((first | apply j5 | apply x6 | ((first | refine j4 (hK _ ?_) | refine q9 (hK _ _ j8 ?_));clear hK K));show AWP _ _ _ _ _) | ((first | refine j7 [] rfl ?_ | refine q10 [] rfl ?_);simp (disch:=omega) only [go_sem,seval,portD,x15,z14,j14,x14,q14,r1,r2,r3,r4,z14,j14,x14,q14];(repeat (first | refine ⟨by omega,?_⟩ | refine ⟨True.intro,?_⟩)))))
      (refine z32 [1,2,3,7] [7] ?_);simp only [AL.keep,AL.look,↓reduceIte,Nat.reduceEqDiff,reduceCtorEq]
      (repeat (first | apply j0 | refine z7 rfl ?_ | refine x7 rfl ?_ | apply j6 | (refine x5 fun K hK => ?_) | (refine x8 fun K hK => ?_) | ((first | apply j5 | apply x6 | ((first | refine j4 (hK _ ?_) | refine q9 (hK _ _ j8 ?_));clear hK K));show AWP _ _ _ _ _) | ((first | refine j7 [] rfl ?_ | refine q10 [] rfl ?_);simp (disch:=omega) only [go_sem,seval,portD,x15,z14,j14,x14,q14,r1,r2,r3,r4,z14,j14,x14,q14];(repeat (first | refine ⟨by omega,?_⟩ | refine ⟨True.intro,?_⟩)))))
      refine j9 ⟨_,?_,rfl⟩;rw [Tryz.results148];simp (disch:=omega) only [ResVars,ResVar,ptrLoc,go_sem,seval,portD,x15,z14,j14,x14,q14,r1,r2,r3,r4,z14,j14,x14,q14]
   ·rw [if_neg (fun h => h2 h.1)]
    refine q12 Tryz.func148 rfl (by decide +kernel) (by rw [Tryz.ntmps148];simp) ?_;rw [Tryz.ntmps148];simp only [frOf]
    (repeat (first | apply j0 | refine z7 rfl ?_ | refine x7 rfl ?_ | apply j6 | (refine x5 fun K hK => ?_) | (refine x8 fun K hK => ?_) | ((first | apply j5 | apply x6 | ((first | refine j4 (hK _ ?_) | refine q9 (hK _ _ j8 ?_));clear hK K));show AWP _ _ _ _ _) | ((first | refine j7 [] rfl ?_ | refine q10 [] rfl ?_);simp (disch:=omega) only [go_sem,seval,portD,x15,z14,j14,x14,q14,r1,r2];(repeat (first | refine ⟨by omega,?_⟩ | refine ⟨True.intro,?_⟩)))))
    refine j9 ⟨_,?_,rfl⟩;rw [Tryz.results148];simp (disch:=omega) only [ResVars,ResVar,ptrLoc,go_sem,seval,portD,x15,z14,j14,x14,q14,r1,r2]
set_option maxRecDepth 100000 in
theorem z161 (t : List (List Port)) (n k : Nat) (ht : small t) (hn : n < t.length) (hk : k < (t.getD n []).length) : ACalls Tryz.prog 119 [.agg (topoD t),.d (.v (.int .i64 (n : Int))),.d (.v (.int .i64 (k : Int)))] (· = [.d (.v (.bool (portT t n k)))]) := by
 obtain ⟨ht1,ht2⟩ := ht
 have hs := q21 ⟨ht1,ht2⟩
 have l1 := hs n
 have r1 := x20 t n
 have r2 := j24 (t.getD n []) k
 unfold portT topoD
 generalize t.getD n [] = ps at r1 r2 hk l1
 generalize ps.getD k p0 = p at r2
 obtain ⟨kd,tn,pe,at',co⟩ := p
 simp only [portD] at r2 ⊢
 by_cases h0 : kd = 0
 ·subst h0
  rw [if_pos rfl]
  generalize hq1 : (tn == 0) = q1
  generalize hq2 : (pe == 0) = q2
  generalize hq3 : (at' == 0) = q3
  generalize hq4 : (co == 0) = q4
  rcases q159 q1 q2 q3 q4 with rfl | ⟨rfl,rfl⟩ | ⟨rfl,rfl,rfl⟩ | ⟨rfl,rfl,rfl,rfl⟩ | ⟨rfl,rfl,rfl,rfl⟩
  all_goals
   simp only [Bool.false_and,Bool.true_and,Bool.and_false]
   refine q12 Tryz.func119 rfl (by decide +kernel) (by rw [Tryz.ntmps119];simp) ?_;rw [Tryz.ntmps119];simp only [frOf]
   (repeat (first | apply j0 | refine z7 rfl ?_ | refine x7 rfl ?_ | apply j6 | (refine x5 fun K hK => ?_) | (refine x8 fun K hK => ?_) | ((first | apply j5 | apply x6 | ((first | refine j4 (hK _ ?_) | refine q9 (hK _ _ j8 ?_));clear hK K));show AWP _ _ _ _ _) | ((first | refine j7 [] rfl ?_ | refine q10 [] rfl ?_);simp (disch:=omega) only [go_sem,seval,portD,x15,z14,j14,x14,q14,r1,r2,hq1,hq2,hq3,hq4];(repeat (first | refine ⟨by omega,?_⟩ | refine ⟨True.intro,?_⟩)))))
   refine j9 ⟨_,?_,rfl⟩;rw [Tryz.results119];simp (disch:=omega) only [ResVars,ResVar,ptrLoc,go_sem,seval,portD,x15,z14,j14,x14,q14,r1,r2,hq1,hq2,hq3,hq4]
 ·rw [if_neg h0]
  by_cases h1 : kd = 1
  ·subst h1
   rw [if_pos rfl]
   generalize hq2 : (pe == 0) = q2
   generalize hq3 : (at' == 0) = q3
   generalize hq4 : (co == 0) = q4
   by_cases h2 : 0 ≤ tn
   ·by_cases h3 : tn < 4
    ·rw [decide_eq_true h2,decide_eq_true h3]
     rcases j158 q2 q3 q4 with rfl | ⟨rfl,rfl⟩ | ⟨rfl,rfl,rfl⟩ | ⟨rfl,rfl,rfl⟩
     all_goals
      simp only [Bool.false_and,Bool.true_and,Bool.and_false]
      refine q12 Tryz.func119 rfl (by decide +kernel) (by rw [Tryz.ntmps119];simp) ?_;rw [Tryz.ntmps119];simp only [frOf]
      (repeat (first | apply j0 | refine z7 rfl ?_ | refine x7 rfl ?_ | apply j6 | (refine x5 fun K hK => ?_) | (refine x8 fun K hK => ?_) | ((first | apply j5 | apply x6 | ((first | refine j4 (hK _ ?_) | refine q9 (hK _ _ j8 ?_));clear hK K));show AWP _ _ _ _ _) | ((first | refine j7 [] rfl ?_ | refine q10 [] rfl ?_);simp (disch:=omega) only [go_sem,seval,portD,x15,z14,j14,x14,q14,r1,r2,hq2,hq3,hq4];(repeat (first | refine ⟨by omega,?_⟩ | refine ⟨True.intro,?_⟩)))))
      refine j9 ⟨_,?_,rfl⟩;rw [Tryz.results119];simp (disch:=omega) only [ResVars,ResVar,ptrLoc,go_sem,seval,portD,x15,z14,j14,x14,q14,r1,r2,hq2,hq3,hq4]
    ·rw [decide_eq_true h2,decide_eq_false h3]
     simp only [Bool.and_false,Bool.false_and]
     refine q12 Tryz.func119 rfl (by decide +kernel) (by rw [Tryz.ntmps119];simp) ?_;rw [Tryz.ntmps119];simp only [frOf]
     (repeat (first | apply j0 | refine z7 rfl ?_ | refine x7 rfl ?_ | apply j6 | (refine x5 fun K hK => ?_) | (refine x8 fun K hK => ?_) | ((first | apply j5 | apply x6 | ((first | refine j4 (hK _ ?_) | refine q9 (hK _ _ j8 ?_));clear hK K));show AWP _ _ _ _ _) | ((first | refine j7 [] rfl ?_ | refine q10 [] rfl ?_);simp (disch:=omega) only [go_sem,seval,portD,x15,z14,j14,x14,q14,r1,r2,hq2,hq3,hq4];(repeat (first | refine ⟨by omega,?_⟩ | refine ⟨True.intro,?_⟩)))))
     refine j9 ⟨_,?_,rfl⟩;rw [Tryz.results119];simp (disch:=omega) only [ResVars,ResVar,ptrLoc,go_sem,seval,portD,x15,z14,j14,x14,q14,r1,r2,hq2,hq3,hq4]
   ·rw [decide_eq_false h2]
    simp only [Bool.false_and]
    refine q12 Tryz.func119 rfl (by decide +kernel) (by rw [Tryz.ntmps119];simp) ?_;rw [Tryz.ntmps119];simp only [frOf]
    (repeat (first | apply j0 | refine z7 rfl ?_ | refine x7 rfl ?_ | apply j6 | (refine x5 fun K hK => ?_) | (refine x8 fun K hK => ?_) | ((first | apply j5 | apply x6 | ((first | refine j4 (hK _ ?_) | refine q9 (hK _ _ j8 ?_));clear hK K));show AWP _ _ _ _ _) | ((first | refine j7 [] rfl ?_ | refine q10 [] rfl ?_);simp (disch:=omega) only [go_sem,seval,portD,x15,z14,j14,x14,q14,r1,r2,hq2,hq3,hq4];(repeat (first | refine ⟨by omega,?_⟩ | refine ⟨True.intro,?_⟩)))))
    refine j9 ⟨_,?_,rfl⟩;rw [Tryz.results119];simp (disch:=omega) only [ResVars,ResVar,ptrLoc,go_sem,seval,portD,x15,z14,j14,x14,q14,r1,r2,hq2,hq3,hq4]
  ·rw [if_neg h1]
   by_cases h2 : kd = 2
   ·subst h2
    have l2 := hs pe.toNat
    have r3 := x20 t pe.toNat
    have r4 := j24 (t.getD pe.toNat []) at'.toNat
    generalize t.getD pe.toNat [] = qs at r3 r4 l2
    generalize qs.getD at'.toNat p0 = q at r4
    obtain ⟨a,b,c,d,e⟩ := q
    simp only [portD] at r4 ⊢
    have lc := j101 tn co pe at' t.length n qs.length
    by_cases hc : True ∧ tn = 0 ∧ 1 ≤ co ∧ co ≤ 1000 ∧ 0 ≤ pe ∧ pe < (t.length : Int) ∧ pe ≠ (n : Int) ∧ 0 ≤ at' ∧ at' < (qs.length : Int)
    ·rw [if_pos hc]
     obtain ⟨_,c1,c2,c3,c4,c5,c6,c7,c8⟩ := hc
     clear lc
     subst c1
     generalize hq1 : (a == 2) = q1
     generalize hq2 : (b == 0) = q2
     generalize hq3 : (c == (n : Int)) = q3
     generalize hq4 : (d == (k : Int)) = q4
     generalize hq5 : (e == co) = q5
     rcases z159 q1 q3 q4 q5 q2 with rfl | ⟨rfl,rfl⟩ | ⟨rfl,rfl,rfl⟩ | ⟨rfl,rfl,rfl,rfl⟩ | ⟨rfl,rfl,rfl,rfl,rfl⟩ | ⟨rfl,rfl,rfl,rfl,rfl⟩
     all_goals
      simp only [Bool.false_and,Bool.true_and,Bool.and_false]
      refine q12 Tryz.func119 rfl (by decide +kernel) (by rw [Tryz.ntmps119];simp) ?_;rw [Tryz.ntmps119];simp only [frOf]
      (repeat ((fail_if_success (show AWP _ _ (.region 6 _ _) _ _));first | apply j0 | refine z7 rfl ?_ | refine x7 rfl ?_ | apply j6 | (refine x5 fun K hK => ?_) | (refine x8 fun K hK => ?_) | ((first | apply j5 | apply x6 | ((first | refine j4 (hK _ ?_) | refine q9 (hK _ _ j8 ?_));clear hK K));show AWP _ _ _ _ _) | ((first | refine j7 [] rfl ?_ | refine q10 [] rfl ?_);simp (disch:=omega) only [go_sem,seval,portD,x15,z14,j14,x14,q14,r1,r2,r3,r4,z14,j14,x14,q14,hq1,hq2,hq3,hq4,hq5];(repeat (first | refine ⟨by omega,?_⟩ | refine ⟨True.intro,?_⟩)))))
      (refine z32 [1,2,3,7] [7] ?_);simp only [AL.keep,AL.look,↓reduceIte,Nat.reduceEqDiff,reduceCtorEq]
      (repeat ((fail_if_success (show AWP _ _ (.region 8 _ _) _ _));first | apply j0 | refine z7 rfl ?_ | refine x7 rfl ?_ | apply j6 | (refine x5 fun K hK => ?_) | (refine x8 fun K hK => ?_) | ((first | apply j5 | apply x6 | ((first | refine j4 (hK _ ?_) | refine q9 (hK _ _ j8 ?_));clear hK K));show AWP _ _ _ _ _) | ((first | refine j7 [] rfl ?_ | refine q10 [] rfl ?_);simp (disch:=omega) only [go_sem,seval,portD,x15,z14,j14,x14,q14,r1,r2,r3,r4,z14,j14,x14,q14,hq1,hq2,hq3,hq4,hq5];(repeat (first | refine ⟨by omega,?_⟩ | refine ⟨True.intro,?_⟩)))))
      (refine z32 [1,2,3,7] [7] ?_);simp only [AL.keep,AL.look,↓reduceIte,Nat.reduceEqDiff,reduceCtorEq]
      (repeat ((fail_if_success (show AWP _ _ (.region 9 _ _) _ _));first | apply j0 | refine z7 rfl ?_ | refine x7 rfl ?_ | apply j6 | (refine x5 fun K hK => ?_) | (refine x8 fun K hK => ?_) | ((first | apply j5 | apply x6 | ((first | refine j4 (hK _ ?_) | refine q9 (hK _ _ j8 ?_));clear hK K));show AWP _ _ _ _ _) | ((first | refine j7 [] rfl ?_ | refine q10 [] rfl ?_);simp (disch:=omega) only [go_sem,seval,portD,x15,z14,j14,x14,q14,r1,r2,r3,r4,z14,j14,x14,q14,hq1,hq2,hq3,hq4,hq5];(repeat (first | refine ⟨by omega,?_⟩ | refine ⟨True.intro,?_⟩)))))
      (refine z32 [1,2,7,8] [7,8] ?_);simp only [AL.keep,AL.look,↓reduceIte,Nat.reduceEqDiff,reduceCtorEq]
      (repeat (first | apply j0 | refine z7 rfl ?_ | refine x7 rfl ?_ | apply j6 | (refine x5 fun K hK => ?_) | (refine x8 fun K hK => ?_) | ((first | apply j5 | apply x6 | ((first | refine j4 (hK _ ?_) | refine q9 (hK _ _ j8 ?_));clear hK K));show AWP _ _ _ _ _) | ((first | refine j7 [] rfl ?_ | refine q10 [] rfl ?_);simp (disch:=omega) only [go_sem,seval,portD,x15,z14,j14,x14,q14,r1,r2,r3,r4,z14,j14,x14,q14,hq1,hq2,hq3,hq4,hq5];(repeat (first | refine ⟨by omega,?_⟩ | refine ⟨True.intro,?_⟩)))))
      refine j9 ⟨_,?_,rfl⟩;rw [Tryz.results119];simp (disch:=omega) only [ResVars,ResVar,ptrLoc,go_sem,seval,portD,x15,z14,j14,x14,q14,r1,r2,r3,r4,z14,j14,x14,q14,hq1,hq2,hq3,hq4,hq5]
    ·rw [if_neg hc]
     rcases lc with c1 | ⟨c1,c2⟩ | ⟨c1,c2,c3⟩ | ⟨c1,c2,c3,c4⟩ | ⟨c1,c2,c3,c4,c5⟩ | ⟨c1,c2,c3,c4,c5,c6⟩ | ⟨c1,c2,c3,c4,c5,c6,c7⟩ | ⟨c1,c2,c3,c4,c5,c6,c7,c8⟩ | ⟨c1,c2,c3,c4,c5,c6,c7,c8⟩
     case' inr.inr.inr.inr.inr.inr.inr.inr => exact absurd ⟨trivial,c1,by omega,by omega,c4,c5,c6,c7,c8⟩ hc
     all_goals
      clear hc
      refine q12 Tryz.func119 rfl (by decide +kernel) (by rw [Tryz.ntmps119];simp) ?_;rw [Tryz.ntmps119];simp only [frOf]
      (repeat ((fail_if_success (show AWP _ _ (.region 6 _ _) _ _));first | apply j0 | refine z7 rfl ?_ | refine x7 rfl ?_ | apply j6 | (refine x5 fun K hK => ?_) | (refine x8 fun K hK => ?_) | ((first | apply j5 | apply x6 | ((first | refine j4 (hK _ ?_) | refine q9 (hK _ _ j8 ?_));clear hK K));show AWP _ _ _ _ _) | ((first | refine j7 [] rfl ?_ | refine q10 [] rfl ?_);simp (disch:=omega) only [go_sem,seval,portD,x15,z14,j14,x14,q14,r1,r2,r3,r4,z14,j14,x14,q14];(repeat (first | refine ⟨by omega,?_⟩ | refine ⟨True.intro,?_⟩)))))
      (refine z32 [1,2,3,7] [7] ?_);simp only [AL.keep,AL.look,↓reduceIte,Nat.reduceEqDiff,reduceCtorEq]
      (repeat (first | apply j0 | refine z7 rfl ?_ | refine x7 rfl ?_ | apply j6 | (refine x5 fun K hK => ?_) | (refine x8 fun K hK => ?_) | ((first | apply j5 | apply x6 | ((first | refine j4 (hK _ ?_) | refine q9 (hK _ _ j8 ?_));clear hK K));show AWP _ _ _ _ _) | ((first | refine j7 [] rfl ?_ | refine q10 [] rfl ?_);simp (disch:=omega) only [go_sem,seval,portD,x15,z14,j14,x14,q14,r1,r2,r3,r4,z14,j14,x14,q14];(repeat (first | refine ⟨by omega,?_⟩ | refine ⟨True.intro,?_⟩)))))
      refine j9 ⟨_,?_,rfl⟩;rw [Tryz.results119];simp (disch:=omega) only [ResVars,ResVar,ptrLoc,go_sem,seval,portD,x15,z14,j14,x14,q14,r1,r2,r3,r4,z14,j14,x14,q14]
   ·rw [if_neg (fun h => h2 h.1)]
    refine q12 Tryz.func119 rfl (by decide +kernel) (by rw [Tryz.ntmps119];simp) ?_;rw [Tryz.ntmps119];simp only [frOf]
    (repeat (first | apply j0 | refine z7 rfl ?_ | refine x7 rfl ?_ | apply j6 | (refine x5 fun K hK => ?_) | (refine x8 fun K hK => ?_) | ((first | apply j5 | apply x6 | ((first | refine j4 (hK _ ?_) | refine q9 (hK _ _ j8 ?_));clear hK K));show AWP _ _ _ _ _) | ((first | refine j7 [] rfl ?_ | refine q10 [] rfl ?_);simp (disch:=omega) only [go_sem,seval,portD,x15,z14,j14,x14,q14,r1,r2,z14,j14,x14,q14];(repeat (first | refine ⟨by omega,?_⟩ | refine ⟨True.intro,?_⟩)))))
    refine j9 ⟨_,?_,rfl⟩;rw [Tryz.results119];simp (disch:=omega) only [ResVars,ResVar,ptrLoc,go_sem,seval,portD,x15,z14,j14,x14,q14,r1,r2,z14,j14,x14,q14]
def allF (f : Nat → Bool) (n i : Nat) : Bool := (List.range' i (n - i)).all f
theorem x18 {f : Nat → Bool} {n i : Nat} (h : i < n) : allF f n i = (f i && allF f n (i + 1)) := by
 unfold allF
 rw [show n - i = (n - (i + 1)) + 1 by omega,List.range'_succ,List.all_cons]
theorem j18 {f : Nat → Bool} {n i : Nat} (h : n ≤ i) : allF f n i = true := by
 unfold allF
 rw [show n - i = 0 by omega];rfl
theorem z43 {f : Nat → Bool} {n i : Nat} : allF f n i = true ↔ ∀ k,i ≤ k → k < n → f k = true := by
 unfold allF
 rw [List.all_eq_true]
 constructor
 ·intro h k h1 h2
  exact h k (by rw [List.mem_range'_1];omega)
 ·intro h k hk
  rw [List.mem_range'_1] at hk
  exact h k hk.1 (by omega)
def lensT (t : List (List Port)) (i : Nat) : Bool := decide ((t.getD i []).length ≤ 6)
def portsT (t : List (List Port)) (n : Nat) : Bool := allF (portT t n) (t.getD n []).length 0
def soundT (t : List (List Port)) : Int := if t.length = 0 ∨ 6 < t.length then 4 else if allF (lensT t) t.length 0 = false then 4 else if allF (portsT t) t.length 0 = true then 0 else 2
def soundTI (t : List (List Port)) (B : Bool) (s : {i : Nat // i ≤ t.length ∧ allF (lensT t) t.length i = B}) : ASt :=
 ⟨[(21,.p (.d (.v (.int .i64 (s.val : Int))))),(20,.p (.d (.v (.int .i64 (t.length : Int))))),(19,.p (.d (.sl 1 t.length (rowPP t)))),(1,.p (.d (.bx (topoD t))))],[]⟩
def soundTJ (t : List (List Port)) (R : Int) (s : {i : Nat // i ≤ t.length ∧ (if allF (portsT t) t.length i = true then 0 else 2) = R}) : ASt :=
 ⟨[(32,.p (.d (.v (.int .i64 (s.val : Int))))),(31,.p (.d (.v (.int .i64 (t.length : Int))))),(30,.p (.d (.sl 1 t.length (rowPP t)))),(1,.p (.d (.bx (topoD t))))],[]⟩
def soundTK (t : List (List Port)) (R : Int) (i : Nat) (l : List Port) (s : {k : Nat // k ≤ l.length ∧ (if (allF (portT t i) l.length k && allF (portsT t) t.length (i + 1)) = true then 0 else 2) = R}) : ASt :=
 ⟨[(39,.p (.d (.v (.int .i64 (s.val : Int))))),(38,.p (.d (.v (.int .i64 (l.length : Int))))),(32,.p (.d (.v (.int .i64 (i : Int))))),(31,.p (.d (.v (.int .i64 (t.length : Int))))),(30,.p (.d (.sl 1 t.length (rowPP t)))),(5,.p (.d (.v (.int .i64 (i : Int))))),(1,.p (.d (.bx (topoD t))))],[]⟩
set_option maxRecDepth 100000 in
theorem x161 (t : List (List Port)) (ht : small t) : ACalls Tryz.prog 108 [.agg (topoD t)] (· = [.d (.v (.int .i64 (soundT t)))]) := by
 have hs := q21 ht
 have ht1 := ht.1
 unfold soundT
 by_cases h0 : t.length = 0
 ·rw [if_pos (.inl h0)]
  have q : ((t.length : Int) == 0) = true := j14 (by omega)
  refine q12 Tryz.func108 rfl (by decide +kernel) (by rw [Tryz.ntmps108];simp) ?_;rw [Tryz.ntmps108];simp only [frOf]
  (repeat (first | apply j0 | refine z7 rfl ?_ | refine x7 rfl ?_ | apply j6 | (refine x5 fun K hK => ?_) | ((first | apply j5 | apply x6 | (refine j4 (hK _ ?_);clear hK K));(first | show AWP _ _ _ _ _ | ((try simp only [z8]);first | show loopQ _ _ _ _ _ _ | show AWP _ _ _ _ _))) | (refine j7 [] rfl ?_;simp (disch:=omega) only [go_sem,seval,portD,topoD,spotD,q];(repeat refine ⟨by omega,?_⟩))))
  refine j9 ⟨_,?_,rfl⟩;rw [Tryz.results108];simp (disch:=omega) only [ResVars,ResVar,ptrLoc,go_sem,seval,portD,topoD,spotD,q]
 ·have q : ((t.length : Int) == 0) = false := z14 (by omega)
  by_cases h6 : 6 < t.length
  ·rw [if_pos (.inr h6)]
   refine q12 Tryz.func108 rfl (by decide +kernel) (by rw [Tryz.ntmps108];simp) ?_;rw [Tryz.ntmps108];simp only [frOf]
   (repeat (first | apply j0 | refine z7 rfl ?_ | refine x7 rfl ?_ | apply j6 | (refine x5 fun K hK => ?_) | ((first | apply j5 | apply x6 | (refine j4 (hK _ ?_);clear hK K));(first | show AWP _ _ _ _ _ | ((try simp only [z8]);first | show loopQ _ _ _ _ _ _ | show AWP _ _ _ _ _))) | (refine j7 [] rfl ?_;simp (disch:=omega) only [go_sem,seval,portD,topoD,spotD,q];(repeat refine ⟨by omega,?_⟩))))
   refine j9 ⟨_,?_,rfl⟩;rw [Tryz.results108];simp (disch:=omega) only [ResVars,ResVar,ptrLoc,go_sem,seval,portD,topoD,spotD,q]
  ·rw [if_neg (by omega)]
   generalize hB : allF (lensT t) t.length 0 = B
   generalize hR : (if allF (portsT t) t.length 0 = true then (0 : Int) else 2) = R
   refine q12 Tryz.func108 rfl (by decide +kernel) (by rw [Tryz.ntmps108];simp) ?_;rw [Tryz.ntmps108];simp only [frOf]
   (repeat (first | apply j0 | refine z7 rfl ?_ | refine x7 rfl ?_ | apply j6 | (refine x5 fun K hK => ?_) | ((first | apply j5 | apply x6 | (refine j4 (hK _ ?_);clear hK K));(first | show AWP _ _ _ _ _ | ((try simp only [z8]);first | show loopQ _ _ _ _ _ _ | show AWP _ _ _ _ _))) | (refine j7 [] rfl ?_;simp (disch:=omega) only [go_sem,seval,portD,topoD,spotD,q];(repeat refine ⟨by omega,?_⟩))))
   refine j13 (soundTI t B) (fun s => t.length - s.val) ⟨0,Nat.zero_le _,hB⟩ ?_ (fun s => ?_)
   ·unfold soundTI
    refine Weak.list ?_ ?_;(all_goals simp (disch:=omega) only [AllF,AllL,q11,z11,j10,exists_eq_left',go_sem,seval,portD,topoD,spotD]);(all_goals (repeat' (with_reducible apply And.intro)));(all_goals try (first | exact q8 rfl | (refine x11 ?_;omega) | (refine q8 ?_;simp;done)))
   obtain ⟨i,hi,hb⟩ := s
   unfold soundTI
   simp only [] at hi hb ⊢
   by_cases h : i < t.length
   ·rw [x18 h] at hb
    unfold lensT at hb
    have r1 := x20 t i
    generalize t.getD i [] = l at r1 hb
    by_cases h7 : 6 < l.length
    ·rw [decide_eq_false (by omega),Bool.false_and] at hb
     subst hb
     rw [if_pos rfl]
     (repeat (first | apply j0 | refine z7 rfl ?_ | refine x7 rfl ?_ | apply j6 | (refine x5 fun K hK => ?_) | ((first | apply j5 | apply x6 | (refine j4 (hK _ ?_);clear hK K));(first | show AWP _ _ _ _ _ | ((try simp only [z8]);first | show loopQ _ _ _ _ _ _ | show AWP _ _ _ _ _))) | (refine j7 [] rfl ?_;simp (disch:=omega) only [go_sem,seval,portD,topoD,spotD,r1];(repeat refine ⟨by omega,?_⟩))))
     refine j9 ⟨_,?_,rfl⟩;rw [Tryz.results108];simp (disch:=omega) only [ResVars,ResVar,ptrLoc,go_sem,seval,portD,topoD,spotD,r1]
    ·rw [decide_eq_true (by omega),Bool.true_and] at hb
     (repeat (first | apply j0 | refine z7 rfl ?_ | refine x7 rfl ?_ | apply j6 | (refine x5 fun K hK => ?_) | ((first | apply j5 | apply x6 | (refine j4 (hK _ ?_);clear hK K));(first | show AWP _ _ _ _ _ | ((try simp only [z8]);first | show loopQ _ _ _ _ _ _ | show AWP _ _ _ _ _))) | (refine j7 [] rfl ?_;simp (disch:=omega) only [go_sem,seval,portD,topoD,spotD,r1];(repeat refine ⟨by omega,?_⟩))))
     refine ⟨⟨i + 1,by omega,hb⟩,by simp only [];omega,?_⟩
     refine Weak.list ?_ ?_;(all_goals simp (disch:=omega) only [AllF,AllL,q11,z11,j10,exists_eq_left',go_sem,seval,portD,topoD,spotD,r1]);(all_goals (repeat' (with_reducible apply And.intro)));(all_goals try (first | exact q8 rfl | (refine x11 ?_;omega) | (refine q8 ?_;simp;done)))
   ·rw [j18 (by omega)] at hb
    subst hb
    rw [if_neg (by decide)]
    (repeat (first | apply j0 | refine z7 rfl ?_ | refine x7 rfl ?_ | apply j6 | (refine x5 fun K hK => ?_) | ((first | apply j5 | apply x6 | (refine j4 (hK _ ?_);clear hK K));(first | show AWP _ _ _ _ _ | ((try simp only [z8]);first | show loopQ _ _ _ _ _ _ | show AWP _ _ _ _ _))) | (refine j7 [] rfl ?_;simp (disch:=omega) only [go_sem,seval,portD,topoD,spotD];(repeat refine ⟨by omega,?_⟩))))
    refine j13 (soundTJ t R) (fun s => t.length - s.val) ⟨0,Nat.zero_le _,hR⟩ ?_ (fun s => ?_)
    ·unfold soundTJ
     refine Weak.list ?_ ?_;(all_goals simp (disch:=omega) only [AllF,AllL,q11,z11,j10,exists_eq_left',go_sem,seval,portD,topoD,spotD]);(all_goals (repeat' (with_reducible apply And.intro)));(all_goals try (first | exact q8 rfl | (refine x11 ?_;omega) | (refine q8 ?_;simp;done)))
    clear hb hi h i
    obtain ⟨i,hi,hr⟩ := s
    unfold soundTJ
    simp only [] at hi hr ⊢
    by_cases h : i < t.length
    ·rw [x18 h] at hr
     have hp : portsT t i = allF (portT t i) (t.getD i []).length 0 := rfl
     rw [hp] at hr
     have hc := fun k (hk : k < (t.getD i []).length) => portT_c t i k ht h hk
     have r1 := x20 t i
     have l1 := hs i
     generalize t.getD i [] = l at r1 hr hc l1
     (repeat (first | apply j0 | refine z7 rfl ?_ | refine x7 rfl ?_ | apply j6 | (refine x5 fun K hK => ?_) | ((first | apply j5 | apply x6 | (refine j4 (hK _ ?_);clear hK K));(first | show AWP _ _ _ _ _ | ((try simp only [z8]);first | show loopQ _ _ _ _ _ _ | show AWP _ _ _ _ _))) | (refine j7 [] rfl ?_;simp (disch:=omega) only [go_sem,seval,portD,topoD,spotD,r1];(repeat refine ⟨by omega,?_⟩))))
     refine j13 (soundTK t R i l) (fun s => l.length - s.val) ⟨0,Nat.zero_le _,hr⟩ ?_ (fun s => ?_)
     ·unfold soundTK
      refine Weak.list ?_ ?_;(all_goals simp (disch:=omega) only [AllF,AllL,q11,z11,j10,exists_eq_left',go_sem,seval,portD,topoD,spotD]);(all_goals (repeat' (with_reducible apply And.intro)));(all_goals try (first | exact q8 rfl | (refine x11 ?_;omega) | (refine q8 ?_;simp;done)))
     clear hr
     obtain ⟨k,hk,hr⟩ := s
     unfold soundTK
     simp only [] at hk hr ⊢
     by_cases h2 : k < l.length
     ·have c := hc k h2
      rw [x18 h2] at hr
      generalize portT t i k = b at hr c
      simp only [topoD] at c
      cases b
      ·simp only [Bool.false_and,Bool.false_eq_true,if_false] at hr
       subst hr
       (repeat (first | apply j0 | refine z7 rfl ?_ | refine x7 rfl ?_ | apply j6 | (refine x5 fun K hK => ?_) | ((first | apply j5 | apply x6 | (refine j4 (hK _ ?_);clear hK K));(first | show AWP _ _ _ _ _ | ((try simp only [z8]);first | show loopQ _ _ _ _ _ _ | show AWP _ _ _ _ _))) | (refine x10 rfl rfl rfl ?_;simp (disch:=omega) only [go_sem,seval,portD,topoD,spotD];(first | refine ⟨_,c,?_⟩)) | (refine j7 [] rfl ?_;simp (disch:=omega) only [go_sem,seval,portD,topoD,spotD];(repeat refine ⟨by omega,?_⟩))))
       refine j9 ⟨_,?_,rfl⟩;rw [Tryz.results108];simp (disch:=omega) only [ResVars,ResVar,ptrLoc,go_sem,seval,portD,topoD,spotD]
      ·rw [Bool.true_and] at hr
       (repeat (first | apply j0 | refine z7 rfl ?_ | refine x7 rfl ?_ | apply j6 | (refine x5 fun K hK => ?_) | ((first | apply j5 | apply x6 | (refine j4 (hK _ ?_);clear hK K));(first | show AWP _ _ _ _ _ | ((try simp only [z8]);first | show loopQ _ _ _ _ _ _ | show AWP _ _ _ _ _))) | (refine x10 rfl rfl rfl ?_;simp (disch:=omega) only [go_sem,seval,portD,topoD,spotD];(first | refine ⟨_,c,?_⟩)) | (refine j7 [] rfl ?_;simp (disch:=omega) only [go_sem,seval,portD,topoD,spotD];(repeat refine ⟨by omega,?_⟩))))
       refine ⟨⟨k + 1,by omega,hr⟩,by simp only [];omega,?_⟩
       refine Weak.list ?_ ?_;(all_goals simp (disch:=omega) only [AllF,AllL,q11,z11,j10,exists_eq_left',go_sem,seval,portD,topoD,spotD]);(all_goals (repeat' (with_reducible apply And.intro)));(all_goals try (first | exact q8 rfl | (refine x11 ?_;omega) | (refine q8 ?_;simp;done)))
     ·rw [j18 (show l.length ≤ k by omega),Bool.true_and] at hr
      (repeat (first | apply j0 | refine z7 rfl ?_ | refine x7 rfl ?_ | apply j6 | (refine x5 fun K hK => ?_) | ((first | apply j5 | apply x6 | (refine j4 (hK _ ?_);clear hK K));(first | show AWP _ _ _ _ _ | ((try simp only [z8]);first | show loopQ _ _ _ _ _ _ | show AWP _ _ _ _ _))) | (refine j7 [] rfl ?_;simp (disch:=omega) only [go_sem,seval,portD,topoD,spotD];(repeat refine ⟨by omega,?_⟩))))
      refine ⟨⟨i + 1,by omega,hr⟩,by simp only [];omega,?_⟩
      refine Weak.list ?_ ?_;(all_goals simp (disch:=omega) only [AllF,AllL,q11,z11,j10,exists_eq_left',go_sem,seval,portD,topoD,spotD]);(all_goals (repeat' (with_reducible apply And.intro)));(all_goals try (first | exact q8 rfl | (refine x11 ?_;omega) | (refine q8 ?_;simp;done)))
    ·rw [j18 (by omega),if_pos rfl] at hr
     subst hr
     (repeat (first | apply j0 | refine z7 rfl ?_ | refine x7 rfl ?_ | apply j6 | (refine x5 fun K hK => ?_) | ((first | apply j5 | apply x6 | (refine j4 (hK _ ?_);clear hK K));(first | show AWP _ _ _ _ _ | ((try simp only [z8]);first | show loopQ _ _ _ _ _ _ | show AWP _ _ _ _ _))) | (refine j7 [] rfl ?_;simp (disch:=omega) only [go_sem,seval,portD,topoD,spotD];(repeat refine ⟨by omega,?_⟩))))
     refine j9 ⟨_,?_,rfl⟩;rw [Tryz.results108];simp (disch:=omega) only [ResVars,ResVar,ptrLoc,go_sem,seval,portD,topoD,spotD]
def soundRI (t : List (List Port)) (B : Bool) (s : {i : Nat // i ≤ t.length ∧ allF (lensT t) t.length i = B}) : ASt :=
 ⟨[(3,.p (.d (.v (.int .i64 (s.val : Int))))),(1,.p (.d (.bx (topoD t))))],[]⟩
def soundRJ (t : List (List Port)) (R : Int) (s : {i : Nat // i ≤ t.length ∧ (if allF (portsT t) t.length i = true then 0 else 2) = R}) : ASt :=
 ⟨[(4,.p (.d (.v (.int .i64 (s.val : Int))))),(1,.p (.d (.bx (topoD t))))],[]⟩
def soundRK (t : List (List Port)) (R : Int) (i : Nat) (l : List Port) (s : {k : Nat // k ≤ l.length ∧ (if (allF (portT t i) l.length k && allF (portsT t) t.length (i + 1)) = true then 0 else 2) = R}) : ASt :=
 ⟨[(5,.p (.d (.v (.int .i64 (s.val : Int))))),(4,.p (.d (.v (.int .i64 (i : Int))))),(1,.p (.d (.bx (topoD t))))],[]⟩
set_option maxRecDepth 100000 in
theorem j161 (t : List (List Port)) (ht : small t) : ACalls Tryz.prog 79 [.agg (topoD t)] (· = [.d (.v (.int .i64 (soundT t)))]) := by
 have hs := q21 ht
 have ht1 := ht.1
 unfold soundT
 by_cases h0 : t.length = 0
 ·rw [if_pos (.inl h0)]
  refine q12 Tryz.func79 rfl (by decide +kernel) (by rw [Tryz.ntmps79];simp) ?_;rw [Tryz.ntmps79];simp only [frOf]
  (repeat (first | apply j0 | refine z7 rfl ?_ | refine x7 rfl ?_ | apply j6 | (refine x5 fun K hK => ?_) | ((first | apply j5 | apply x6 | (refine j4 (hK _ ?_);clear hK K));(first | show AWP _ _ _ _ _ | ((try simp only [z8]);first | show loopQ _ _ _ _ _ _ | show AWP _ _ _ _ _))) | (refine j7 [] rfl ?_;simp (disch:=omega) only [go_sem,seval,portD,topoD,spotD];(repeat refine ⟨by omega,?_⟩))))
  refine j9 ⟨_,?_,rfl⟩;rw [Tryz.results79];simp (disch:=omega) only [ResVars,ResVar,ptrLoc,go_sem,seval,portD,topoD,spotD]
 ·by_cases h6 : 6 < t.length
  ·rw [if_pos (.inr h6)]
   refine q12 Tryz.func79 rfl (by decide +kernel) (by rw [Tryz.ntmps79];simp) ?_;rw [Tryz.ntmps79];simp only [frOf]
   (repeat (first | apply j0 | refine z7 rfl ?_ | refine x7 rfl ?_ | apply j6 | (refine x5 fun K hK => ?_) | ((first | apply j5 | apply x6 | (refine j4 (hK _ ?_);clear hK K));(first | show AWP _ _ _ _ _ | ((try simp only [z8]);first | show loopQ _ _ _ _ _ _ | show AWP _ _ _ _ _))) | (refine j7 [] rfl ?_;simp (disch:=omega) only [go_sem,seval,portD,topoD,spotD];(repeat refine ⟨by omega,?_⟩))))
   refine j9 ⟨_,?_,rfl⟩;rw [Tryz.results79];simp (disch:=omega) only [ResVars,ResVar,ptrLoc,go_sem,seval,portD,topoD,spotD]
  ·rw [if_neg (by omega)]
   generalize hB : allF (lensT t) t.length 0 = B
   generalize hR : (if allF (portsT t) t.length 0 = true then (0 : Int) else 2) = R
   refine q12 Tryz.func79 rfl (by decide +kernel) (by rw [Tryz.ntmps79];simp) ?_;rw [Tryz.ntmps79];simp only [frOf]
   (repeat (first | apply j0 | refine z7 rfl ?_ | refine x7 rfl ?_ | apply j6 | (refine x5 fun K hK => ?_) | ((first | apply j5 | apply x6 | (refine j4 (hK _ ?_);clear hK K));(first | show AWP _ _ _ _ _ | ((try simp only [z8]);first | show loopQ _ _ _ _ _ _ | show AWP _ _ _ _ _))) | (refine j7 [] rfl ?_;simp (disch:=omega) only [go_sem,seval,portD,topoD,spotD];(repeat refine ⟨by omega,?_⟩))))
   refine j13 (soundRI t B) (fun s => t.length - s.val) ⟨0,Nat.zero_le _,hB⟩ ?_ (fun s => ?_)
   ·unfold soundRI
    refine Weak.list ?_ ?_;(all_goals simp (disch:=omega) only [AllF,AllL,q11,z11,j10,exists_eq_left',go_sem,seval,portD,topoD,spotD]);(all_goals (repeat' (with_reducible apply And.intro)));(all_goals try (first | exact q8 rfl | (refine x11 ?_;omega) | (refine q8 ?_;simp;done)))
   obtain ⟨i,hi,hb⟩ := s
   unfold soundRI
   simp only [] at hi hb ⊢
   by_cases h : i < t.length
   ·rw [x18 h] at hb
    unfold lensT at hb
    have r1 := x20 t i
    generalize t.getD i [] = l at r1 hb
    by_cases h7 : 6 < l.length
    ·rw [decide_eq_false (by omega),Bool.false_and] at hb
     subst hb
     rw [if_pos rfl]
     (repeat (first | apply j0 | refine z7 rfl ?_ | refine x7 rfl ?_ | apply j6 | (refine x5 fun K hK => ?_) | ((first | apply j5 | apply x6 | (refine j4 (hK _ ?_);clear hK K));(first | show AWP _ _ _ _ _ | ((try simp only [z8]);first | show loopQ _ _ _ _ _ _ | show AWP _ _ _ _ _))) | (refine j7 [] rfl ?_;simp (disch:=omega) only [go_sem,seval,portD,topoD,spotD,r1];(repeat refine ⟨by omega,?_⟩))))
     refine j9 ⟨_,?_,rfl⟩;rw [Tryz.results79];simp (disch:=omega) only [ResVars,ResVar,ptrLoc,go_sem,seval,portD,topoD,spotD,r1]
    ·rw [decide_eq_true (by omega),Bool.true_and] at hb
     (repeat (first | apply j0 | refine z7 rfl ?_ | refine x7 rfl ?_ | apply j6 | (refine x5 fun K hK => ?_) | ((first | apply j5 | apply x6 | (refine j4 (hK _ ?_);clear hK K));(first | show AWP _ _ _ _ _ | ((try simp only [z8]);first | show loopQ _ _ _ _ _ _ | show AWP _ _ _ _ _))) | (refine j7 [] rfl ?_;simp (disch:=omega) only [go_sem,seval,portD,topoD,spotD,r1];(repeat refine ⟨by omega,?_⟩))))
     refine ⟨⟨i + 1,by omega,hb⟩,by simp only [];omega,?_⟩
     refine Weak.list ?_ ?_;(all_goals simp (disch:=omega) only [AllF,AllL,q11,z11,j10,exists_eq_left',go_sem,seval,portD,topoD,spotD,r1]);(all_goals (repeat' (with_reducible apply And.intro)));(all_goals try (first | exact q8 rfl | (refine x11 ?_;omega) | (refine q8 ?_;simp;done)))
   ·rw [j18 (by omega)] at hb
    subst hb
    rw [if_neg (by decide)]
    (repeat (first | apply j0 | refine z7 rfl ?_ | refine x7 rfl ?_ | apply j6 | (refine x5 fun K hK => ?_) | ((first | apply j5 | apply x6 | (refine j4 (hK _ ?_);clear hK K));(first | show AWP _ _ _ _ _ | ((try simp only [z8]);first | show loopQ _ _ _ _ _ _ | show AWP _ _ _ _ _))) | (refine j7 [] rfl ?_;simp (disch:=omega) only [go_sem,seval,portD,topoD,spotD];(repeat refine ⟨by omega,?_⟩))))
    refine j13 (soundRJ t R) (fun s => t.length - s.val) ⟨0,Nat.zero_le _,hR⟩ ?_ (fun s => ?_)
    ·unfold soundRJ
     refine Weak.list ?_ ?_;(all_goals simp (disch:=omega) only [AllF,AllL,q11,z11,j10,exists_eq_left',go_sem,seval,portD,topoD,spotD]);(all_goals (repeat' (with_reducible apply And.intro)));(all_goals try (first | exact q8 rfl | (refine x11 ?_;omega) | (refine q8 ?_;simp;done)))
    clear hb hi h i
    obtain ⟨i,hi,hr⟩ := s
    unfold soundRJ
    simp only [] at hi hr ⊢
    by_cases h : i < t.length
    ·rw [x18 h] at hr
     have hp : portsT t i = allF (portT t i) (t.getD i []).length 0 := rfl
     rw [hp] at hr
     have hc := fun k (hk : k < (t.getD i []).length) => z161 t i k ht h hk
     have r1 := x20 t i
     have l1 := hs i
     generalize t.getD i [] = l at r1 hr hc l1
     (repeat (first | apply j0 | refine z7 rfl ?_ | refine x7 rfl ?_ | apply j6 | (refine x5 fun K hK => ?_) | ((first | apply j5 | apply x6 | (refine j4 (hK _ ?_);clear hK K));(first | show AWP _ _ _ _ _ | ((try simp only [z8]);first | show loopQ _ _ _ _ _ _ | show AWP _ _ _ _ _))) | (refine j7 [] rfl ?_;simp (disch:=omega) only [go_sem,seval,portD,topoD,spotD];(repeat refine ⟨by omega,?_⟩))))
     refine j13 (soundRK t R i l) (fun s => l.length - s.val) ⟨0,Nat.zero_le _,hr⟩ ?_ (fun s => ?_)
     ·unfold soundRK
      refine Weak.list ?_ ?_;(all_goals simp (disch:=omega) only [AllF,AllL,q11,z11,j10,exists_eq_left',go_sem,seval,portD,topoD,spotD]);(all_goals (repeat' (with_reducible apply And.intro)));(all_goals try (first | exact q8 rfl | (refine x11 ?_;omega) | (refine q8 ?_;simp;done)))
     clear hr
     obtain ⟨k,hk,hr⟩ := s
     unfold soundRK
     simp only [] at hk hr ⊢
     by_cases h2 : k < l.length
     ·have c := hc k h2
      rw [x18 h2] at hr
      generalize portT t i k = b at hr c
      simp only [topoD] at c
      cases b
      ·simp only [Bool.false_and,Bool.false_eq_true,if_false] at hr
       subst hr
       (repeat (first | apply j0 | refine z7 rfl ?_ | refine x7 rfl ?_ | apply j6 | (refine x5 fun K hK => ?_) | ((first | apply j5 | apply x6 | (refine j4 (hK _ ?_);clear hK K));(first | show AWP _ _ _ _ _ | ((try simp only [z8]);first | show loopQ _ _ _ _ _ _ | show AWP _ _ _ _ _))) | (refine x10 rfl rfl rfl ?_;simp (disch:=omega) only [go_sem,seval,portD,topoD,spotD,r1];(first | refine ⟨_,c,?_⟩)) | (refine j7 [] rfl ?_;simp (disch:=omega) only [go_sem,seval,portD,topoD,spotD,r1];(repeat refine ⟨by omega,?_⟩))))
       refine j9 ⟨_,?_,rfl⟩;rw [Tryz.results79];simp (disch:=omega) only [ResVars,ResVar,ptrLoc,go_sem,seval,portD,topoD,spotD,r1]
      ·rw [Bool.true_and] at hr
       (repeat (first | apply j0 | refine z7 rfl ?_ | refine x7 rfl ?_ | apply j6 | (refine x5 fun K hK => ?_) | ((first | apply j5 | apply x6 | (refine j4 (hK _ ?_);clear hK K));(first | show AWP _ _ _ _ _ | ((try simp only [z8]);first | show loopQ _ _ _ _ _ _ | show AWP _ _ _ _ _))) | (refine x10 rfl rfl rfl ?_;simp (disch:=omega) only [go_sem,seval,portD,topoD,spotD,r1];(first | refine ⟨_,c,?_⟩)) | (refine j7 [] rfl ?_;simp (disch:=omega) only [go_sem,seval,portD,topoD,spotD,r1];(repeat refine ⟨by omega,?_⟩))))
       refine ⟨⟨k + 1,by omega,hr⟩,by simp only [];omega,?_⟩
       refine Weak.list ?_ ?_;(all_goals simp (disch:=omega) only [AllF,AllL,q11,z11,j10,exists_eq_left',go_sem,seval,portD,topoD,spotD,r1]);(all_goals (repeat' (with_reducible apply And.intro)));(all_goals try (first | exact q8 rfl | (refine x11 ?_;omega) | (refine q8 ?_;simp;done)))
     ·rw [j18 (show l.length ≤ k by omega),Bool.true_and] at hr
      (repeat (first | apply j0 | refine z7 rfl ?_ | refine x7 rfl ?_ | apply j6 | (refine x5 fun K hK => ?_) | ((first | apply j5 | apply x6 | (refine j4 (hK _ ?_);clear hK K));(first | show AWP _ _ _ _ _ | ((try simp only [z8]);first | show loopQ _ _ _ _ _ _ | show AWP _ _ _ _ _))) | (refine j7 [] rfl ?_;simp (disch:=omega) only [go_sem,seval,portD,topoD,spotD,r1];(repeat refine ⟨by omega,?_⟩))))
      refine ⟨⟨i + 1,by omega,hr⟩,by simp only [];omega,?_⟩
      refine Weak.list ?_ ?_;(all_goals simp (disch:=omega) only [AllF,AllL,q11,z11,j10,exists_eq_left',go_sem,seval,portD,topoD,spotD,r1]);(all_goals (repeat' (with_reducible apply And.intro)));(all_goals try (first | exact q8 rfl | (refine x11 ?_;omega) | (refine q8 ?_;simp;done)))
    ·rw [j18 (by omega),if_pos rfl] at hr
     subst hr
     (repeat (first | apply j0 | refine z7 rfl ?_ | refine x7 rfl ?_ | apply j6 | (refine x5 fun K hK => ?_) | ((first | apply j5 | apply x6 | (refine j4 (hK _ ?_);clear hK K));(first | show AWP _ _ _ _ _ | ((try simp only [z8]);first | show loopQ _ _ _ _ _ _ | show AWP _ _ _ _ _))) | (refine j7 [] rfl ?_;simp (disch:=omega) only [go_sem,seval,portD,topoD,spotD];(repeat refine ⟨by omega,?_⟩))))
     refine j9 ⟨_,?_,rfl⟩;rw [Tryz.results79];simp (disch:=omega) only [ResVars,ResVar,ptrLoc,go_sem,seval,portD,topoD,spotD]
def edgeRow (ps : List Port) (n : Nat) : Nat → List Spot
 | 0 => []
 | k + 1 => edgeRow ps n k ++ if (ps.getD k p0).kd = 1 then [⟨n,k⟩] else []
def edgesTo (t : List (List Port)) : Nat → List Spot
 | 0 => []
 | n + 1 => edgesTo t n ++ edgeRow (t.getD n []) n (t.getD n []).length
def edgesT (t : List (List Port)) : List Spot := edgesTo t t.length
theorem q59 (ps : List Port) (n : Nat) : ∀ k,(edgeRow ps n k).length ≤ k
 | 0 => Nat.le_refl _
 |k + 1 => by
  have := q59 ps n k
  unfold edgeRow
  rw [List.length_append]
  split <;> simp <;> omega
theorem j33 {t : List (List Port)} (h : small t) : ∀ n,(edgesTo t n).length ≤ n * 1048576
 | 0 => Nat.le_refl _
 |n + 1 => by
  have h1 := j33 h n
  have h2 := q59 (t.getD n []) n (t.getD n []).length
  have h3 := q21 h n
  unfold edgesTo
  rw [List.length_append]
  omega
theorem q102 {ps : List Port} {n : Nat} {s : Spot} : ∀ {k : Nat},s ∈ edgeRow ps n k ↔ ∃ j,j < k ∧ (ps.getD j p0).kd = 1 ∧ s = ⟨n,j⟩
 | 0 => by simp [edgeRow]
 |k + 1 => by
  unfold edgeRow
  rw [List.mem_append,q102 (k := k)]
  constructor
  ·rintro (⟨j,h1,h2,h3⟩ | h)
   ·exact ⟨j,by omega,h2,h3⟩
   ·split at h
    ·rename_i hk
     exact ⟨k,by omega,hk,by simpa using h⟩
    ·simp at h
  ·rintro ⟨j,h1,h2,h3⟩
   by_cases hj : j = k
   ·subst hj
    right
    rw [if_pos h2]
    simp [h3]
   ·exact .inl ⟨j,by omega,h2,h3⟩
theorem z59 {t : List (List Port)} {s : Spot} : ∀ {n : Nat},s ∈ edgesTo t n ↔ ∃ i j,i < n ∧ j < (t.getD i []).length ∧ ((t.getD i []).getD j p0).kd = 1 ∧ s = ⟨i,j⟩
 | 0 => by simp [edgesTo]
 |n + 1 => by
  unfold edgesTo
  rw [List.mem_append,z59 (n := n),q102]
  constructor
  ·rintro (⟨i,j,h1,h2⟩ | ⟨j,h1,h2,h3⟩)
   ·exact ⟨i,j,by omega,h2⟩
   ·exact ⟨n,j,by omega,h1,h2,h3⟩
  ·rintro ⟨i,j,h1,h2,h3,h4⟩
   by_cases hi : i = n
   ·subst hi
    exact .inr ⟨j,h2,h3,h4⟩
   ·exact .inl ⟨i,j,by omega,h2,h3,h4⟩
def edgeT (t : List (List Port)) (s : Spot) : Int :=
 if s.sw < 0 ∨ (t.length : Int) ≤ s.sw then -1 else if s.po < 0 ∨ ((t.getD s.sw.toNat []).length : Int) ≤ s.po then -1 else
 if ((t.getD s.sw.toNat []).getD s.po.toNat p0).kd = 1 then ((t.getD s.sw.toNat []).getD s.po.toNat p0).tn else -1
set_option maxRecDepth 100000 in
theorem j73 (t : List (List Port)) (s : Spot) (ht : small t) : ACalls Tryz.prog 38 [.agg (topoD t),.agg (spotD s)] (· = [.d (.v (.int .i64 (edgeT t s)))]) := by
 obtain ⟨sw,po⟩ := s
 have ht1 := ht.1
 have l1 := q21 ht sw.toNat
 have r1 := x20 t sw.toNat
 unfold edgeT
 simp only []
 by_cases h1 : sw < 0
 ·rw [if_pos (.inl h1)]
  refine q12 Tryz.func38 rfl (by decide +kernel) (by rw [Tryz.ntmps38];simp) ?_;rw [Tryz.ntmps38];simp only [frOf]
  (repeat (first | apply j0 | refine z7 rfl ?_ | refine x7 rfl ?_ | apply j6 | (refine x5 fun K hK => ?_) | (refine x8 fun K hK => ?_) | ((first | apply j5 | apply x6 | ((first | refine j4 (hK _ ?_) | refine q9 (hK _ _ j8 ?_));clear hK K));show AWP _ _ _ _ _) | ((first | refine j7 [] rfl ?_ | refine q10 [] rfl ?_);simp (disch:=omega) only [go_sem,seval,portD,topoD,spotD];(repeat (first | refine ⟨by omega,?_⟩ | refine ⟨True.intro,?_⟩)))))
  refine j9 ⟨_,?_,rfl⟩;rw [Tryz.results38];simp (disch:=omega) only [ResVars,ResVar,ptrLoc,go_sem,seval,portD,topoD,spotD]
 ·by_cases h2 : (t.length : Int) ≤ sw
  ·rw [if_pos (.inr h2)]
   refine q12 Tryz.func38 rfl (by decide +kernel) (by rw [Tryz.ntmps38];simp) ?_;rw [Tryz.ntmps38];simp only [frOf]
   (repeat (first | apply j0 | refine z7 rfl ?_ | refine x7 rfl ?_ | apply j6 | (refine x5 fun K hK => ?_) | (refine x8 fun K hK => ?_) | ((first | apply j5 | apply x6 | ((first | refine j4 (hK _ ?_) | refine q9 (hK _ _ j8 ?_));clear hK K));show AWP _ _ _ _ _) | ((first | refine j7 [] rfl ?_ | refine q10 [] rfl ?_);simp (disch:=omega) only [go_sem,seval,portD,topoD,spotD];(repeat (first | refine ⟨by omega,?_⟩ | refine ⟨True.intro,?_⟩)))))
   refine j9 ⟨_,?_,rfl⟩;rw [Tryz.results38];simp (disch:=omega) only [ResVars,ResVar,ptrLoc,go_sem,seval,portD,topoD,spotD]
  ·rw [if_neg (by omega)]
   have r2 := j24 (t.getD sw.toNat []) po.toNat
   generalize t.getD sw.toNat [] = ps at r1 r2 l1
   generalize ps.getD po.toNat p0 = p at r2
   obtain ⟨kd,tn,pe,at',co⟩ := p
   simp only [portD] at r2
   simp only []
   by_cases h3 : po < 0
   ·rw [if_pos (.inl h3)]
    refine q12 Tryz.func38 rfl (by decide +kernel) (by rw [Tryz.ntmps38];simp) ?_;rw [Tryz.ntmps38];simp only [frOf]
    (repeat (first | apply j0 | refine z7 rfl ?_ | refine x7 rfl ?_ | apply j6 | (refine x5 fun K hK => ?_) | (refine x8 fun K hK => ?_) | ((first | apply j5 | apply x6 | ((first | refine j4 (hK _ ?_) | refine q9 (hK _ _ j8 ?_));clear hK K));show AWP _ _ _ _ _) | ((first | refine j7 [] rfl ?_ | refine q10 [] rfl ?_);simp (disch:=omega) only [go_sem,seval,portD,topoD,spotD,r1,r2];(repeat (first | refine ⟨by omega,?_⟩ | refine ⟨True.intro,?_⟩)))))
    refine j9 ⟨_,?_,rfl⟩;rw [Tryz.results38];simp (disch:=omega) only [ResVars,ResVar,ptrLoc,go_sem,seval,portD,topoD,spotD,r1,r2]
   ·by_cases h4 : (ps.length : Int) ≤ po
    ·rw [if_pos (.inr h4)]
     refine q12 Tryz.func38 rfl (by decide +kernel) (by rw [Tryz.ntmps38];simp) ?_;rw [Tryz.ntmps38];simp only [frOf]
     (repeat (first | apply j0 | refine z7 rfl ?_ | refine x7 rfl ?_ | apply j6 | (refine x5 fun K hK => ?_) | (refine x8 fun K hK => ?_) | ((first | apply j5 | apply x6 | ((first | refine j4 (hK _ ?_) | refine q9 (hK _ _ j8 ?_));clear hK K));show AWP _ _ _ _ _) | ((first | refine j7 [] rfl ?_ | refine q10 [] rfl ?_);simp (disch:=omega) only [go_sem,seval,portD,topoD,spotD,r1,r2];(repeat (first | refine ⟨by omega,?_⟩ | refine ⟨True.intro,?_⟩)))))
     refine j9 ⟨_,?_,rfl⟩;rw [Tryz.results38];simp (disch:=omega) only [ResVars,ResVar,ptrLoc,go_sem,seval,portD,topoD,spotD,r1,r2]
    ·rw [if_neg (by omega)]
     by_cases h5 : kd = 1
     ·subst h5
      rw [if_pos rfl]
      refine q12 Tryz.func38 rfl (by decide +kernel) (by rw [Tryz.ntmps38];simp) ?_;rw [Tryz.ntmps38];simp only [frOf]
      (repeat (first | apply j0 | refine z7 rfl ?_ | refine x7 rfl ?_ | apply j6 | (refine x5 fun K hK => ?_) | (refine x8 fun K hK => ?_) | ((first | apply j5 | apply x6 | ((first | refine j4 (hK _ ?_) | refine q9 (hK _ _ j8 ?_));clear hK K));show AWP _ _ _ _ _) | ((first | refine j7 [] rfl ?_ | refine q10 [] rfl ?_);simp (disch:=omega) only [go_sem,seval,portD,topoD,spotD,r1,r2];(repeat (first | refine ⟨by omega,?_⟩ | refine ⟨True.intro,?_⟩)))))
      refine j9 ⟨_,?_,rfl⟩;rw [Tryz.results38];simp (disch:=omega) only [ResVars,ResVar,ptrLoc,go_sem,seval,portD,topoD,spotD,r1,r2]
     ·rw [if_neg h5]
      have q : (kd != 1) = true := q14 h5
      refine q12 Tryz.func38 rfl (by decide +kernel) (by rw [Tryz.ntmps38];simp) ?_;rw [Tryz.ntmps38];simp only [frOf]
      (repeat (first | apply j0 | refine z7 rfl ?_ | refine x7 rfl ?_ | apply j6 | (refine x5 fun K hK => ?_) | (refine x8 fun K hK => ?_) | ((first | apply j5 | apply x6 | ((first | refine j4 (hK _ ?_) | refine q9 (hK _ _ j8 ?_));clear hK K));show AWP _ _ _ _ _) | ((first | refine j7 [] rfl ?_ | refine q10 [] rfl ?_);simp (disch:=omega) only [go_sem,seval,portD,topoD,spotD,r1,r2,q];(repeat (first | refine ⟨by omega,?_⟩ | refine ⟨True.intro,?_⟩)))))
      refine j9 ⟨_,?_,rfl⟩;rw [Tryz.results38];simp (disch:=omega) only [ResVars,ResVar,ptrLoc,go_sem,seval,portD,topoD,spotD,r1,r2,q]
def edgesI (t : List (List Port)) (s : {s : Nat × List Spot // s.1 ≤ t.length ∧ s.2 = edgesTo t s.1}) : ASt :=
 ⟨[(11,.p (.d (.v (.int .i64 (s.val.1 : Int))))),(10,.p (.d (.v (.int .i64 (t.length : Int))))),(9,.p (.d (.sl 1 t.length (rowPP t)))),(3,.gr 3 s.val.2.length 2 s.val.2.length (rowS s.val.2)),(1,.p (.d (.bx (topoD t))))],
  [(3,.grow 86 2 s.val.2.length s.val.2.length)]⟩
def edgesJ (t : List (List Port)) (l : List Port) (n : Nat) (s : {s : Nat × List Spot // s.1 ≤ l.length ∧ s.2 = edgesTo t n ++ edgeRow l n s.1}) : ASt :=
 ⟨[(18,.p (.d (.v (.int .i64 (s.val.1 : Int))))),(17,.p (.d (.v (.int .i64 (l.length : Int))))),(16,.p (.d (.sl 5 l.length (rowP l)))),(11,.p (.d (.v (.int .i64 (n : Int))))),(10,.p (.d (.v (.int .i64 (t.length : Int))))),(9,.p (.d (.sl 1 t.length (rowPP t)))),(4,.p (.d (.v (.int .i64 (n : Int))))),(3,.gr 3 s.val.2.length 2 s.val.2.length (rowS s.val.2)),(1,.p (.d (.bx (topoD t))))],
  [(3,.grow 86 2 s.val.2.length s.val.2.length)]⟩
set_option maxRecDepth 100000 in
theorem q162 (t : List (List Port)) (ht : small t) : ACalls Tryz.prog 149 [.agg (topoD t)] (· = [.d (.sl 2 (edgesT t).length (rowS (edgesT t)))]) := by
 have ht1 := ht.1
 unfold edgesT
 refine q12 Tryz.func149 rfl (by decide +kernel) (by rw [Tryz.ntmps149];simp) ?_;rw [Tryz.ntmps149];simp only [frOf]
 (repeat ((fail_if_success (show AWP _ _ (.region 2 _ _) _ _));first | apply j0 | refine z7 rfl ?_ | refine x7 rfl ?_ | apply j6 | (refine x5 fun K hK => ?_) | ((first | apply j5 | apply x6 | (refine j4 (hK _ ?_);clear hK K));(first | show AWP _ _ _ _ _ | ((try simp only [z8]);first | show loopQ _ _ _ _ _ _ | show AWP _ _ _ _ _))) | (refine j7 [] rfl ?_;simp (disch:=omega) only [go_sem,seval,portD,topoD,spotD];(repeat refine ⟨by omega,?_⟩))))
 refine j32 3 3 2 86 (rowS []) rfl (by kernel_rfl) rfl ?_
 (repeat (first | apply j0 | refine z7 rfl ?_ | refine x7 rfl ?_ | apply j6 | (refine x5 fun K hK => ?_) | ((first | apply j5 | apply x6 | (refine j4 (hK _ ?_);clear hK K));(first | show AWP _ _ _ _ _ | ((try simp only [z8]);first | show loopQ _ _ _ _ _ _ | show AWP _ _ _ _ _))) | (refine j7 [] rfl ?_;simp (disch:=omega) only [go_sem,seval,portD,topoD,spotD];(repeat refine ⟨by omega,?_⟩))))
 refine j13 (edgesI t) (fun s => t.length - s.val.1) ⟨(0,[]),Nat.zero_le _,rfl⟩ ?_ (fun s => ?_)
 ·unfold edgesI
  refine Weak.list ?_ ?_;(all_goals simp (disch:=omega) only [AllF,AllL,q11,z11,j10,exists_eq_left',go_sem,seval,portD,topoD,spotD]);(all_goals (repeat' (with_reducible apply And.intro)));(all_goals try (first | exact q8 rfl | (refine x11 ?_;omega) | (refine q8 ?_;simp;done)))
 obtain ⟨⟨n,out⟩,hn,ho⟩ := s
 unfold edgesI
 simp only [] at hn ho ⊢
 by_cases h : n < t.length
 ·have l1 := q21 ht n
  have b1 := j33 ht n
  have r1 := x20 t n
  have st : edgesTo t (n + 1) = edgesTo t n ++ edgeRow (t.getD n []) n (t.getD n []).length := rfl
  rw [← ho] at b1
  generalize t.getD n [] = l at r1 l1 st
  (repeat (first | apply j0 | refine z7 rfl ?_ | refine x7 rfl ?_ | apply j6 | (refine x5 fun K hK => ?_) | ((first | apply j5 | apply x6 | (refine j4 (hK _ ?_);clear hK K));(first | show AWP _ _ _ _ _ | ((try simp only [z8]);first | show loopQ _ _ _ _ _ _ | show AWP _ _ _ _ _))) | (refine j7 [] rfl ?_;simp (disch:=omega) only [go_sem,seval,portD,topoD,spotD,r1];(repeat refine ⟨by omega,?_⟩))))
  refine j13 (edgesJ t l n) (fun s => l.length - s.val.1) ⟨(0,out),Nat.zero_le _,by rw [ho];simp [edgeRow]⟩ ?_ (fun s => ?_)
  ·unfold edgesJ
   refine Weak.list ?_ ?_;(all_goals simp (disch:=omega) only [AllF,AllL,q11,z11,j10,exists_eq_left',go_sem,seval,portD,topoD,spotD]);(all_goals (repeat' (with_reducible apply And.intro)));(all_goals try (first | exact q8 rfl | (refine x11 ?_;omega) | (refine q8 ?_;simp;done)))
  clear b1
  obtain ⟨⟨k,out⟩,hk,ho⟩ := s
  unfold edgesJ
  simp only [] at hk ho ⊢
  have b1 := j33 ht n
  have b2 := q59 l n k
  have b3 : out.length = (edgesTo t n).length + (edgeRow l n k).length := by rw [ho,List.length_append]
  by_cases h2 : k < l.length
  ·have r2 := j24 l k
   have so : edgesTo t n ++ edgeRow l n (k + 1) = out ++ if (l.getD k p0).kd = 1 then [⟨n,k⟩] else [] := by
    rw [ho,List.append_assoc];rfl
   generalize l.getD k p0 = p at r2 so
   obtain ⟨kd,tn,pe,at',co⟩ := p
   simp only [portD] at r2 so
   by_cases h5 : kd = 1
   ·subst h5
    rw [if_pos rfl] at so
    (repeat (first | apply j0 | refine z7 rfl ?_ | refine x7 rfl ?_ | apply j6 | (refine x5 fun K hK => ?_) | ((first | apply j5 | apply x6 | (refine j4 (hK _ ?_);clear hK K));(first | show AWP _ _ _ _ _ | ((try simp only [z8]);first | show loopQ _ _ _ _ _ _ | show AWP _ _ _ _ _))) | (refine j7 [] rfl ?_;simp (disch:=omega) only [go_sem,seval,portD,topoD,spotD,r2];(repeat refine ⟨by omega,?_⟩))))
    refine ⟨⟨(k + 1,out ++ [⟨n,k⟩]),by simp only [];omega,so.symm⟩,by simp only [];omega,?_⟩
    refine Weak.list ?_ ?_;(all_goals simp (disch:=omega) only [AllF,AllL,q11,z11,j10,exists_eq_left',go_sem,seval,portD,topoD,spotD,r2]);(all_goals (repeat' (with_reducible apply And.intro)));(all_goals try (first | exact q8 rfl | (refine x11 ?_;omega) | (refine q8 ?_;simp;done)))
    ·exact z26 (by simp) (by simp) (fun j hj => x73 spotD s0 out ⟨n,k⟩ _ rfl j hj)
    ·exact q33 (by simp) (by simp)
   ·rw [if_neg h5,List.append_nil] at so
    have q : (kd == 1) = false := z14 h5
    (repeat (first | apply j0 | refine z7 rfl ?_ | refine x7 rfl ?_ | apply j6 | (refine x5 fun K hK => ?_) | ((first | apply j5 | apply x6 | (refine j4 (hK _ ?_);clear hK K));(first | show AWP _ _ _ _ _ | ((try simp only [z8]);first | show loopQ _ _ _ _ _ _ | show AWP _ _ _ _ _))) | (refine j7 [] rfl ?_;simp (disch:=omega) only [go_sem,seval,portD,topoD,spotD,r2,q];(repeat refine ⟨by omega,?_⟩))))
    refine ⟨⟨(k + 1,out),by simp only [];omega,so.symm⟩,by simp only [];omega,?_⟩
    refine Weak.list ?_ ?_;(all_goals simp (disch:=omega) only [AllF,AllL,q11,z11,j10,exists_eq_left',go_sem,seval,portD,topoD,spotD,r2,q]);(all_goals (repeat' (with_reducible apply And.intro)));(all_goals try (first | exact q8 rfl | (refine x11 ?_;omega) | (refine q8 ?_;simp;done)))
  ·have : k = l.length := by omega
   subst this
   (repeat (first | apply j0 | refine z7 rfl ?_ | refine x7 rfl ?_ | apply j6 | (refine x5 fun K hK => ?_) | ((first | apply j5 | apply x6 | (refine j4 (hK _ ?_);clear hK K));(first | show AWP _ _ _ _ _ | ((try simp only [z8]);first | show loopQ _ _ _ _ _ _ | show AWP _ _ _ _ _))) | (refine j7 [] rfl ?_;simp (disch:=omega) only [go_sem,seval,portD,topoD,spotD];(repeat refine ⟨by omega,?_⟩))))
   refine ⟨⟨(n + 1,out),by simp only [];omega,by rw [st];exact ho⟩,by simp only [];omega,?_⟩
   refine Weak.list ?_ ?_;(all_goals simp (disch:=omega) only [AllF,AllL,q11,z11,j10,exists_eq_left',go_sem,seval,portD,topoD,spotD]);(all_goals (repeat' (with_reducible apply And.intro)));(all_goals try (first | exact q8 rfl | (refine x11 ?_;omega) | (refine q8 ?_;simp;done)))
 ·have : n = t.length := by omega
  subst this
  subst ho
  (repeat ((fail_if_success (show AWP _ _ (.region 12 _ _) _ _));first | apply j0 | refine z7 rfl ?_ | refine x7 rfl ?_ | apply j6 | (refine x5 fun K hK => ?_) | ((first | apply j5 | apply x6 | (refine j4 (hK _ ?_);clear hK K));(first | show AWP _ _ _ _ _ | ((try simp only [z8]);first | show loopQ _ _ _ _ _ _ | show AWP _ _ _ _ _))) | (refine j7 [] rfl ?_;simp (disch:=omega) only [go_sem,seval,portD,topoD,spotD];(repeat refine ⟨by omega,?_⟩))))
  refine q17 3 _ (.p (.d (.sl 2 (edgesTo t t.length).length (rowS (edgesTo t t.length))))) rfl (q22 rfl (fun i hi => rfl)) ?_
  (repeat (first | apply j0 | refine z7 rfl ?_ | refine x7 rfl ?_ | apply j6 | (refine x5 fun K hK => ?_) | ((first | apply j5 | apply x6 | (refine j4 (hK _ ?_);clear hK K));(first | show AWP _ _ _ _ _ | ((try simp only [z8]);first | show loopQ _ _ _ _ _ _ | show AWP _ _ _ _ _))) | (refine j7 [] rfl ?_;simp (disch:=omega) only [go_sem,seval,portD,topoD,spotD];(repeat refine ⟨by omega,?_⟩))))
  refine j9 ⟨_,?_,rfl⟩;rw [Tryz.results149];simp (disch:=omega) only [ResVars,ResVar,ptrLoc,go_sem,seval,portD,topoD,spotD]
def edgesRI (t : List (List Port)) (s : {s : Nat × List Spot // s.1 ≤ t.length ∧ s.2 = edgesTo t s.1}) : ASt :=
 ⟨[(4,.p (.d (.v (.int .i64 (s.val.1 : Int))))),(3,.gr 6 s.val.2.length 2 s.val.2.length (rowS s.val.2)),(1,.p (.d (.bx (topoD t))))],
  [(6,.grow 86 2 s.val.2.length s.val.2.length)]⟩
def edgesRJ (t : List (List Port)) (l : List Port) (n : Nat) (s : {s : Nat × List Spot // s.1 ≤ l.length ∧ s.2 = edgesTo t n ++ edgeRow l n s.1}) : ASt :=
 ⟨[(5,.p (.d (.v (.int .i64 (s.val.1 : Int))))),(4,.p (.d (.v (.int .i64 (n : Int))))),(3,.gr 6 s.val.2.length 2 s.val.2.length (rowS s.val.2)),(1,.p (.d (.bx (topoD t))))],
  [(6,.grow 86 2 s.val.2.length s.val.2.length)]⟩
set_option maxRecDepth 100000 in
theorem z162 (t : List (List Port)) (ht : small t) : ACalls Tryz.prog 120 [.agg (topoD t)] (· = [.d (.sl 2 (edgesT t).length (rowS (edgesT t)))]) := by
 have ht1 := ht.1
 unfold edgesT
 refine q12 Tryz.func120 rfl (by decide +kernel) (by rw [Tryz.ntmps120];simp) ?_;rw [Tryz.ntmps120];simp only [frOf]
 (repeat (first | apply j0 | refine z7 rfl ?_ | refine x7 rfl ?_ | apply j6 | (refine x5 fun K hK => ?_) | ((first | apply j5 | apply x6 | (refine j4 (hK _ ?_);clear hK K));(first | show AWP _ _ _ _ _ | ((try simp only [z8]);first | show loopQ _ _ _ _ _ _ | show AWP _ _ _ _ _))) | (refine j7 [6] rfl ?_;simp (disch:=omega) only [go_sem,seval,portD,topoD,spotD];(repeat refine ⟨by omega,?_⟩))))
 refine j13 (edgesRI t) (fun s => t.length - s.val.1) ⟨(0,[]),Nat.zero_le _,rfl⟩ ?_ (fun s => ?_)
 ·unfold edgesRI
  refine Weak.list ?_ ?_;(all_goals simp (disch:=omega) only [AllF,AllL,q11,z11,j10,exists_eq_left',go_sem,seval,portD,topoD,spotD]);(all_goals (repeat' (with_reducible apply And.intro)));(all_goals try (first | exact q8 rfl | (refine x11 ?_;omega) | (refine q8 ?_;simp;done)))
  exact z26 rfl rfl (fun k hk => by omega)
 obtain ⟨⟨n,out⟩,hn,ho⟩ := s
 unfold edgesRI
 simp only [] at hn ho ⊢
 by_cases h : n < t.length
 ·have l1 := q21 ht n
  have b1 := j33 ht n
  have r1 := x20 t n
  have st : edgesTo t (n + 1) = edgesTo t n ++ edgeRow (t.getD n []) n (t.getD n []).length := rfl
  rw [← ho] at b1
  generalize t.getD n [] = l at r1 l1 st
  (repeat (first | apply j0 | refine z7 rfl ?_ | refine x7 rfl ?_ | apply j6 | (refine x5 fun K hK => ?_) | ((first | apply j5 | apply x6 | (refine j4 (hK _ ?_);clear hK K));(first | show AWP _ _ _ _ _ | ((try simp only [z8]);first | show loopQ _ _ _ _ _ _ | show AWP _ _ _ _ _))) | (refine j7 [6] rfl ?_;simp (disch:=omega) only [go_sem,seval,portD,topoD,spotD];(repeat refine ⟨by omega,?_⟩))))
  refine j13 (edgesRJ t l n) (fun s => l.length - s.val.1) ⟨(0,out),Nat.zero_le _,by rw [ho];simp [edgeRow]⟩ ?_ (fun s => ?_)
  ·unfold edgesRJ
   refine Weak.list ?_ ?_;(all_goals simp (disch:=omega) only [AllF,AllL,q11,z11,j10,exists_eq_left',go_sem,seval,portD,topoD,spotD]);(all_goals (repeat' (with_reducible apply And.intro)));(all_goals try (first | exact q8 rfl | (refine x11 ?_;omega) | (refine q8 ?_;simp;done)))
  clear b1
  obtain ⟨⟨k,out⟩,hk,ho⟩ := s
  unfold edgesRJ
  simp only [] at hk ho ⊢
  have b1 := j33 ht n
  have b2 := q59 l n k
  have b3 : out.length = (edgesTo t n).length + (edgeRow l n k).length := by rw [ho,List.length_append]
  by_cases h2 : k < l.length
  ·have r2 := j24 l k
   have so : edgesTo t n ++ edgeRow l n (k + 1) = out ++ if (l.getD k p0).kd = 1 then [⟨n,k⟩] else [] := by
    rw [ho,List.append_assoc];rfl
   generalize l.getD k p0 = p at r2 so
   obtain ⟨kd,tn,pe,at',co⟩ := p
   simp only [portD] at r2 so
   by_cases h5 : kd = 1
   ·subst h5
    rw [if_pos rfl] at so
    (repeat (first | apply j0 | refine z7 rfl ?_ | refine x7 rfl ?_ | apply j6 | (refine x5 fun K hK => ?_) | ((first | apply j5 | apply x6 | (refine j4 (hK _ ?_);clear hK K));(first | show AWP _ _ _ _ _ | ((try simp only [z8]);first | show loopQ _ _ _ _ _ _ | show AWP _ _ _ _ _))) | (refine j7 [6] rfl ?_;simp (disch:=omega) only [go_sem,seval,portD,topoD,spotD,r1,r2];(repeat refine ⟨by omega,?_⟩))))
    refine ⟨⟨(k + 1,out ++ [⟨n,k⟩]),by simp only [];omega,so.symm⟩,by simp only [];omega,?_⟩
    refine Weak.list ?_ ?_;(all_goals simp (disch:=omega) only [AllF,AllL,q11,z11,j10,exists_eq_left',go_sem,seval,portD,topoD,spotD,r1,r2]);(all_goals (repeat' (with_reducible apply And.intro)));(all_goals try (first | exact q8 rfl | (refine x11 ?_;omega) | (refine q8 ?_;simp;done)))
    ·exact z26 (by simp) (by simp) (fun j hj => x73 spotD s0 out ⟨n,k⟩ _ rfl j hj)
    ·exact q33 (by simp) (by simp)
   ·rw [if_neg h5,List.append_nil] at so
    have q : (kd == 1) = false := z14 h5
    (repeat (first | apply j0 | refine z7 rfl ?_ | refine x7 rfl ?_ | apply j6 | (refine x5 fun K hK => ?_) | ((first | apply j5 | apply x6 | (refine j4 (hK _ ?_);clear hK K));(first | show AWP _ _ _ _ _ | ((try simp only [z8]);first | show loopQ _ _ _ _ _ _ | show AWP _ _ _ _ _))) | (refine j7 [6] rfl ?_;simp (disch:=omega) only [go_sem,seval,portD,topoD,spotD,r1,r2,q];(repeat refine ⟨by omega,?_⟩))))
    refine ⟨⟨(k + 1,out),by simp only [];omega,so.symm⟩,by simp only [];omega,?_⟩
    refine Weak.list ?_ ?_;(all_goals simp (disch:=omega) only [AllF,AllL,q11,z11,j10,exists_eq_left',go_sem,seval,portD,topoD,spotD,r1,r2,q]);(all_goals (repeat' (with_reducible apply And.intro)));(all_goals try (first | exact q8 rfl | (refine x11 ?_;omega) | (refine q8 ?_;simp;done)))
  ·have : k = l.length := by omega
   subst this
   (repeat (first | apply j0 | refine z7 rfl ?_ | refine x7 rfl ?_ | apply j6 | (refine x5 fun K hK => ?_) | ((first | apply j5 | apply x6 | (refine j4 (hK _ ?_);clear hK K));(first | show AWP _ _ _ _ _ | ((try simp only [z8]);first | show loopQ _ _ _ _ _ _ | show AWP _ _ _ _ _))) | (refine j7 [6] rfl ?_;simp (disch:=omega) only [go_sem,seval,portD,topoD,spotD,r1];(repeat refine ⟨by omega,?_⟩))))
   refine ⟨⟨(n + 1,out),by simp only [];omega,by rw [st];exact ho⟩,by simp only [];omega,?_⟩
   refine Weak.list ?_ ?_;(all_goals simp (disch:=omega) only [AllF,AllL,q11,z11,j10,exists_eq_left',go_sem,seval,portD,topoD,spotD,r1]);(all_goals (repeat' (with_reducible apply And.intro)));(all_goals try (first | exact q8 rfl | (refine x11 ?_;omega) | (refine q8 ?_;simp;done)))
 ·have : n = t.length := by omega
  subst this
  subst ho
  (repeat ((fail_if_success (show AWP _ _ (.region 10 _ _) _ _));first | apply j0 | refine z7 rfl ?_ | refine x7 rfl ?_ | apply j6 | (refine x5 fun K hK => ?_) | ((first | apply j5 | apply x6 | (refine j4 (hK _ ?_);clear hK K));(first | show AWP _ _ _ _ _ | ((try simp only [z8]);first | show loopQ _ _ _ _ _ _ | show AWP _ _ _ _ _))) | (refine j7 [6] rfl ?_;simp (disch:=omega) only [go_sem,seval,portD,topoD,spotD];(repeat refine ⟨by omega,?_⟩))))
  refine q17 3 _ (.p (.d (.sl 2 (edgesTo t t.length).length (rowS (edgesTo t t.length))))) rfl (q22 rfl (fun i hi => rfl)) ?_
  (repeat (first | apply j0 | refine z7 rfl ?_ | refine x7 rfl ?_ | apply j6 | (refine x5 fun K hK => ?_) | ((first | apply j5 | apply x6 | (refine j4 (hK _ ?_);clear hK K));(first | show AWP _ _ _ _ _ | ((try simp only [z8]);first | show loopQ _ _ _ _ _ _ | show AWP _ _ _ _ _))) | (refine j7 [6] rfl ?_;simp (disch:=omega) only [go_sem,seval,portD,topoD,spotD];(repeat refine ⟨by omega,?_⟩))))
  refine j9 ⟨_,?_,rfl⟩;rw [Tryz.results120];simp (disch:=omega) only [ResVars,ResVar,ptrLoc,go_sem,seval,portD,topoD,spotD]
end Go.Proofs.YtemcdefpihkfpaaGreat
namespace Go.Proofs.YtemcdefpihkfpaaGreat.AL
open Go
end Go.Proofs.YtemcdefpihkfpaaGreat.AL
namespace Go.Proofs.YtemcdefpihkfpaaGreat
open Go.Proofs.YtemcdefpihkfpaaGreat.AL
theorem eqA2 : EqTy Tryz.prog 134 [.i64,.i64] := by
 refine ⟨by kernel_rfl,fun w xs ys hx hy => ?_⟩
 rcases xs with _ | ⟨a1,_ | ⟨a2,_ | ⟨a3,ar⟩⟩⟩ <;> first | (simp at hx;done) | skip
 rcases ys with _ | ⟨b1,_ | ⟨b2,_ | ⟨b3,br⟩⟩⟩ <;> first | (simp at hy;done) | skip
 show (Op.equalIn (9999 + 1) 134 _ _).run _ _ = _
 unfold Op.equalIn
 simp [go_sem,ints,eqI,Tryz.underlying134]
 by_cases h1 : a1 = b1
 ·by_cases h2 : a2 = b2
  ·simp [h1,h2]
  ·simp [h1,h2]
 ·simp [h1]
structure Way where
 fr : Int
 to : Int
 via : Int
deriving DecidableEq
structure Policy where
 tn : Int
 peers : List (Int × Int)
 ways : List Way
deriving DecidableEq
def wayD (w : Way) : List Dat := [.v (.int .i64 w.fr),.v (.int .i64 w.to),.v (.int .i64 w.via)]
def w0 : Way := ⟨0,0,0⟩
def pairD (p : Int × Int) : List Dat := [.v (.int .i64 p.1),.v (.int .i64 p.2)]
def rowW (l : List Way) : Nat → List Dat := rowO wayD w0 l
def rowA (l : List (Int × Int)) : Nat → List Dat := rowO pairD (0,0) l
theorem x59 (l : List Way) (i : Nat) : rowW l i = wayD (l.getD i w0) := rfl
theorem j59 (l : List (Int × Int)) (i : Nat) : rowA l i = pairD (l.getD i (0,0)) := rfl
theorem z102 (l : List Spot) (i : Nat) : rowS l i = spotD (l.getD i s0) := rfl
def policyD (p : Policy) : List Dat := [.v (.int .i64 p.tn),.sl 2 p.peers.length (rowA p.peers),.sl 3 p.ways.length (rowW p.ways)]
def Policy.small (p : Policy) : Prop := p.peers.length ≤ 1099511627776 ∧ p.ways.length ≤ 1099511627776
def tenantP (p : Policy) (n : Int) : Bool := decide (0 ≤ n) && decide (n < p.tn)
theorem x43 (p : Policy) (n : Int) : ACalls Tryz.prog 150 [.agg (policyD p),.d (.v (.int .i64 n))] (· = [.d (.v (.bool (tenantP p n)))]) := by
 unfold tenantP
 by_cases h : 0 ≤ n
 ·rw [decide_eq_true h]
  refine q12 Tryz.func150 rfl (by decide +kernel) (by rw [Tryz.ntmps150];simp) ?_;rw [Tryz.ntmps150];simp only [frOf]
  (repeat (first | apply j0 | refine z7 rfl ?_ | refine x7 rfl ?_ | apply j6 | (refine x5 fun K hK => ?_) | ((first | apply j5 | apply x6 | (refine j4 (hK _ ?_);clear hK K));show AWP _ _ _ _ _) | (refine j7 [] rfl ?_;simp (disch:=omega) only [go_sem,seval,policyD,wayD,pairD,spotD,eqA2,z12];(repeat refine ⟨by omega,?_⟩))))
  refine j9 ⟨_,?_,rfl⟩;rw [Tryz.results150];simp (disch:=omega) only [ResVars,ResVar,ptrLoc,go_sem,seval,policyD,wayD,pairD,spotD,eqA2,z12]
 ·rw [decide_eq_false h]
  refine q12 Tryz.func150 rfl (by decide +kernel) (by rw [Tryz.ntmps150];simp) ?_;rw [Tryz.ntmps150];simp only [frOf]
  (repeat (first | apply j0 | refine z7 rfl ?_ | refine x7 rfl ?_ | apply j6 | (refine x5 fun K hK => ?_) | ((first | apply j5 | apply x6 | (refine j4 (hK _ ?_);clear hK K));show AWP _ _ _ _ _) | (refine j7 [] rfl ?_;simp (disch:=omega) only [go_sem,seval,policyD,wayD,pairD,spotD,eqA2,z12];(repeat refine ⟨by omega,?_⟩))))
  refine j9 ⟨_,?_,rfl⟩;rw [Tryz.results150];simp (disch:=omega) only [ResVars,ResVar,ptrLoc,go_sem,seval,policyD,wayD,pairD,spotD,eqA2,z12]
theorem j43 (p : Policy) (n : Int) : ACalls Tryz.prog 121 [.agg (policyD p),.d (.v (.int .i64 n))] (· = [.d (.v (.bool (tenantP p n)))]) := by
 unfold tenantP
 by_cases h : 0 ≤ n
 ·rw [decide_eq_true h]
  refine q12 Tryz.func121 rfl (by decide +kernel) (by rw [Tryz.ntmps121];simp) ?_;rw [Tryz.ntmps121];simp only [frOf]
  (repeat (first | apply j0 | refine z7 rfl ?_ | refine x7 rfl ?_ | apply j6 | (refine x5 fun K hK => ?_) | ((first | apply j5 | apply x6 | (refine j4 (hK _ ?_);clear hK K));show AWP _ _ _ _ _) | (refine j7 [] rfl ?_;simp (disch:=omega) only [go_sem,seval,policyD,wayD,pairD,spotD,eqA2,z12];(repeat refine ⟨by omega,?_⟩))))
  refine j9 ⟨_,?_,rfl⟩;rw [Tryz.results121];simp (disch:=omega) only [ResVars,ResVar,ptrLoc,go_sem,seval,policyD,wayD,pairD,spotD,eqA2,z12]
 ·rw [decide_eq_false h]
  refine q12 Tryz.func121 rfl (by decide +kernel) (by rw [Tryz.ntmps121];simp) ?_;rw [Tryz.ntmps121];simp only [frOf]
  (repeat (first | apply j0 | refine z7 rfl ?_ | refine x7 rfl ?_ | apply j6 | (refine x5 fun K hK => ?_) | ((first | apply j5 | apply x6 | (refine j4 (hK _ ?_);clear hK K));show AWP _ _ _ _ _) | (refine j7 [] rfl ?_;simp (disch:=omega) only [go_sem,seval,policyD,wayD,pairD,spotD,eqA2,z12];(repeat refine ⟨by omega,?_⟩))))
  refine j9 ⟨_,?_,rfl⟩;rw [Tryz.results121];simp (disch:=omega) only [ResVars,ResVar,ptrLoc,go_sem,seval,policyD,wayD,pairD,spotD,eqA2,z12]
def bitsI (x : BitVec 128) (i : Fin 129) : ASt := ⟨[(4,.p (.d (.v (.int .i64 (i.val : Int))))),(3,.loc 3 0),(2,.loc 2 0),(1,.p (.d (.bx (hd x))))],
 [(3,.arr 112 128 fun j => .v (.bool (decide (j < i.val) && x.getLsbD j))),(2,.arr 112 128 fun _ => .v (.bool false))]⟩
theorem q34 (x : BitVec 128) : ACalls Tryz.prog 55 [.agg (hd x)] (· = [.arr 128 fun i => .v (.bool (x.getLsbD i))]) := by
 refine q12 Tryz.func55 rfl (by decide +kernel) (by rw [Tryz.ntmps55];simp) ?_;rw [Tryz.ntmps55];simp only [frOf]
 (repeat refine j0 ?_);refine x5 fun K hK => ?_;refine j11 [] _ _ ?_;simp (disch:=omega) only [go_sem,seval,hd,cb];(repeat refine ⟨by omega,?_⟩);(refine j4 (hK _ ?_);clear hK K;show AWP _ _ _ _ _)
 (repeat refine j0 ?_);refine x5 fun K hK => ?_;refine j11 [] _ _ ?_;simp (disch:=omega) only [go_sem,seval,hd,cb];(repeat refine ⟨by omega,?_⟩);(refine j4 (hK _ ?_);clear hK K;show AWP _ _ _ _ _)
 (repeat refine j0 ?_);refine x5 fun K hK => ?_;refine j11 [] _ _ ?_;simp (disch:=omega) only [go_sem,seval,hd,cb];(repeat refine ⟨by omega,?_⟩);(refine j4 (hK _ ?_);clear hK K;show AWP _ _ _ _ _)
 refine j6 (j13 (bitsI x) (fun i => 128 - i.val) ⟨0,by omega⟩ ?_ (fun i => ?_))
 ·unfold bitsI
  refine Weak.list ?_ ?_;(all_goals simp (disch:=omega) only [AllF,AllL,q11,z11,j10,exists_eq_left',go_sem,seval,hd,cb]);(all_goals (repeat' (with_reducible apply And.intro)));(all_goals try (first | exact q8 rfl | (refine x11 ?_;omega) | (refine q8 ?_;simp;done)))
  exact ⟨rfl,rfl,fun i _ => by simp⟩
 unfold bitsI
 by_cases hn : i.val < 128
 ·(repeat refine j0 ?_);refine x5 fun K hK => ?_;refine j11 [] _ _ ?_;simp (disch:=omega) only [go_sem,seval,hd,cb];(repeat refine ⟨by omega,?_⟩);(refine j4 (hK _ ?_);clear hK K;show AWP _ _ _ _ _)
  (repeat refine j0 ?_);refine j15 rfl (fun _ => ?_) (fun ht => absurd ht (by decide))
  refine j5 ?_;show AWP _ _ _ _ _
  refine j0 (j6 ?_)
  (repeat refine j0 ?_);refine x5 fun K hK => ?_;refine j11 [] _ _ ?_;simp (disch:=omega) only [go_sem,seval,hd,cb];(repeat refine ⟨by omega,?_⟩);(refine j4 (hK _ ?_);clear hK K;show AWP _ _ _ _ _)
  by_cases h6 : i.val < 64
  ·refine j15 rfl (fun _ => ?_) (fun ht => by simp at ht;omega)
   (repeat refine j0 ?_);refine x5 fun K hK => ?_;refine j11 [] _ _ ?_;simp (disch:=omega) only [go_sem,seval,hd,cb];(repeat refine ⟨by omega,?_⟩);(refine j4 (hK _ ?_);clear hK K;show AWP _ _ _ _ _)
   (repeat refine j0 ?_);refine x5 fun K hK => ?_
   refine j11 [] _ _ ?_;simp (disch:=omega) only [go_sem,seval,hd,cb];(repeat refine ⟨by omega,?_⟩)
   (refine j4 (hK _ ?_);clear hK K;show loopQ _ _ _ _ _ _)
   refine ⟨⟨i.val + 1,by omega⟩,by simp only [];omega,?_⟩
   refine Weak.list ?_ ?_;(all_goals simp (disch:=omega) only [AllF,AllL,q11,z11,j10,exists_eq_left',go_sem,seval,hd,cb]);(all_goals (repeat' (with_reducible apply And.intro)));(all_goals try (first | exact q8 rfl | (refine x11 ?_;omega) | (refine q8 ?_;simp;done)))
   ·refine ⟨rfl,rfl,fun j hj => ?_⟩
    simp only [rem_lo x i.val h6]
    split
    ·rename_i e;subst e;simp
    ·rename_i e;simp;by_cases hlt : j < i.val
     ·simp [hlt,show j < i.val + 1 from by omega]
     ·simp [hlt,show ¬ j < i.val + 1 from by omega]
  ·refine j15 rfl (fun ht => by simp at ht;omega) (fun _ => ?_)
   (repeat refine j0 ?_);refine x5 fun K hK => ?_;refine j11 [] _ _ ?_;simp (disch:=omega) only [go_sem,seval,hd,cb];(repeat refine ⟨by omega,?_⟩);(refine j4 (hK _ ?_);clear hK K;show AWP _ _ _ _ _)
   (repeat refine j0 ?_);refine x5 fun K hK => ?_
   refine j11 [] _ _ ?_;simp (disch:=omega) only [go_sem,seval,hd,cb];(repeat refine ⟨by omega,?_⟩)
   (refine j4 (hK _ ?_);clear hK K;show loopQ _ _ _ _ _ _)
   refine ⟨⟨i.val + 1,by omega⟩,by simp only [];omega,?_⟩
   refine Weak.list ?_ ?_;(all_goals simp (disch:=omega) only [AllF,AllL,q11,z11,j10,exists_eq_left',go_sem,seval,hd,cb]);(all_goals (repeat' (with_reducible apply And.intro)));(all_goals try (first | exact q8 rfl | (refine x11 ?_;omega) | (refine q8 ?_;simp;done)))
   ·refine ⟨rfl,rfl,fun j hj => ?_⟩
    simp only [rem_hi x i.val (by omega) hn]
    split
    ·rename_i e;subst e;simp
    ·rename_i e;simp;by_cases hlt : j < i.val
     ·simp [hlt,show j < i.val + 1 from by omega]
     ·simp [hlt,show ¬ j < i.val + 1 from by omega]
 ·(repeat refine j0 ?_);refine x5 fun K hK => ?_;refine j11 [] _ _ ?_;simp (disch:=omega) only [go_sem,seval,hd,cb];(repeat refine ⟨by omega,?_⟩);(refine j4 (hK _ ?_);clear hK K;show AWP _ _ _ _ _)
  refine j15 rfl (fun ht => absurd ht (by decide)) (fun _ => ?_)
  refine x6 ?_
  show AWP _ _ _ _ _
  (repeat refine j0 ?_);refine x5 fun K hK => ?_;refine j11 [] _ _ ?_;simp (disch:=omega) only [go_sem,seval,hd,cb];(repeat refine ⟨by omega,?_⟩);(refine j4 (hK _ ?_);clear hK K;show AWP _ _ _ _ _)
  refine j9 ⟨_,?_,rfl⟩;rw [Tryz.results55];simp (disch:=omega) only [ResVars,ResVar,ptrLoc,go_sem,seval,hd,cb]
  simp only [PV.arr.injEq,true_and]
  funext j
  by_cases hlt : j < i.val
  ·simp [hlt]
  ·simp [hlt,BitVec.getLsbD_of_ge x j (by omega)]
def headI (b : Nat → Bool) (k : Fin 129) : ASt := ⟨[(4,.p (.d (.v (.int .i64 ((k.val : Int) - 1))))),(3,.loc 3 0),(2,.loc 2 0),(1,.p (.d (.bf 128 fun j => .v (.bool (b j)))))],
 [(3,.cells 25 [.p (.d (.v (.int .u64 (num b (max k.val 64) (128 - max k.val 64) : Nat)))),.p (.d (.v (.int .u64 (num b k.val (64 - k.val) : Nat))))]),(2,.cells 25 [.p (.d (.v (.int .u64 0))),.p (.d (.v (.int .u64 0)))])]⟩
theorem x102 (b : Nat → Bool) : ACalls Tryz.prog 123 [.arr 128 fun j => .v (.bool (b j))] (· = [.agg (hd (ofBits b))]) := by
 refine q12 Tryz.func123 rfl (by decide +kernel) (by rw [Tryz.ntmps123];simp) ?_;rw [Tryz.ntmps123];simp only [frOf]
 (repeat refine j0 ?_);refine x5 fun K hK => ?_;refine j11 [3] _ _ ?_;simp (disch:=omega) only [go_sem,↓reduceIte,reduceCtorEq,Nat.reduceLT,Nat.reducePow,Nat.reduceLeDiff,Nat.reduceAdd,Nat.reduceMul,Nat.reduceSub,Nat.reduceEqDiff,Nat.reduceBEq,Int.reduceToNat,Int.reduceBEq,Int.reduceBNe,hd,cb];(repeat refine ⟨by omega,?_⟩);(refine j4 (hK _ ?_);clear hK K;show AWP _ _ _ _ _)
 (repeat refine j0 ?_);refine x5 fun K hK => ?_;refine j11 [3] _ _ ?_;simp (disch:=omega) only [go_sem,↓reduceIte,reduceCtorEq,Nat.reduceLT,Nat.reducePow,Nat.reduceLeDiff,Nat.reduceAdd,Nat.reduceMul,Nat.reduceSub,Nat.reduceEqDiff,Nat.reduceBEq,Int.reduceToNat,Int.reduceBEq,Int.reduceBNe,hd,cb];(repeat refine ⟨by omega,?_⟩);(refine j4 (hK _ ?_);clear hK K;show AWP _ _ _ _ _)
 (repeat refine j0 ?_);refine x5 fun K hK => ?_;refine j11 [3] _ _ ?_;simp (disch:=omega) only [go_sem,↓reduceIte,reduceCtorEq,Nat.reduceLT,Nat.reducePow,Nat.reduceLeDiff,Nat.reduceAdd,Nat.reduceMul,Nat.reduceSub,Nat.reduceEqDiff,Nat.reduceBEq,Int.reduceToNat,Int.reduceBEq,Int.reduceBNe,hd,cb];(repeat refine ⟨by omega,?_⟩);(refine j4 (hK _ ?_);clear hK K;show AWP _ _ _ _ _)
 refine j6 (j13 (headI b) (fun i => i.val) ⟨128,by omega⟩ ?_ (fun k => ?_))
 ·unfold headI
  refine Weak.list ?_ ?_;(all_goals simp (disch:=omega) only [AllF,AllL,q11,z11,j10,exists_eq_left',go_sem,↓reduceIte,reduceCtorEq,Nat.reduceLT,Nat.reducePow,Nat.reduceLeDiff,Nat.reduceAdd,Nat.reduceMul,Nat.reduceSub,Nat.reduceEqDiff,Nat.reduceBEq,Int.reduceToNat,Int.reduceBEq,Int.reduceBNe,hd,cb]);(all_goals (repeat' (with_reducible apply And.intro)));(all_goals try (first | exact q8 rfl | (refine x11 ?_;omega) | (refine q8 ?_;simp;done)))
  exact ⟨rfl,rfl,fun i x y h1 h2 => by
    match i with
    | 0 => cases h1;cases h2;exact q8 rfl
    | 1 => cases h1;cases h2;exact q8 rfl
    | i + 2 => simp at h1⟩
 unfold headI
 obtain ⟨k,hk⟩ := k
 cases k with
 |zero =>
  (repeat refine j0 ?_);refine x5 fun K hK => ?_;refine j11 [3] _ _ ?_;simp (disch:=omega) only [go_sem,↓reduceIte,reduceCtorEq,Nat.reduceLT,Nat.reducePow,Nat.reduceLeDiff,Nat.reduceAdd,Nat.reduceMul,Nat.reduceSub,Nat.reduceEqDiff,Nat.reduceBEq,Int.reduceToNat,Int.reduceBEq,Int.reduceBNe,hd,cb];(repeat refine ⟨by omega,?_⟩);(refine j4 (hK _ ?_);clear hK K;show AWP _ _ _ _ _)
  refine j15 rfl (fun ht => absurd ht (by decide)) (fun _ => ?_)
  refine x6 ?_
  show AWP _ _ _ _ _
  (repeat refine j0 ?_);refine x5 fun K hK => ?_;refine j11 [3] _ _ ?_;simp (disch:=omega) only [go_sem,↓reduceIte,reduceCtorEq,Nat.reduceLT,Nat.reducePow,Nat.reduceLeDiff,Nat.reduceAdd,Nat.reduceMul,Nat.reduceSub,Nat.reduceEqDiff,Nat.reduceBEq,Int.reduceToNat,Int.reduceBEq,Int.reduceBNe,hd,cb];(repeat refine ⟨by omega,?_⟩);(refine j4 (hK _ ?_);clear hK K;show AWP _ _ _ _ _)
  refine j9 ⟨_,?_,rfl⟩;rw [Tryz.results123];simp (disch:=omega) only [ResVars,ResVar,ptrLoc,go_sem,↓reduceIte,reduceCtorEq,Nat.reduceLT,Nat.reducePow,Nat.reduceLeDiff,Nat.reduceAdd,Nat.reduceMul,Nat.reduceSub,Nat.reduceEqDiff,Nat.reduceBEq,Int.reduceToNat,Int.reduceBEq,Int.reduceBNe,hd,cb]
  rw [z152,x152]
  rfl
 |succ n =>
  have n1 := x97 b (n + 1) (64 - (n + 1)) (by omega)
  have n2 : 64 ≤ n → num b (max (n + 1) 64) (128 - max (n + 1) 64) < 9223372036854775808 := fun h => x97 b _ _ (by omega)
  cases hb : b n
  all_goals
   simp only [cs1]
   (repeat refine j0 ?_);refine x5 fun K hK => ?_;refine j11 [3] _ _ ?_;simp (disch:=omega) only [go_sem,↓reduceIte,reduceCtorEq,Nat.reduceLT,Nat.reducePow,Nat.reduceLeDiff,Nat.reduceAdd,Nat.reduceMul,Nat.reduceSub,Nat.reduceEqDiff,Nat.reduceBEq,Int.reduceToNat,Int.reduceBEq,Int.reduceBNe,hd,cb,hb];(repeat refine ⟨by omega,?_⟩);(refine j4 (hK _ ?_);clear hK K;show AWP _ _ _ _ _)
   (repeat refine j0 ?_);refine j15 rfl (fun _ => ?_) (fun ht => absurd ht (by decide))
   refine j5 ?_;show AWP _ _ _ _ _
   refine j0 (j6 ?_)
   (repeat refine j0 ?_);refine x5 fun K hK => ?_;refine j11 [3] _ _ ?_;simp (disch:=omega) only [go_sem,↓reduceIte,reduceCtorEq,Nat.reduceLT,Nat.reducePow,Nat.reduceLeDiff,Nat.reduceAdd,Nat.reduceMul,Nat.reduceSub,Nat.reduceEqDiff,Nat.reduceBEq,Int.reduceToNat,Int.reduceBEq,Int.reduceBNe,hd,cb,hb];(repeat refine ⟨by omega,?_⟩);(refine j4 (hK _ ?_);clear hK K;show AWP _ _ _ _ _)
   (repeat refine j0 ?_);refine x5 fun K hK => ?_;refine j11 [3] _ _ ?_;simp (disch:=omega) only [go_sem,↓reduceIte,reduceCtorEq,Nat.reduceLT,Nat.reducePow,Nat.reduceLeDiff,Nat.reduceAdd,Nat.reduceMul,Nat.reduceSub,Nat.reduceEqDiff,Nat.reduceBEq,Int.reduceToNat,Int.reduceBEq,Int.reduceBNe,hd,cb,hb];(repeat refine ⟨by omega,?_⟩);(refine j4 (hK _ ?_);clear hK K;show AWP _ _ _ _ _)
  ·(repeat refine j0 ?_);refine j15 rfl (fun ht => absurd ht (by decide)) (fun _ => ?_);refine j5 ?_;show AWP _ _ _ _ _
   (repeat refine j0 ?_);refine x5 fun K hK => ?_;refine j11 [3] _ _ ?_;simp (disch:=omega) only [go_sem,↓reduceIte,reduceCtorEq,Nat.reduceLT,Nat.reducePow,Nat.reduceLeDiff,Nat.reduceAdd,Nat.reduceMul,Nat.reduceSub,Nat.reduceEqDiff,Nat.reduceBEq,Int.reduceToNat,Int.reduceBEq,Int.reduceBNe,hd,cb,hb];(repeat refine ⟨by omega,?_⟩);(refine j4 (hK _ ?_);clear hK K;show AWP _ _ _ _ _)
   by_cases h6 : n < 64
   ·refine j15 rfl (fun _ => ?_) (fun ht => by simp at ht;omega)
    (repeat refine j0 ?_);refine x5 fun K hK => ?_;refine j11 [3] _ _ ?_;simp (disch:=omega) only [go_sem,↓reduceIte,reduceCtorEq,Nat.reduceLT,Nat.reducePow,Nat.reduceLeDiff,Nat.reduceAdd,Nat.reduceMul,Nat.reduceSub,Nat.reduceEqDiff,Nat.reduceBEq,Int.reduceToNat,Int.reduceBEq,Int.reduceBNe,hd,cb,hb];(repeat refine ⟨by omega,?_⟩);(refine j4 (hK _ ?_);clear hK K;show AWP _ _ _ _ _)
    (repeat refine j0 ?_);refine x5 fun K hK => ?_
    refine j11 [3] _ _ ?_;simp (disch:=omega) only [go_sem,↓reduceIte,reduceCtorEq,Nat.reduceLT,Nat.reducePow,Nat.reduceLeDiff,Nat.reduceAdd,Nat.reduceMul,Nat.reduceSub,Nat.reduceEqDiff,Nat.reduceBEq,Int.reduceToNat,Int.reduceBEq,Int.reduceBNe,hd,cb,hb];(repeat refine ⟨by omega,?_⟩)
    (refine j4 (hK _ ?_);clear hK K;show loopQ _ _ _ _ _ _)
    refine ⟨⟨n,by omega⟩,by simp only [];omega,?_⟩
    refine Weak.list ?_ ?_;(all_goals simp (disch:=omega) only [AllF,AllL,q11,z11,j10,exists_eq_left',go_sem,↓reduceIte,reduceCtorEq,Nat.reduceLT,Nat.reducePow,Nat.reduceLeDiff,Nat.reduceAdd,Nat.reduceMul,Nat.reduceSub,Nat.reduceEqDiff,Nat.reduceBEq,Int.reduceToNat,Int.reduceBEq,Int.reduceBNe,hd,cb,hb]);(all_goals (repeat' (with_reducible apply And.intro)));(all_goals try (first | exact q8 rfl | (refine x11 ?_;omega) | (refine q8 ?_;simp;done)))
    exact ⟨rfl,rfl,fun i x y h1 h2 => by
     match i with
     | 0 => cases h1;cases h2;refine q8 ?_;simp only [Nat.max_eq_right (show n + 1 ≤ 64 from by omega),Nat.max_eq_right (show n ≤ 64 from by omega)]
     | 1 => cases h1;cases h2;refine q8 ?_;rw [show 64 - n = (64 - (n + 1)) + 1 from by omega];simp only [num,hb,if_true,if_false,Bool.false_eq_true];congr 4;omega
     | i + 2 => simp at h1⟩
   ·have n2 := n2 (by omega)
    refine j15 rfl (fun ht => by simp at ht;omega) (fun _ => ?_)
    (repeat refine j0 ?_);refine x5 fun K hK => ?_;refine j11 [3] _ _ ?_;simp (disch:=omega) only [go_sem,↓reduceIte,reduceCtorEq,Nat.reduceLT,Nat.reducePow,Nat.reduceLeDiff,Nat.reduceAdd,Nat.reduceMul,Nat.reduceSub,Nat.reduceEqDiff,Nat.reduceBEq,Int.reduceToNat,Int.reduceBEq,Int.reduceBNe,hd,cb,hb];(repeat refine ⟨by omega,?_⟩);(refine j4 (hK _ ?_);clear hK K;show AWP _ _ _ _ _)
    (repeat refine j0 ?_);refine x5 fun K hK => ?_
    refine j11 [3] _ _ ?_;simp (disch:=omega) only [go_sem,↓reduceIte,reduceCtorEq,Nat.reduceLT,Nat.reducePow,Nat.reduceLeDiff,Nat.reduceAdd,Nat.reduceMul,Nat.reduceSub,Nat.reduceEqDiff,Nat.reduceBEq,Int.reduceToNat,Int.reduceBEq,Int.reduceBNe,hd,cb,hb];(repeat refine ⟨by omega,?_⟩)
    (refine j4 (hK _ ?_);clear hK K;show loopQ _ _ _ _ _ _)
    refine ⟨⟨n,by omega⟩,by simp only [];omega,?_⟩
    refine Weak.list ?_ ?_;(all_goals simp (disch:=omega) only [AllF,AllL,q11,z11,j10,exists_eq_left',go_sem,↓reduceIte,reduceCtorEq,Nat.reduceLT,Nat.reducePow,Nat.reduceLeDiff,Nat.reduceAdd,Nat.reduceMul,Nat.reduceSub,Nat.reduceEqDiff,Nat.reduceBEq,Int.reduceToNat,Int.reduceBEq,Int.reduceBNe,hd,cb,hb]);(all_goals (repeat' (with_reducible apply And.intro)));(all_goals try (first | exact q8 rfl | (refine x11 ?_;omega) | (refine q8 ?_;simp;done)))
    exact ⟨rfl,rfl,fun i x y h1 h2 => by
     match i with
     | 0 => cases h1;cases h2;refine q8 ?_;rw [Nat.max_eq_left (show 64 ≤ n + 1 from by omega),Nat.max_eq_left (show 64 ≤ n from by omega),show 128 - n = (128 - (n + 1)) + 1 from by omega];simp only [num,hb,if_true,if_false,Bool.false_eq_true];congr 4;omega
     | 1 => cases h1;cases h2;refine q8 ?_;rw [show 64 - n = 0 from by omega,show 64 - (n + 1) = 0 from by omega];rfl
     | i + 2 => simp at h1⟩
  ·(repeat refine j0 ?_);refine j15 rfl (fun _ => ?_) (fun ht => absurd ht (by decide))
   (repeat refine j0 ?_);refine x5 fun K hK => ?_;refine j11 [3] _ _ ?_;simp (disch:=omega) only [go_sem,↓reduceIte,reduceCtorEq,Nat.reduceLT,Nat.reducePow,Nat.reduceLeDiff,Nat.reduceAdd,Nat.reduceMul,Nat.reduceSub,Nat.reduceEqDiff,Nat.reduceBEq,Int.reduceToNat,Int.reduceBEq,Int.reduceBNe,hd,cb,hb];(repeat refine ⟨by omega,?_⟩);(refine j4 (hK _ ?_);clear hK K;show AWP _ _ _ _ _)
   (repeat refine j0 ?_);refine x5 fun K hK => ?_;refine j11 [3] _ _ ?_;simp (disch:=omega) only [go_sem,↓reduceIte,reduceCtorEq,Nat.reduceLT,Nat.reducePow,Nat.reduceLeDiff,Nat.reduceAdd,Nat.reduceMul,Nat.reduceSub,Nat.reduceEqDiff,Nat.reduceBEq,Int.reduceToNat,Int.reduceBEq,Int.reduceBNe,hd,cb,hb];(repeat refine ⟨by omega,?_⟩);(refine j4 (hK _ ?_);clear hK K;show AWP _ _ _ _ _)
   by_cases h6 : n < 64
   ·refine j15 rfl (fun _ => ?_) (fun ht => by simp at ht;omega)
    (repeat refine j0 ?_);refine x5 fun K hK => ?_;refine j11 [3] _ _ ?_;simp (disch:=omega) only [go_sem,↓reduceIte,reduceCtorEq,Nat.reduceLT,Nat.reducePow,Nat.reduceLeDiff,Nat.reduceAdd,Nat.reduceMul,Nat.reduceSub,Nat.reduceEqDiff,Nat.reduceBEq,Int.reduceToNat,Int.reduceBEq,Int.reduceBNe,hd,cb,hb];(repeat refine ⟨by omega,?_⟩);(refine j4 (hK _ ?_);clear hK K;show AWP _ _ _ _ _)
    (repeat refine j0 ?_);refine x5 fun K hK => ?_
    refine j11 [3] _ _ ?_;simp (disch:=omega) only [go_sem,↓reduceIte,reduceCtorEq,Nat.reduceLT,Nat.reducePow,Nat.reduceLeDiff,Nat.reduceAdd,Nat.reduceMul,Nat.reduceSub,Nat.reduceEqDiff,Nat.reduceBEq,Int.reduceToNat,Int.reduceBEq,Int.reduceBNe,hd,cb,hb];(repeat refine ⟨by omega,?_⟩)
    (refine j4 (hK _ ?_);clear hK K;show loopQ _ _ _ _ _ _)
    refine ⟨⟨n,by omega⟩,by simp only [];omega,?_⟩
    refine Weak.list ?_ ?_;(all_goals simp (disch:=omega) only [AllF,AllL,q11,z11,j10,exists_eq_left',go_sem,↓reduceIte,reduceCtorEq,Nat.reduceLT,Nat.reducePow,Nat.reduceLeDiff,Nat.reduceAdd,Nat.reduceMul,Nat.reduceSub,Nat.reduceEqDiff,Nat.reduceBEq,Int.reduceToNat,Int.reduceBEq,Int.reduceBNe,hd,cb,hb]);(all_goals (repeat' (with_reducible apply And.intro)));(all_goals try (first | exact q8 rfl | (refine x11 ?_;omega) | (refine q8 ?_;simp;done)))
    exact ⟨rfl,rfl,fun i x y h1 h2 => by
     match i with
     | 0 => cases h1;cases h2;refine q8 ?_;simp only [Nat.max_eq_right (show n + 1 ≤ 64 from by omega),Nat.max_eq_right (show n ≤ 64 from by omega)]
     | 1 => cases h1;cases h2;refine q8 ?_;rw [show 64 - n = (64 - (n + 1)) + 1 from by omega];simp only [num,hb,if_true,if_false,Bool.false_eq_true];congr 4;omega
     | i + 2 => simp at h1⟩
   ·have n2 := n2 (by omega)
    refine j15 rfl (fun ht => by simp at ht;omega) (fun _ => ?_)
    (repeat refine j0 ?_);refine x5 fun K hK => ?_;refine j11 [3] _ _ ?_;simp (disch:=omega) only [go_sem,↓reduceIte,reduceCtorEq,Nat.reduceLT,Nat.reducePow,Nat.reduceLeDiff,Nat.reduceAdd,Nat.reduceMul,Nat.reduceSub,Nat.reduceEqDiff,Nat.reduceBEq,Int.reduceToNat,Int.reduceBEq,Int.reduceBNe,hd,cb,hb];(repeat refine ⟨by omega,?_⟩);(refine j4 (hK _ ?_);clear hK K;show AWP _ _ _ _ _)
    (repeat refine j0 ?_);refine x5 fun K hK => ?_
    refine j11 [3] _ _ ?_;simp (disch:=omega) only [go_sem,↓reduceIte,reduceCtorEq,Nat.reduceLT,Nat.reducePow,Nat.reduceLeDiff,Nat.reduceAdd,Nat.reduceMul,Nat.reduceSub,Nat.reduceEqDiff,Nat.reduceBEq,Int.reduceToNat,Int.reduceBEq,Int.reduceBNe,hd,cb,hb];(repeat refine ⟨by omega,?_⟩)
    (refine j4 (hK _ ?_);clear hK K;show loopQ _ _ _ _ _ _)
    refine ⟨⟨n,by omega⟩,by simp only [];omega,?_⟩
    refine Weak.list ?_ ?_;(all_goals simp (disch:=omega) only [AllF,AllL,q11,z11,j10,exists_eq_left',go_sem,↓reduceIte,reduceCtorEq,Nat.reduceLT,Nat.reducePow,Nat.reduceLeDiff,Nat.reduceAdd,Nat.reduceMul,Nat.reduceSub,Nat.reduceEqDiff,Nat.reduceBEq,Int.reduceToNat,Int.reduceBEq,Int.reduceBNe,hd,cb,hb]);(all_goals (repeat' (with_reducible apply And.intro)));(all_goals try (first | exact q8 rfl | (refine x11 ?_;omega) | (refine q8 ?_;simp;done)))
    exact ⟨rfl,rfl,fun i x y h1 h2 => by
     match i with
     | 0 => cases h1;cases h2;refine q8 ?_;rw [Nat.max_eq_left (show 64 ≤ n + 1 from by omega),Nat.max_eq_left (show 64 ≤ n from by omega),show 128 - n = (128 - (n + 1)) + 1 from by omega];simp only [num,hb,if_true,if_false,Bool.false_eq_true];congr 4;omega
     | 1 => cases h1;cases h2;refine q8 ?_;rw [show 64 - n = 0 from by omega,show 64 - (n + 1) = 0 from by omega];rfl
     | i + 2 => simp at h1⟩
def textI (k : Cube) (s : {i : Fin 129 // ∀ j,j < i.val → k.v.getLsbD j = true → k.c.getLsbD j = true}) : ASt :=
 ⟨[(7,.p (.d (.v (.int .i64 (s.val.val : Int))))),(6,.row 15 1 0 128),(5,.loc 5 0),(4,.loc 4 0)],
  [(15,.arr 5 128 fun j => .v (.int .u8 (if 127 - j < s.val.val then chI k (127 - j) else 0))),(5,.arr 112 128 fun j => .v (.bool (k.c.getLsbD j))),(4,.arr 112 128 fun j => .v (.bool (k.v.getLsbD j)))]⟩
theorem q74 (k : Cube) (c : Int) (i j : Nat) (hi : i < 128) (hj : j < 128) (hc : chI k i = c) :
  (if j = 127 - i then Dat.v (.int .u8 c) else Dat.v (.int .u8 (if 127 - j < i then chI k (127 - j) else 0))) = Dat.v (.int .u8 (if 127 - j < i + 1 then chI k (127 - j) else 0)) := by
 by_cases h : j = 127 - i
 ·rw [if_pos h,if_pos (by omega),show 127 - j = i from by omega,hc]
 ·rw [if_neg h]
  by_cases h2 : 127 - j < i
  ·rw [if_pos h2,if_pos (by omega)]
  ·rw [if_neg h2,if_neg (by omega)]
theorem z74 (k : Cube) : ACalls Tryz.prog 24 [.agg (cb k)] (· = [.d (.v (.string (if k.sound then txt k else ⟨#[]⟩))),.d (.v (.bool k.sound))]) := by
 refine q12 Tryz.func24 rfl (by decide +kernel) (by rw [Tryz.ntmps24];simp) ?_;rw [Tryz.ntmps24];simp only [frOf]
 (repeat refine j0 ?_);(first | refine x5 fun K hK => ?_ | refine x8 fun K hK => ?_);(first | refine j11 [] _ _ ?_ | refine x13 [] _ _ _ ?_);simp (disch:=omega) only [go_sem,seval,hd,cb];(repeat refine ⟨by omega,?_⟩);(first | (refine j4 (hK _ ?_);clear hK K;show AWP _ _ _ _ _) | (refine q9 (hK _ _ j8 ?_);clear hK K;show AWP _ _ _ _ _))
 (repeat refine j0 ?_);(first | refine x5 fun K hK => ?_ | refine x8 fun K hK => ?_)
 (first | refine j11 [] _ _ ?_ | refine x13 [] _ _ _ ?_);simp (disch:=omega) only [go_sem,seval,hd,cb];(repeat refine ⟨by omega,?_⟩)
 (first | refine x10 rfl rfl rfl ?_ | refine q13 rfl rfl rfl ?_);simp (disch:=omega) only [go_sem,seval,hd,cb]
 refine ⟨_,q34 k.v,?_⟩
 (first | refine j11 [] _ _ ?_ | refine x13 [] _ _ _ ?_);simp (disch:=omega) only [go_sem,seval,hd,cb];(repeat refine ⟨by omega,?_⟩)
 (first | refine x10 rfl rfl rfl ?_ | refine q13 rfl rfl rfl ?_);simp (disch:=omega) only [go_sem,seval,hd,cb]
 refine ⟨_,q34 k.c,?_⟩
 (first | refine j11 [] _ _ ?_ | refine x13 [] _ _ _ ?_);simp (disch:=omega) only [go_sem,seval,hd,cb];(repeat refine ⟨by omega,?_⟩)
 (first | (refine j4 (hK _ ?_);clear hK K;show AWP _ _ _ _ _) | (refine q9 (hK _ _ j8 ?_);clear hK K;show AWP _ _ _ _ _))
 (repeat refine j0 ?_);(first | refine x5 fun K hK => ?_ | refine x8 fun K hK => ?_);(first | refine j11 [] _ _ ?_ | refine x13 [] _ _ _ ?_);simp (disch:=omega) only [go_sem,seval,hd,cb];(repeat refine ⟨by omega,?_⟩);(first | (refine j4 (hK _ ?_);clear hK K;show AWP _ _ _ _ _) | (refine q9 (hK _ _ j8 ?_);clear hK K;show AWP _ _ _ _ _))
 (repeat refine j0 ?_);(first | refine x5 fun K hK => ?_ | refine x8 fun K hK => ?_);(first | refine j11 [] _ _ ?_ | refine x13 [] _ _ _ ?_);simp (disch:=omega) only [go_sem,seval,hd,cb];(repeat refine ⟨by omega,?_⟩);(first | (refine j4 (hK _ ?_);clear hK K;show AWP _ _ _ _ _) | (refine q9 (hK _ _ j8 ?_);clear hK K;show AWP _ _ _ _ _))
 refine j6 (j13 (textI k) (fun s => 128 - s.val.val) ⟨⟨0,by omega⟩,fun j hj => by simp at hj⟩ ?_ (fun s => ?_))
 ·unfold textI
  refine Weak.list ?_ ?_;(all_goals simp (disch:=omega) only [AllF,AllL,q11,z11,j10,exists_eq_left',go_sem,seval,hd,cb]);(all_goals (repeat' (with_reducible apply And.intro)));(all_goals try (first | exact q8 rfl | (refine x11 ?_;omega) | (refine q8 ?_;simp;done)))
  ·exact ⟨rfl,rfl,fun j _ => by simp⟩
 obtain ⟨⟨i,hi9⟩,hs⟩ := s
 unfold textI
 simp only [] at hs
 by_cases hn : i < 128
 ·cases hv : k.v.getLsbD i <;> cases hc : k.c.getLsbD i
  all_goals
   (repeat refine j0 ?_);(first | refine x5 fun K hK => ?_ | refine x8 fun K hK => ?_);(first | refine j11 [] _ _ ?_ | refine x13 [] _ _ _ ?_);simp (disch:=omega) only [go_sem,seval,hd,cb,hv,hc];(repeat refine ⟨by omega,?_⟩);(first | (refine j4 (hK _ ?_);clear hK K;show AWP _ _ _ _ _) | (refine q9 (hK _ _ j8 ?_);clear hK K;show AWP _ _ _ _ _))
   (repeat refine j0 ?_);refine j15 rfl (fun _ => ?_) (fun ht => absurd ht (by decide))
   refine j5 ?_;show AWP _ _ _ _ _
   refine j0 (j6 ?_)
   (repeat refine j0 ?_);(first | refine x5 fun K hK => ?_ | refine x8 fun K hK => ?_);(first | refine j11 [] _ _ ?_ | refine x13 [] _ _ _ ?_);simp (disch:=omega) only [go_sem,seval,hd,cb,hv,hc];(repeat refine ⟨by omega,?_⟩);(first | (refine j4 (hK _ ?_);clear hK K;show AWP _ _ _ _ _) | (refine q9 (hK _ _ j8 ?_);clear hK K;show AWP _ _ _ _ _))
  ·(repeat refine j0 ?_);refine j15 rfl (fun ht => absurd ht (by decide)) (fun _ => ?_);refine j5 ?_;show AWP _ _ _ _ _
   (repeat refine j0 ?_);(first | refine x5 fun K hK => ?_ | refine x8 fun K hK => ?_);(first | refine j11 [] _ _ ?_ | refine x13 [] _ _ _ ?_);simp (disch:=omega) only [go_sem,seval,hd,cb,hv,hc];(repeat refine ⟨by omega,?_⟩);(first | (refine j4 (hK _ ?_);clear hK K;show AWP _ _ _ _ _) | (refine q9 (hK _ _ j8 ?_);clear hK K;show AWP _ _ _ _ _))
   (repeat refine j0 ?_);(first | refine x5 fun K hK => ?_ | refine x8 fun K hK => ?_);(first | refine j11 [] _ _ ?_ | refine x13 [] _ _ _ ?_);simp (disch:=omega) only [go_sem,seval,hd,cb,hv,hc];(repeat refine ⟨by omega,?_⟩);(first | (refine j4 (hK _ ?_);clear hK K;show AWP _ _ _ _ _) | (refine q9 (hK _ _ j8 ?_);clear hK K;show AWP _ _ _ _ _))
   (repeat refine j0 ?_);refine j15 rfl (fun ht => absurd ht (by decide)) (fun _ => ?_);refine j5 ?_;show AWP _ _ _ _ _
   (repeat refine j0 ?_);(first | refine x5 fun K hK => ?_ | refine x8 fun K hK => ?_);(first | refine j11 [] _ _ ?_ | refine x13 [] _ _ _ ?_);simp (disch:=omega) only [go_sem,seval,hd,cb,hv,hc];(repeat refine ⟨by omega,?_⟩);(first | (refine j4 (hK _ ?_);clear hK K;show AWP _ _ _ _ _) | (refine q9 (hK _ _ j8 ?_);clear hK K;show AWP _ _ _ _ _))
   (repeat refine j0 ?_);refine j15 rfl (fun ht => absurd ht (by decide)) (fun _ => ?_);refine j5 ?_;show AWP _ _ _ _ _
   (repeat refine j0 ?_);(first | refine x5 fun K hK => ?_ | refine x8 fun K hK => ?_);(first | refine j11 [] _ _ ?_ | refine x13 [] _ _ _ ?_);simp (disch:=omega) only [go_sem,seval,hd,cb,hv,hc];(repeat refine ⟨by omega,?_⟩);(first | (refine j4 (hK _ ?_);clear hK K;show AWP _ _ _ _ _) | (refine q9 (hK _ _ j8 ?_);clear hK K;show AWP _ _ _ _ _))
   (repeat refine j0 ?_);(first | refine x5 fun K hK => ?_ | refine x8 fun K hK => ?_)
   (first | refine j11 [] _ _ ?_ | refine x13 [] _ _ _ ?_);simp (disch:=omega) only [go_sem,seval,hd,cb,hv,hc];(repeat refine ⟨by omega,?_⟩)
   (first | (refine j4 (hK _ ?_);clear hK K;show loopQ _ _ _ _ _ _) | (refine q9 (hK _ _ j8 ?_);clear hK K;show loopQ _ _ _ _ _ _))
   refine ⟨⟨⟨i + 1,by omega⟩,fun j hj hvj => ?_⟩,by simp only [];omega,?_⟩
   ·by_cases e : j = i
    ·subst e;first | exact hc | (rw [hv] at hvj;cases hvj)
    ·exact hs j (by simp at hj;omega) hvj
   refine Weak.list ?_ ?_;(all_goals simp (disch:=omega) only [AllF,AllL,q11,z11,j10,exists_eq_left',go_sem,seval,hd,cb,hv,hc]);(all_goals (repeat' (with_reducible apply And.intro)));(all_goals try (first | exact q8 rfl | (refine x11 ?_;omega) | (refine q8 ?_;simp;done)))
   ·exact ⟨rfl,rfl,fun j hj => q74 k _ i j hn hj (by simp [chI,hv,hc])⟩
  ·(repeat refine j0 ?_);refine j15 rfl (fun ht => absurd ht (by decide)) (fun _ => ?_);refine j5 ?_;show AWP _ _ _ _ _
   (repeat refine j0 ?_);(first | refine x5 fun K hK => ?_ | refine x8 fun K hK => ?_);(first | refine j11 [] _ _ ?_ | refine x13 [] _ _ _ ?_);simp (disch:=omega) only [go_sem,seval,hd,cb,hv,hc];(repeat refine ⟨by omega,?_⟩);(first | (refine j4 (hK _ ?_);clear hK K;show AWP _ _ _ _ _) | (refine q9 (hK _ _ j8 ?_);clear hK K;show AWP _ _ _ _ _))
   (repeat refine j0 ?_);(first | refine x5 fun K hK => ?_ | refine x8 fun K hK => ?_);(first | refine j11 [] _ _ ?_ | refine x13 [] _ _ _ ?_);simp (disch:=omega) only [go_sem,seval,hd,cb,hv,hc];(repeat refine ⟨by omega,?_⟩);(first | (refine j4 (hK _ ?_);clear hK K;show AWP _ _ _ _ _) | (refine q9 (hK _ _ j8 ?_);clear hK K;show AWP _ _ _ _ _))
   (repeat refine j0 ?_);refine j15 rfl (fun ht => absurd ht (by decide)) (fun _ => ?_);refine j5 ?_;show AWP _ _ _ _ _
   (repeat refine j0 ?_);(first | refine x5 fun K hK => ?_ | refine x8 fun K hK => ?_);(first | refine j11 [] _ _ ?_ | refine x13 [] _ _ _ ?_);simp (disch:=omega) only [go_sem,seval,hd,cb,hv,hc];(repeat refine ⟨by omega,?_⟩);(first | (refine j4 (hK _ ?_);clear hK K;show AWP _ _ _ _ _) | (refine q9 (hK _ _ j8 ?_);clear hK K;show AWP _ _ _ _ _))
   (repeat refine j0 ?_);refine j15 rfl (fun _ => ?_) (fun ht => absurd ht (by decide))
   (repeat refine j0 ?_);(first | refine x5 fun K hK => ?_ | refine x8 fun K hK => ?_);(first | refine j11 [] _ _ ?_ | refine x13 [] _ _ _ ?_);simp (disch:=omega) only [go_sem,seval,hd,cb,hv,hc];(repeat refine ⟨by omega,?_⟩);(first | (refine j4 (hK _ ?_);clear hK K;show AWP _ _ _ _ _) | (refine q9 (hK _ _ j8 ?_);clear hK K;show AWP _ _ _ _ _))
   (repeat refine j0 ?_);(first | refine x5 fun K hK => ?_ | refine x8 fun K hK => ?_);(first | refine j11 [] _ _ ?_ | refine x13 [] _ _ _ ?_);simp (disch:=omega) only [go_sem,seval,hd,cb,hv,hc];(repeat refine ⟨by omega,?_⟩);(first | (refine j4 (hK _ ?_);clear hK K;show AWP _ _ _ _ _) | (refine q9 (hK _ _ j8 ?_);clear hK K;show AWP _ _ _ _ _))
   (repeat refine j0 ?_);(first | refine x5 fun K hK => ?_ | refine x8 fun K hK => ?_)
   (first | refine j11 [] _ _ ?_ | refine x13 [] _ _ _ ?_);simp (disch:=omega) only [go_sem,seval,hd,cb,hv,hc];(repeat refine ⟨by omega,?_⟩)
   (first | (refine j4 (hK _ ?_);clear hK K;show loopQ _ _ _ _ _ _) | (refine q9 (hK _ _ j8 ?_);clear hK K;show loopQ _ _ _ _ _ _))
   refine ⟨⟨⟨i + 1,by omega⟩,fun j hj hvj => ?_⟩,by simp only [];omega,?_⟩
   ·by_cases e : j = i
    ·subst e;first | exact hc | (rw [hv] at hvj;cases hvj)
    ·exact hs j (by simp at hj;omega) hvj
   refine Weak.list ?_ ?_;(all_goals simp (disch:=omega) only [AllF,AllL,q11,z11,j10,exists_eq_left',go_sem,seval,hd,cb,hv,hc]);(all_goals (repeat' (with_reducible apply And.intro)));(all_goals try (first | exact q8 rfl | (refine x11 ?_;omega) | (refine q8 ?_;simp;done)))
   ·exact ⟨rfl,rfl,fun j hj => q74 k _ i j hn hj (by simp [chI,hv,hc])⟩
  ·(repeat refine j0 ?_);refine j15 rfl (fun _ => ?_) (fun ht => absurd ht (by decide))
   (repeat refine j0 ?_);(first | refine x5 fun K hK => ?_ | refine x8 fun K hK => ?_);(first | refine j11 [] _ _ ?_ | refine x13 [] _ _ _ ?_);simp (disch:=omega) only [go_sem,seval,hd,cb,hv,hc];(repeat refine ⟨by omega,?_⟩);(first | (refine j4 (hK _ ?_);clear hK K;show AWP _ _ _ _ _) | (refine q9 (hK _ _ j8 ?_);clear hK K;show AWP _ _ _ _ _))
   have hf : k.sound = false := by
    cases hf : k.sound
    ·rfl
    ·have := (j19 k).1 hf i hn hv
     rw [hc] at this;cases this
   rw [hf]
   refine j9 ⟨_,?_,rfl⟩;rw [Tryz.results24];simp (disch:=omega) only [ResVars,ResVar,ptrLoc,go_sem,seval,hd,cb,hv,hc]
   try rfl
  ·(repeat refine j0 ?_);refine j15 rfl (fun ht => absurd ht (by decide)) (fun _ => ?_);refine j5 ?_;show AWP _ _ _ _ _
   (repeat refine j0 ?_);(first | refine x5 fun K hK => ?_ | refine x8 fun K hK => ?_);(first | refine j11 [] _ _ ?_ | refine x13 [] _ _ _ ?_);simp (disch:=omega) only [go_sem,seval,hd,cb,hv,hc];(repeat refine ⟨by omega,?_⟩);(first | (refine j4 (hK _ ?_);clear hK K;show AWP _ _ _ _ _) | (refine q9 (hK _ _ j8 ?_);clear hK K;show AWP _ _ _ _ _))
   (repeat refine j0 ?_);(first | refine x5 fun K hK => ?_ | refine x8 fun K hK => ?_);(first | refine j11 [] _ _ ?_ | refine x13 [] _ _ _ ?_);simp (disch:=omega) only [go_sem,seval,hd,cb,hv,hc];(repeat refine ⟨by omega,?_⟩);(first | (refine j4 (hK _ ?_);clear hK K;show AWP _ _ _ _ _) | (refine q9 (hK _ _ j8 ?_);clear hK K;show AWP _ _ _ _ _))
   (repeat refine j0 ?_);refine j15 rfl (fun _ => ?_) (fun ht => absurd ht (by decide))
   (repeat refine j0 ?_);(first | refine x5 fun K hK => ?_ | refine x8 fun K hK => ?_);(first | refine j11 [] _ _ ?_ | refine x13 [] _ _ _ ?_);simp (disch:=omega) only [go_sem,seval,hd,cb,hv,hc];(repeat refine ⟨by omega,?_⟩);(first | (refine j4 (hK _ ?_);clear hK K;show AWP _ _ _ _ _) | (refine q9 (hK _ _ j8 ?_);clear hK K;show AWP _ _ _ _ _))
   (repeat refine j0 ?_);(first | refine x5 fun K hK => ?_ | refine x8 fun K hK => ?_);(first | refine j11 [] _ _ ?_ | refine x13 [] _ _ _ ?_);simp (disch:=omega) only [go_sem,seval,hd,cb,hv,hc];(repeat refine ⟨by omega,?_⟩);(first | (refine j4 (hK _ ?_);clear hK K;show AWP _ _ _ _ _) | (refine q9 (hK _ _ j8 ?_);clear hK K;show AWP _ _ _ _ _))
   (repeat refine j0 ?_);refine j15 rfl (fun ht => absurd ht (by decide)) (fun _ => ?_);refine j5 ?_;show AWP _ _ _ _ _
   (repeat refine j0 ?_);(first | refine x5 fun K hK => ?_ | refine x8 fun K hK => ?_);(first | refine j11 [] _ _ ?_ | refine x13 [] _ _ _ ?_);simp (disch:=omega) only [go_sem,seval,hd,cb,hv,hc];(repeat refine ⟨by omega,?_⟩);(first | (refine j4 (hK _ ?_);clear hK K;show AWP _ _ _ _ _) | (refine q9 (hK _ _ j8 ?_);clear hK K;show AWP _ _ _ _ _))
   (repeat refine j0 ?_);(first | refine x5 fun K hK => ?_ | refine x8 fun K hK => ?_)
   (first | refine j11 [] _ _ ?_ | refine x13 [] _ _ _ ?_);simp (disch:=omega) only [go_sem,seval,hd,cb,hv,hc];(repeat refine ⟨by omega,?_⟩)
   (first | (refine j4 (hK _ ?_);clear hK K;show loopQ _ _ _ _ _ _) | (refine q9 (hK _ _ j8 ?_);clear hK K;show loopQ _ _ _ _ _ _))
   refine ⟨⟨⟨i + 1,by omega⟩,fun j hj hvj => ?_⟩,by simp only [];omega,?_⟩
   ·by_cases e : j = i
    ·subst e;first | exact hc | (rw [hv] at hvj;cases hvj)
    ·exact hs j (by simp at hj;omega) hvj
   refine Weak.list ?_ ?_;(all_goals simp (disch:=omega) only [AllF,AllL,q11,z11,j10,exists_eq_left',go_sem,seval,hd,cb,hv,hc]);(all_goals (repeat' (with_reducible apply And.intro)));(all_goals try (first | exact q8 rfl | (refine x11 ?_;omega) | (refine q8 ?_;simp;done)))
   ·exact ⟨rfl,rfl,fun j hj => q74 k _ i j hn hj (by simp [chI,hv,hc])⟩
 ·have h128 : i = 128 := by omega
  subst h128
  (repeat refine j0 ?_);(first | refine x5 fun K hK => ?_ | refine x8 fun K hK => ?_);(first | refine j11 [] _ _ ?_ | refine x13 [] _ _ _ ?_);simp (disch:=omega) only [go_sem,seval,hd,cb];(repeat refine ⟨by omega,?_⟩);(first | (refine j4 (hK _ ?_);clear hK K;show AWP _ _ _ _ _) | (refine q9 (hK _ _ j8 ?_);clear hK K;show AWP _ _ _ _ _))
  refine j15 rfl (fun ht => absurd ht (by decide)) (fun _ => ?_)
  refine x6 ?_
  show AWP _ _ _ _ _
  (repeat refine j0 ?_);(first | refine x5 fun K hK => ?_ | refine x8 fun K hK => ?_);(first | refine j11 [] _ _ ?_ | refine x13 [] _ _ _ ?_);simp (disch:=omega) only [go_sem,seval,hd,cb];(repeat refine ⟨by omega,?_⟩);(first | (refine j4 (hK _ ?_);clear hK K;show AWP _ _ _ _ _) | (refine q9 (hK _ _ j8 ?_);clear hK K;show AWP _ _ _ _ _))
  have hf : k.sound = true := (j19 k).2 fun j hj hv => hs j hj hv
  rw [hf]
  refine j9 ⟨_,?_,rfl⟩;rw [Tryz.results24];simp (disch:=omega) only [ResVars,ResVar,ptrLoc,go_sem,seval,hd,cb]
  unfold txt
  congr 2
  first | done | exact List.map_congr_left fun j hj => by rw [if_pos (by omega)]
def hasI (k : Cube) (x : BitVec 128) (s : {i : Fin 129 // ∀ j,j < i.val → (k.c.getLsbD (127 - j) = true → k.v.getLsbD (127 - j) = x.getLsbD (127 - j))}) : ASt :=
 ⟨[(6,.p (.d (.v (.int .i64 (s.val.val : Int))))),(5,.loc 5 0),(0,.p (.d (.v (.string (txt k)))))],
  [(5,.arr 112 128 fun j => .v (.bool (x.getLsbD j)))]⟩
theorem x162 (k : Cube) : (txt k).size = 128 := by unfold txt;rw [strOfNums_size];simp
theorem txt_at (k : Cube) (i : Nat) (hi : i < 128) : ((((txt k).data.toList.getD i 0).toNat : Nat) : Int) = chI k (127 - i) := by
 unfold txt
 rw [x89,strOfNums_data,List.getD_eq_getElem?_getD,List.getElem?_map,List.getElem?_map,List.getElem?_range hi]
 simp only [Option.map_some,Option.getD_some]
 unfold chI
 split
 ·split <;> decide
 ·decide
theorem j102 (k : Cube) (x : BitVec 128) : (x &&& k.c == k.v &&& k.c) = true ↔ ∀ i,i < 128 → k.c.getLsbD i = true → k.v.getLsbD i = x.getLsbD i := by
 rw [beq_iff_eq]
 constructor
 ·intro h i hlt hc
  have := congrArg (fun z => z.getLsbD i) h
  simp only [BitVec.getLsbD_and,hc,Bool.and_true] at this
  exact this.symm
 ·intro h
  apply BitVec.eq_of_getLsbD_eq
  intro i hlt
  rw [BitVec.getLsbD_and,BitVec.getLsbD_and]
  cases hc : k.c.getLsbD i
  ·simp
  ·rw [h i hlt hc]
def hasT (k : Cube) (x : BitVec 128) : Bool := x &&& k.c == k.v &&& k.c
theorem Hast_c (k : Cube) (x : BitVec 128) : ACalls Tryz.prog 46 [.d (.v (.string (txt k))),.agg (hd x)] (· = [.d (.v (.bool (hasT k x)))]) := by
 have sz := x162 k
 have at_ := txt_at k
 refine q12 Tryz.func46 rfl (by decide +kernel) (by rw [Tryz.ntmps46];simp) ?_;rw [Tryz.ntmps46];simp only [frOf]
 (repeat refine j0 ?_);refine x5 fun K hK => ?_;refine j11 [] _ _ ?_;simp (disch:=omega) only [go_sem,↓reduceIte,reduceCtorEq,Nat.reduceLT,Nat.reducePow,Nat.reduceLeDiff,Nat.reduceAdd,Nat.reduceMul,Nat.reduceSub,Nat.reduceEqDiff,Nat.reduceBEq,Int.reduceToNat,Int.reduceBEq,Int.reduceBNe,hd,cb];(repeat refine ⟨by omega,?_⟩);(refine j4 (hK _ ?_);clear hK K;show AWP _ _ _ _ _)
 (repeat refine j0 ?_);refine x5 fun K hK => ?_
 refine j11 [] _ _ ?_;simp (disch:=omega) only [go_sem,↓reduceIte,reduceCtorEq,Nat.reduceLT,Nat.reducePow,Nat.reduceLeDiff,Nat.reduceAdd,Nat.reduceMul,Nat.reduceSub,Nat.reduceEqDiff,Nat.reduceBEq,Int.reduceToNat,Int.reduceBEq,Int.reduceBNe,hd,cb];(repeat refine ⟨by omega,?_⟩)
 refine x10 rfl rfl rfl ?_;simp (disch:=omega) only [go_sem,↓reduceIte,reduceCtorEq,Nat.reduceLT,Nat.reducePow,Nat.reduceLeDiff,Nat.reduceAdd,Nat.reduceMul,Nat.reduceSub,Nat.reduceEqDiff,Nat.reduceBEq,Int.reduceToNat,Int.reduceBEq,Int.reduceBNe,hd,cb]
 refine ⟨_,q34 x,?_⟩
 refine j11 [] _ _ ?_;simp (disch:=omega) only [go_sem,↓reduceIte,reduceCtorEq,Nat.reduceLT,Nat.reducePow,Nat.reduceLeDiff,Nat.reduceAdd,Nat.reduceMul,Nat.reduceSub,Nat.reduceEqDiff,Nat.reduceBEq,Int.reduceToNat,Int.reduceBEq,Int.reduceBNe,hd,cb];(repeat refine ⟨by omega,?_⟩)
 (refine j4 (hK _ ?_);clear hK K;show AWP _ _ _ _ _)
 (repeat refine j0 ?_);refine x5 fun K hK => ?_;refine j11 [] _ _ ?_;simp (disch:=omega) only [go_sem,↓reduceIte,reduceCtorEq,Nat.reduceLT,Nat.reducePow,Nat.reduceLeDiff,Nat.reduceAdd,Nat.reduceMul,Nat.reduceSub,Nat.reduceEqDiff,Nat.reduceBEq,Int.reduceToNat,Int.reduceBEq,Int.reduceBNe,hd,cb];(repeat refine ⟨by omega,?_⟩);(refine j4 (hK _ ?_);clear hK K;show AWP _ _ _ _ _)
 refine j6 (j13 (hasI k x) (fun s => 128 - s.val.val) ⟨⟨0,by omega⟩,fun j hj => by simp at hj⟩ ?_ (fun s => ?_))
 ·unfold hasI
  refine Weak.list ?_ ?_;(all_goals simp (disch:=omega) only [AllF,AllL,q11,z11,j10,exists_eq_left',go_sem,↓reduceIte,reduceCtorEq,Nat.reduceLT,Nat.reducePow,Nat.reduceLeDiff,Nat.reduceAdd,Nat.reduceMul,Nat.reduceSub,Nat.reduceEqDiff,Nat.reduceBEq,Int.reduceToNat,Int.reduceBEq,Int.reduceBNe,hd,cb]);(all_goals (repeat' (with_reducible apply And.intro)));(all_goals try (first | exact q8 rfl | (refine x11 ?_;omega) | (refine q8 ?_;simp;done)))
 obtain ⟨⟨i,hi9⟩,hs⟩ := s
 unfold hasI
 simp only [] at hs
 by_cases hn : i < 128
 ·have at_i := at_ i hn
  (repeat refine j0 ?_);refine x5 fun K hK => ?_
  refine j11 [] _ _ ?_;simp (disch:=omega) only [go_sem,↓reduceIte,reduceCtorEq,Nat.reduceLT,Nat.reducePow,Nat.reduceLeDiff,Nat.reduceAdd,Nat.reduceMul,Nat.reduceSub,Nat.reduceEqDiff,Nat.reduceBEq,Int.reduceToNat,Int.reduceBEq,Int.reduceBNe,hd,cb,sz,at_i];(repeat refine ⟨by omega,?_⟩)
  (refine j4 (hK _ ?_);clear hK K;show AWP _ _ _ _ _)
  (repeat refine j0 ?_);refine j15 rfl (fun _ => ?_) (fun ht => absurd ht (by decide))
  refine j5 ?_;show AWP _ _ _ _ _
  refine j0 (j6 ?_)
  cases hv : k.v.getLsbD (127 - i) <;> cases hc : k.c.getLsbD (127 - i) <;> cases hx : x.getLsbD (127 - i)
  all_goals
   simp only [chI,hv,hc,if_true,if_false,Bool.false_eq_true] at at_i
   (repeat refine j0 ?_);refine x5 fun K hK => ?_;refine j11 [] _ _ ?_;simp (disch:=omega) only [go_sem,↓reduceIte,reduceCtorEq,Nat.reduceLT,Nat.reducePow,Nat.reduceLeDiff,Nat.reduceAdd,Nat.reduceMul,Nat.reduceSub,Nat.reduceEqDiff,Nat.reduceBEq,Int.reduceToNat,Int.reduceBEq,Int.reduceBNe,hd,cb,sz,at_i,hx];(repeat refine ⟨by omega,?_⟩);(refine j4 (hK _ ?_);clear hK K;show AWP _ _ _ _ _)
   first
    |(repeat refine j0 ?_);refine j15 rfl (fun _ => ?_) (fun ht => absurd ht (by decide))
     (repeat refine j0 ?_);refine x5 fun K hK => ?_;refine j11 [] _ _ ?_;simp (disch:=omega) only [go_sem,↓reduceIte,reduceCtorEq,Nat.reduceLT,Nat.reducePow,Nat.reduceLeDiff,Nat.reduceAdd,Nat.reduceMul,Nat.reduceSub,Nat.reduceEqDiff,Nat.reduceBEq,Int.reduceToNat,Int.reduceBEq,Int.reduceBNe,hd,cb,sz,at_i,hx];(repeat refine ⟨by omega,?_⟩);(refine j4 (hK _ ?_);clear hK K;show AWP _ _ _ _ _)
     have hf : hasT k x = false := by
      cases hf : hasT k x
      ·rfl
      ·have := (j102 k x).1 hf (127 - i) (by omega) hc
       rw [hv,hx] at this;cases this
     rw [hf]
     refine j9 ⟨_,?_,rfl⟩;rw [Tryz.results46];simp (disch:=omega) only [ResVars,ResVar,ptrLoc,go_sem,↓reduceIte,reduceCtorEq,Nat.reduceLT,Nat.reducePow,Nat.reduceLeDiff,Nat.reduceAdd,Nat.reduceMul,Nat.reduceSub,Nat.reduceEqDiff,Nat.reduceBEq,Int.reduceToNat,Int.reduceBEq,Int.reduceBNe,hd,cb,sz,at_i,hx]
    |(repeat refine j0 ?_);refine j15 rfl (fun ht => absurd ht (by decide)) (fun _ => ?_);refine j5 ?_;show AWP _ _ _ _ _
     (repeat refine j0 ?_);refine x5 fun K hK => ?_
     refine j11 [] _ _ ?_;simp (disch:=omega) only [go_sem,↓reduceIte,reduceCtorEq,Nat.reduceLT,Nat.reducePow,Nat.reduceLeDiff,Nat.reduceAdd,Nat.reduceMul,Nat.reduceSub,Nat.reduceEqDiff,Nat.reduceBEq,Int.reduceToNat,Int.reduceBEq,Int.reduceBNe,hd,cb,sz,at_i,hx];(repeat refine ⟨by omega,?_⟩)
     (refine j4 (hK _ ?_);clear hK K;show loopQ _ _ _ _ _ _)
     refine ⟨⟨⟨i + 1,by omega⟩,fun j hj hcj => ?_⟩,by simp only [];omega,?_⟩
     ·by_cases e : j = i
      ·subst e;first | (rw [hv,hx];done) | (rw [hc] at hcj;cases hcj)
      ·exact hs j (by simp at hj;omega) hcj
     refine Weak.list ?_ ?_;(all_goals simp (disch:=omega) only [AllF,AllL,q11,z11,j10,exists_eq_left',go_sem,↓reduceIte,reduceCtorEq,Nat.reduceLT,Nat.reducePow,Nat.reduceLeDiff,Nat.reduceAdd,Nat.reduceMul,Nat.reduceSub,Nat.reduceEqDiff,Nat.reduceBEq,Int.reduceToNat,Int.reduceBEq,Int.reduceBNe,hd,cb,sz,at_i,hx]);(all_goals (repeat' (with_reducible apply And.intro)));(all_goals try (first | exact q8 rfl | (refine x11 ?_;omega) | (refine q8 ?_;simp;done)))
 ·have h128 : i = 128 := by omega
  subst h128
  (repeat refine j0 ?_);refine x5 fun K hK => ?_;refine j11 [] _ _ ?_;simp (disch:=omega) only [go_sem,↓reduceIte,reduceCtorEq,Nat.reduceLT,Nat.reducePow,Nat.reduceLeDiff,Nat.reduceAdd,Nat.reduceMul,Nat.reduceSub,Nat.reduceEqDiff,Nat.reduceBEq,Int.reduceToNat,Int.reduceBEq,Int.reduceBNe,hd,cb,sz];(repeat refine ⟨by omega,?_⟩);(refine j4 (hK _ ?_);clear hK K;show AWP _ _ _ _ _)
  refine j15 rfl (fun ht => absurd ht (by decide)) (fun _ => ?_)
  refine x6 ?_
  show AWP _ _ _ _ _
  (repeat refine j0 ?_);refine x5 fun K hK => ?_;refine j11 [] _ _ ?_;simp (disch:=omega) only [go_sem,↓reduceIte,reduceCtorEq,Nat.reduceLT,Nat.reducePow,Nat.reduceLeDiff,Nat.reduceAdd,Nat.reduceMul,Nat.reduceSub,Nat.reduceEqDiff,Nat.reduceBEq,Int.reduceToNat,Int.reduceBEq,Int.reduceBNe,hd,cb,sz];(repeat refine ⟨by omega,?_⟩);(refine j4 (hK _ ?_);clear hK K;show AWP _ _ _ _ _)
  have hf : hasT k x = true := (j102 k x).2 fun j hj hc => by
   have := hs (127 - j) (by omega)
   rw [show 127 - (127 - j) = j from by omega] at this
   exact this hc
  rw [hf]
  refine j9 ⟨_,?_,rfl⟩;rw [Tryz.results46];simp (disch:=omega) only [ResVars,ResVar,ptrLoc,go_sem,↓reduceIte,reduceCtorEq,Nat.reduceLT,Nat.reducePow,Nat.reduceLeDiff,Nat.reduceAdd,Nat.reduceMul,Nat.reduceSub,Nat.reduceEqDiff,Nat.reduceBEq,Int.reduceToNat,Int.reduceBEq,Int.reduceBNe,hd,cb,sz]
theorem q60 (a b : Cube) : (apart a b == 0) = true ↔ ∀ i,i < 128 → a.c.getLsbD i = true → b.c.getLsbD i = true → a.v.getLsbD i = b.v.getLsbD i := by
 unfold apart
 rw [beq_iff_eq]
 constructor
 ·intro h i hlt ha hb
  have := congrArg (fun z => z.getLsbD i) h
  simp only [BitVec.getLsbD_and,BitVec.getLsbD_xor,ha,hb,Bool.and_self,Bool.and_true,BitVec.getLsbD_zero] at this
  simpa using this
 ·intro h
  apply BitVec.eq_of_getLsbD_eq
  intro i hlt
  have := h i hlt
  simp only [BitVec.getLsbD_and,BitVec.getLsbD_xor,BitVec.getLsbD_zero]
  cases ha : a.c.getLsbD i <;> cases hb : b.c.getLsbD i <;> simp
  simpa using this ha hb
def withinT (a b : Cube) : Bool := (b.c &&& ~~~a.c == 0) && (apart a b == 0)
theorem j162 (a b : Cube) : withinT a b = true ↔ ∀ i,i < 128 → b.c.getLsbD i = true → a.c.getLsbD i = true ∧ a.v.getLsbD i = b.v.getLsbD i := by
 unfold withinT
 rw [Bool.and_eq_true,q60,beq_iff_eq]
 constructor
 ·intro ⟨h,h2⟩ i hlt hb
  have := congrArg (fun z => z.getLsbD i) h
  have e : a.c.getLsbD i = true := by
   simp only [BitVec.getLsbD_and,BitVec.getLsbD_not,hb,hlt,decide_true,Bool.true_and,BitVec.getLsbD_zero] at this
   simpa using this
  exact ⟨e,h2 i hlt e hb⟩
 ·intro h
  refine ⟨?_,fun i hlt _ hb => (h i hlt hb).2⟩
  apply BitVec.eq_of_getLsbD_eq
  intro i hlt
  have := h i hlt
  simp only [BitVec.getLsbD_and,BitVec.getLsbD_not,hlt,decide_true,Bool.true_and,BitVec.getLsbD_zero]
  cases hb : b.c.getLsbD i
  ·simp
  ·rw [(this hb).1];simp
def setTI (x : BitVec 128) (k : Cube) (i : Fin 129) : ASt :=
 ⟨[(8,.p (.d (.v (.int .i64 (i.val : Int))))),(7,.loc 7 0),(6,.loc 6 0),(5,.loc 5 0),(4,.loc 4 0)],
  [(7,.arr 112 128 fun j => .v (.bool (k.c.getLsbD j))),(6,.arr 112 128 fun j => .v (.bool (k.v.getLsbD j))),(5,.arr 112 128 fun j => .v (.bool (if decide (j < i.val) && k.c.getLsbD j then k.v.getLsbD j else x.getLsbD j))),
  (4,.cells 25 [.p (.d (.v (.int .u64 0))),.p (.d (.v (.int .u64 0)))])]⟩
theorem SetT_c (x : BitVec 128) (k : Cube) : ACalls Tryz.prog 83 [.agg (hd x),.agg (cb k)] (· = [.agg (hd (setH x k))]) := by
 refine q12 Tryz.func83 rfl (by decide +kernel) (by rw [Tryz.ntmps83];simp) ?_;rw [Tryz.ntmps83];simp only [frOf]
 (repeat (first | apply j0 | refine z7 rfl ?_ | refine x7 rfl ?_ | apply j6 | (refine x5 fun K hK => ?_) | (refine x8 fun K hK => ?_) | ((first | apply j5 | apply x6 | ((first | refine j4 (hK _ ?_) | refine q9 (hK _ _ j8 ?_));clear hK K));(first | show AWP _ _ _ _ _ | ((try simp only [z8]);first | show loopQ _ _ _ _ _ _ | show cutQ _ _ _ _ | show AWP _ _ _ _ _))) | ((first | refine x10 rfl rfl rfl ?_ | refine q13 rfl rfl rfl ?_);simp (disch:=omega) only [go_sem,seval,hd,cb];(first | refine ⟨_,q34 x,?_⟩ | refine ⟨_,q34 k.v,?_⟩ | refine ⟨_,q34 k.c,?_⟩)) | ((first | refine j7 [] rfl ?_ | refine q10 [] rfl ?_);simp (disch:=omega) only [go_sem,seval,hd,cb];(repeat (first | refine ⟨by omega,?_⟩ | refine ⟨True.intro,?_⟩)))))
 refine j13 (setTI x k) (fun i => 128 - i.val) ⟨0,by omega⟩ ?_ (fun s => ?_)
 ·unfold setTI
  refine Weak.list ?_ ?_;(all_goals simp (disch:=omega) only [AllF,AllL,q11,z11,j10,exists_eq_left',go_sem,seval,hd,cb]);(all_goals (repeat' (with_reducible apply And.intro)));(all_goals try (first | exact q8 rfl | (refine x11 ?_;omega) | (refine q8 ?_;simp;done)))
  all_goals exact ⟨rfl,rfl,fun i _ => by simp⟩
 obtain ⟨i,hi9⟩ := s
 unfold setTI
 by_cases hn : i < 128
 ·cases hac : k.c.getLsbD i
  all_goals
   (repeat (first | apply j0 | refine z7 rfl ?_ | refine x7 rfl ?_ | apply j6 | (refine x5 fun K hK => ?_) | (refine x8 fun K hK => ?_) | ((first | apply j5 | apply x6 | ((first | refine j4 (hK _ ?_) | refine q9 (hK _ _ j8 ?_));clear hK K));(first | show AWP _ _ _ _ _ | ((try simp only [z8]);first | show loopQ _ _ _ _ _ _ | show cutQ _ _ _ _ | show AWP _ _ _ _ _))) | ((first | refine j7 [] rfl ?_ | refine q10 [] rfl ?_);simp (disch:=omega) only [go_sem,seval,hd,cb,hac];(repeat (first | refine ⟨by omega,?_⟩ | refine ⟨True.intro,?_⟩)))))
   refine ⟨⟨i + 1,by omega⟩,by simp only [];omega,?_⟩
   refine Weak.list ?_ ?_;(all_goals simp (disch:=omega) only [AllF,AllL,q11,z11,j10,exists_eq_left',go_sem,seval,hd,cb,hac]);(all_goals (repeat' (with_reducible apply And.intro)));(all_goals try (first | exact q8 rfl | (refine x11 ?_;omega) | (refine q8 ?_;simp;done)))
   refine ⟨rfl,rfl,fun j hj => ?_⟩
   by_cases e : j = i
   ·subst e;simp [hac]
   ·first | rw [if_neg e] | skip
    by_cases h : j < i
    ·simp [e,h,show j < i + 1 from by omega]
    ·simp [e,h,show ¬ j < i + 1 from by omega]
 ·have h128 : i = 128 := by omega
  subst h128
  have hd1 := x102 (fun j => if decide (j < 128) && k.c.getLsbD j then k.v.getLsbD j else x.getLsbD j)
  rw [q152 _ (setH x k) (fun i hi => by
   unfold setH
   rw [decide_eq_true hi,Bool.true_and,BitVec.getLsbD_or,BitVec.getLsbD_and,BitVec.getLsbD_and,BitVec.getLsbD_not,decide_eq_true hi]
   cases k.c.getLsbD i <;> simp)] at hd1
  (repeat (first | apply j0 | refine z7 rfl ?_ | refine x7 rfl ?_ | apply j6 | (refine x5 fun K hK => ?_) | (refine x8 fun K hK => ?_) | ((first | apply j5 | apply x6 | ((first | refine j4 (hK _ ?_) | refine q9 (hK _ _ j8 ?_));clear hK K));(first | show AWP _ _ _ _ _ | ((try simp only [z8]);first | show loopQ _ _ _ _ _ _ | show cutQ _ _ _ _ | show AWP _ _ _ _ _))) | ((first | refine x10 rfl rfl rfl ?_ | refine q13 rfl rfl rfl ?_);simp (disch:=omega) only [go_sem,seval,hd,cb];(first | refine ⟨_,hd1,?_⟩)) | ((first | refine j7 [] rfl ?_ | refine q10 [] rfl ?_);simp (disch:=omega) only [go_sem,seval,hd,cb];(repeat (first | refine ⟨by omega,?_⟩ | refine ⟨True.intro,?_⟩)))))
  refine j9 ⟨_,?_,rfl⟩;rw [Tryz.results83];simp (disch:=omega) only [ResVars,ResVar,ptrLoc,go_sem,seval,hd,cb]
set_option maxRecDepth 100000 in
theorem q163 (r : Rule) (t : Int) (ps : List Port) (hl : ps.length ≤ 9223372036854775807) : ACalls Tryz.prog 122 [.agg (ruleD r),.d (.v (.int .i64 t)),.d (.sl 5 ps.length (rowP ps))] (· = [.d (.v (.bool (soundR r t ps)))]) := by
 have s1 := z74 r.mt
 have s2 := z74 r.st
 unfold soundR doesR portR
 obtain ⟨pr,mt,kd,pt,tb,st⟩ := r
 simp only [] at s1 s2 ⊢
 generalize (if mt.sound = true then txt mt else ⟨#[]⟩) = t1 at s1
 generalize (if st.sound = true then txt st else ⟨#[]⟩) = t2 at s2
 generalize mt.sound = c1 at s1
 generalize st.sound = c2 at s2
 cases c1
 ·simp only [Bool.and_false,Bool.false_and]
  refine q12 Tryz.func122 rfl (by decide +kernel) (by rw [Tryz.ntmps122];simp) ?_;rw [Tryz.ntmps122];simp only [frOf]
  (repeat (first | apply j0 | refine z7 rfl ?_ | refine x7 rfl ?_ | apply j6 | (refine x5 fun K hK => ?_) | (refine x8 fun K hK => ?_) | ((first | apply j5 | apply x6 | ((first | refine j4 (hK _ ?_) | refine q9 (hK _ _ j8 ?_));clear hK K));show AWP _ _ _ _ _) | ((first | refine x10 rfl rfl rfl ?_ | refine q13 rfl rfl rfl ?_);simp (disch:=omega) only [go_sem,seval,hd,cb,ruleD,portD,z13,x9];(first | refine ⟨_,s1,?_⟩ | refine ⟨_,s2,?_⟩)) | ((first | refine j7 [] rfl ?_ | refine q10 [] rfl ?_);simp (disch:=omega) only [go_sem,seval,hd,cb,ruleD,portD,z13,x9];(repeat (first | refine ⟨by omega,?_⟩ | refine ⟨True.intro,?_⟩)))))
  refine j9 ⟨_,?_,rfl⟩;rw [Tryz.results122];simp (disch:=omega) only [ResVars,ResVar,ptrLoc,go_sem,seval,hd,cb,ruleD,portD,z13,x9]
 ·cases c2
  ·simp only [Bool.and_false,Bool.false_and]
   refine q12 Tryz.func122 rfl (by decide +kernel) (by rw [Tryz.ntmps122];simp) ?_;rw [Tryz.ntmps122];simp only [frOf]
   (repeat (first | apply j0 | refine z7 rfl ?_ | refine x7 rfl ?_ | apply j6 | (refine x5 fun K hK => ?_) | (refine x8 fun K hK => ?_) | ((first | apply j5 | apply x6 | ((first | refine j4 (hK _ ?_) | refine q9 (hK _ _ j8 ?_));clear hK K));show AWP _ _ _ _ _) | ((first | refine x10 rfl rfl rfl ?_ | refine q13 rfl rfl rfl ?_);simp (disch:=omega) only [go_sem,seval,hd,cb,ruleD,portD,z13,x9];(first | refine ⟨_,s1,?_⟩ | refine ⟨_,s2,?_⟩)) | ((first | refine j7 [] rfl ?_ | refine q10 [] rfl ?_);simp (disch:=omega) only [go_sem,seval,hd,cb,ruleD,portD,z13,x9];(repeat (first | refine ⟨by omega,?_⟩ | refine ⟨True.intro,?_⟩)))))
   refine j9 ⟨_,?_,rfl⟩;rw [Tryz.results122];simp (disch:=omega) only [ResVars,ResVar,ptrLoc,go_sem,seval,hd,cb,ruleD,portD,z13,x9]
  ·by_cases h1 : 0 ≤ pr
   ·by_cases h2 : pr ≤ 1048576
    ·rw [decide_eq_true h1,decide_eq_true h2]
     simp only [Bool.and_true,Bool.true_and]
     by_cases k1 : kd = 1
     ·subst k1
      simp only [if_true]
      by_cases h3 : pt = 0
      ·subst h3
       simp only [beq_self_eq_true,Bool.true_and]
       refine q12 Tryz.func122 rfl (by decide +kernel) (by rw [Tryz.ntmps122];simp) ?_;rw [Tryz.ntmps122];simp only [frOf]
       (repeat (first | apply j0 | refine z7 rfl ?_ | refine x7 rfl ?_ | apply j6 | (refine x5 fun K hK => ?_) | (refine x8 fun K hK => ?_) | ((first | apply j5 | apply x6 | ((first | refine j4 (hK _ ?_) | refine q9 (hK _ _ j8 ?_));clear hK K));show AWP _ _ _ _ _) | ((first | refine x10 rfl rfl rfl ?_ | refine q13 rfl rfl rfl ?_);simp (disch:=omega) only [go_sem,seval,hd,cb,ruleD,portD,z13,x9];(first | refine ⟨_,s1,?_⟩ | refine ⟨_,s2,?_⟩)) | ((first | refine j7 [] rfl ?_ | refine q10 [] rfl ?_);simp (disch:=omega) only [go_sem,seval,hd,cb,ruleD,portD,z13,x9];(repeat (first | refine ⟨by omega,?_⟩ | refine ⟨True.intro,?_⟩)))))
       refine j9 ⟨_,?_,rfl⟩;rw [Tryz.results122];simp (disch:=omega) only [ResVars,ResVar,ptrLoc,go_sem,seval,hd,cb,ruleD,portD,z13,x9]
      ·have q : (pt == 0) = false := by simpa using h3
       rw [q]
       simp only [Bool.false_and]
       refine q12 Tryz.func122 rfl (by decide +kernel) (by rw [Tryz.ntmps122];simp) ?_;rw [Tryz.ntmps122];simp only [frOf]
       (repeat (first | apply j0 | refine z7 rfl ?_ | refine x7 rfl ?_ | apply j6 | (refine x5 fun K hK => ?_) | (refine x8 fun K hK => ?_) | ((first | apply j5 | apply x6 | ((first | refine j4 (hK _ ?_) | refine q9 (hK _ _ j8 ?_));clear hK K));show AWP _ _ _ _ _) | ((first | refine x10 rfl rfl rfl ?_ | refine q13 rfl rfl rfl ?_);simp (disch:=omega) only [go_sem,seval,hd,cb,ruleD,portD,z13,x9,q];(first | refine ⟨_,s1,?_⟩ | refine ⟨_,s2,?_⟩)) | ((first | refine j7 [] rfl ?_ | refine q10 [] rfl ?_);simp (disch:=omega) only [go_sem,seval,hd,cb,ruleD,portD,z13,x9,q];(repeat (first | refine ⟨by omega,?_⟩ | refine ⟨True.intro,?_⟩)))))
       refine j9 ⟨_,?_,rfl⟩;rw [Tryz.results122];simp (disch:=omega) only [ResVars,ResVar,ptrLoc,go_sem,seval,hd,cb,ruleD,portD,z13,x9,q]
     ·rw [if_neg k1]
      have q1 : (kd == 1) = false := by simpa using k1
      by_cases k4 : kd = 4
      ·subst k4
       simp only [show ((4 : Int) = 2) = False from by simp,show ((4 : Int) = 3) = False from by simp,if_false,if_true]
       by_cases h5 : pt = 0
       ·subst h5
        simp only [beq_self_eq_true,Bool.true_and]
        by_cases h6 : t < tb
        ·rw [decide_eq_true h6]
         simp only [Bool.true_and]
         refine q12 Tryz.func122 rfl (by decide +kernel) (by rw [Tryz.ntmps122];simp) ?_;rw [Tryz.ntmps122];simp only [frOf]
         (repeat (first | apply j0 | refine z7 rfl ?_ | refine x7 rfl ?_ | apply j6 | (refine x5 fun K hK => ?_) | (refine x8 fun K hK => ?_) | ((first | apply j5 | apply x6 | ((first | refine j4 (hK _ ?_) | refine q9 (hK _ _ j8 ?_));clear hK K));show AWP _ _ _ _ _) | ((first | refine x10 rfl rfl rfl ?_ | refine q13 rfl rfl rfl ?_);simp (disch:=omega) only [go_sem,seval,hd,cb,ruleD,portD,z13,x9];(first | refine ⟨_,s1,?_⟩ | refine ⟨_,s2,?_⟩)) | ((first | refine j7 [] rfl ?_ | refine q10 [] rfl ?_);simp (disch:=omega) only [go_sem,seval,hd,cb,ruleD,portD,z13,x9];(repeat (first | refine ⟨by omega,?_⟩ | refine ⟨True.intro,?_⟩)))))
         refine j9 ⟨_,?_,rfl⟩;rw [Tryz.results122];simp (disch:=omega) only [ResVars,ResVar,ptrLoc,go_sem,seval,hd,cb,ruleD,portD,z13,x9]
        ·rw [decide_eq_false h6]
         simp only [Bool.false_and]
         refine q12 Tryz.func122 rfl (by decide +kernel) (by rw [Tryz.ntmps122];simp) ?_;rw [Tryz.ntmps122];simp only [frOf]
         (repeat (first | apply j0 | refine z7 rfl ?_ | refine x7 rfl ?_ | apply j6 | (refine x5 fun K hK => ?_) | (refine x8 fun K hK => ?_) | ((first | apply j5 | apply x6 | ((first | refine j4 (hK _ ?_) | refine q9 (hK _ _ j8 ?_));clear hK K));show AWP _ _ _ _ _) | ((first | refine x10 rfl rfl rfl ?_ | refine q13 rfl rfl rfl ?_);simp (disch:=omega) only [go_sem,seval,hd,cb,ruleD,portD,z13,x9];(first | refine ⟨_,s1,?_⟩ | refine ⟨_,s2,?_⟩)) | ((first | refine j7 [] rfl ?_ | refine q10 [] rfl ?_);simp (disch:=omega) only [go_sem,seval,hd,cb,ruleD,portD,z13,x9];(repeat (first | refine ⟨by omega,?_⟩ | refine ⟨True.intro,?_⟩)))))
         refine j9 ⟨_,?_,rfl⟩;rw [Tryz.results122];simp (disch:=omega) only [ResVars,ResVar,ptrLoc,go_sem,seval,hd,cb,ruleD,portD,z13,x9]
       ·have q : (pt == 0) = false := by simpa using h5
        rw [q]
        simp only [Bool.false_and]
        refine q12 Tryz.func122 rfl (by decide +kernel) (by rw [Tryz.ntmps122];simp) ?_;rw [Tryz.ntmps122];simp only [frOf]
        (repeat (first | apply j0 | refine z7 rfl ?_ | refine x7 rfl ?_ | apply j6 | (refine x5 fun K hK => ?_) | (refine x8 fun K hK => ?_) | ((first | apply j5 | apply x6 | ((first | refine j4 (hK _ ?_) | refine q9 (hK _ _ j8 ?_));clear hK K));show AWP _ _ _ _ _) | ((first | refine x10 rfl rfl rfl ?_ | refine q13 rfl rfl rfl ?_);simp (disch:=omega) only [go_sem,seval,hd,cb,ruleD,portD,z13,x9,q];(first | refine ⟨_,s1,?_⟩ | refine ⟨_,s2,?_⟩)) | ((first | refine j7 [] rfl ?_ | refine q10 [] rfl ?_);simp (disch:=omega) only [go_sem,seval,hd,cb,ruleD,portD,z13,x9,q];(repeat (first | refine ⟨by omega,?_⟩ | refine ⟨True.intro,?_⟩)))))
        refine j9 ⟨_,?_,rfl⟩;rw [Tryz.results122];simp (disch:=omega) only [ResVars,ResVar,ptrLoc,go_sem,seval,hd,cb,ruleD,portD,z13,x9,q]
      ·have q4 : (kd == 4) = false := by simpa using k4
       by_cases hk : kd = 2 ∨ kd = 3
       ·have eq : (if kd = 2 then tb == 0 && decide (0 ≤ pt) && decide (pt < ps.length) && (ps.getD pt.toNat p0).kd == 1 else if kd = 3 then tb == 0 && decide (0 ≤ pt) && decide (pt < ps.length) && (ps.getD pt.toNat p0).kd == 2 else if kd = 4 then pt == 0 && decide (t < tb) && decide (tb < 3) else false) = (tb == 0 && decide (0 ≤ pt) && decide (pt < ps.length) && (ps.getD pt.toNat p0).kd == kd - 1) := by
         rcases hk with rfl | rfl <;> rfl
        rw [eq]
        by_cases h3 : tb = 0
        ·subst h3
         by_cases h4 : 0 ≤ pt
         ·obtain ⟨n,rfl⟩ := Int.eq_ofNat_of_zero_le h4
          by_cases h5 : n < ps.length
          ·have r1 := j24 ps n
           rw [decide_eq_true h4,decide_eq_true (show (n : Int) < ps.length by omega),Int.toNat_natCast]
           generalize ps.getD n p0 = p at r1
           simp only [beq_self_eq_true,Bool.true_and]
           rcases hk with rfl | rfl
           all_goals
            refine q12 Tryz.func122 rfl (by decide +kernel) (by rw [Tryz.ntmps122];simp) ?_;rw [Tryz.ntmps122];simp only [frOf]
            (repeat (first | apply j0 | refine z7 rfl ?_ | refine x7 rfl ?_ | apply j6 | (refine x5 fun K hK => ?_) | (refine x8 fun K hK => ?_) | ((first | apply j5 | apply x6 | ((first | refine j4 (hK _ ?_) | refine q9 (hK _ _ j8 ?_));clear hK K));show AWP _ _ _ _ _) | ((first | refine x10 rfl rfl rfl ?_ | refine q13 rfl rfl rfl ?_);simp (disch:=omega) only [go_sem,seval,hd,cb,ruleD,portD,z13,x9,r1];(first | refine ⟨_,s1,?_⟩ | refine ⟨_,s2,?_⟩)) | ((first | refine j7 [] rfl ?_ | refine q10 [] rfl ?_);simp (disch:=omega) only [go_sem,seval,hd,cb,ruleD,portD,z13,x9,r1];(repeat (first | refine ⟨by omega,?_⟩ | refine ⟨True.intro,?_⟩)))))
            refine j9 ⟨_,?_,rfl⟩;rw [Tryz.results122];simp (disch:=omega) only [ResVars,ResVar,ptrLoc,go_sem,seval,hd,cb,ruleD,portD,z13,x9,r1]
            try rfl
          ·rw [decide_eq_true h4,decide_eq_false (show ¬ (n : Int) < ps.length by omega)]
           simp only [Bool.and_false,Bool.false_and]
           rcases hk with rfl | rfl
           all_goals
            refine q12 Tryz.func122 rfl (by decide +kernel) (by rw [Tryz.ntmps122];simp) ?_;rw [Tryz.ntmps122];simp only [frOf]
            (repeat (first | apply j0 | refine z7 rfl ?_ | refine x7 rfl ?_ | apply j6 | (refine x5 fun K hK => ?_) | (refine x8 fun K hK => ?_) | ((first | apply j5 | apply x6 | ((first | refine j4 (hK _ ?_) | refine q9 (hK _ _ j8 ?_));clear hK K));show AWP _ _ _ _ _) | ((first | refine x10 rfl rfl rfl ?_ | refine q13 rfl rfl rfl ?_);simp (disch:=omega) only [go_sem,seval,hd,cb,ruleD,portD,z13,x9];(first | refine ⟨_,s1,?_⟩ | refine ⟨_,s2,?_⟩)) | ((first | refine j7 [] rfl ?_ | refine q10 [] rfl ?_);simp (disch:=omega) only [go_sem,seval,hd,cb,ruleD,portD,z13,x9];(repeat (first | refine ⟨by omega,?_⟩ | refine ⟨True.intro,?_⟩)))))
            refine j9 ⟨_,?_,rfl⟩;rw [Tryz.results122];simp (disch:=omega) only [ResVars,ResVar,ptrLoc,go_sem,seval,hd,cb,ruleD,portD,z13,x9]
         ·rw [decide_eq_false h4]
          simp only [Bool.and_false,Bool.false_and]
          rcases hk with rfl | rfl
          all_goals
           refine q12 Tryz.func122 rfl (by decide +kernel) (by rw [Tryz.ntmps122];simp) ?_;rw [Tryz.ntmps122];simp only [frOf]
           (repeat (first | apply j0 | refine z7 rfl ?_ | refine x7 rfl ?_ | apply j6 | (refine x5 fun K hK => ?_) | (refine x8 fun K hK => ?_) | ((first | apply j5 | apply x6 | ((first | refine j4 (hK _ ?_) | refine q9 (hK _ _ j8 ?_));clear hK K));show AWP _ _ _ _ _) | ((first | refine x10 rfl rfl rfl ?_ | refine q13 rfl rfl rfl ?_);simp (disch:=omega) only [go_sem,seval,hd,cb,ruleD,portD,z13,x9];(first | refine ⟨_,s1,?_⟩ | refine ⟨_,s2,?_⟩)) | ((first | refine j7 [] rfl ?_ | refine q10 [] rfl ?_);simp (disch:=omega) only [go_sem,seval,hd,cb,ruleD,portD,z13,x9];(repeat (first | refine ⟨by omega,?_⟩ | refine ⟨True.intro,?_⟩)))))
           refine j9 ⟨_,?_,rfl⟩;rw [Tryz.results122];simp (disch:=omega) only [ResVars,ResVar,ptrLoc,go_sem,seval,hd,cb,ruleD,portD,z13,x9]
        ·have q : (tb == 0) = false := by simpa using h3
         rw [q]
         simp only [Bool.false_and]
         rcases hk with rfl | rfl
         all_goals
          refine q12 Tryz.func122 rfl (by decide +kernel) (by rw [Tryz.ntmps122];simp) ?_;rw [Tryz.ntmps122];simp only [frOf]
          (repeat (first | apply j0 | refine z7 rfl ?_ | refine x7 rfl ?_ | apply j6 | (refine x5 fun K hK => ?_) | (refine x8 fun K hK => ?_) | ((first | apply j5 | apply x6 | ((first | refine j4 (hK _ ?_) | refine q9 (hK _ _ j8 ?_));clear hK K));show AWP _ _ _ _ _) | ((first | refine x10 rfl rfl rfl ?_ | refine q13 rfl rfl rfl ?_);simp (disch:=omega) only [go_sem,seval,hd,cb,ruleD,portD,z13,x9,q];(first | refine ⟨_,s1,?_⟩ | refine ⟨_,s2,?_⟩)) | ((first | refine j7 [] rfl ?_ | refine q10 [] rfl ?_);simp (disch:=omega) only [go_sem,seval,hd,cb,ruleD,portD,z13,x9,q];(repeat (first | refine ⟨by omega,?_⟩ | refine ⟨True.intro,?_⟩)))))
          refine j9 ⟨_,?_,rfl⟩;rw [Tryz.results122];simp (disch:=omega) only [ResVars,ResVar,ptrLoc,go_sem,seval,hd,cb,ruleD,portD,z13,x9,q]
       ·have q2 : (kd == 2) = false := by simp;omega
        have q3 : (kd == 3) = false := by simp;omega
        rw [if_neg (by omega),if_neg (by omega),if_neg k4]
        refine q12 Tryz.func122 rfl (by decide +kernel) (by rw [Tryz.ntmps122];simp) ?_;rw [Tryz.ntmps122];simp only [frOf]
        (repeat (first | apply j0 | refine z7 rfl ?_ | refine x7 rfl ?_ | apply j6 | (refine x5 fun K hK => ?_) | (refine x8 fun K hK => ?_) | ((first | apply j5 | apply x6 | ((first | refine j4 (hK _ ?_) | refine q9 (hK _ _ j8 ?_));clear hK K));show AWP _ _ _ _ _) | ((first | refine x10 rfl rfl rfl ?_ | refine q13 rfl rfl rfl ?_);simp (disch:=omega) only [go_sem,seval,hd,cb,ruleD,portD,z13,x9,q1,q2,q3,q4];(first | refine ⟨_,s1,?_⟩ | refine ⟨_,s2,?_⟩)) | ((first | refine j7 [] rfl ?_ | refine q10 [] rfl ?_);simp (disch:=omega) only [go_sem,seval,hd,cb,ruleD,portD,z13,x9,q1,q2,q3,q4];(repeat (first | refine ⟨by omega,?_⟩ | refine ⟨True.intro,?_⟩)))))
        refine j9 ⟨_,?_,rfl⟩;rw [Tryz.results122];simp (disch:=omega) only [ResVars,ResVar,ptrLoc,go_sem,seval,hd,cb,ruleD,portD,z13,x9,q1,q2,q3,q4]
    ·rw [decide_eq_true h1,decide_eq_false h2]
     simp only [Bool.and_false,Bool.false_and]
     refine q12 Tryz.func122 rfl (by decide +kernel) (by rw [Tryz.ntmps122];simp) ?_;rw [Tryz.ntmps122];simp only [frOf]
     (repeat (first | apply j0 | refine z7 rfl ?_ | refine x7 rfl ?_ | apply j6 | (refine x5 fun K hK => ?_) | (refine x8 fun K hK => ?_) | ((first | apply j5 | apply x6 | ((first | refine j4 (hK _ ?_) | refine q9 (hK _ _ j8 ?_));clear hK K));show AWP _ _ _ _ _) | ((first | refine x10 rfl rfl rfl ?_ | refine q13 rfl rfl rfl ?_);simp (disch:=omega) only [go_sem,seval,hd,cb,ruleD,portD,z13,x9];(first | refine ⟨_,s1,?_⟩ | refine ⟨_,s2,?_⟩)) | ((first | refine j7 [] rfl ?_ | refine q10 [] rfl ?_);simp (disch:=omega) only [go_sem,seval,hd,cb,ruleD,portD,z13,x9];(repeat (first | refine ⟨by omega,?_⟩ | refine ⟨True.intro,?_⟩)))))
     refine j9 ⟨_,?_,rfl⟩;rw [Tryz.results122];simp (disch:=omega) only [ResVars,ResVar,ptrLoc,go_sem,seval,hd,cb,ruleD,portD,z13,x9]
   ·rw [decide_eq_false h1]
    simp only [Bool.and_false,Bool.false_and]
    refine q12 Tryz.func122 rfl (by decide +kernel) (by rw [Tryz.ntmps122];simp) ?_;rw [Tryz.ntmps122];simp only [frOf]
    (repeat (first | apply j0 | refine z7 rfl ?_ | refine x7 rfl ?_ | apply j6 | (refine x5 fun K hK => ?_) | (refine x8 fun K hK => ?_) | ((first | apply j5 | apply x6 | ((first | refine j4 (hK _ ?_) | refine q9 (hK _ _ j8 ?_));clear hK K));show AWP _ _ _ _ _) | ((first | refine x10 rfl rfl rfl ?_ | refine q13 rfl rfl rfl ?_);simp (disch:=omega) only [go_sem,seval,hd,cb,ruleD,portD,z13,x9];(first | refine ⟨_,s1,?_⟩ | refine ⟨_,s2,?_⟩)) | ((first | refine j7 [] rfl ?_ | refine q10 [] rfl ?_);simp (disch:=omega) only [go_sem,seval,hd,cb,ruleD,portD,z13,x9];(repeat (first | refine ⟨by omega,?_⟩ | refine ⟨True.intro,?_⟩)))))
    refine j9 ⟨_,?_,rfl⟩;rw [Tryz.results122];simp (disch:=omega) only [ResVars,ResVar,ptrLoc,go_sem,seval,hd,cb,ruleD,portD,z13,x9]
def rowRR (l : List (List Rule)) : Nat → List Dat := fun i => [.sl 12 (l.getD i []).length (rowR (l.getD i []))]
theorem q30 (l : List (List Rule)) (i : Nat) : rowRR l i = [.sl 12 (l.getD i []).length (rowR (l.getD i []))] := rfl
def smallR (t : List (List Rule)) : Prop := t.length ≤ 1048576 ∧ ∀ l ∈ t,l.length ≤ 1048576
theorem z28 {t : List (List Rule)} (h : smallR t) (i : Nat) : (t.getD i []).length ≤ 1048576 := by
 by_cases hi : i < t.length
 ·exact h.2 _ (q23 hi [])
 ·rw [List.getD_eq_getElem?_getD,List.getElem?_eq_none (by omega)];simp
def sumR (ts : List (List Rule)) : Nat → Nat
 | 0 => 0
 | i + 1 => sumR ts i + (ts.getD i []).length
theorem x74 {ts : List (List Rule)} (h : smallR ts) : ∀ i,sumR ts i ≤ i * 1048576
 | 0 => Nat.le_refl _
 |i + 1 => by
  have h1 := x74 h i
  have h2 := z28 h i
  unfold sumR
  omega
def ruleOk (ts : List (List Rule)) (ps : List Port) (i k : Nat) : Bool := soundR ((ts.getD i []).getD k r0) i ps && decide (((ts.getD i []).getD k r0).tb < ts.length)
def tabOk (ts : List (List Rule)) (ps : List Port) (i : Nat) : Bool := allF (ruleOk ts ps i) (ts.getD i []).length 0
def soundTab (ts : List (List Rule)) (ps : List Port) : Int := if ts.length = 0 ∨ 3 < ts.length then 4 else if 96 < sumR ts ts.length then 12 else if allF (tabOk ts ps) ts.length 0 = true then 0 else 2
def tabI (ts : List (List Rule)) (ps : List Port) (i : Fin (ts.length + 1)) : ASt :=
 ⟨[(22,.p (.d (.v (.int .i64 (i.val : Int))))),(21,.p (.d (.v (.int .i64 (ts.length : Int))))),(20,.p (.d (.sl 1 ts.length (rowRR ts)))),(5,.p (.d (.v (.int .i64 (sumR ts i.val : Int))))),(1,.p (.d (.sl 5 ps.length (rowP ps)))),(0,.p (.d (.sl 1 ts.length (rowRR ts))))],[]⟩
def tabJ (ts : List (List Rule)) (ps : List Port) (R : Int) (s : {i : Nat // i ≤ ts.length ∧ (if allF (tabOk ts ps) ts.length i = true then 0 else 2) = R}) : ASt :=
 ⟨[(35,.p (.d (.v (.int .i64 (s.val : Int))))),(34,.p (.d (.v (.int .i64 (ts.length : Int))))),(33,.p (.d (.sl 1 ts.length (rowRR ts)))),(1,.p (.d (.sl 5 ps.length (rowP ps)))),(0,.p (.d (.sl 1 ts.length (rowRR ts))))],[]⟩
def tabK (ts : List (List Rule)) (ps : List Port) (R : Int) (i : Nat) (l : List Rule) (s : {k : Nat // k ≤ l.length ∧ (if (allF (ruleOk ts ps i) l.length k && allF (tabOk ts ps) ts.length (i + 1)) = true then 0 else 2) = R}) : ASt :=
 ⟨[(42,.p (.d (.v (.int .i64 (s.val : Int))))),(41,.p (.d (.v (.int .i64 (l.length : Int))))),(40,.p (.d (.sl 12 l.length (rowR l)))),(35,.p (.d (.v (.int .i64 (i : Int))))),(34,.p (.d (.v (.int .i64 (ts.length : Int))))),(33,.p (.d (.sl 1 ts.length (rowRR ts)))),(8,.p (.d (.v (.int .i64 (i : Int))))),(1,.p (.d (.sl 5 ps.length (rowP ps)))),(0,.p (.d (.sl 1 ts.length (rowRR ts))))],[]⟩
set_option maxRecDepth 100000 in
theorem z163 (ts : List (List Rule)) (ps : List Port) (ht : smallR ts) (hp : ps.length ≤ 1048576) : ACalls Tryz.prog 111 [.d (.sl 1 ts.length (rowRR ts)),.d (.sl 5 ps.length (rowP ps))] (· = [.d (.v (.int .i64 (soundTab ts ps)))]) := by
 have hs := z28 ht
 have hsum := x74 ht
 have ht1 := ht.1
 unfold soundTab
 by_cases h0 : ts.length = 0
 ·rw [if_pos (.inl h0)]
  have q : ((ts.length : Int) == 0) = true := j14 (by omega)
  refine q12 Tryz.func111 rfl (by decide +kernel) (by rw [Tryz.ntmps111];simp) ?_;rw [Tryz.ntmps111];simp only [frOf]
  (repeat (first | apply j0 | refine z7 rfl ?_ | refine x7 rfl ?_ | apply j6 | (refine x5 fun K hK => ?_) | ((first | apply j5 | apply x6 | (refine j4 (hK _ ?_);clear hK K));(first | show AWP _ _ _ _ _ | ((try simp only [z8]);first | show loopQ _ _ _ _ _ _ | show AWP _ _ _ _ _))) | (refine j7 [] rfl ?_;simp (disch:=omega) only [go_sem,seval,hd,cb,ruleD,portD,q];(repeat refine ⟨by omega,?_⟩))))
  refine j9 ⟨_,?_,rfl⟩;rw [Tryz.results111];simp (disch:=omega) only [ResVars,ResVar,ptrLoc,go_sem,seval,hd,cb,ruleD,portD,q]
 ·have q : ((ts.length : Int) == 0) = false := z14 (by omega)
  by_cases h3 : 3 < ts.length
  ·rw [if_pos (.inr h3)]
   refine q12 Tryz.func111 rfl (by decide +kernel) (by rw [Tryz.ntmps111];simp) ?_;rw [Tryz.ntmps111];simp only [frOf]
   (repeat (first | apply j0 | refine z7 rfl ?_ | refine x7 rfl ?_ | apply j6 | (refine x5 fun K hK => ?_) | ((first | apply j5 | apply x6 | (refine j4 (hK _ ?_);clear hK K));(first | show AWP _ _ _ _ _ | ((try simp only [z8]);first | show loopQ _ _ _ _ _ _ | show AWP _ _ _ _ _))) | (refine j7 [] rfl ?_;simp (disch:=omega) only [go_sem,seval,hd,cb,ruleD,portD,q];(repeat refine ⟨by omega,?_⟩))))
   refine j9 ⟨_,?_,rfl⟩;rw [Tryz.results111];simp (disch:=omega) only [ResVars,ResVar,ptrLoc,go_sem,seval,hd,cb,ruleD,portD,q]
  ·rw [if_neg (by omega)]
   generalize hR : (if allF (tabOk ts ps) ts.length 0 = true then (0 : Int) else 2) = R
   refine q12 Tryz.func111 rfl (by decide +kernel) (by rw [Tryz.ntmps111];simp) ?_;rw [Tryz.ntmps111];simp only [frOf]
   (repeat (first | apply j0 | refine z7 rfl ?_ | refine x7 rfl ?_ | apply j6 | (refine x5 fun K hK => ?_) | ((first | apply j5 | apply x6 | (refine j4 (hK _ ?_);clear hK K));(first | show AWP _ _ _ _ _ | ((try simp only [z8]);first | show loopQ _ _ _ _ _ _ | show AWP _ _ _ _ _))) | (refine j7 [] rfl ?_;simp (disch:=omega) only [go_sem,seval,hd,cb,ruleD,portD,q];(repeat refine ⟨by omega,?_⟩))))
   refine j13 (tabI ts ps) (fun s => ts.length - s.val) ⟨0,by omega⟩ ?_ (fun s => ?_)
   ·unfold tabI
    refine Weak.list ?_ ?_;(all_goals simp (disch:=omega) only [AllF,AllL,q11,z11,j10,exists_eq_left',go_sem,seval,hd,cb,ruleD,portD]);(all_goals (repeat' (with_reducible apply And.intro)));(all_goals try (first | exact q8 rfl | (refine x11 ?_;omega) | (refine q8 ?_;simp;done)))
   obtain ⟨i,hi⟩ := s
   unfold tabI
   have b1 := hsum i
   by_cases h : i < ts.length
   ·have st : sumR ts (i + 1) = sumR ts i + (ts.getD i []).length := rfl
    have r1 := q30 ts i
    have l1 := hs i
    generalize ts.getD i [] = l at r1 st l1
    (repeat (first | apply j0 | refine z7 rfl ?_ | refine x7 rfl ?_ | apply j6 | (refine x5 fun K hK => ?_) | ((first | apply j5 | apply x6 | (refine j4 (hK _ ?_);clear hK K));(first | show AWP _ _ _ _ _ | ((try simp only [z8]);first | show loopQ _ _ _ _ _ _ | show AWP _ _ _ _ _))) | (refine j7 [] rfl ?_;simp (disch:=omega) only [go_sem,seval,hd,cb,ruleD,portD,r1];(repeat refine ⟨by omega,?_⟩))))
    refine ⟨⟨i + 1,by omega⟩,by simp only [];omega,?_⟩
    simp only [st]
    refine Weak.list ?_ ?_;(all_goals simp (disch:=omega) only [AllF,AllL,q11,z11,j10,exists_eq_left',go_sem,seval,hd,cb,ruleD,portD,r1]);(all_goals (repeat' (with_reducible apply And.intro)));(all_goals try (first | exact q8 rfl | (refine x11 ?_;omega) | (refine q8 ?_;simp;done)))
   ·have e : i = ts.length := by omega
    subst e
    by_cases h96 : 96 < sumR ts ts.length
    ·rw [if_pos h96]
     (repeat (first | apply j0 | refine z7 rfl ?_ | refine x7 rfl ?_ | apply j6 | (refine x5 fun K hK => ?_) | ((first | apply j5 | apply x6 | (refine j4 (hK _ ?_);clear hK K));(first | show AWP _ _ _ _ _ | ((try simp only [z8]);first | show loopQ _ _ _ _ _ _ | show AWP _ _ _ _ _))) | (refine j7 [] rfl ?_;simp (disch:=omega) only [go_sem,seval,hd,cb,ruleD,portD];(repeat refine ⟨by omega,?_⟩))))
     refine j9 ⟨_,?_,rfl⟩;rw [Tryz.results111];simp (disch:=omega) only [ResVars,ResVar,ptrLoc,go_sem,seval,hd,cb,ruleD,portD]
    ·rw [if_neg h96]
     (repeat (first | apply j0 | refine z7 rfl ?_ | refine x7 rfl ?_ | apply j6 | (refine x5 fun K hK => ?_) | ((first | apply j5 | apply x6 | (refine j4 (hK _ ?_);clear hK K));(first | show AWP _ _ _ _ _ | ((try simp only [z8]);first | show loopQ _ _ _ _ _ _ | show AWP _ _ _ _ _))) | (refine j7 [] rfl ?_;simp (disch:=omega) only [go_sem,seval,hd,cb,ruleD,portD];(repeat refine ⟨by omega,?_⟩))))
     refine j13 (tabJ ts ps R) (fun s => ts.length - s.val) ⟨0,Nat.zero_le _,hR⟩ ?_ (fun s => ?_)
     ·unfold tabJ
      refine Weak.list ?_ ?_;(all_goals simp (disch:=omega) only [AllF,AllL,q11,z11,j10,exists_eq_left',go_sem,seval,hd,cb,ruleD,portD]);(all_goals (repeat' (with_reducible apply And.intro)));(all_goals try (first | exact q8 rfl | (refine x11 ?_;omega) | (refine q8 ?_;simp;done)))
     clear hi h b1
     obtain ⟨i,hi,hr⟩ := s
     unfold tabJ
     simp only [] at hi hr ⊢
     by_cases h : i < ts.length
     ·rw [x18 h] at hr
      have hq : tabOk ts ps i = allF (ruleOk ts ps i) (ts.getD i []).length 0 := rfl
      rw [hq] at hr
      have hk0 : ∀ k,ruleOk ts ps i k = (soundR ((ts.getD i []).getD k r0) i ps && decide (((ts.getD i []).getD k r0).tb < ts.length)) := fun k => rfl
      have r1 := q30 ts i
      have l1 := hs i
      generalize ts.getD i [] = l at r1 hr l1 hk0
      (repeat (first | apply j0 | refine z7 rfl ?_ | refine x7 rfl ?_ | apply j6 | (refine x5 fun K hK => ?_) | ((first | apply j5 | apply x6 | (refine j4 (hK _ ?_);clear hK K));(first | show AWP _ _ _ _ _ | ((try simp only [z8]);first | show loopQ _ _ _ _ _ _ | show AWP _ _ _ _ _))) | (refine j7 [] rfl ?_;simp (disch:=omega) only [go_sem,seval,hd,cb,ruleD,portD,r1];(repeat refine ⟨by omega,?_⟩))))
      refine j13 (tabK ts ps R i l) (fun s => l.length - s.val) ⟨0,Nat.zero_le _,hr⟩ ?_ (fun s => ?_)
      ·unfold tabK
       refine Weak.list ?_ ?_;(all_goals simp (disch:=omega) only [AllF,AllL,q11,z11,j10,exists_eq_left',go_sem,seval,hd,cb,ruleD,portD]);(all_goals (repeat' (with_reducible apply And.intro)));(all_goals try (first | exact q8 rfl | (refine x11 ?_;omega) | (refine q8 ?_;simp;done)))
      clear hr
      obtain ⟨k,hk,hr⟩ := s
      unfold tabK
      simp only [] at hk hr ⊢
      by_cases h2 : k < l.length
      ·rw [x18 h2,hk0 k] at hr
       have r2 := x21 l k
       generalize l.getD k r0 = x at hr r2
       have c := q160 x i ps (by omega)
       generalize soundR x i ps = b at hr c
       cases b
       ·simp only [Bool.false_and,Bool.false_eq_true,if_false] at hr
        subst hr
        (repeat (first | apply j0 | refine z7 rfl ?_ | refine x7 rfl ?_ | apply j6 | (refine x5 fun K hK => ?_) | ((first | apply j5 | apply x6 | (refine j4 (hK _ ?_);clear hK K));(first | show AWP _ _ _ _ _ | ((try simp only [z8]);first | show loopQ _ _ _ _ _ _ | show AWP _ _ _ _ _))) | (refine x10 rfl rfl rfl ?_;simp (disch:=omega) only [go_sem,seval,hd,cb,ruleD,portD,r2];(first | refine ⟨_,c,?_⟩)) | (refine j7 [] rfl ?_;simp (disch:=omega) only [go_sem,seval,hd,cb,ruleD,portD,r2];(repeat refine ⟨by omega,?_⟩))))
        refine j9 ⟨_,?_,rfl⟩;rw [Tryz.results111];simp (disch:=omega) only [ResVars,ResVar,ptrLoc,go_sem,seval,hd,cb,ruleD,portD,r2]
       ·rw [Bool.true_and] at hr
        by_cases h5 : x.tb < ts.length
        ·rw [decide_eq_true h5,Bool.true_and] at hr
         (repeat (first | apply j0 | refine z7 rfl ?_ | refine x7 rfl ?_ | apply j6 | (refine x5 fun K hK => ?_) | ((first | apply j5 | apply x6 | (refine j4 (hK _ ?_);clear hK K));(first | show AWP _ _ _ _ _ | ((try simp only [z8]);first | show loopQ _ _ _ _ _ _ | show AWP _ _ _ _ _))) | (refine x10 rfl rfl rfl ?_;simp (disch:=omega) only [go_sem,seval,hd,cb,ruleD,portD,r2];(first | refine ⟨_,c,?_⟩)) | (refine j7 [] rfl ?_;simp (disch:=omega) only [go_sem,seval,hd,cb,ruleD,portD,r2];(repeat refine ⟨by omega,?_⟩))))
         refine ⟨⟨k + 1,by omega,hr⟩,by simp only [];omega,?_⟩
         refine Weak.list ?_ ?_;(all_goals simp (disch:=omega) only [AllF,AllL,q11,z11,j10,exists_eq_left',go_sem,seval,hd,cb,ruleD,portD,r2]);(all_goals (repeat' (with_reducible apply And.intro)));(all_goals try (first | exact q8 rfl | (refine x11 ?_;omega) | (refine q8 ?_;simp;done)))
        ·rw [decide_eq_false h5] at hr
         simp only [Bool.false_and,Bool.false_eq_true,if_false] at hr
         subst hr
         (repeat (first | apply j0 | refine z7 rfl ?_ | refine x7 rfl ?_ | apply j6 | (refine x5 fun K hK => ?_) | ((first | apply j5 | apply x6 | (refine j4 (hK _ ?_);clear hK K));(first | show AWP _ _ _ _ _ | ((try simp only [z8]);first | show loopQ _ _ _ _ _ _ | show AWP _ _ _ _ _))) | (refine x10 rfl rfl rfl ?_;simp (disch:=omega) only [go_sem,seval,hd,cb,ruleD,portD,r2];(first | refine ⟨_,c,?_⟩)) | (refine j7 [] rfl ?_;simp (disch:=omega) only [go_sem,seval,hd,cb,ruleD,portD,r2];(repeat refine ⟨by omega,?_⟩))))
         refine j9 ⟨_,?_,rfl⟩;rw [Tryz.results111];simp (disch:=omega) only [ResVars,ResVar,ptrLoc,go_sem,seval,hd,cb,ruleD,portD,r2]
      ·rw [j18 (show l.length ≤ k by omega),Bool.true_and] at hr
       (repeat (first | apply j0 | refine z7 rfl ?_ | refine x7 rfl ?_ | apply j6 | (refine x5 fun K hK => ?_) | ((first | apply j5 | apply x6 | (refine j4 (hK _ ?_);clear hK K));(first | show AWP _ _ _ _ _ | ((try simp only [z8]);first | show loopQ _ _ _ _ _ _ | show AWP _ _ _ _ _))) | (refine j7 [] rfl ?_;simp (disch:=omega) only [go_sem,seval,hd,cb,ruleD,portD];(repeat refine ⟨by omega,?_⟩))))
       refine ⟨⟨i + 1,by omega,hr⟩,by simp only [];omega,?_⟩
       refine Weak.list ?_ ?_;(all_goals simp (disch:=omega) only [AllF,AllL,q11,z11,j10,exists_eq_left',go_sem,seval,hd,cb,ruleD,portD]);(all_goals (repeat' (with_reducible apply And.intro)));(all_goals try (first | exact q8 rfl | (refine x11 ?_;omega) | (refine q8 ?_;simp;done)))
     ·rw [j18 (by omega),if_pos rfl] at hr
      subst hr
      (repeat (first | apply j0 | refine z7 rfl ?_ | refine x7 rfl ?_ | apply j6 | (refine x5 fun K hK => ?_) | ((first | apply j5 | apply x6 | (refine j4 (hK _ ?_);clear hK K));(first | show AWP _ _ _ _ _ | ((try simp only [z8]);first | show loopQ _ _ _ _ _ _ | show AWP _ _ _ _ _))) | (refine j7 [] rfl ?_;simp (disch:=omega) only [go_sem,seval,hd,cb,ruleD,portD];(repeat refine ⟨by omega,?_⟩))))
      refine j9 ⟨_,?_,rfl⟩;rw [Tryz.results111];simp (disch:=omega) only [ResVars,ResVar,ptrLoc,go_sem,seval,hd,cb,ruleD,portD]
def tabRI (ts : List (List Rule)) (ps : List Port) (i : Fin (ts.length + 1)) : ASt :=
 ⟨[(6,.p (.d (.v (.int .i64 (i.val : Int))))),(5,.p (.d (.v (.int .i64 (sumR ts i.val : Int))))),(1,.p (.d (.sl 5 ps.length (rowP ps)))),(0,.p (.d (.sl 1 ts.length (rowRR ts))))],[]⟩
def tabRJ (ts : List (List Rule)) (ps : List Port) (R : Int) (s : {i : Nat // i ≤ ts.length ∧ (if allF (tabOk ts ps) ts.length i = true then 0 else 2) = R}) : ASt :=
 ⟨[(7,.p (.d (.v (.int .i64 (s.val : Int))))),(1,.p (.d (.sl 5 ps.length (rowP ps)))),(0,.p (.d (.sl 1 ts.length (rowRR ts))))],[]⟩
def tabRK (ts : List (List Rule)) (ps : List Port) (R : Int) (i : Nat) (l : List Rule) (s : {k : Nat // k ≤ l.length ∧ (if (allF (ruleOk ts ps i) l.length k && allF (tabOk ts ps) ts.length (i + 1)) = true then 0 else 2) = R}) : ASt :=
 ⟨[(8,.p (.d (.v (.int .i64 (s.val : Int))))),(7,.p (.d (.v (.int .i64 (i : Int))))),(1,.p (.d (.sl 5 ps.length (rowP ps)))),(0,.p (.d (.sl 1 ts.length (rowRR ts))))],[]⟩
set_option maxRecDepth 100000 in
theorem x163 (ts : List (List Rule)) (ps : List Port) (ht : smallR ts) (hp : ps.length ≤ 1048576) : ACalls Tryz.prog 81 [.d (.sl 1 ts.length (rowRR ts)),.d (.sl 5 ps.length (rowP ps))] (· = [.d (.v (.int .i64 (soundTab ts ps)))]) := by
 have hs := z28 ht
 have hsum := x74 ht
 have ht1 := ht.1
 unfold soundTab
 by_cases h0 : ts.length = 0
 ·rw [if_pos (.inl h0)]
  refine q12 Tryz.func81 rfl (by decide +kernel) (by rw [Tryz.ntmps81];simp) ?_;rw [Tryz.ntmps81];simp only [frOf]
  (repeat (first | apply j0 | refine z7 rfl ?_ | refine x7 rfl ?_ | apply j6 | (refine x5 fun K hK => ?_) | ((first | apply j5 | apply x6 | (refine j4 (hK _ ?_);clear hK K));(first | show AWP _ _ _ _ _ | ((try simp only [z8]);first | show loopQ _ _ _ _ _ _ | show AWP _ _ _ _ _))) | (refine j7 [] rfl ?_;simp (disch:=omega) only [go_sem,seval,hd,cb,ruleD,portD];(repeat refine ⟨by omega,?_⟩))))
  refine j9 ⟨_,?_,rfl⟩;rw [Tryz.results81];simp (disch:=omega) only [ResVars,ResVar,ptrLoc,go_sem,seval,hd,cb,ruleD,portD]
 ·by_cases h3 : 3 < ts.length
  ·rw [if_pos (.inr h3)]
   refine q12 Tryz.func81 rfl (by decide +kernel) (by rw [Tryz.ntmps81];simp) ?_;rw [Tryz.ntmps81];simp only [frOf]
   (repeat (first | apply j0 | refine z7 rfl ?_ | refine x7 rfl ?_ | apply j6 | (refine x5 fun K hK => ?_) | ((first | apply j5 | apply x6 | (refine j4 (hK _ ?_);clear hK K));(first | show AWP _ _ _ _ _ | ((try simp only [z8]);first | show loopQ _ _ _ _ _ _ | show AWP _ _ _ _ _))) | (refine j7 [] rfl ?_;simp (disch:=omega) only [go_sem,seval,hd,cb,ruleD,portD];(repeat refine ⟨by omega,?_⟩))))
   refine j9 ⟨_,?_,rfl⟩;rw [Tryz.results81];simp (disch:=omega) only [ResVars,ResVar,ptrLoc,go_sem,seval,hd,cb,ruleD,portD]
  ·rw [if_neg (by omega)]
   generalize hR : (if allF (tabOk ts ps) ts.length 0 = true then (0 : Int) else 2) = R
   refine q12 Tryz.func81 rfl (by decide +kernel) (by rw [Tryz.ntmps81];simp) ?_;rw [Tryz.ntmps81];simp only [frOf]
   (repeat (first | apply j0 | refine z7 rfl ?_ | refine x7 rfl ?_ | apply j6 | (refine x5 fun K hK => ?_) | ((first | apply j5 | apply x6 | (refine j4 (hK _ ?_);clear hK K));(first | show AWP _ _ _ _ _ | ((try simp only [z8]);first | show loopQ _ _ _ _ _ _ | show AWP _ _ _ _ _))) | (refine j7 [] rfl ?_;simp (disch:=omega) only [go_sem,seval,hd,cb,ruleD,portD];(repeat refine ⟨by omega,?_⟩))))
   refine j13 (tabRI ts ps) (fun s => ts.length - s.val) ⟨0,by omega⟩ ?_ (fun s => ?_)
   ·unfold tabRI
    refine Weak.list ?_ ?_;(all_goals simp (disch:=omega) only [AllF,AllL,q11,z11,j10,exists_eq_left',go_sem,seval,hd,cb,ruleD,portD]);(all_goals (repeat' (with_reducible apply And.intro)));(all_goals try (first | exact q8 rfl | (refine x11 ?_;omega) | (refine q8 ?_;simp;done)))
   obtain ⟨i,hi⟩ := s
   unfold tabRI
   have b1 := hsum i
   by_cases h : i < ts.length
   ·have st : sumR ts (i + 1) = sumR ts i + (ts.getD i []).length := rfl
    have r1 := q30 ts i
    have l1 := hs i
    generalize ts.getD i [] = l at r1 st l1
    (repeat (first | apply j0 | refine z7 rfl ?_ | refine x7 rfl ?_ | apply j6 | (refine x5 fun K hK => ?_) | ((first | apply j5 | apply x6 | (refine j4 (hK _ ?_);clear hK K));(first | show AWP _ _ _ _ _ | ((try simp only [z8]);first | show loopQ _ _ _ _ _ _ | show AWP _ _ _ _ _))) | (refine j7 [] rfl ?_;simp (disch:=omega) only [go_sem,seval,hd,cb,ruleD,portD,r1];(repeat refine ⟨by omega,?_⟩))))
    refine ⟨⟨i + 1,by omega⟩,by simp only [];omega,?_⟩
    simp only [st]
    refine Weak.list ?_ ?_;(all_goals simp (disch:=omega) only [AllF,AllL,q11,z11,j10,exists_eq_left',go_sem,seval,hd,cb,ruleD,portD,r1]);(all_goals (repeat' (with_reducible apply And.intro)));(all_goals try (first | exact q8 rfl | (refine x11 ?_;omega) | (refine q8 ?_;simp;done)))
   ·have e : i = ts.length := by omega
    subst e
    by_cases h96 : 96 < sumR ts ts.length
    ·rw [if_pos h96]
     (repeat (first | apply j0 | refine z7 rfl ?_ | refine x7 rfl ?_ | apply j6 | (refine x5 fun K hK => ?_) | ((first | apply j5 | apply x6 | (refine j4 (hK _ ?_);clear hK K));(first | show AWP _ _ _ _ _ | ((try simp only [z8]);first | show loopQ _ _ _ _ _ _ | show AWP _ _ _ _ _))) | (refine j7 [] rfl ?_;simp (disch:=omega) only [go_sem,seval,hd,cb,ruleD,portD];(repeat refine ⟨by omega,?_⟩))))
     refine j9 ⟨_,?_,rfl⟩;rw [Tryz.results81];simp (disch:=omega) only [ResVars,ResVar,ptrLoc,go_sem,seval,hd,cb,ruleD,portD]
    ·rw [if_neg h96]
     (repeat (first | apply j0 | refine z7 rfl ?_ | refine x7 rfl ?_ | apply j6 | (refine x5 fun K hK => ?_) | ((first | apply j5 | apply x6 | (refine j4 (hK _ ?_);clear hK K));(first | show AWP _ _ _ _ _ | ((try simp only [z8]);first | show loopQ _ _ _ _ _ _ | show AWP _ _ _ _ _))) | (refine j7 [] rfl ?_;simp (disch:=omega) only [go_sem,seval,hd,cb,ruleD,portD];(repeat refine ⟨by omega,?_⟩))))
     refine j13 (tabRJ ts ps R) (fun s => ts.length - s.val) ⟨0,Nat.zero_le _,hR⟩ ?_ (fun s => ?_)
     ·unfold tabRJ
      refine Weak.list ?_ ?_;(all_goals simp (disch:=omega) only [AllF,AllL,q11,z11,j10,exists_eq_left',go_sem,seval,hd,cb,ruleD,portD]);(all_goals (repeat' (with_reducible apply And.intro)));(all_goals try (first | exact q8 rfl | (refine x11 ?_;omega) | (refine q8 ?_;simp;done)))
     clear hi h b1
     obtain ⟨i,hi,hr⟩ := s
     unfold tabRJ
     simp only [] at hi hr ⊢
     by_cases h : i < ts.length
     ·rw [x18 h] at hr
      have hq : tabOk ts ps i = allF (ruleOk ts ps i) (ts.getD i []).length 0 := rfl
      rw [hq] at hr
      have hk0 : ∀ k,ruleOk ts ps i k = (soundR ((ts.getD i []).getD k r0) i ps && decide (((ts.getD i []).getD k r0).tb < ts.length)) := fun k => rfl
      have r1 := q30 ts i
      have l1 := hs i
      generalize ts.getD i [] = l at r1 hr l1 hk0
      (repeat (first | apply j0 | refine z7 rfl ?_ | refine x7 rfl ?_ | apply j6 | (refine x5 fun K hK => ?_) | ((first | apply j5 | apply x6 | (refine j4 (hK _ ?_);clear hK K));(first | show AWP _ _ _ _ _ | ((try simp only [z8]);first | show loopQ _ _ _ _ _ _ | show AWP _ _ _ _ _))) | (refine j7 [] rfl ?_;simp (disch:=omega) only [go_sem,seval,hd,cb,ruleD,portD];(repeat refine ⟨by omega,?_⟩))))
      refine j13 (tabRK ts ps R i l) (fun s => l.length - s.val) ⟨0,Nat.zero_le _,hr⟩ ?_ (fun s => ?_)
      ·unfold tabRK
       refine Weak.list ?_ ?_;(all_goals simp (disch:=omega) only [AllF,AllL,q11,z11,j10,exists_eq_left',go_sem,seval,hd,cb,ruleD,portD]);(all_goals (repeat' (with_reducible apply And.intro)));(all_goals try (first | exact q8 rfl | (refine x11 ?_;omega) | (refine q8 ?_;simp;done)))
      clear hr
      obtain ⟨k,hk,hr⟩ := s
      unfold tabRK
      simp only [] at hk hr ⊢
      by_cases h2 : k < l.length
      ·rw [x18 h2,hk0 k] at hr
       have r2 := x21 l k
       generalize l.getD k r0 = x at hr r2
       have c := q163 x i ps (by omega)
       generalize soundR x i ps = b at hr c
       cases b
       ·simp only [Bool.false_and,Bool.false_eq_true,if_false] at hr
        subst hr
        (repeat (first | apply j0 | refine z7 rfl ?_ | refine x7 rfl ?_ | apply j6 | (refine x5 fun K hK => ?_) | ((first | apply j5 | apply x6 | (refine j4 (hK _ ?_);clear hK K));(first | show AWP _ _ _ _ _ | ((try simp only [z8]);first | show loopQ _ _ _ _ _ _ | show AWP _ _ _ _ _))) | (refine x10 rfl rfl rfl ?_;simp (disch:=omega) only [go_sem,seval,hd,cb,ruleD,portD,r1,r2];(first | refine ⟨_,c,?_⟩)) | (refine j7 [] rfl ?_;simp (disch:=omega) only [go_sem,seval,hd,cb,ruleD,portD,r1,r2];(repeat refine ⟨by omega,?_⟩))))
        refine j9 ⟨_,?_,rfl⟩;rw [Tryz.results81];simp (disch:=omega) only [ResVars,ResVar,ptrLoc,go_sem,seval,hd,cb,ruleD,portD,r1,r2]
       ·rw [Bool.true_and] at hr
        by_cases h5 : x.tb < ts.length
        ·rw [decide_eq_true h5,Bool.true_and] at hr
         (repeat (first | apply j0 | refine z7 rfl ?_ | refine x7 rfl ?_ | apply j6 | (refine x5 fun K hK => ?_) | ((first | apply j5 | apply x6 | (refine j4 (hK _ ?_);clear hK K));(first | show AWP _ _ _ _ _ | ((try simp only [z8]);first | show loopQ _ _ _ _ _ _ | show AWP _ _ _ _ _))) | (refine x10 rfl rfl rfl ?_;simp (disch:=omega) only [go_sem,seval,hd,cb,ruleD,portD,r1,r2];(first | refine ⟨_,c,?_⟩)) | (refine j7 [] rfl ?_;simp (disch:=omega) only [go_sem,seval,hd,cb,ruleD,portD,r1,r2];(repeat refine ⟨by omega,?_⟩))))
         refine ⟨⟨k + 1,by omega,hr⟩,by simp only [];omega,?_⟩
         refine Weak.list ?_ ?_;(all_goals simp (disch:=omega) only [AllF,AllL,q11,z11,j10,exists_eq_left',go_sem,seval,hd,cb,ruleD,portD,r1,r2]);(all_goals (repeat' (with_reducible apply And.intro)));(all_goals try (first | exact q8 rfl | (refine x11 ?_;omega) | (refine q8 ?_;simp;done)))
        ·rw [decide_eq_false h5] at hr
         simp only [Bool.false_and,Bool.false_eq_true,if_false] at hr
         subst hr
         (repeat (first | apply j0 | refine z7 rfl ?_ | refine x7 rfl ?_ | apply j6 | (refine x5 fun K hK => ?_) | ((first | apply j5 | apply x6 | (refine j4 (hK _ ?_);clear hK K));(first | show AWP _ _ _ _ _ | ((try simp only [z8]);first | show loopQ _ _ _ _ _ _ | show AWP _ _ _ _ _))) | (refine x10 rfl rfl rfl ?_;simp (disch:=omega) only [go_sem,seval,hd,cb,ruleD,portD,r1,r2];(first | refine ⟨_,c,?_⟩)) | (refine j7 [] rfl ?_;simp (disch:=omega) only [go_sem,seval,hd,cb,ruleD,portD,r1,r2];(repeat refine ⟨by omega,?_⟩))))
         refine j9 ⟨_,?_,rfl⟩;rw [Tryz.results81];simp (disch:=omega) only [ResVars,ResVar,ptrLoc,go_sem,seval,hd,cb,ruleD,portD,r1,r2]
      ·rw [j18 (show l.length ≤ k by omega),Bool.true_and] at hr
       (repeat (first | apply j0 | refine z7 rfl ?_ | refine x7 rfl ?_ | apply j6 | (refine x5 fun K hK => ?_) | ((first | apply j5 | apply x6 | (refine j4 (hK _ ?_);clear hK K));(first | show AWP _ _ _ _ _ | ((try simp only [z8]);first | show loopQ _ _ _ _ _ _ | show AWP _ _ _ _ _))) | (refine j7 [] rfl ?_;simp (disch:=omega) only [go_sem,seval,hd,cb,ruleD,portD,r1];(repeat refine ⟨by omega,?_⟩))))
       refine ⟨⟨i + 1,by omega,hr⟩,by simp only [];omega,?_⟩
       refine Weak.list ?_ ?_;(all_goals simp (disch:=omega) only [AllF,AllL,q11,z11,j10,exists_eq_left',go_sem,seval,hd,cb,ruleD,portD,r1]);(all_goals (repeat' (with_reducible apply And.intro)));(all_goals try (first | exact q8 rfl | (refine x11 ?_;omega) | (refine q8 ?_;simp;done)))
     ·rw [j18 (by omega),if_pos rfl] at hr
      subst hr
      (repeat (first | apply j0 | refine z7 rfl ?_ | refine x7 rfl ?_ | apply j6 | (refine x5 fun K hK => ?_) | ((first | apply j5 | apply x6 | (refine j4 (hK _ ?_);clear hK K));(first | show AWP _ _ _ _ _ | ((try simp only [z8]);first | show loopQ _ _ _ _ _ _ | show AWP _ _ _ _ _))) | (refine j7 [] rfl ?_;simp (disch:=omega) only [go_sem,seval,hd,cb,ruleD,portD];(repeat refine ⟨by omega,?_⟩))))
      refine j9 ⟨_,?_,rfl⟩;rw [Tryz.results81];simp (disch:=omega) only [ResVars,ResVar,ptrLoc,go_sem,seval,hd,cb,ruleD,portD]
end Go.Proofs.YtemcdefpihkfpaaGreat
