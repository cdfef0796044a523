/- Part 3 of a proof: lemmas beneath the theorem that the last text bears. Conditions: none. -/
import Derived.Test.YtjfammnjpeeahaaKConfigClonesb
set_option maxHeartbeats 64000000
set_option linter.unusedSimpArgs false
set_option linter.unusedVariables false
namespace Go.Proofs.Ytjfammnjpeeahaa.AL
open Go.RowKit
variable {P : Program}
def LocsOK (O : Nat → Prop) (w : World) (h : Gh) (L : List (Nat × LV)) : Prop :=
 (∀ l X,look L l = some X → LocOK O w h l X) ∧ ∀ l l' X X' b,l ≠ l' → look L l = some X → look L l' = some X' → inB h l X b → ¬ inB h l' X' b
def ownB (h : Gh) (L : List (Nat × LV)) (b : Nat) : Prop := ∃ l X,look L l = some X ∧ inB h l X b
def RelRA (w : World) (h : Gh) (v : Value) : List AV → Prop
 | [x] => RelA w h v x
 | xs => ∃ vs : List Value,v = .tuple vs.toArray ∧ RelAs w h vs xs
structure Chg (L L' : List (Nat × LV)) (w : World) (h : Gh) (w' : World) (h' : Gh) : Prop where
 below : BelowS (ownB h L) w w'
 gam : ∀ b,b < w.heap.size → ¬ ownB h L b → h'.g b = h.g b
 gz : GZ w' h'.g
 keep : Keep w h.g w' h'.g
 ρ : ∀ l X,look L l = some X → h'.ρ l = h.ρ l
 up : ∀ l X,look L l = some X → h.μ l < h'.μ l ∨ (h'.κ l = h.κ l ∧ h'.μ l = h.μ l)
 own : ∀ b,ownB h' L' b → w.heap.size ≤ b ∨ ownB h L b
def MCalls (P : Program) (f : FuncId) (xs : List AV) (L : List (Nat × LV)) (Q : List AV → List (Nat × LV) → Prop) : Prop :=
 ∀ (w : World) (h : Gh) (vs : List Value),GZ w h.g → RelAs w h vs xs → LocsOK (fun _ => True) w h L →
  CallRes P (fun v w' => ∃ h' rs L',Q rs L' ∧ RelRA w' h' v rs ∧ LocsOK (fun _ => True) w' h' L' ∧ Chg L L' w h w' h') ((callFunc f vs.toArray).run P w)
theorem MCalls.mono {P : Program} {f : FuncId} {xs : List AV} {L : List (Nat × LV)} {Q Q' : List AV → List (Nat × LV) → Prop} (h : MCalls P f xs L Q) (hq : ∀ rs M,Q rs M → Q' rs M) : MCalls P f xs L Q' := by
 intro w g vs hz hr hl
 have key := h w g vs hz hr hl
 unfold CallRes at *
 split at key
 ·exact key.mono fun e w' ⟨v,he,h',rs,L',h1,h2⟩ => ⟨v,he,h',rs,L',hq _ _ h1,h2⟩
 ·obtain ⟨h',rs,L',h1,h2⟩ := key;exact ⟨h',rs,L',hq _ _ h1,h2⟩
 ·exact key.elim
theorem z32 {O O' : Nat → Prop} {w : World} {h : Gh} {l : Nat} {X : LV} (k : LocOK O w h l X) (hO : ∀ b,inB h l X b → O' b) : LocOK O' w h l X := by
 cases X with
 | cells e cs => obtain ⟨arr,h1,h2⟩ := k;exact ⟨arr,hO _ rfl,h2⟩
 | arr e n f => obtain ⟨arr,fz,h1,h2⟩ := k;exact ⟨arr,fz,hO _ rfl,h2⟩
 | grow e sz n gen => obtain ⟨h1,h2,h3,h4⟩ := k;exact ⟨h1,h2,h3,fun b hb => hO b (by simpa [inB] using hb)⟩
 | own e sz n gen f => obtain ⟨h1,h2,h4⟩ := k;exact ⟨h1,h2,fun b hb => ⟨(h4 b hb).1,hO b (by simpa [inB] using hb)⟩⟩
 | fz e cs => obtain ⟨arr,h1,h2⟩ := k;exact ⟨arr,hO _ rfl,h2⟩
 | map ks es => obtain ⟨arr,c,h1,h2⟩ := k;exact ⟨arr,c,hO _ rfl,h2⟩
 | raw M => intro b o hb;exact ⟨hO b (by simp [inB,hb]),(k b o hb).2⟩
 | blk e sz n f => obtain ⟨cap,h1,h2⟩ := k;exact ⟨cap,hO _ rfl,h2⟩
 | obj o => exact ⟨hO _ rfl,k.2⟩
theorem inB_O {O : Nat → Prop} {w : World} {h : Gh} {l : Nat} {X : LV} (k : LocOK O w h l X) {b : Nat} (hb : inB h l X b) : O b := by
 cases X with
 | cells e cs => obtain ⟨arr,h1,h2⟩ := k;simp [inB] at hb;subst hb;exact h1
 | arr e n f => obtain ⟨arr,fz,h1,h2⟩ := k;simp [inB] at hb;subst hb;exact h1
 | grow e sz n gen => obtain ⟨h1,h2,h3,h4⟩ := k;exact h4 b (by simpa [inB] using hb)
 | own e sz n gen f => obtain ⟨h1,h2,h4⟩ := k;exact (h4 b (by simpa [inB] using hb)).2
 | fz e cs => obtain ⟨arr,h1,h2⟩ := k;simp [inB] at hb;subst hb;exact h1
 | map ks es => obtain ⟨arr,c,h1,h2⟩ := k;simp [inB] at hb;subst hb;exact h1
 |raw M =>
  simp only [inB] at hb
  cases hM : M b with
  | none => exact absurd hM hb
  | some o => exact (k b o hM).1
 | blk e sz n f => obtain ⟨cap,h1,h2⟩ := k;simp [inB] at hb;subst hb;exact h1
 | obj o => simp [inB] at hb;subst hb;exact k.1
def frA : Nat → List AV → List (Nat × AV)
 | _,[] => []
 | k,x :: xs => (k,x) :: frA (k + 1) xs
theorem j78 : ∀ (xs : List AV) (k t : Nat) (y : AV),look (frA k xs) t = some y → ∃ x,k ≤ t ∧ xs[t - k]? = some x ∧ y = x
 | [],k,t,y,h => by cases h
 |x :: r,k,t,y,h => by
  simp only [frA,look] at h
  split at h
  ·rename_i e;subst e;cases h;exact ⟨x,Nat.le_refl _,by simp,rfl⟩
  ·obtain ⟨z,h1,h2,h3⟩ := j78 r (k + 1) t y h
   refine ⟨z,by omega,?_,h3⟩
   have : t - k = (t - (k + 1)) + 1 := by omega
   rw [this];simpa using h2
def ResVarA (P : Program) (A : ASt) (v : ResultVar) (x : AV) : Prop := match v with
 | .tmp t => look A.fr t = some x
 | v => ∃ y,ResVar P A v y ∧ x = .p y
def ResVarsA (P : Program) (A : ASt) : List ResultVar → List AV → Prop
 | [],[] => True
 | v :: vs,x :: xs => ResVarA P A v x ∧ ResVarsA P A vs xs
 | _,_ => False
def retM (P : Program) (fn : Func) (Q : List AV → List (Nat × LV) → Prop) : Exit → ASt → Prop
 | .normal,A => ∃ rs L',ResVarsA P A fn.results.toList rs ∧ (∀ l X,look L' l = some X → look A.locs l = some X) ∧ Q rs L'
 | .ret,A => ∃ rs L',ResVarsA P A fn.results.toList rs ∧ (∀ l X,look L' l = some X → look A.locs l = some X) ∧ Q rs L'
 | _,_ => False
section
variable {w0 : Base} {g0 : Nat → Nat} {nt : Nat} {A : ASt} {h : Gh} {a : Act} {w : World}
theorem x123 (r : Rel w0 g0 nt A h a w) {v : ResultVar} {x : AV} (hv : ResVarA P A v x) : ∃ u,(oneResult a.tmps v).run P w = .ok u w ∧ RelA w h u x := by
 cases v with
 | tmp t => exact ⟨a.tmps.getD t undef,rfl,r.fr t x hv⟩
 |_ =>
  obtain ⟨y,h1,rfl⟩ := hv
  exact x73 r h1
theorem q79 (r : Rel w0 g0 nt A h a w) : ∀ {vs : List ResultVar} {rs : List AV},ResVarsA P A vs rs → ∃ us,(vs.mapM (oneResult a.tmps)).run P w = .ok us w ∧ RelAs w h us rs
 | [],[],_ => ⟨[],rfl,rfl,fun j v x hv => by simp at hv⟩
 |v :: vs,x :: xs,hh => by
  obtain ⟨u,h1,h2⟩ := x123 r hh.1
  obtain ⟨us,h3,h4⟩ := q79 r hh.2
  refine ⟨u :: us,by simp [List.mapM_cons,h1,h3],by simp [h4.1],fun j v' x' hv hx => ?_⟩
  cases j with
  | zero => simp at hv hx;subst hv;subst hx;exact h2
  | succ j => exact h4.2 j v' x' (by simpa using hv) (by simpa using hx)
 | [],_ :: _,hh => hh.elim
 | _ :: _,[],hh => hh.elim
theorem j123 (r : Rel w0 g0 nt A h a w) {fn : Func} {rs : List AV} (hv : ResVarsA P A fn.results.toList rs) : ∃ v,(results fn a.tmps).run P w = .ok v w ∧ RelRA w h v rs := by
 obtain ⟨us,h1,h2⟩ := q79 r hv
 have e : (fn.results.mapM (oneResult a.tmps)).run P w = .ok us.toArray w := by
  rw [Array.mapM_eq_mapM_toList]
  simp [h1]
 have e' : results fn a.tmps = (do let vs ← fn.results.mapM (oneResult a.tmps);pure (if h : vs.size = 1 then vs[0] else .tuple vs)) := by
  unfold results
  congr 1
 rw [e']
 simp only [Sem.run_bind,e,Result.andThen_ok,Sem.run_pure]
 refine ⟨_,rfl,?_⟩
 match us,rs,h2 with
 | [u],[x],h2 => exact h2.2 0 u x rfl rfl
 | [],[],h2 => exact ⟨[],rfl,h2⟩
 | u :: u' :: us,x :: x' :: rs,h2 => exact ⟨_,by simp,h2⟩
 | [],_ :: _,h2 => simp [RelAs] at h2
 | _ :: _,[],h2 => simp [RelAs] at h2
 | [_],_ :: _ :: _,h2 => simp [RelAs] at h2
 | _ :: _ :: _,[_],h2 => simp [RelAs] at h2
end
theorem q29 {f : FuncId} {fn : Func} {c : Code} {xs : List AV} {L : List (Nat × LV)} {Q : List AV → List (Nat × LV) → Prop} (hf : P.funcs[f]? = some fn) (hb : fn.body = some c) (hname : (fn.name == "runtime.NumGoroutine") = false) (hn : xs.length ≤ fn.ntmps)
  (hL : ∀ l X,look L l = some X → 1000 ≤ l) (H : AWP P fn.ntmps c (retM P fn Q) ⟨frA 0 xs,L⟩) : MCalls P f xs L Q := by
 intro w h vs hz hr hl
 have hrun : (callFunc f vs.toArray).run P w = .ok (.enter f vs.toArray) w := by
  simp only [callFunc,program,Sem.run,Bind.bind,Sem.bind,hf,hname,hb];rfl
 rw [hrun]
 show Calls P f vs.toArray w _
 refine calls_of_wp hf hb ?_
 let w0 : Base := ⟨w,fun b => w.heap.size ≤ b ∨ ownB h L b,fun b hb => .inl hb,h.ρ,h.κ,h.μ⟩
 have hlt : ∀ b,ownB h L b → b < w.heap.size := fun b ⟨l,X,h1,h2⟩ => q27 (hl.1 l X h1) h2
 have hrel : Rel w0 h.g fn.ntmps ⟨frA 0 xs,L⟩ h { tmps := vs.toArray ++ Array.replicate (fn.ntmps - vs.toArray.size) undef,defers := [] } w := by
  refine ⟨by have := hr.1;simp;omega,rfl,fun t y hy => ?_,fun l X hX => z32 (hl.1 l X hX) fun b hb => .inr ⟨l,X,hX,hb⟩,hl.2,ExtS.refl w0 hz,fun l _ => ⟨rfl,.inr ⟨rfl,rfl⟩⟩⟩
  obtain ⟨x,_,hx,rfl⟩ := j78 xs 0 t y hy
  have hlt : t < vs.length := by rw [hr.1];have := (List.getElem?_eq_some_iff.1 hx).1;simpa using this
  have hv : (vs.toArray ++ Array.replicate (fn.ntmps - vs.toArray.size) undef).getD t undef = vs[t] := by
   rw [Array.getD_eq_getD_getElem?,Array.getElem?_append_left (by simpa using hlt)]
   simp [hlt]
  rw [hv]
  exact hr.2 t _ y (by simp [hlt]) (by simpa using hx)
 refine Go.wp_mono (q55.1 H w0 h.g _ _ w hrel) fun e a' w' ⟨A',h',q,rr⟩ => ?_
 have fin : (∃ rs L',ResVarsA P A' fn.results.toList rs ∧ (∀ l X,look L' l = some X → look A'.locs l = some X) ∧ Q rs L') → a'.defers = [] ∧ ∃ v,(results fn a'.tmps).run P w' = .ok v w' ∧
   ∃ u,Ending.returned v = .returned u ∧ ∃ h' rs L',Q rs L' ∧ RelRA w' h' u rs ∧ LocsOK (fun _ => True) w' h' L' ∧ Chg L L' w h w' h' := by
  rintro ⟨rs,L',hv,hL',hq⟩
  obtain ⟨v,h1,h2⟩ := j123 rr hv
  refine ⟨rr.defers,v,h1,v,rfl,h',rs,L',hq,h2,⟨fun l X hX => z32 (rr.locs l X (hL' l X hX)) fun _ _ => trivial,fun l l' X X' b hne h1 h2 => rr.sep l l' X X' b hne (hL' l X h1) (hL' l' X' h2)⟩,?_⟩
  refine ⟨⟨rr.ext.below.os,rr.ext.below.tape,rr.ext.below.output,rr.ext.below.size,fun k hk hno => rr.ext.below.block k hk ?_⟩,fun b hb hno => rr.ext.gam b ?_,rr.ext.gz,rr.ext.keep,fun l X hX => (rr.pin l (hL l X hX)).1,fun l X hX => (rr.pin l (hL l X hX)).2,fun b ⟨l,X,h1,h2⟩ => inB_O (rr.locs l X (hL' l X h1)) h2⟩
  ·rintro (hge | ho)
   ·have hk : k < w.heap.size := hk
    omega
   ·exact hno ho
  ·rintro (hge | ho)
   ·omega
   ·exact hno ho
 cases e with
 | normal => exact fin q
 | ret => exact fin q
 | exit id => exact q.elim
 | goto l => exact q.elim
 | panic ch => exact q.elim
 | outgrown => exact q.elim
def sub (sg : List (Nat × Nat)) (l : Nat) : Nat := (look sg l).getD l
def back : List (Nat × Nat) → Nat → Option Nat
 | [],_ => none
 | (l,m) :: r,u => if m = u then some l else back r u
def CV.ren (s : Nat → Nat) : CV → CV
 | .p x => .p x
 | .loc l off => .loc (s l) off
 | .ow l gen sz n => .ow (s l) gen sz n
 | .mp l => .mp (s l)
 | .a1 l off => .a1 (s l) off
def AV.ren (s : Nat → Nat) : AV → AV
 | .ow l gen sz n => .ow (s l) gen sz n
 | .el l gen sz i j => .el (s l) gen sz i j
 | .cl f a b => .cl f (a.map (CV.ren s)) (b.map (CV.ren s))
 | .loc l off => .loc (s l) off
 | .gr l gen sz n f => .gr (s l) gen sz n f
 | .row l sz off n => .row (s l) sz off n
 | .mp l => .mp (s l)
 | .ag cs => .ag (cs.map (CV.ren s))
 | x => x
def LV.ren (s : Nat → Nat) : LV → LV
 | .cells e cs => .cells e (cs.map (AV.ren s))
 | .fz e cs => .fz e (cs.map (AV.ren s))
 | X => X
def Gh.ren (h : Gh) (s : Nat → Nat) : Gh := ⟨h.g,fun l => h.ρ (s l),fun l => h.κ (s l),fun l => h.μ (s l)⟩
theorem j23 {w : World} {h : Gh} {s : Nat → Nat} {v : Value} {x : AV} : RelA w h v (x.ren s) ↔ RelA w (h.ren s) v x := by
 have hc : ∀ (vs : List Value) (cs : List CV),RelCs w h vs (cs.map (CV.ren s)) ↔ RelCs w (h.ren s) vs cs := by
  intro vs cs
  have one : ∀ v (c : CV),RelCV w h v (c.ren s) ↔ RelCV w (h.ren s) v c := fun v c => by cases c <;> exact Iff.rfl
  constructor
  ·rintro ⟨h1,h2⟩
   exact ⟨by simpa using h1,fun j v c hv hc => (one v c).1 (h2 j v _ hv (by rw [List.getElem?_map,hc];rfl))⟩
  ·rintro ⟨h1,h2⟩
   refine ⟨by simpa using h1,fun j v c hv hc => ?_⟩
   rw [List.getElem?_map] at hc
   cases hj : cs[j]? with
   | none => rw [hj] at hc;cases hc
   | some y => rw [hj] at hc;cases hc;exact (one v y).2 (h2 j v y hv hj)
 cases x with
 |cl f a b =>
  constructor
  ·rintro ⟨vs,us,h1,h2,h3⟩;exact ⟨vs,us,h1,(hc _ _).1 h2,(hc _ _).1 h3⟩
  ·rintro ⟨vs,us,h1,h2,h3⟩;exact ⟨vs,us,h1,(hc _ _).2 h2,(hc _ _).2 h3⟩
 |ag cs =>
  constructor
  ·rintro ⟨vs,h1,h2,h3⟩;exact ⟨vs,h1,(hc _ _).1 h2,h3⟩
  ·rintro ⟨vs,h1,h2,h3⟩;exact ⟨vs,h1,(hc _ _).2 h2,h3⟩
 | _ => exact Iff.rfl
theorem z45 {O : Nat → Prop} {w : World} {h : Gh} {s : Nat → Nat} {l : Nat} {X : LV} : LocOK O w h (s l) (X.ren s) ↔ LocOK O w (h.ren s) l X := by
 cases X with
 |cells e cs =>
  simp only [LV.ren,LocOK]
  constructor
  ·rintro ⟨arr,h1,h2,h3,h4,h5⟩
   refine ⟨arr,h1,h2,by simpa using h3,h4,fun i v x hv hx => ?_⟩
   have := h5 i v (x.ren s) hv (by rw [List.getElem?_map,hx];rfl)
   exact ⟨j23.1 this.1,this.2⟩
  ·rintro ⟨arr,h1,h2,h3,h4,h5⟩
   refine ⟨arr,h1,h2,by simpa using h3,h4,fun i v x hv hx => ?_⟩
   rw [List.getElem?_map] at hx
   cases hc : cs[i]? with
   | none => rw [hc] at hx;cases hx
   |some y =>
    rw [hc] at hx;cases hx
    exact ⟨j23.2 (h5 i v y hv hc).1,(h5 i v y hv hc).2⟩
 |fz e cs =>
  simp only [LV.ren,LocOK]
  constructor
  ·rintro ⟨arr,h1,h2,h3,h4,h5⟩
   refine ⟨arr,h1,h2,by simpa using h3,h4,fun i v x hv hx => ?_⟩
   have := h5 i v (x.ren s) hv (by rw [List.getElem?_map,hx];rfl)
   exact ⟨j23.1 this.1,this.2⟩
  ·rintro ⟨arr,h1,h2,h3,h4,h5⟩
   refine ⟨arr,h1,h2,by simpa using h3,h4,fun i v x hv hx => ?_⟩
   rw [List.getElem?_map] at hx
   cases hc : cs[i]? with
   | none => rw [hc] at hx;cases hx
   |some y =>
    rw [hc] at hx;cases hx
    exact ⟨j23.2 (h5 i v y hv hc).1,(h5 i v y hv hc).2⟩
 | arr e n f => exact Iff.rfl
 | grow e sz n gen => exact Iff.rfl
 | own e sz n gen f => exact Iff.rfl
 | map ks es => exact Iff.rfl
 | raw M => exact Iff.rfl
 | blk e sz n f => exact Iff.rfl
 | obj o => exact Iff.rfl
theorem x32 {h : Gh} {s : Nat → Nat} {l : Nat} {X : LV} : inB h (s l) (X.ren s) = inB (h.ren s) l X := by cases X <;> rfl
theorem q38 {w : World} {h k : Gh} {v : Value} {x : AV} (hg : h.g = k.g) (hm : ∀ l ∈ x.mentions,h.ρ l = k.ρ l ∧ h.κ l = k.κ l ∧ h.μ l = k.μ l) (r : RelA w h v x) : RelA w k v x := by
 have hc : ∀ (vs : List Value) (cs : List CV),(∀ l ∈ cs.flatMap CV.mentions,h.ρ l = k.ρ l ∧ h.κ l = k.κ l ∧ h.μ l = k.μ l) → RelCs w h vs cs → RelCs w k vs cs := by
  intro vs cs hm r
  refine ⟨r.1,fun j v c hv hc => ?_⟩
  have r := r.2 j v c hv hc
  have hm := fun l hl => hm l (List.mem_flatMap.2 ⟨c,List.mem_of_getElem? hc,hl⟩)
  cases c with
  | p x => simp only [RelCV] at *;rw [← hg];exact r
  | loc l off => simp only [RelCV] at *;rw [← (hm l (by simp [CV.mentions])).1];exact r
  |ow l gen sz n =>
   obtain ⟨h1,h2,h3⟩ := hm l (by simp [CV.mentions])
   simp only [RelCV,RelOw] at *;rw [← h2,← h3];exact r
  | mp l => simp only [RelCV] at *;rw [← (hm l (by simp [CV.mentions])).1];exact r
  | a1 l off => simp only [RelCV] at *;rw [← (hm l (by simp [CV.mentions])).1];exact r
 cases x with
 |ow l gen sz n =>
  obtain ⟨h1,h2,h3⟩ := hm l (by simp [AV.mentions])
  simp only [RelA,RelOw] at *;rw [← h2,← h3];exact r
 |el l gen sz i j =>
  obtain ⟨h1,h2,h3⟩ := hm l (by simp [AV.mentions])
  simp only [RelA] at *;rw [← h2,← h3];exact r
 |cl f a b =>
  obtain ⟨vs,us,e,h1,h2⟩ := r
  simp only [AV.mentions,List.flatMap_append] at hm
  exact ⟨vs,us,e,hc _ _ (fun l hl => hm l (List.mem_append_left _ hl)) h1,hc _ _ (fun l hl => hm l (List.mem_append_right _ hl)) h2⟩
 | top => trivial
 | undef => exact r
 | p x => simp only [RelA] at *;rw [← hg];exact r
 | loc l off => simp only [RelA] at *;rw [← (hm l (by simp [AV.mentions])).1];exact r
 |gr l gen sz n f =>
  obtain ⟨h1,h2,h3⟩ := hm l (by simp [AV.mentions])
  simp only [RelA] at *;rw [← hg,← h2,← h3];exact r
 | row l sz off n => simp only [RelA] at *;rw [← (hm l (by simp [AV.mentions])).1];exact r
 | tup xs => simp only [RelA] at *;rw [← hg];exact r
 | mp l => simp only [RelA] at *;rw [← (hm l (by simp [AV.mentions])).1];exact r
 | ag cs => obtain ⟨vs,h1,h2,h3⟩ := r;exact ⟨vs,h1,hc _ _ hm h2,h3⟩
 | is q => exact r
 | ex b sz i j => exact r
theorem z57 {O : Nat → Prop} {w : World} {h k : Gh} {l : Nat} {X : LV} (hg : h.g = k.g) (hl : h.ρ l = k.ρ l ∧ h.κ l = k.κ l ∧ h.μ l = k.μ l) (hm : ∀ l ∈ X.mentions,h.ρ l = k.ρ l ∧ h.κ l = k.κ l ∧ h.μ l = k.μ l)
  (r : LocOK O w h l X) : LocOK O w k l X := by
 obtain ⟨e1,e2,e3⟩ := hl
 cases X with
 |cells e cs =>
  obtain ⟨arr,h1,h2,h3,h4,h5⟩ := r
  refine ⟨arr,by rw [← e1];exact h1,by rw [← e1];exact h2,h3,by rw [← hg,← e1];exact h4,fun i v x hv hx => ⟨q38 hg (fun l hl => hm l (List.mem_flatMap.2 ⟨x,List.mem_of_getElem? hx,hl⟩)) (h5 i v x hv hx).1,(h5 i v x hv hx).2⟩⟩
 |arr e n f =>
  obtain ⟨arr,fz,h1,h2,h3,h4,h5,h6⟩ := r
  exact ⟨arr,fz,by rw [← e1];exact h1,by rw [← e1];exact h2,h3,h4,by rw [← hg,← e1];exact h5,by rw [← hg];exact h6⟩
 |grow e sz n gen =>
  obtain ⟨h1,h2,h3,h4⟩ := r
  exact ⟨by rw [← e3];exact h1,by rw [← e2];exact h2,by rw [← e2,← hg];exact h3,by rw [← e2];exact h4⟩
 |own e sz n gen f =>
  obtain ⟨h1,h2,h4⟩ := r
  exact ⟨by rw [← e3];exact h1,by rw [← e2,← hg];exact h2,by rw [← e2,← hg];exact h4⟩
 |fz e cs =>
  obtain ⟨arr,h1,h2,h3,h4,h5⟩ := r
  refine ⟨arr,by rw [← e1];exact h1,by rw [← e1];exact h2,h3,by rw [← hg,← e1];exact h4,fun i v x hv hx => ⟨q38 hg (fun l hl => hm l (List.mem_flatMap.2 ⟨x,List.mem_of_getElem? hx,hl⟩)) (h5 i v x hv hx).1,(h5 i v x hv hx).2⟩⟩
 |map ks es =>
  obtain ⟨arr,c,h1,h2,h3,h4⟩ := r
  exact ⟨arr,c,by rw [← e1];exact h1,by rw [← e1];exact h2,by rw [← hg,← e1];exact h3,by rw [← hg];exact h4⟩
 | raw M => intro b o hb;obtain ⟨h1,h2,h3⟩ := r b o hb;exact ⟨h1,by rw [← hg];exact h2,by rw [← hg];exact h3⟩
 | blk e sz n f => obtain ⟨cap,h1,h2,h3⟩ := r;exact ⟨cap,by rw [← e1];exact h1,by rw [← e1,← hg];exact h2,by rw [← hg,← e1];exact h3⟩
 | obj o => obtain ⟨h1,h2,h3⟩ := r;exact ⟨by rw [← e1];exact h1,by rw [← e1];exact h2,by rw [← hg,← e1];exact h3⟩
theorem x57 {h k : Gh} {l : Nat} {X : LV} (hl : h.ρ l = k.ρ l ∧ h.κ l = k.κ l ∧ h.μ l = k.μ l) : inB h l X = inB k l X := by
 cases X <;> simp [inB,hl.1,hl.2.1]
def AV.clean (t : Nat → Option Nat) : AV → AV
 | .gr l gen sz n f => match t l with
  | some _ => .p (.d (.sl sz n f))
  | none => .gr l gen sz n f
 | x => x
def LV.clean (t : Nat → Option Nat) : LV → LV
 | .cells e cs => .cells e (cs.map (AV.clean t))
 | .fz e cs => .fz e (cs.map (AV.clean t))
 | X => X
theorem q124 {O : Nat → Prop} {w w' : World} {h h' : Gh} {t : Nat → Option Nat} {l : Nat} {X : LV} (hρ : h'.ρ l = h.ρ l) (hκ : h'.κ l = h.κ l) (hμ : h'.μ l = h.μ l) (hk : Keep w h.g w' h'.g)
  (hb : ∀ b,inB h l X b → w'.heap[b]? = w.heap[b]? ∧ h'.g b = h.g b) (hc : ∀ v x,(∀ l ∈ x.mentions,l ∈ X.mentions) → RelA w h v x → RelA w' h' v (x.clean t)) (k : LocOK O w h l X) :
  LocOK O w' h' l (X.clean t) ∧ inB h' l (X.clean t) = inB h l X := by
 cases X with
 |cells e cs =>
  obtain ⟨arr,h1,h2,h3,h4,h5⟩ := k
  obtain ⟨e1,e2⟩ := hb (h.ρ l) rfl
  refine ⟨⟨arr,by rw [hρ];exact h1,by rw [hρ,e1];exact h2,by simpa using h3,by rw [hρ,e2];exact h4,fun i v x hv hx => ?_⟩,by simp [inB,LV.clean,hρ]⟩
  rw [List.getElem?_map] at hx
  cases hci : cs[i]? with
  | none => rw [hci] at hx;cases hx
  |some y =>
   rw [hci] at hx;cases hx
   exact ⟨hc v y (fun l hl => List.mem_flatMap.2 ⟨y,List.mem_of_getElem? hci,hl⟩) (h5 i v y hv hci).1,(h5 i v y hv hci).2⟩
 |fz e cs =>
  obtain ⟨arr,h1,h2,h3,h4,h5⟩ := k
  obtain ⟨e1,e2⟩ := hb (h.ρ l) rfl
  refine ⟨⟨arr,by rw [hρ];exact h1,by rw [hρ,e1];exact h2,by simpa using h3,by rw [hρ,e2];exact h4,fun i v x hv hx => ?_⟩,by simp [inB,LV.clean,hρ]⟩
  rw [List.getElem?_map] at hx
  cases hci : cs[i]? with
  | none => rw [hci] at hx;cases hx
  |some y =>
   rw [hci] at hx;cases hx
   exact ⟨hc v y (fun l hl => List.mem_flatMap.2 ⟨y,List.mem_of_getElem? hci,hl⟩) (h5 i v y hv hci).1,(h5 i v y hv hci).2⟩
 |arr e n f =>
  obtain ⟨arr,fz,h1,h2,hfz,h3,h4,h5⟩ := k
  obtain ⟨e1,e2⟩ := hb (h.ρ l) rfl
  exact ⟨⟨arr,fz,by rw [hρ];exact h1,by rw [hρ,e1];exact h2,hfz,h3,by rw [hρ,e2];exact h4,fun i v hi hv => (h5 i v hi hv).keep hk⟩,by simp [inB,LV.clean,hρ]⟩
 |grow e sz n gen =>
  obtain ⟨h1,⟨xs,h2⟩,h3,h4⟩ := k
  refine ⟨⟨by rw [hμ];exact h1,⟨xs,?_⟩,fun b c hb' => ?_,fun b hb' => h4 b (by rw [← hκ];exact hb')⟩,by simp [inB,LV.clean,hκ]⟩
  ·rw [hκ]
   rcases h2 with ⟨a1,a2 | ⟨gb,cap,cur,a2,a3,a4,a5⟩⟩
   ·exact ⟨a1,.inl a2⟩
   ·have hb' : inB h l (.grow e sz n gen) gb := by simp [inB,a2,Value.ownBlock]
    exact ⟨a1,.inr ⟨gb,cap,cur,a2,a3,by rw [(hb gb hb').1];exact a4,a5⟩⟩
  ·rw [hκ] at hb'
   have hb2 : inB h l (.grow e sz n gen) b := by simp [inB,hb',Value.ownBlock]
   rw [(hb b hb2).2]
   exact h3 b c hb'
 |own e sz n gen f =>
  obtain ⟨h1,⟨xs,h2,h3⟩,h4⟩ := k
  refine ⟨⟨by rw [hμ];exact h1,⟨xs,?_,h3.keep hk⟩,fun b hb' => ?_⟩,by simp [inB,LV.clean,hκ]⟩
  ·rw [hκ]
   exact z63 h2 fun b hb' => (hb b (by simpa [inB] using hb')).1
  ·rw [hκ] at hb'
   rw [(hb b (by simpa [inB] using hb')).2]
   exact h4 b hb'
 |map ks es =>
  obtain ⟨arr,c,h1,h2,h3,h4⟩ := k
  obtain ⟨e1,e2⟩ := hb (h.ρ l) rfl
  exact ⟨⟨arr,c,by rw [hρ];exact h1,by rw [hρ,e1];exact h2,by rw [hρ,e2];exact h3,h4.keep hk⟩,by simp [inB,LV.clean,hρ]⟩
 |raw M =>
  refine ⟨fun b o hM => ?_,rfl⟩
  obtain ⟨h1,h2,h3⟩ := k b o hM
  obtain ⟨e1,e2⟩ := hb b (by simp [inB,hM])
  exact ⟨h1,h2.keep hk e1,by rw [e2];exact h3⟩
 |blk e sz n f =>
  obtain ⟨cap,h1,h2,h3⟩ := k
  obtain ⟨e1,e2⟩ := hb (h.ρ l) rfl
  exact ⟨⟨cap,by rw [hρ];exact h1,by rw [hρ];exact h2.keep hk e1,by rw [hρ,e2];exact h3⟩,by simp [inB,LV.clean,hρ]⟩
 |obj o =>
  obtain ⟨h1,h2,h3⟩ := k
  obtain ⟨e1,e2⟩ := hb (h.ρ l) rfl
  exact ⟨⟨by rw [hρ];exact h1,by rw [hρ,e1];exact h2,by rw [hρ,e2];exact h3⟩,by simp [inB,LV.clean,hρ]⟩
theorem z79 {α : Type} (L M : List (Nat × α)) (k : Nat) : look (L ++ M) k = match look L k with
  | some x => some x
  | none => look M k := by
 induction L with
 | nil => rfl
 |cons p L ih =>
  obtain ⟨t,x⟩ := p
  simp only [List.cons_append,look]
  split
  ·rfl
  ·exact ih
theorem j57 {α β : Type} (f : α → β) (L : List (Nat × α)) (k : Nat) : look (L.map fun p => (p.1,f p.2)) k = (look L k).map f := by
 induction L with
 | nil => rfl
 |cons p L ih =>
  obtain ⟨t,x⟩ := p
  simp only [List.map_cons,look]
  split
  ·rfl
  ·exact ih
theorem z124 {α : Type} (q : Nat → Bool) (L : List (Nat × α)) (k : Nat) : look (L.filter fun p => q p.1) k = if q k then look L k else none := by
 induction L with
 | nil => simp [look]
 |cons p L ih =>
  obtain ⟨t,x⟩ := p
  simp only [List.filter_cons]
  by_cases ht : t = k
  ·subst ht
   cases hq : q t
   ·simp only [Bool.false_eq_true,if_false];rw [ih,hq];rfl
   ·simp [look]
  ·cases hq : q t
   ·simp only [Bool.false_eq_true,if_false,look,if_neg ht];exact ih
   ·simp only [if_true,look,if_neg ht];exact ih
def keysOK {α : Type} : List (Nat × α) → Bool
 | [] => true
 | (t,_) :: r => (look r t).isNone && keysOK r
theorem x79 {α β : Type} (s : Nat → Nat) (f : α → β) : ∀ (L : List (Nat × α)) (m : Nat) (y : β),keysOK L = true → look (L.map fun p => (s p.1,f p.2)) m = some y → ∃ l x,look L l = some x ∧ s l = m ∧ y = f x
 | [],m,y,_,h => by cases h
 |(t,x) :: L,m,y,hk,h => by
  simp only [keysOK,Bool.and_eq_true] at hk
  simp only [List.map_cons,look] at h
  split at h
  ·rename_i e;cases h;exact ⟨t,x,by simp [look],e,rfl⟩
  ·obtain ⟨l,x',h1,h2,h3⟩ := x79 s f L m y hk.2 h
   refine ⟨l,x',?_,h2,h3⟩
   simp only [look]
   rw [if_neg (fun e => by subst e;rw [h1] at hk;simp at hk)]
   exact h1
def afterCall (sg : List (Nat × Nat)) (A : ASt) (dst : Option Tmp) (res : AV) (L' : List (Nat × LV)) : ASt :=
 ⟨(match dst with
  | some d => [(d,res.ren (sub sg))]
  | none => []) ++ A.fr.map fun p => (p.1,p.2.clean (back sg)),
  (L'.map fun p => (sub sg p.1,p.2.ren (sub sg))) ++ (A.locs.filter fun p => (back sg p.1).isNone).map fun p => (p.1,p.2.clean (back sg))⟩
def resM : List AV → Option AV
 | [x] => some x
 | xs => (xs.mapM pvAV).map .tup
theorem x124 {w : World} {h : Gh} {v : Value} {rs : List AV} {x : AV} (hx : resM rs = some x) (r : RelRA w h v rs) : RelA w h v x := by
 match rs,hx,r with
 | [y],hx,r => cases hx;exact r
 | [],hx,⟨vs,hv,hr⟩ => cases hx;exact ⟨vs,hv,by have := hr.1;simp at this;subst this;exact RelPs.nil _ _⟩
 |a :: b :: r',hx,⟨vs,hv,hr⟩ =>
  simp only [resM,Option.map_eq_some_iff] at hx
  obtain ⟨ys,hy,rfl⟩ := hx
  exact ⟨vs,hv,q43 hy hr⟩
theorem RelAs.append {w : World} {h : Gh} {vs us : List Value} {xs ys : List AV} (r : RelAs w h vs xs) (t : RelAs w h us ys) : RelAs w h (vs ++ us) (xs ++ ys) := by
 refine ⟨by simp [r.1,t.1],fun j v x hv hx => ?_⟩
 by_cases hj : j < vs.length
 ·rw [List.getElem?_append_left hj] at hv
  rw [List.getElem?_append_left (r.1 ▸ hj)] at hx
  exact r.2 j v x hv hx
 ·rw [List.getElem?_append_right (by omega)] at hv
  rw [List.getElem?_append_right (by have := r.1;omega),← r.1] at hx
  exact t.2 _ v x hv hx
def calleeC : AV → Option (FuncId × List CV × List CV)
 | .p (.fn (.func f) a b) => some (f,a.map .p,b.map .p)
 | .cl (.func f) a b => some (f,a,b)
 | _ => none
theorem j79 {w : World} {h : Gh} {vs : List Value} {xs : List CV} (r : RelCs w h vs xs) : RelAs w h vs (xs.map CV.av) := by
 refine ⟨by simp [r.1],fun j v x hv hx => ?_⟩
 rw [List.getElem?_map] at hx
 cases hj : xs[j]? with
 | none => rw [hj] at hx;cases hx
 | some y => rw [hj] at hx;cases hx;exact (q41 y).1 (r.2 j v y hv hj)
theorem q80 {w : World} {h : Gh} {vs : List Value} {xs : List PV} (r : RelPs w h.g vs xs) : RelCs w h vs (xs.map .p) := by
 refine ⟨by simp [r.1],fun j v x hv hx => ?_⟩
 rw [List.getElem?_map] at hx
 cases hj : xs[j]? with
 | none => rw [hj] at hx;cases hx
 | some y => rw [hj] at hx;cases hx;exact r.2 j v y hv hj
theorem j124 {w : World} {h : Gh} {x : AV} {g : FuncId} {pre post : List CV} (hx : calleeC x = some (g,pre,post)) {v : Value} (hf : RelA w h v x) :
  ∃ us vs : List Value,v = .func (.func g) us.toArray vs.toArray ∧ RelCs w h us pre ∧ RelCs w h vs post := by
 unfold calleeC at hx
 split at hx
 ·cases hx
  cases hf with
  | fn _ us vs _ _ hl hm hr hs => exact ⟨us,vs,rfl,q80 ⟨hl,hr⟩,q80 ⟨hm,hs⟩⟩
 ·cases hx
  obtain ⟨us,vs,e,h1,h2⟩ := hf
  exact ⟨us,vs,e,h1,h2⟩
 ·cases hx
theorem q58 {o : Oper} {c : Call} {f : Operand} (ho : o.op = .call c) (hc : c.callee = .value f) {x : AV} {g : FuncId} {pre post : List CV} (hx : calleeC x = some (g,pre,post)) {ys : List AV}
  {w : World} {h : Gh} {a : Act} (hf : RelA w h (a.eval f) x) (hargs : RelAs w h (c.args.toList.map a.eval) ys) :
  ∃ vs : List Value,RelAs w h vs (pre.map CV.av ++ ys ++ post.map CV.av) ∧ (execOp a.eval o).run P w = (callFunc g vs.toArray).run P w := by
 obtain ⟨us,vs,hv0,h1,h2⟩ := j124 hx hf
 refine ⟨us ++ c.args.toList.map a.eval ++ vs,RelAs.append (RelAs.append (j79 h1) hargs) (j79 h2),?_⟩
 have : (us ++ c.args.toList.map a.eval ++ vs).toArray = us.toArray ++ c.args.map a.eval ++ vs.toArray := by
  apply Array.ext';simp
 rw [this]
 simp [execOp,ho,resolve,hc,hv0,Deferred.ofValue,invoke]
structure NamesOK (sg : List (Nat × Nat)) (A : ASt) (L L' : List (Nat × LV)) (res : AV) : Prop where
 keys : keysOK L' = true
 locs : ∀ l X,look L l = some X → look A.locs (sub sg l) = some (X.ren (sub sg))
 dom : ∀ l X,look L l = some X → back sg (sub sg l) = some l
 dom' : ∀ l X,look L' l = some X → back sg (sub sg l) = some l ∧ ∀ k ∈ X.mentions,back sg (sub sg k) = some k
 res : ∀ k ∈ res.mentions,back sg (sub sg k) = some k
 inv : ∀ m l,back sg m = some l → sub sg l = m
 fresh : ∀ m l,back sg m = some l → (∃ X,look L l = some X) ∨ A.unused m
theorem x45 {ι : Type} {nt : Nat} {ops : Array Oper} {o : Oper} {A : ASt} {c : Call} {f : Operand} {g : FuncId} {pre post : List CV} {xs : List AV} {rsI : ι → List AV} {L : List (Nat × LV)} {LI : ι → List (Nat × LV)} {resI : ι → AV} (sg : List (Nat × Nat))
  (hw : wantedA ops o A = some true) (hd : dstOK nt o = true) (ho : o.op = .call c) (hc : c.callee = .value f) (hx : calleeC (A.eval f) = some (g,pre,post))
  (hargs : pre.map CV.av ++ c.args.toList.map A.eval ++ post.map CV.av = xs.map (AV.ren (sub sg))) (hcall : MCalls P g xs L (fun r M => ∃ i,r = rsI i ∧ M = LI i)) (hres : ∀ i,resM (rsI i) = some (resI i)) (hN : NamesOK sg A L [] .top) (hNI : ∀ i,NamesOK sg A L (LI i) (resI i)) :
  StepX P nt ops o A (fun A' => ∃ i,A' = afterCall sg A o.dst (resI i) (LI i)) := by
 intro w0 g0 h a w r K Q hn
 rw [j43 r hw]
 simp only [if_true]
 left
 have hev := r.evals c.args.toList
 obtain ⟨vs,hvs,hrun⟩ := q58 (P := P) ho hc hx (r.eval f) hev
 rw [hargs] at hvs
 let hσ := h.ren (sub sg)
 have hvs' : RelAs w hσ vs xs := by
  refine ⟨by have := hvs.1;simpa using this,fun j v x hv hxj => ?_⟩
  exact j23.1 (hvs.2 j v _ hv (by rw [List.getElem?_map,hxj];rfl))
 have hlocs : LocsOK (fun _ => True) w hσ L := by
  refine ⟨fun l X hX => z32 (z45.1 (r.locs _ _ (hN.locs l X hX))) fun _ _ => trivial,fun l l' X X' b hne h1 h2 hb hb' => ?_⟩
  rw [← x32] at hb hb'
  exact r.sep _ _ _ _ b (fun e => hne (by have e1 := hN.dom l X h1;have e2 := hN.dom l' X' h2;rw [e,e2] at e1;cases e1;rfl)) (hN.locs l X h1) (hN.locs l' X' h2) hb hb'
 have key := hcall w hσ vs r.gz hvs' hlocs
 have fin : ∀ v w',(∃ h1 r1 L1,(∃ i,r1 = rsI i ∧ L1 = LI i) ∧ RelRA w' h1 v r1 ∧ LocsOK (fun _ => True) w' h1 L1 ∧ Chg L L1 w hσ w' h1) → K (a.put o.dst v) w' := by
  rintro v w' ⟨h1,r1,L1,⟨i,e1,e2⟩,hR,hL,hC⟩
  rw [e1] at hR
  rw [e2] at hL hC
  clear e1 e2 r1 L1
  have hN := hNI i
  have hres := hres i
  have hn := fun a' w' h'' hr => hn (afterCall sg A o.dst (resI i) (LI i)) a' w' h'' ⟨i,rfl⟩ hr
  clear hNI
  generalize hrs : rsI i = rs at hR hres
  generalize hLi : LI i = L' at *
  generalize hri : resI i = res at *
  let h' : Gh := ⟨h1.g,fun m => match back sg m with | some l => h1.ρ l | none => h.ρ m,fun m => match back sg m with | some l => h1.κ l | none => h.κ m,fun m => match back sg m with | some l => h1.μ l | none => h.μ m⟩
  have hname : ∀ l,back sg (sub sg l) = some l → h1.ρ l = (h'.ren (sub sg)).ρ l ∧ h1.κ l = (h'.ren (sub sg)).κ l ∧ h1.μ l = (h'.ren (sub sg)).μ l := by
   intro l hl
   simp [Gh.ren,h',hl]
  have hout : ∀ m,back sg m = none → h'.ρ m = h.ρ m ∧ h'.κ m = h.κ m ∧ h'.μ m = h.μ m := by
   intro m hm
   simp [h',hm]
  have hownO : ∀ b,ownB hσ L b → w0.O b ∧ b < w.heap.size := by
   rintro b ⟨l,X,hX,hb⟩
   rw [← x32] at hb
   have := r.locs _ _ (hN.locs l X hX)
   exact ⟨inB_O this hb,q27 this hb⟩
  have hotherB : ∀ m Y b,look A.locs m = some Y → back sg m = none → inB h m Y b → ¬ ownB hσ L b := by
   rintro m Y b hY hm hb ⟨l,X,hX,hb2⟩
   rw [← x32] at hb2
   refine r.sep m (sub sg l) Y _ b (fun e => ?_) hY (hN.locs l X hX) hb hb2
   rw [e,hN.dom l X hX] at hm;cases hm
  have hclean : ∀ v x,(∀ m ∈ x.mentions,∀ l,back sg m = some l → ∃ X,look L l = some X) → RelA w h v x → RelA w' h' v (x.clean (back sg)) := by
   intro v x hm rx
   have hρ : ∀ l,l ∈ x.mentions → h'.ρ l = h.ρ l := by
    intro m hmm
    cases hb : back sg m with
    | none => exact (hout m hb).1
    |some l =>
     obtain ⟨X,hX⟩ := hm m hmm l hb
     have e1 := hC.ρ l X hX
     have e2 := hN.inv m l hb
     show (match back sg m with | some l => h1.ρ l | none => h.ρ m) = h.ρ m
     rw [hb]
     show h1.ρ l = h.ρ m
     rw [e1]
     show h.ρ (sub sg l) = h.ρ m
     rw [e2]
   have hup : ∀ l,l ∈ x.mentions → h.μ l < h'.μ l ∨ (h'.κ l = h.κ l ∧ h'.μ l = h.μ l) := by
    intro m hmm
    cases hb : back sg m with
    | none => exact .inr (hout m hb).2
    |some l =>
     obtain ⟨X,hX⟩ := hm m hmm l hb
     have e2 := hN.inv m l hb
     have e1 := hC.up l X hX
     simp only [hσ,Gh.ren,e2] at e1
     simp only [h',hb]
     exact e1
   have hgen : ∀ l gen,l ∈ x.mentions → gen ≤ h.μ l → gen ≤ h'.μ l ∧ (h'.μ l = gen → h.μ l = gen ∧ h'.κ l = h.κ l) := by
    intro l gen hl hg
    rcases hup l hl with hlt | ⟨e1,e2⟩
    ·exact ⟨by omega,fun he => by omega⟩
    ·rw [e1,e2];exact ⟨hg,fun e => ⟨e,rfl⟩⟩
   have how : ∀ v l gen n,l ∈ x.mentions → RelOw h v l gen n → RelOw h' v l gen n := by
    rintro v l gen n hl ⟨r1,r2,r3⟩
    obtain ⟨g1,g2⟩ := hgen l gen hl r1
    exact ⟨g1,r2,fun he => by obtain ⟨e1,e2⟩ := g2 he;rw [e2];exact r3 e1⟩
   have hcs : ∀ (vs : List Value) (cs : List CV),(∀ l ∈ cs.flatMap CV.mentions,l ∈ x.mentions) → RelCs w h vs cs → RelCs w' h' vs cs := by
    intro vs cs hmx r
    refine ⟨r.1,fun j v c hv hc => ?_⟩
    have r := r.2 j v c hv hc
    have hmx := fun l hl => hmx l (List.mem_flatMap.2 ⟨c,List.mem_of_getElem? hc,hl⟩)
    cases c with
    | p x => exact RelP.keep hC.keep r
    | loc l off => simp only [RelCV] at *;rw [hρ l (hmx l (by simp [CV.mentions]))];exact r
    | ow l gen sz n => exact how v l gen n (hmx l (by simp [CV.mentions])) r
    | mp l => simp only [RelCV] at *;rw [hρ l (hmx l (by simp [CV.mentions]))];exact r
    | a1 l off => simp only [RelCV] at *;rw [hρ l (hmx l (by simp [CV.mentions]))];exact r
   cases x with
   | ow l gen sz n => exact how v l gen n (by simp [AV.mentions]) rx
   |el l gen sz i j =>
    obtain ⟨r1,b,r2,r3⟩ := rx
    obtain ⟨g1,g2⟩ := hgen l gen (by simp [AV.mentions]) r1
    exact ⟨g1,b,r2,fun he => by obtain ⟨e1,e2⟩ := g2 he;rw [e2];exact r3 e1⟩
   |cl f a b =>
    obtain ⟨vs,us,e,h1,h2⟩ := rx
    exact ⟨vs,us,e,hcs _ _ (fun l hl => by simp only [AV.mentions,List.flatMap_append];exact List.mem_append_left _ hl) h1,hcs _ _ (fun l hl => by simp only [AV.mentions,List.flatMap_append];exact List.mem_append_right _ hl) h2⟩
   | top => trivial
   | undef => exact rx
   | p x => exact RelP.keep hC.keep rx
   | loc l off => simp only [AV.clean,RelA] at *;rw [hρ l (by simp [AV.mentions])];exact rx
   | row l sz off n => simp only [AV.clean,RelA] at *;rw [hρ l (by simp [AV.mentions])];exact rx
   | tup xs => obtain ⟨us,hv,hr⟩ := rx;exact ⟨us,hv,hr.keep hC.keep⟩
   | mp l => simp only [AV.clean,RelA] at *;rw [hρ l (by simp [AV.mentions])];exact rx
   | ag cs => obtain ⟨vs,h1,h2,h3⟩ := rx;exact ⟨vs,h1,hcs _ _ (fun l hl => hl) h2,h3⟩
   | is q => exact rx
   | ex b sz i j => exact rx
   |gr l gen sz n f =>
    obtain ⟨r1,r2,r3⟩ := rx
    simp only [AV.clean]
    cases hb : back sg l with
    | some k => exact .d _ _ (r1.keep hC.keep)
    |none =>
     obtain ⟨_,e2,e3⟩ := hout l hb
     exact ⟨r1.keep hC.keep,by rw [e3];exact r2,fun he => by rw [e2];exact r3 (by rw [← e3];exact he)⟩
  have hlookL : ∀ m Y,look (afterCall sg A o.dst res L').locs m = some Y → (∃ l X,look L' l = some X ∧ sub sg l = m ∧ Y = X.ren (sub sg)) ∨ (back sg m = none ∧ ∃ X,look A.locs m = some X ∧ Y = X.clean (back sg)) := by
   intro m Y hY
   simp only [afterCall,z79] at hY
   split at hY
   ·rename_i y hy
    cases hY
    obtain ⟨l,X,q1,q2,q3⟩ := x79 (sub sg) (LV.ren (sub sg)) L' m _ hN.keys hy
    exact .inl ⟨l,X,q1,q2,q3⟩
   ·rw [j57,z124 (fun m => (back sg m).isNone)] at hY
    split at hY
    ·rename_i hq
     cases hX : look A.locs m with
     | none => rw [hX] at hY;cases hY
     |some X =>
      rw [hX] at hY;cases hY
      exact .inr ⟨by simpa using hq,X,rfl,rfl⟩
    ·cases hY
  have hmenF : ∀ t x,look A.fr t = some x → ∀ m ∈ x.mentions,∀ l,back sg m = some l → ∃ X,look L l = some X := by
   intro t x hx m hm l hb
   rcases hN.fresh m l hb with h | h
   ·exact h
   ·exact absurd hm (h.1 t x hx)
  have hmenL : ∀ k X,look A.locs k = some X → ∀ m ∈ X.mentions,∀ l,back sg m = some l → ∃ X,look L l = some X := by
   intro k X hX m hm l hb
   rcases hN.fresh m l hb with h | h
   ·exact h
   ·exact absurd hm (h.2.1 k X hX)
  have hloc1 : ∀ l X,look L' l = some X → LocOK w0.O w' h' (sub sg l) (X.ren (sub sg)) ∧ (∀ b,inB h' (sub sg l) (X.ren (sub sg)) b → w.heap.size ≤ b ∨ ownB hσ L b) ∧ inB h' (sub sg l) (X.ren (sub sg)) = inB h1 l X := by
   intro l X hX
   obtain ⟨d1,d2⟩ := hN.dom' l X hX
   have hbk : inB h' (sub sg l) (X.ren (sub sg)) = inB h1 l X := by rw [x32,← x57 (hname l d1)]
   have hown : ∀ b,inB h1 l X b → w.heap.size ≤ b ∨ ownB hσ L b := fun b hb => hC.own b ⟨l,X,hX,hb⟩
   refine ⟨z45.2 (z57 (h := h1) (k := h'.ren (sub sg)) rfl (hname l d1) (fun k hk => hname k (d2 k hk)) (z32 (hL.1 l X hX) fun b hb => ?_)),fun b hb => hown b (by rw [← hbk];exact hb),hbk⟩
   rcases hown b hb with hge | ho
   ·exact r.base b hge
   ·exact (hownO b ho).1
  have hloc2 : ∀ m X,look A.locs m = some X → back sg m = none → LocOK w0.O w' h' m (X.clean (back sg)) ∧ inB h' m (X.clean (back sg)) = inB h m X := by
   intro m X hX hm
   obtain ⟨e1,e2,e3⟩ := hout m hm
   refine q124 e1 e2 e3 hC.keep (fun b hb => ?_) (fun v x hsub rx => hclean v x (fun k hk => hmenL m X hX k (hsub k hk)) rx) (r.locs m X hX)
   have hlt := q27 (r.locs m X hX) hb
   have hno := hotherB m X b hX hm hb
   exact ⟨hC.below.block b hlt hno,hC.gam b hlt hno⟩
  refine hn _ _ h' ⟨?_,by cases o.dst <;> exact r.defers,fun t x hx => ?_,fun m Y hY => ?_,fun m m' Y Y' b hne hY hY' hb hb' => ?_,?_,fun l hl => ?_⟩
  ·simpa [Act.put] using (by cases o.dst <;> simpa [Act.put] using r.size)
  ·simp only [afterCall,z79] at hx
   have hdt := x31 hd
   cases hod : o.dst with
   |none =>
    rw [hod] at hx
    simp only [look,j57] at hx
    cases hy : look A.fr t with
    | none => rw [hy] at hx;cases hx
    |some y =>
     rw [hy] at hx;cases hx
     simp only [Act.put]
     exact hclean _ y (hmenF t y hy) (r.fr t y hy)
   |some d =>
    rw [hod] at hx
    rw [x63 a d t v (by rw [r.size];exact hdt d hod)]
    simp only [look] at hx
    by_cases hdt' : d = t
    ·subst hdt'
     rw [if_pos rfl] at hx ⊢
     cases hx
     refine j23.2 (q38 (h := h1) rfl (fun k hk => hname k (hN.res k hk)) (x124 hres hR))
    ·rw [if_neg hdt'] at hx ⊢
     simp only [j57] at hx
     cases hy : look A.fr t with
     | none => rw [hy] at hx;cases hx
     |some y =>
      rw [hy] at hx;cases hx
      exact hclean _ y (hmenF t y hy) (r.fr t y hy)
  ·rcases hlookL m Y hY with ⟨l,X,hX,rfl,rfl⟩ | ⟨hm,X,hX,rfl⟩
   ·exact (hloc1 l X hX).1
   ·exact (hloc2 m X hX hm).1
  ·rcases hlookL m Y hY with ⟨l,X,hX,rfl,rfl⟩ | ⟨hm,X,hX,rfl⟩ <;> rcases hlookL m' Y' hY' with ⟨l',X',hX',rfl,rfl⟩ | ⟨hm',X',hX',rfl⟩
   ·rw [(hloc1 l X hX).2.2] at hb
    rw [(hloc1 l' X' hX').2.2] at hb'
    exact hL.2 l l' X X' b (fun e => hne (by rw [e])) hX hX' hb hb'
   ·rw [(hloc2 m' X' hX' hm').2] at hb'
    have hlt := q27 (r.locs m' X' hX') hb'
    rcases (hloc1 l X hX).2.1 b hb with hge | ho
    ·omega
    ·exact hotherB m' X' b hX' hm' hb' ho
   ·rw [(hloc2 m X hX hm).2] at hb
    have hlt := q27 (r.locs m X hX) hb
    rcases (hloc1 l' X' hX').2.1 b hb' with hge | ho
    ·omega
    ·exact hotherB m X b hX hm hb ho
   ·rw [(hloc2 m X hX hm).2] at hb
    rw [(hloc2 m' X' hX' hm').2] at hb'
    exact r.sep m m' X X' b hne hX hX' hb hb'
  ·refine ⟨r.ext.below.trans ⟨hC.below.os,hC.below.tape,hC.below.output,hC.below.size,fun k hk hO => hC.below.block k hk fun ho => hO (hownO k ho).1⟩,fun b hO => ?_,hC.gz,r.ext.keep.trans hC.keep⟩
   exact (hC.gam b (r.base.lt hO) fun ho => hO (hownO b ho).1).trans (r.ext.gam b hO)
  ·obtain ⟨p1,p2⟩ := r.pin l hl
   cases hb : back sg l with
   | none => obtain ⟨o1,o2,o3⟩ := hout l hb;rw [o1,o2,o3];exact ⟨p1,p2⟩
   |some k =>
    rcases hN.fresh l k hb with ⟨X,hX⟩ | hu
    ·have e1 := hC.ρ k X hX
     have e2 := hN.inv l k hb
     have e3 := hC.up k X hX
     simp only [hσ,Gh.ren,e2] at e1 e3
     simp only [h',hb]
     refine ⟨by rw [e1];exact p1,?_⟩
     rcases e3 with e3 | ⟨e3,e4⟩
     ·rcases p2 with p2 | ⟨p2,p3⟩
      ·exact .inl (by omega)
      ·exact .inl (by omega)
     ·rw [e3,e4];exact p2
    ·have := hu.2.2;omega
 unfold Oper.wp
 rw [hrun]
 unfold CallRes at key
 split at key
 ·rename_i f' args w1 hrr
  rw [hrr]
  show Calls P f' args w1 _
  refine key.mono fun e w' ⟨v,he,hR⟩ => ?_
  subst he
  exact fin v w' hR
 ·rename_i v w1 hrr
  rw [hrr]
  exact fin v w1 key
 ·exact key.elim
theorem z80 {nt : Nat} {ops : Array Oper} {o : Oper} {A : ASt} {c : Call} {f : Operand} {g : FuncId} {pre post : List CV} {xs rs : List AV} {L L' : List (Nat × LV)} {res : AV} (sg : List (Nat × Nat))
  (hw : wantedA ops o A = some true) (hd : dstOK nt o = true) (ho : o.op = .call c) (hc : c.callee = .value f) (hx : calleeC (A.eval f) = some (g,pre,post))
  (hargs : pre.map CV.av ++ c.args.toList.map A.eval ++ post.map CV.av = xs.map (AV.ren (sub sg))) (hcall : MCalls P g xs L (fun r M => r = rs ∧ M = L')) (hres : resM rs = some res) (hN : NamesOK sg A L L' res) :
  StepS P nt ops o A (afterCall sg A o.dst res L') := by
 have h := x45 (ι := Unit) (rsI := fun _ => rs) (LI := fun _ => L') (resI := fun _ => res) sg hw hd ho hc hx hargs (hcall.mono fun r M h => ⟨(),h⟩) (fun _ => hres)
  ⟨rfl,hN.locs,hN.dom,fun l X hX => (by cases hX),fun k hk => (by cases hk),hN.inv,hN.fresh⟩ (fun _ => hN)
 exact StepX.s fun w0 g0 h' a w r K Q hn => h w0 g0 h' a w r K Q fun A1 a' w' h'' ⟨_,e⟩ hr => hn A1 a' w' h'' e hr
theorem q125 : (none : Option Operand).toArray.toList = [] := rfl
theorem z125 (x : Operand) : (some x).toArray.toList = [x] := rfl
attribute [go_sem] q125 z125
attribute [go_sem] afterCall AV.clean LV.clean AV.ren LV.ren CV.ren CV.av sub back List.filter_cons List.filter_nil Option.isNone_some Option.isNone_none
def LocsAt (A : ASt) (s : Nat → Nat) : List (Nat × LV) → Prop
 | [] => True
 | p :: r => look A.locs (s p.1) = some (p.2.ren s) ∧ LocsAt A s r
def namesB (sg : List (Nat × Nat)) (A : ASt) (L L' : List (Nat × LV)) (res : AV) : Bool :=
 keysOK L' && L.all (fun p => back sg (sub sg p.1) == some p.1) && L'.all (fun p => (back sg (sub sg p.1) == some p.1) && p.2.mentions.all fun k => back sg (sub sg k) == some k) &&
  res.mentions.all (fun k => back sg (sub sg k) == some k) && sg.all (fun p => sub sg p.1 == p.2) && sg.all fun p => (look L p.1).isSome || unusedB A p.2
theorem z58 : ∀ {sg : List (Nat × Nat)} {m l : Nat},back sg m = some l → (l,m) ∈ sg
 |(l,m) :: r,u,k,h => by
  simp only [back] at h
  split at h
  ·rename_i e;cases h;subst e;simp
  ·exact List.mem_cons_of_mem _ (z58 h)
theorem j45 {α : Type} : ∀ {L : List (Nat × α)} {l : Nat} {x : α},look L l = some x → (l,x) ∈ L
 |(t,y) :: r,l,x,h => by
  simp only [look] at h
  split at h
  ·rename_i e;cases h;subst e;simp
  ·exact List.mem_cons_of_mem _ (j45 h)
theorem x25 {sg : List (Nat × Nat)} {A : ASt} {L L' : List (Nat × LV)} {res : AV} (hl : LocsAt A (sub sg) L) (hb : namesB sg A L L' res = true) : NamesOK sg A L L' res := by
 unfold namesB at hb
 simp only [Bool.and_eq_true,List.all_eq_true,beq_iff_eq,Bool.or_eq_true] at hb
 obtain ⟨⟨⟨⟨⟨h1,h2⟩,h3⟩,h4⟩,h5⟩,h6⟩ := hb
 refine ⟨h1,fun l X hX => ?_,fun l X hX => h2 (l,X) (j45 hX),fun l X hX => h3 (l,X) (j45 hX),h4,fun m l h => h5 (l,m) (z58 h),fun m l h => ?_⟩
 ·have key : ∀ (L : List (Nat × LV)),LocsAt A (sub sg) L → ∀ p ∈ L,look A.locs (sub sg p.1) = some (p.2.ren (sub sg)) := by
   intro L
   induction L with
   | nil => intro _ p hp;cases hp
   |cons q L ih =>
    intro hl p hp
    rcases List.mem_cons.1 hp with rfl | hp
    ·exact hl.1
    ·exact ih hl.2 p hp
  exact key L hl (l,X) (j45 hX)
 ·rcases h6 (l,m) (z58 h) with h | h
  ·exact .inl (Option.isSome_iff_exists.1 h)
  ·exact .inr (x27 h)
end Go.Proofs.Ytjfammnjpeeahaa.AL
namespace Go.Proofs.Ytjfammnjpeeahaa
open Go.Proofs.Ytjfammnjpeeahaa.AL
theorem j32 {α : Type} {L : List α} {i : Nat} (h : i < L.length) (z : α) : L.getD i z ∈ L := by
 rw [List.getD_eq_getElem?_getD,List.getElem?_eq_getElem h];exact List.getElem_mem h
theorem q46 {P : Program} {f : FuncId} {sz : Nat} {g : Nat → List Dat} {xs : List PV} {Q : List PV → Prop} (h : ∀ a c,ACalls P f (.d (.v (.slice a 0 c)) :: xs) Q) : ACalls P f (.d (.sl sz 0 g) :: xs) Q := by
 refine x23.2 fun w gg vs hz hr => ?_
 obtain ⟨v,vs',rfl,h0,ht⟩ := RelPs.cons_inv hr
 have : ∃ a c,v = .slice a 0 c := by
  cases h0 with
  |d _ _ h0 =>
   cases h0 with
   | sl0 a c => exact ⟨a,c,rfl⟩
   | sl b off _ c => exact ⟨_,c,rfl⟩
 obtain ⟨a,c,rfl⟩ := this
 exact x23.1 (h a c) w gg _ hz (.cons (.d _ _ (.v _ rfl)) ht)
theorem j25 {a : Option Addr} {c sz : Nat} {f : Nat → List Dat} : Le (.p (.d (.v (.slice a 0 c)))) (.p (.d (.sl sz 0 f))) := by
 intro w h v r
 have := q13 r
 subst this
 exact .d _ _ (.sl0 _ _ _ _)
theorem z46 {P : Program} {nt : Nat} {c : Code} {Q : Exit → ASt → Prop} {A : ASt} (l : Nat) {e : TypeId} {sz n gen : Nat} {f : Nat → List Dat} (f' : Nat → List Dat) (ht : AL.look A.locs l = some (.own e sz n gen f)) (hf : ∀ i,i < n → f i = f' i)
  (h : AWP P nt c Q ⟨A.fr,(l,.own e sz n gen f') :: A.locs⟩) : AWP P nt c Q A := by
 refine j21 ?_ h
 intro w0 g0 nt h a w r
 have hl : LLe (.own e sz n gen f) (.own e sz n gen f') := lle_own rfl rfl hf
 have hb : ∀ k L,AL.look ((l,LV.own e sz n gen f') :: A.locs) k = some L → ∃ L0,AL.look A.locs k = some L0 ∧ LocOK w0.O w h k L ∧ inB h k L = inB h k L0 := by
  intro k L hL
  simp only [AL.look] at hL
  split at hL
  ·rename_i e;subst e;cases hL;exact ⟨_,ht,(j27 hl (r.locs _ _ ht)).1,(j27 hl (r.locs _ _ ht)).2⟩
  ·exact ⟨L,hL,r.locs k L hL,rfl⟩
 refine ⟨h,r.size,r.defers,r.fr,fun k L hL => ?_,fun k k' L L' b hne hL hL' hbk => ?_,r.ext,r.pin⟩
 ·obtain ⟨_,_,h1,_⟩ := hb k L hL;exact h1
 ·obtain ⟨L0,e1,_,e2⟩ := hb k L hL
  obtain ⟨L0',e3,_,e4⟩ := hb k' L' hL'
  rw [e4]
  exact r.sep k k' L0 L0' b hne e1 e3 (by rw [← e2];exact hbk)
def PLe (x y : PV) : Prop := ∀ (w : World) (g : Nat → Nat) (v : Value),RelP w g v x → RelP w g v y
inductive PLes : List PV → List PV → Prop
 | nil : PLes [] []
 | cons {x y : PV} {xs ys : List PV} (h : PLe x y) (t : PLes xs ys) : PLes (x :: xs) (y :: ys)
theorem PLes.rel {xs ys : List PV} (h : PLes xs ys) {w : World} {g : Nat → Nat} {vs : List Value} (r : RelPs w g vs xs) : RelPs w g vs ys := by
 induction h generalizing vs with
 | nil => exact r
 |cons h t ih =>
  obtain ⟨v,vs',rfl,h1,h2⟩ := r.cons_inv
  exact RelPs.cons (h _ _ _ h1) (ih h2)
theorem hi1 : hi 1#128 = 0 := by decide
theorem relP_v {w : World} {g : Nat → Nat} {v x : Value} (h : RelP w g v (.d (.v x))) : v = x := by
 cases h with
 | d _ _ h => cases h;rfl
theorem x80 {w : World} {g : Nat → Nat} : ∀ (xs vs : List Value),RelPs w g vs (xs.map fun x => .d (.v x)) → vs = xs
 | [],vs,h => by have := h.1;simp at this;exact this
 |x :: xs,vs,h => by
  cases vs with
  | nil => have := h.1;simp at this
  |cons v vs =>
   have h0 := relP_v (h.2 0 v _ rfl rfl)
   have ht := x80 xs vs ⟨by simpa using h.1,fun j v' x' h1 h2 => h.2 (j + 1) v' x' (by simpa using h1) (by simpa using h2)⟩
   rw [h0,ht]
theorem x125 {P : Program} {f : FuncId} {xs : List Value} {v : Value} {rs : List PV} (hr : ∀ w,(callFunc f xs.toArray).run P w = .ok (.value v) w) (hv : ∀ w g,RelR w g v rs) :
  ACalls P f (xs.map fun x => .d (.v x)) (· = rs) := by
 refine x23.2 fun w g vs hz h => ?_
 rw [x80 xs vs h,hr w]
 exact ⟨g,rs,Ext.refl hz,rfl,hv w g⟩
theorem z14 {a b : Int} (h : a ≠ b) : (a == b) = false := by simpa using h
theorem x14 {a b : Int} (h : a = b) : (a == b) = true := by simpa using h
theorem j13 {a b : Int} (h : a = b) : (a != b) = false := by simpa using h
theorem x13 {a b : Int} (h : a ≠ b) : (a != b) = true := by simpa using h
def rowO {α : Type} (enc : α → List Dat) (d : α) (l : List α) : Nat → List Dat := fun i => enc (l.getD i d)
theorem j125 {α : Type} (enc : α → List Dat) (d : α) (l : List α) (c : α) (x : List Dat) (hx : enc c = x) (i : Nat) (hlt : i < l.length + 1) : AL.catF l.length (rowO enc d l) (fun i => [x].getD i []) i = rowO enc d (l ++ [c]) i := by
 unfold AL.catF rowO
 simp only [List.getD_eq_getElem?_getD]
 split
 ·rw [List.getElem?_append_left (by assumption)]
 ·have : i = l.length := by omega
  subst this
  simp [hx]
theorem q126 (a b c d : Bool) : a = false ∨ (a = true ∧ b = false) ∨ (a = true ∧ b = true ∧ c = false) ∨ (a = true ∧ b = true ∧ c = true ∧ d = false) ∨ (a = true ∧ b = true ∧ c = true ∧ d = true) := by cases a <;> cases b <;> cases c <;> cases d <;> simp
theorem j80 (x y : BitVec 128) : ACalls Try.prog 76 [.agg (hd x),.agg (hd y)] (· = [.agg (hd (x &&& ~~~y))]) := by
 refine x9 Try.func76 rfl (by decide +kernel) (by rw [Try.ntmps76];simp) ?_;rw [Try.ntmps76];simp only [frOf]
 (repeat refine j0 ?_);(first | refine x4 fun K hK => ?_ | refine j4 fun K hK => ?_);(first | refine x11 [] _ _ ?_ | refine j11 [] _ _ _ ?_);simp (disch:=omega) only [go_sem,seval,hd];(repeat refine ⟨by omega,?_⟩);(first | (refine j5 (hK _ ?_);clear hK K;show AWP _ _ _ _ _) | (refine x6 (hK _ _ x5 ?_);clear hK K;show AWP _ _ _ _ _))
 (repeat refine j0 ?_);(first | refine x4 fun K hK => ?_ | refine j4 fun K hK => ?_);(first | refine x11 [] _ _ ?_ | refine j11 [] _ _ _ ?_);simp (disch:=omega) only [go_sem,seval,hd];(repeat refine ⟨by omega,?_⟩);(first | (refine j5 (hK _ ?_);clear hK K;show AWP _ _ _ _ _) | (refine x6 (hK _ _ x5 ?_);clear hK K;show AWP _ _ _ _ _))
 refine z9 ⟨_,?_,rfl⟩;rw [Try.results76];simp (disch:=omega) only [ResVars,ResVar,ptrLoc,go_sem,seval,hd]
 simp only [hi_less,lo_less,and_true]
theorem and_c (x y : BitVec 128) : ACalls Try.prog 87 [.agg (hd x),.agg (hd y)] (· = [.agg (hd (x &&& y))]) := by
 refine x9 Try.func87 rfl (by decide +kernel) (by rw [Try.ntmps87];simp) ?_;rw [Try.ntmps87];simp only [frOf]
 (repeat refine j0 ?_);(first | refine x4 fun K hK => ?_ | refine j4 fun K hK => ?_);(first | refine x11 [] _ _ ?_ | refine j11 [] _ _ _ ?_);simp (disch:=omega) only [go_sem,seval,hd];(repeat refine ⟨by omega,?_⟩);(first | (refine j5 (hK _ ?_);clear hK K;show AWP _ _ _ _ _) | (refine x6 (hK _ _ x5 ?_);clear hK K;show AWP _ _ _ _ _))
 (repeat refine j0 ?_);(first | refine x4 fun K hK => ?_ | refine j4 fun K hK => ?_);(first | refine x11 [] _ _ ?_ | refine j11 [] _ _ _ ?_);simp (disch:=omega) only [go_sem,seval,hd];(repeat refine ⟨by omega,?_⟩);(first | (refine j5 (hK _ ?_);clear hK K;show AWP _ _ _ _ _) | (refine x6 (hK _ _ x5 ?_);clear hK K;show AWP _ _ _ _ _))
 refine z9 ⟨_,?_,rfl⟩;rw [Try.results87];simp (disch:=omega) only [ResVars,ResVar,ptrLoc,go_sem,seval,hd]
 simp only [hi_and,lo_and,and_true]
theorem or_c (x y : BitVec 128) : ACalls Try.prog 77 [.agg (hd x),.agg (hd y)] (· = [.agg (hd (x ||| y))]) := by
 refine x9 Try.func77 rfl (by decide +kernel) (by rw [Try.ntmps77];simp) ?_;rw [Try.ntmps77];simp only [frOf]
 (repeat refine j0 ?_);(first | refine x4 fun K hK => ?_ | refine j4 fun K hK => ?_);(first | refine x11 [] _ _ ?_ | refine j11 [] _ _ _ ?_);simp (disch:=omega) only [go_sem,seval,hd];(repeat refine ⟨by omega,?_⟩);(first | (refine j5 (hK _ ?_);clear hK K;show AWP _ _ _ _ _) | (refine x6 (hK _ _ x5 ?_);clear hK K;show AWP _ _ _ _ _))
 (repeat refine j0 ?_);(first | refine x4 fun K hK => ?_ | refine j4 fun K hK => ?_);(first | refine x11 [] _ _ ?_ | refine j11 [] _ _ _ ?_);simp (disch:=omega) only [go_sem,seval,hd];(repeat refine ⟨by omega,?_⟩);(first | (refine j5 (hK _ ?_);clear hK K;show AWP _ _ _ _ _) | (refine x6 (hK _ _ x5 ?_);clear hK K;show AWP _ _ _ _ _))
 refine z9 ⟨_,?_,rfl⟩;rw [Try.results77];simp (disch:=omega) only [ResVars,ResVar,ptrLoc,go_sem,seval,hd]
 simp only [hi_or,lo_or,and_true]
theorem q81 (g : FuncId) (x y z : BitVec 128) (hg : ACalls Try.prog g [.agg (hd x),.agg (hd y)] (· = [.agg (hd z)])) : ACalls Try.prog 86 [.fn (.func g) [] [],.agg (hd x),.agg (hd y)] (· = [.agg (hd z)]) := by
 refine x9 Try.func86 rfl (by decide +kernel) (by rw [Try.ntmps86];simp) ?_;rw [Try.ntmps86];simp only [frOf]
 (repeat refine j0 ?_);(first | refine x4 fun K hK => ?_ | refine j4 fun K hK => ?_);(first | refine x11 [] _ _ ?_ | refine j11 [] _ _ _ ?_);simp (disch:=omega) only [go_sem,seval,hd];(repeat refine ⟨by omega,?_⟩);(first | (refine j5 (hK _ ?_);clear hK K;show AWP _ _ _ _ _) | (refine x6 (hK _ _ x5 ?_);clear hK K;show AWP _ _ _ _ _))
 (repeat refine j0 ?_);(first | refine x4 fun K hK => ?_ | refine j4 fun K hK => ?_)
 (first | refine x11 [] _ _ ?_ | refine j11 [] _ _ _ ?_);simp (disch:=omega) only [go_sem,seval,hd];(repeat refine ⟨by omega,?_⟩)
 (first | refine q10 rfl rfl rfl ?_ | refine z10 rfl rfl rfl ?_);simp (disch:=omega) only [go_sem,seval,hd]
 refine ⟨_,hg,?_⟩
 (first | refine x11 [] _ _ ?_ | refine j11 [] _ _ _ ?_);simp (disch:=omega) only [go_sem,seval,hd];(repeat refine ⟨by omega,?_⟩)
 (first | (refine j5 (hK _ ?_);clear hK K;show AWP _ _ _ _ _) | (refine x6 (hK _ _ x5 ?_);clear hK K;show AWP _ _ _ _ _))
 refine z9 ⟨_,?_,rfl⟩;rw [Try.results86];simp (disch:=omega) only [ResVars,ResVar,ptrLoc,go_sem,seval,hd]
theorem Less_c (x y : BitVec 128) : ACalls Try.prog 102 [.agg (hd x),.agg (hd y)] (· = [.agg (hd (x &&& ~~~y))]) := by
 refine x9 Try.func102 rfl (by decide +kernel) (by rw [Try.ntmps102];simp) ?_;rw [Try.ntmps102];simp only [frOf]
 (repeat refine j0 ?_);(first | refine x4 fun K hK => ?_ | refine j4 fun K hK => ?_);(first | refine x11 [] _ _ ?_ | refine j11 [] _ _ _ ?_);simp (disch:=omega) only [go_sem,seval,hd];(repeat refine ⟨by omega,?_⟩);(first | (refine j5 (hK _ ?_);clear hK K;show AWP _ _ _ _ _) | (refine x6 (hK _ _ x5 ?_);clear hK K;show AWP _ _ _ _ _))
 (repeat refine j0 ?_);(first | refine x4 fun K hK => ?_ | refine j4 fun K hK => ?_)
 (first | refine x11 [] _ _ ?_ | refine j11 [] _ _ _ ?_);simp (disch:=omega) only [go_sem,seval,hd];(repeat refine ⟨by omega,?_⟩)
 (first | refine q10 rfl rfl rfl ?_ | refine z10 rfl rfl rfl ?_);simp (disch:=omega) only [go_sem,seval,hd]
 refine ⟨_,q81 _ _ _ _ (j80 x y),?_⟩
 (first | refine x11 [] _ _ ?_ | refine j11 [] _ _ _ ?_);simp (disch:=omega) only [go_sem,seval,hd];(repeat refine ⟨by omega,?_⟩)
 (first | (refine j5 (hK _ ?_);clear hK K;show AWP _ _ _ _ _) | (refine x6 (hK _ _ x5 ?_);clear hK K;show AWP _ _ _ _ _))
 refine z9 ⟨_,?_,rfl⟩;rw [Try.results102];simp (disch:=omega) only [ResVars,ResVar,ptrLoc,go_sem,seval,hd]
theorem And_c (x y : BitVec 128) : ACalls Try.prog 78 [.agg (hd x),.agg (hd y)] (· = [.agg (hd (x &&& y))]) := by
 refine x9 Try.func78 rfl (by decide +kernel) (by rw [Try.ntmps78];simp) ?_;rw [Try.ntmps78];simp only [frOf]
 (repeat refine j0 ?_);(first | refine x4 fun K hK => ?_ | refine j4 fun K hK => ?_);(first | refine x11 [] _ _ ?_ | refine j11 [] _ _ _ ?_);simp (disch:=omega) only [go_sem,seval,hd];(repeat refine ⟨by omega,?_⟩);(first | (refine j5 (hK _ ?_);clear hK K;show AWP _ _ _ _ _) | (refine x6 (hK _ _ x5 ?_);clear hK K;show AWP _ _ _ _ _))
 (repeat refine j0 ?_);(first | refine x4 fun K hK => ?_ | refine j4 fun K hK => ?_)
 (first | refine x11 [] _ _ ?_ | refine j11 [] _ _ _ ?_);simp (disch:=omega) only [go_sem,seval,hd];(repeat refine ⟨by omega,?_⟩)
 (first | refine q10 rfl rfl rfl ?_ | refine z10 rfl rfl rfl ?_);simp (disch:=omega) only [go_sem,seval,hd]
 refine ⟨_,q81 _ _ _ _ (and_c x y),?_⟩
 (first | refine x11 [] _ _ ?_ | refine j11 [] _ _ _ ?_);simp (disch:=omega) only [go_sem,seval,hd];(repeat refine ⟨by omega,?_⟩)
 (first | (refine j5 (hK _ ?_);clear hK K;show AWP _ _ _ _ _) | (refine x6 (hK _ _ x5 ?_);clear hK K;show AWP _ _ _ _ _))
 refine z9 ⟨_,?_,rfl⟩;rw [Try.results78];simp (disch:=omega) only [ResVars,ResVar,ptrLoc,go_sem,seval,hd]
theorem x46 (x : BitVec 128) (n : Nat) (hn : n ≤ 128) : ACalls Try.prog 75 [.agg (hd x),.d (.v (.int .i64 (n : Int)))] (· = [.agg (hd (x <<< n))]) := by
 refine x9 Try.func75 rfl (by decide +kernel) (by rw [Try.ntmps75];simp) ?_;rw [Try.ntmps75];simp only [frOf]
 (repeat refine j0 ?_);(first | refine x4 fun K hK => ?_ | refine j4 fun K hK => ?_);(first | refine x11 [] _ _ ?_ | refine j11 [] _ _ _ ?_);simp (disch:=omega) only [go_sem,seval,hd];(repeat refine ⟨by omega,?_⟩);(first | (refine j5 (hK _ ?_);clear hK K;show AWP _ _ _ _ _) | (refine x6 (hK _ _ x5 ?_);clear hK K;show AWP _ _ _ _ _))
 (repeat refine j0 ?_);(first | refine x4 fun K hK => ?_ | refine j4 fun K hK => ?_);(first | refine x11 [] _ _ ?_ | refine j11 [] _ _ _ ?_);simp (disch:=omega) only [go_sem,seval,hd];(repeat refine ⟨by omega,?_⟩);(first | (refine j5 (hK _ ?_);clear hK K;show AWP _ _ _ _ _) | (refine x6 (hK _ _ x5 ?_);clear hK K;show AWP _ _ _ _ _))
 (repeat refine j0 ?_);refine x22 rfl (fun ht => ?_) (fun ht => ?_)
 ·simp only [decide_eq_true_eq] at ht
  (repeat refine j0 ?_);(first | refine x4 fun K hK => ?_ | refine j4 fun K hK => ?_);(first | refine x11 [] _ _ ?_ | refine j11 [] _ _ _ ?_);simp (disch:=omega) only [go_sem,seval,hd];(repeat refine ⟨by omega,?_⟩);(first | (refine j5 (hK _ ?_);clear hK K;show AWP _ _ _ _ _) | (refine x6 (hK _ _ x5 ?_);clear hK K;show AWP _ _ _ _ _))
  refine z9 ⟨_,?_,rfl⟩;rw [Try.results75];simp (disch:=omega) only [ResVars,ResVar,ptrLoc,go_sem,seval,hd]
  rw [x120 x n (by omega),← z120 x n (by omega)]
 ·refine j6 ?_;show AWP _ _ _ _ _
  simp only [decide_eq_false_iff_not] at ht
  (repeat refine j0 ?_);(first | refine x4 fun K hK => ?_ | refine j4 fun K hK => ?_);(first | refine x11 [] _ _ ?_ | refine j11 [] _ _ _ ?_);simp (disch:=omega) only [go_sem,seval,hd];(repeat refine ⟨by omega,?_⟩);(first | (refine j5 (hK _ ?_);clear hK K;show AWP _ _ _ _ _) | (refine x6 (hK _ _ x5 ?_);clear hK K;show AWP _ _ _ _ _))
  refine z9 ⟨_,?_,rfl⟩;rw [Try.results75];simp (disch:=omega) only [ResVars,ResVar,ptrLoc,go_sem,seval,hd]
  rw [j119 x n (by omega),q120 x n (by omega)]
theorem j46 (a b m : Int) (hb : -9223372036854775808 ≤ b ∧ b < 9223372036854775808) (hm : m ≤ 128) : ACalls Try.prog 73 [.d (.v (.int .i64 a)),.d (.v (.int .i64 b)),.d (.v (.int .i64 m))] (· = [.d (.v (.bool (fieldB a b m)))]) := by
 have hh : ¬ 0 ≤ a ∨ (0 ≤ a ∧ ¬ 0 ≤ b) ∨ (0 ≤ a ∧ 0 ≤ b ∧ ¬ b ≤ m) ∨ (0 ≤ a ∧ 0 ≤ b ∧ b ≤ m ∧ ¬ a + b ≤ 128) ∨ (0 ≤ a ∧ 0 ≤ b ∧ b ≤ m ∧ a + b ≤ 128) := by omega
 rcases hh with h | h | h | h | h
 all_goals
  refine x9 Try.func73 rfl (by decide +kernel) (by rw [Try.ntmps73];simp) ?_;rw [Try.ntmps73];simp only [frOf]
  (repeat refine j0 ?_);(first | refine x4 fun K hK => ?_ | refine j4 fun K hK => ?_);(first | refine x11 [] _ _ ?_ | refine j11 [] _ _ _ ?_);simp (disch:=omega) only [go_sem,seval,hd];(repeat refine ⟨by omega,?_⟩);(first | (refine j5 (hK _ ?_);clear hK K;show AWP _ _ _ _ _) | (refine x6 (hK _ _ x5 ?_);clear hK K;show AWP _ _ _ _ _))
  (repeat refine j0 ?_);(first | refine x4 fun K hK => ?_ | refine j4 fun K hK => ?_);(first | refine x11 [] _ _ ?_ | refine j11 [] _ _ _ ?_);simp (disch:=omega) only [go_sem,seval,hd];(repeat refine ⟨by omega,?_⟩);(first | (refine j5 (hK _ ?_);clear hK K;show AWP _ _ _ _ _) | (refine x6 (hK _ _ x5 ?_);clear hK K;show AWP _ _ _ _ _))
  refine z9 ⟨_,?_,rfl⟩;rw [Try.results73];simp (disch:=omega) only [ResVars,ResVar,ptrLoc,go_sem,seval,hd]
  simp only [fieldB,h,and_true,and_false,true_and,false_and,decide_true,decide_false]
def subE : Array Value → Sem Value := fun args => do
 let (x, y, b) ← Extern.MathBitsCarry.three "Sub64" args
 pure (Extern.MathBitsCarry.pair ((x + Extern.MathBitsCarry.m64 - y - b) % Extern.MathBitsCarry.m64) (if x < y + b then 1 else 0))
theorem sub_c (x : Nat) : ACalls Try.prog 85 [.d (.v (.int .u64 (x : Int))),.d (.v (.int .u64 1)),.d (.v (.int .u64 0))]
  (· = [.d (.v (.int .u64 (((x + 18446744073709551616 - 1) % 18446744073709551616 : Nat) : Int))),.d (.v (.int .u64 ((if x < 1 then 1 else 0 : Nat) : Int)))]) := by
 refine x125 (xs := [.int .u64 (x : Int),.int .u64 1,.int .u64 0]) (v := .tuple #[.int .u64 (((x + 18446744073709551616 - 1) % 18446744073709551616 : Nat) : Int),.int .u64 ((if x < 1 then 1 else 0 : Nat) : Int)]) (fun w => ?_) (fun w g => ?_)
 ·rw [run_callFunc_extern (fn := Try.f85) (by kernel_rfl) (by kernel_rfl) (by kernel_rfl) (by kernel_rfl) (e := subE) (by kernel_rfl)]
  rfl
 ·exact ⟨[_,_],rfl,.cons (.d _ _ (.v _ rfl)) (.cons (.d _ _ (.v _ rfl)) (.nil w g))⟩
theorem low_c (n : Nat) (hn : n ≤ 128) : ACalls Try.prog 74 [.d (.v (.int .i64 (n : Int)))] (· = [.agg (hd (ones n))]) := by
 refine x9 Try.func74 rfl (by decide +kernel) (by rw [Try.ntmps74];simp) ?_;rw [Try.ntmps74];simp only [frOf]
 (repeat refine j0 ?_);(first | refine x4 fun K hK => ?_ | refine j4 fun K hK => ?_);(first | refine x11 [] _ _ ?_ | refine j11 [] _ _ _ ?_);simp (disch:=omega) only [go_sem,↓reduceIte,reduceCtorEq,Nat.reduceLT,Nat.reducePow,Nat.reduceLeDiff,Nat.reduceAdd,Nat.reduceMul,Nat.reduceSub,Nat.reduceEqDiff,Nat.reduceBEq,Int.reduceToNat,Int.reduceBEq,Int.reduceBNe,hd];(repeat refine ⟨by omega,?_⟩);(first | (refine j5 (hK _ ?_);clear hK K;show AWP _ _ _ _ _) | (refine x6 (hK _ _ x5 ?_);clear hK K;show AWP _ _ _ _ _))
 (repeat refine j0 ?_);(first | refine x4 fun K hK => ?_ | refine j4 fun K hK => ?_);(first | refine x11 [] _ _ ?_ | refine j11 [] _ _ _ ?_);simp (disch:=omega) only [go_sem,↓reduceIte,reduceCtorEq,Nat.reduceLT,Nat.reducePow,Nat.reduceLeDiff,Nat.reduceAdd,Nat.reduceMul,Nat.reduceSub,Nat.reduceEqDiff,Nat.reduceBEq,Int.reduceToNat,Int.reduceBEq,Int.reduceBNe,hd];(repeat refine ⟨by omega,?_⟩);(first | (refine j5 (hK _ ?_);clear hK K;show AWP _ _ _ _ _) | (refine x6 (hK _ _ x5 ?_);clear hK K;show AWP _ _ _ _ _))
 (repeat refine j0 ?_);refine x22 rfl (fun ht => ?_) (fun ht => ?_)
 ·simp only [decide_eq_true_eq] at ht
  (repeat refine j0 ?_);(first | refine x4 fun K hK => ?_ | refine j4 fun K hK => ?_);(first | refine x11 [] _ _ ?_ | refine j11 [] _ _ _ ?_);simp (disch:=omega) only [go_sem,↓reduceIte,reduceCtorEq,Nat.reduceLT,Nat.reducePow,Nat.reduceLeDiff,Nat.reduceAdd,Nat.reduceMul,Nat.reduceSub,Nat.reduceEqDiff,Nat.reduceBEq,Int.reduceToNat,Int.reduceBEq,Int.reduceBNe,hd];(repeat refine ⟨by omega,?_⟩);(first | (refine j5 (hK _ ?_);clear hK K;show AWP _ _ _ _ _) | (refine x6 (hK _ _ x5 ?_);clear hK K;show AWP _ _ _ _ _))
  refine z9 ⟨_,?_,rfl⟩;rw [Try.results74];simp (disch:=omega) only [ResVars,ResVar,ptrLoc,go_sem,↓reduceIte,reduceCtorEq,Nat.reduceLT,Nat.reducePow,Nat.reduceLeDiff,Nat.reduceAdd,Nat.reduceMul,Nat.reduceSub,Nat.reduceEqDiff,Nat.reduceBEq,Int.reduceToNat,Int.reduceBEq,Int.reduceBNe,hd]
  have : n = 128 := by omega
  subst this
  rw [show hi (ones 128) = 18446744073709551615 from by decide,show lo (ones 128) = 18446744073709551615 from by decide]
 ·refine j6 ?_;show AWP _ _ _ _ _
  simp only [decide_eq_false_iff_not] at ht
  (repeat refine j0 ?_);(first | refine x4 fun K hK => ?_ | refine j4 fun K hK => ?_)
  (first | refine x11 [] _ _ ?_ | refine j11 [] _ _ _ ?_);simp (disch:=omega) only [go_sem,↓reduceIte,reduceCtorEq,Nat.reduceLT,Nat.reducePow,Nat.reduceLeDiff,Nat.reduceAdd,Nat.reduceMul,Nat.reduceSub,Nat.reduceEqDiff,Nat.reduceBEq,Int.reduceToNat,Int.reduceBEq,Int.reduceBNe,hd];(repeat refine ⟨by omega,?_⟩)
  (first | refine q10 rfl rfl rfl ?_ | refine z10 rfl rfl rfl ?_);simp (disch:=omega) only [go_sem,↓reduceIte,reduceCtorEq,Nat.reduceLT,Nat.reducePow,Nat.reduceLeDiff,Nat.reduceAdd,Nat.reduceMul,Nat.reduceSub,Nat.reduceEqDiff,Nat.reduceBEq,Int.reduceToNat,Int.reduceBEq,Int.reduceBNe,hd]
  refine ⟨_,x46 1 n hn,?_⟩
  (first | refine x11 [] _ _ ?_ | refine j11 [] _ _ _ ?_);simp (disch:=omega) only [go_sem,↓reduceIte,reduceCtorEq,Nat.reduceLT,Nat.reducePow,Nat.reduceLeDiff,Nat.reduceAdd,Nat.reduceMul,Nat.reduceSub,Nat.reduceEqDiff,Nat.reduceBEq,Int.reduceToNat,Int.reduceBEq,Int.reduceBNe,hd];(repeat refine ⟨by omega,?_⟩)
  (first | (refine j5 (hK _ ?_);clear hK K;show AWP _ _ _ _ _) | (refine x6 (hK _ _ x5 ?_);clear hK K;show AWP _ _ _ _ _))
  (repeat refine j0 ?_);(first | refine x4 fun K hK => ?_ | refine j4 fun K hK => ?_)
  (first | refine x11 [] _ _ ?_ | refine j11 [] _ _ _ ?_);simp (disch:=omega) only [go_sem,↓reduceIte,reduceCtorEq,Nat.reduceLT,Nat.reducePow,Nat.reduceLeDiff,Nat.reduceAdd,Nat.reduceMul,Nat.reduceSub,Nat.reduceEqDiff,Nat.reduceBEq,Int.reduceToNat,Int.reduceBEq,Int.reduceBNe,hd];(repeat refine ⟨by omega,?_⟩)
  (first | refine q10 rfl rfl rfl ?_ | refine z10 rfl rfl rfl ?_);simp (disch:=omega) only [go_sem,↓reduceIte,reduceCtorEq,Nat.reduceLT,Nat.reducePow,Nat.reduceLeDiff,Nat.reduceAdd,Nat.reduceMul,Nat.reduceSub,Nat.reduceEqDiff,Nat.reduceBEq,Int.reduceToNat,Int.reduceBEq,Int.reduceBNe,hd]
  refine ⟨_,sub_c _,?_⟩
  (first | refine x11 [] _ _ ?_ | refine j11 [] _ _ _ ?_);simp (disch:=omega) only [go_sem,↓reduceIte,reduceCtorEq,Nat.reduceLT,Nat.reducePow,Nat.reduceLeDiff,Nat.reduceAdd,Nat.reduceMul,Nat.reduceSub,Nat.reduceEqDiff,Nat.reduceBEq,Int.reduceToNat,Int.reduceBEq,Int.reduceBNe,hd];(repeat refine ⟨by omega,?_⟩)
  (first | (refine j5 (hK _ ?_);clear hK K;show AWP _ _ _ _ _) | (refine x6 (hK _ _ x5 ?_);clear hK K;show AWP _ _ _ _ _))
  (repeat refine j0 ?_);(first | refine x4 fun K hK => ?_ | refine j4 fun K hK => ?_);(first | refine x11 [] _ _ ?_ | refine j11 [] _ _ _ ?_);simp (disch:=omega) only [go_sem,↓reduceIte,reduceCtorEq,Nat.reduceLT,Nat.reducePow,Nat.reduceLeDiff,Nat.reduceAdd,Nat.reduceMul,Nat.reduceSub,Nat.reduceEqDiff,Nat.reduceBEq,Int.reduceToNat,Int.reduceBEq,Int.reduceBNe,hd];(repeat refine ⟨by omega,?_⟩);(first | (refine j5 (hK _ ?_);clear hK K;show AWP _ _ _ _ _) | (refine x6 (hK _ _ x5 ?_);clear hK K;show AWP _ _ _ _ _))
  refine z9 ⟨_,?_,rfl⟩;rw [Try.results74];simp (disch:=omega) only [ResVars,ResVar,ptrLoc,go_sem,↓reduceIte,reduceCtorEq,Nat.reduceLT,Nat.reducePow,Nat.reduceLeDiff,Nat.reduceAdd,Nat.reduceMul,Nat.reduceSub,Nat.reduceEqDiff,Nat.reduceBEq,Int.reduceToNat,Int.reduceBEq,Int.reduceBNe,hd]
  rw [low_lo n (by omega),low_hi n (by omega)]
theorem Mask_c (a b : Int) (hb : -9223372036854775808 ≤ b ∧ b < 9223372036854775808) : ACalls Try.prog 56 [.d (.v (.int .i64 a)),.d (.v (.int .i64 b))]
  (· = [.agg (hd (if fieldB a b 128 then ones b.toNat <<< a.toNat else 0)),.d (.v (.int .i64 (if fieldB a b 128 then 0 else 1)))]) := by
 cases h : fieldB a b 128
 ·refine x9 Try.func56 rfl (by decide +kernel) (by rw [Try.ntmps56];simp) ?_;rw [Try.ntmps56];simp only [frOf]
  (repeat refine j0 ?_);(first | refine x4 fun K hK => ?_ | refine j4 fun K hK => ?_);(first | refine x11 [] _ _ ?_ | refine j11 [] _ _ _ ?_);simp (disch:=omega) only [go_sem,↓reduceIte,reduceCtorEq,Nat.reduceLT,Nat.reducePow,Nat.reduceLeDiff,Nat.reduceAdd,Nat.reduceMul,Nat.reduceSub,Nat.reduceEqDiff,Nat.reduceBEq,Int.reduceToNat,Int.reduceBEq,Int.reduceBNe,hd,h];(repeat refine ⟨by omega,?_⟩);(first | (refine j5 (hK _ ?_);clear hK K;show AWP _ _ _ _ _) | (refine x6 (hK _ _ x5 ?_);clear hK K;show AWP _ _ _ _ _))
  (repeat refine j0 ?_);(first | refine x4 fun K hK => ?_ | refine j4 fun K hK => ?_)
  (first | refine x11 [] _ _ ?_ | refine j11 [] _ _ _ ?_);simp (disch:=omega) only [go_sem,↓reduceIte,reduceCtorEq,Nat.reduceLT,Nat.reducePow,Nat.reduceLeDiff,Nat.reduceAdd,Nat.reduceMul,Nat.reduceSub,Nat.reduceEqDiff,Nat.reduceBEq,Int.reduceToNat,Int.reduceBEq,Int.reduceBNe,hd,h];(repeat refine ⟨by omega,?_⟩)
  (first | refine q10 rfl rfl rfl ?_ | refine z10 rfl rfl rfl ?_);simp (disch:=omega) only [go_sem,↓reduceIte,reduceCtorEq,Nat.reduceLT,Nat.reducePow,Nat.reduceLeDiff,Nat.reduceAdd,Nat.reduceMul,Nat.reduceSub,Nat.reduceEqDiff,Nat.reduceBEq,Int.reduceToNat,Int.reduceBEq,Int.reduceBNe,hd,h]
  refine ⟨_,j46 a b 128 hb (by omega),?_⟩
  (first | refine x11 [] _ _ ?_ | refine j11 [] _ _ _ ?_);simp (disch:=omega) only [go_sem,↓reduceIte,reduceCtorEq,Nat.reduceLT,Nat.reducePow,Nat.reduceLeDiff,Nat.reduceAdd,Nat.reduceMul,Nat.reduceSub,Nat.reduceEqDiff,Nat.reduceBEq,Int.reduceToNat,Int.reduceBEq,Int.reduceBNe,hd,h];(repeat refine ⟨by omega,?_⟩)
  (first | (refine j5 (hK _ ?_);clear hK K;show AWP _ _ _ _ _) | (refine x6 (hK _ _ x5 ?_);clear hK K;show AWP _ _ _ _ _))
  (repeat refine j0 ?_);refine x22 rfl (fun ht => ?_) (fun ht => ?_)
  ·(repeat refine j0 ?_);(first | refine x4 fun K hK => ?_ | refine j4 fun K hK => ?_);(first | refine x11 [] _ _ ?_ | refine j11 [] _ _ _ ?_);simp (disch:=omega) only [go_sem,↓reduceIte,reduceCtorEq,Nat.reduceLT,Nat.reducePow,Nat.reduceLeDiff,Nat.reduceAdd,Nat.reduceMul,Nat.reduceSub,Nat.reduceEqDiff,Nat.reduceBEq,Int.reduceToNat,Int.reduceBEq,Int.reduceBNe,hd,h];(repeat refine ⟨by omega,?_⟩);(first | (refine j5 (hK _ ?_);clear hK K;show AWP _ _ _ _ _) | (refine x6 (hK _ _ x5 ?_);clear hK K;show AWP _ _ _ _ _))
   refine z9 ⟨_,?_,rfl⟩;rw [Try.results56];simp (disch:=omega) only [ResVars,ResVar,ptrLoc,go_sem,↓reduceIte,reduceCtorEq,Nat.reduceLT,Nat.reducePow,Nat.reduceLeDiff,Nat.reduceAdd,Nat.reduceMul,Nat.reduceSub,Nat.reduceEqDiff,Nat.reduceBEq,Int.reduceToNat,Int.reduceBEq,Int.reduceBNe,hd,h]
   first | rw [z18,x18] | (change _ = hd 0;unfold hd;rw [z18,x18])
  ·exact absurd ht (by decide)
 ·have hh := of_decide_eq_true h
  refine x9 Try.func56 rfl (by decide +kernel) (by rw [Try.ntmps56];simp) ?_;rw [Try.ntmps56];simp only [frOf]
  (repeat refine j0 ?_);(first | refine x4 fun K hK => ?_ | refine j4 fun K hK => ?_);(first | refine x11 [] _ _ ?_ | refine j11 [] _ _ _ ?_);simp (disch:=omega) only [go_sem,↓reduceIte,reduceCtorEq,Nat.reduceLT,Nat.reducePow,Nat.reduceLeDiff,Nat.reduceAdd,Nat.reduceMul,Nat.reduceSub,Nat.reduceEqDiff,Nat.reduceBEq,Int.reduceToNat,Int.reduceBEq,Int.reduceBNe,hd,h];(repeat refine ⟨by omega,?_⟩);(first | (refine j5 (hK _ ?_);clear hK K;show AWP _ _ _ _ _) | (refine x6 (hK _ _ x5 ?_);clear hK K;show AWP _ _ _ _ _))
  (repeat refine j0 ?_);(first | refine x4 fun K hK => ?_ | refine j4 fun K hK => ?_)
  (first | refine x11 [] _ _ ?_ | refine j11 [] _ _ _ ?_);simp (disch:=omega) only [go_sem,↓reduceIte,reduceCtorEq,Nat.reduceLT,Nat.reducePow,Nat.reduceLeDiff,Nat.reduceAdd,Nat.reduceMul,Nat.reduceSub,Nat.reduceEqDiff,Nat.reduceBEq,Int.reduceToNat,Int.reduceBEq,Int.reduceBNe,hd,h];(repeat refine ⟨by omega,?_⟩)
  (first | refine q10 rfl rfl rfl ?_ | refine z10 rfl rfl rfl ?_);simp (disch:=omega) only [go_sem,↓reduceIte,reduceCtorEq,Nat.reduceLT,Nat.reducePow,Nat.reduceLeDiff,Nat.reduceAdd,Nat.reduceMul,Nat.reduceSub,Nat.reduceEqDiff,Nat.reduceBEq,Int.reduceToNat,Int.reduceBEq,Int.reduceBNe,hd,h]
  refine ⟨_,j46 a b 128 hb (by omega),?_⟩
  (first | refine x11 [] _ _ ?_ | refine j11 [] _ _ _ ?_);simp (disch:=omega) only [go_sem,↓reduceIte,reduceCtorEq,Nat.reduceLT,Nat.reducePow,Nat.reduceLeDiff,Nat.reduceAdd,Nat.reduceMul,Nat.reduceSub,Nat.reduceEqDiff,Nat.reduceBEq,Int.reduceToNat,Int.reduceBEq,Int.reduceBNe,hd,h];(repeat refine ⟨by omega,?_⟩)
  (first | (refine j5 (hK _ ?_);clear hK K;show AWP _ _ _ _ _) | (refine x6 (hK _ _ x5 ?_);clear hK K;show AWP _ _ _ _ _))
  (repeat refine j0 ?_);refine x22 rfl (fun ht => ?_) (fun ht => ?_)
  ·exact absurd ht (by decide)
  ·refine j6 ?_;show AWP _ _ _ _ _
   (repeat refine j0 ?_);(first | refine x4 fun K hK => ?_ | refine j4 fun K hK => ?_)
   (first | refine x11 [] _ _ ?_ | refine j11 [] _ _ _ ?_);simp (disch:=omega) only [go_sem,↓reduceIte,reduceCtorEq,Nat.reduceLT,Nat.reducePow,Nat.reduceLeDiff,Nat.reduceAdd,Nat.reduceMul,Nat.reduceSub,Nat.reduceEqDiff,Nat.reduceBEq,Int.reduceToNat,Int.reduceBEq,Int.reduceBNe,hd,h];(repeat refine ⟨by omega,?_⟩)
   (first | refine q10 rfl rfl rfl ?_ | refine z10 rfl rfl rfl ?_);simp (disch:=omega) only [go_sem,↓reduceIte,reduceCtorEq,Nat.reduceLT,Nat.reducePow,Nat.reduceLeDiff,Nat.reduceAdd,Nat.reduceMul,Nat.reduceSub,Nat.reduceEqDiff,Nat.reduceBEq,Int.reduceToNat,Int.reduceBEq,Int.reduceBNe,hd,h]
   refine ⟨_,by have := low_c b.toNat (by omega);rw [Int.toNat_of_nonneg hh.2.1] at this;exact this,?_⟩
   (first | refine x11 [] _ _ ?_ | refine j11 [] _ _ _ ?_);simp (disch:=omega) only [go_sem,↓reduceIte,reduceCtorEq,Nat.reduceLT,Nat.reducePow,Nat.reduceLeDiff,Nat.reduceAdd,Nat.reduceMul,Nat.reduceSub,Nat.reduceEqDiff,Nat.reduceBEq,Int.reduceToNat,Int.reduceBEq,Int.reduceBNe,hd,h];(repeat refine ⟨by omega,?_⟩)
   (first | refine q10 rfl rfl rfl ?_ | refine z10 rfl rfl rfl ?_);simp (disch:=omega) only [go_sem,↓reduceIte,reduceCtorEq,Nat.reduceLT,Nat.reducePow,Nat.reduceLeDiff,Nat.reduceAdd,Nat.reduceMul,Nat.reduceSub,Nat.reduceEqDiff,Nat.reduceBEq,Int.reduceToNat,Int.reduceBEq,Int.reduceBNe,hd,h]
   refine ⟨_,by have := x46 (ones b.toNat) a.toNat (by omega);rw [Int.toNat_of_nonneg hh.1] at this;exact this,?_⟩
   (first | refine x11 [] _ _ ?_ | refine j11 [] _ _ _ ?_);simp (disch:=omega) only [go_sem,↓reduceIte,reduceCtorEq,Nat.reduceLT,Nat.reducePow,Nat.reduceLeDiff,Nat.reduceAdd,Nat.reduceMul,Nat.reduceSub,Nat.reduceEqDiff,Nat.reduceBEq,Int.reduceToNat,Int.reduceBEq,Int.reduceBNe,hd,h];(repeat refine ⟨by omega,?_⟩)
   (first | (refine j5 (hK _ ?_);clear hK K;show AWP _ _ _ _ _) | (refine x6 (hK _ _ x5 ?_);clear hK K;show AWP _ _ _ _ _))
   refine z9 ⟨_,?_,rfl⟩;rw [Try.results56];simp (disch:=omega) only [ResVars,ResVar,ptrLoc,go_sem,↓reduceIte,reduceCtorEq,Nat.reduceLT,Nat.reducePow,Nat.reduceLeDiff,Nat.reduceAdd,Nat.reduceMul,Nat.reduceSub,Nat.reduceEqDiff,Nat.reduceBEq,Int.reduceToNat,Int.reduceBEq,Int.reduceBNe,hd,h]
theorem Put_c (x : BitVec 128) (a b : Int) (v : BitVec 64) (hb : -9223372036854775808 ≤ b ∧ b < 9223372036854775808) : ACalls Try.prog 57 [.agg (hd x),.d (.v (.int .i64 a)),.d (.v (.int .i64 b)),.d (.v (.int .u64 (bvi v)))]
  (· = [.agg (hd (if putE a b v = 0 then putB x a.toNat b.toNat v else 0)),.d (.v (.int .i64 (putE a b v)))]) := by
 cases h : fieldB a b 64
 ·rw [show putE a b v = 1 from by simp [putE,h],if_neg (by decide)]
  refine x9 Try.func57 rfl (by decide +kernel) (by rw [Try.ntmps57];simp) ?_;rw [Try.ntmps57];simp only [frOf]
  (repeat refine j0 ?_);(first | refine x4 fun K hK => ?_ | refine j4 fun K hK => ?_);(first | refine x11 [] _ _ ?_ | refine j11 [] _ _ _ ?_);simp (disch:=omega) only [go_sem,seval,hd,h];(repeat refine ⟨by omega,?_⟩);(first | (refine j5 (hK _ ?_);clear hK K;show AWP _ _ _ _ _) | (refine x6 (hK _ _ x5 ?_);clear hK K;show AWP _ _ _ _ _))
  refine j0 (z7 ?_)
  (repeat refine j0 ?_);(first | refine x4 fun K hK => ?_ | refine j4 fun K hK => ?_)
  (first | refine x11 [] _ _ ?_ | refine j11 [] _ _ _ ?_);simp (disch:=omega) only [go_sem,seval,hd,h];(repeat refine ⟨by omega,?_⟩)
  (first | refine q10 rfl rfl rfl ?_ | refine z10 rfl rfl rfl ?_);simp (disch:=omega) only [go_sem,seval,hd,h]
  refine ⟨_,j46 a b 64 hb (by omega),?_⟩
  (first | refine x11 [] _ _ ?_ | refine j11 [] _ _ _ ?_);simp (disch:=omega) only [go_sem,seval,hd,h];(repeat refine ⟨by omega,?_⟩)
  (first | (refine j5 (hK _ ?_);clear hK K;show AWP _ _ _ _ _) | (refine x6 (hK _ _ x5 ?_);clear hK K;show AWP _ _ _ _ _))
  (repeat refine j0 ?_);refine x22 rfl (fun ht => ?_) (fun ht => ?_)
  ·(repeat refine j0 ?_);(first | refine x4 fun K hK => ?_ | refine j4 fun K hK => ?_);(first | refine x11 [] _ _ ?_ | refine j11 [] _ _ _ ?_);simp (disch:=omega) only [go_sem,seval,hd,h];(repeat refine ⟨by omega,?_⟩);(first | (refine j5 (hK _ ?_);clear hK K;show AWP _ _ _ _ _) | (refine x6 (hK _ _ x5 ?_);clear hK K;show AWP _ _ _ _ _))
   refine z9 ⟨_,?_,rfl⟩;rw [Try.results57];simp (disch:=omega) only [ResVars,ResVar,ptrLoc,go_sem,seval,hd,h]
   first | rw [z18,x18] | (change _ = hd 0;unfold hd;rw [z18,x18])
  ·exact absurd ht (by decide)
 ·have hh := of_decide_eq_true h
  cases h2 : over b.toNat v
  all_goals
   rw [show putE a b v = if over b.toNat v then 4 else 0 from by simp [putE,h]];simp only [h2,if_true,Bool.false_eq_true,if_false,show ((4 : Int) = 0) = False from by decide]
   unfold over at h2
   refine x9 Try.func57 rfl (by decide +kernel) (by rw [Try.ntmps57];simp) ?_;rw [Try.ntmps57];simp only [frOf]
   (repeat refine j0 ?_);(first | refine x4 fun K hK => ?_ | refine j4 fun K hK => ?_);(first | refine x11 [] _ _ ?_ | refine j11 [] _ _ _ ?_);simp (disch:=omega) only [go_sem,seval,hd,h,h2];(repeat refine ⟨by omega,?_⟩);(first | (refine j5 (hK _ ?_);clear hK K;show AWP _ _ _ _ _) | (refine x6 (hK _ _ x5 ?_);clear hK K;show AWP _ _ _ _ _))
   refine j0 (z7 ?_)
   (repeat refine j0 ?_);(first | refine x4 fun K hK => ?_ | refine j4 fun K hK => ?_)
   (first | refine x11 [] _ _ ?_ | refine j11 [] _ _ _ ?_);simp (disch:=omega) only [go_sem,seval,hd,h,h2];(repeat refine ⟨by omega,?_⟩)
   (first | refine q10 rfl rfl rfl ?_ | refine z10 rfl rfl rfl ?_);simp (disch:=omega) only [go_sem,seval,hd,h,h2]
   refine ⟨_,j46 a b 64 hb (by omega),?_⟩
   (first | refine x11 [] _ _ ?_ | refine j11 [] _ _ _ ?_);simp (disch:=omega) only [go_sem,seval,hd,h,h2];(repeat refine ⟨by omega,?_⟩)
   (first | (refine j5 (hK _ ?_);clear hK K;show AWP _ _ _ _ _) | (refine x6 (hK _ _ x5 ?_);clear hK K;show AWP _ _ _ _ _))
   refine x22 rfl (fun ht => absurd ht (by decide)) (fun _ => ?_)
   (repeat refine j0 ?_);(first | refine x4 fun K hK => ?_ | refine j4 fun K hK => ?_)
   (first | refine x11 [] _ _ ?_ | refine j11 [] _ _ _ ?_);simp (disch:=omega) only [go_sem,seval,hd,h,h2];(repeat refine ⟨by omega,?_⟩)
   (first | refine q10 rfl rfl rfl ?_ | refine z10 rfl rfl rfl ?_);simp (disch:=omega) only [go_sem,seval,hd,h,h2]
   refine ⟨_,by have := low_c b.toNat (by omega);rw [Int.toNat_of_nonneg hh.2.1] at this;exact this,?_⟩
   (first | refine x11 [] _ _ ?_ | refine j11 [] _ _ _ ?_);simp (disch:=omega) only [go_sem,seval,hd,h,h2];(repeat refine ⟨by omega,?_⟩)
   (first | (refine j5 (hK _ ?_);clear hK K;show AWP _ _ _ _ _) | (refine x6 (hK _ _ x5 ?_);clear hK K;show AWP _ _ _ _ _))
  ·refine x22 rfl (fun ht => absurd ht (by decide)) (fun _ => ?_)
   refine j6 ?_;show AWP _ _ _ _ _
   (repeat refine j0 ?_);(first | refine x4 fun K hK => ?_ | refine j4 fun K hK => ?_)
   (first | refine x11 [] _ _ ?_ | refine j11 [] _ _ _ ?_);simp (disch:=omega) only [go_sem,seval,hd,h,h2];(repeat refine ⟨by omega,?_⟩)
   (first | refine q10 rfl rfl rfl ?_ | refine z10 rfl rfl rfl ?_);simp (disch:=omega) only [go_sem,seval,hd,h,h2]
   refine ⟨_,by have := low_c b.toNat (by omega);rw [Int.toNat_of_nonneg hh.2.1] at this;exact this,?_⟩
   (first | refine x11 [] _ _ ?_ | refine j11 [] _ _ _ ?_);simp (disch:=omega) only [go_sem,seval,hd,h,h2];(repeat refine ⟨by omega,?_⟩)
   (first | refine q10 rfl rfl rfl ?_ | refine z10 rfl rfl rfl ?_);simp (disch:=omega) only [go_sem,seval,hd,h,h2]
   refine ⟨_,by have := x46 (ones b.toNat) a.toNat (by omega);rw [Int.toNat_of_nonneg hh.1] at this;exact this,?_⟩
   (first | refine x11 [] _ _ ?_ | refine j11 [] _ _ _ ?_);simp (disch:=omega) only [go_sem,seval,hd,h,h2];(repeat refine ⟨by omega,?_⟩)
   (first | (refine j5 (hK _ ?_);clear hK K;show AWP _ _ _ _ _) | (refine x6 (hK _ _ x5 ?_);clear hK K;show AWP _ _ _ _ _))
   (repeat refine j0 ?_);(first | refine x4 fun K hK => ?_ | refine j4 fun K hK => ?_)
   (first | refine x11 [] _ _ ?_ | refine j11 [] _ _ _ ?_);simp (disch:=omega) only [go_sem,seval,hd,h,h2];(repeat refine ⟨by omega,?_⟩)
   (first | refine q10 rfl rfl rfl ?_ | refine z10 rfl rfl rfl ?_);simp (disch:=omega) only [go_sem,seval,hd,h,h2]
   refine ⟨_,j80 x (ones b.toNat <<< a.toNat),?_⟩
   (first | refine x11 [] _ _ ?_ | refine j11 [] _ _ _ ?_);simp (disch:=omega) only [go_sem,seval,hd,h,h2];(repeat refine ⟨by omega,?_⟩)
   (first | refine q10 rfl rfl rfl ?_ | refine z10 rfl rfl rfl ?_);simp (disch:=omega) only [go_sem,seval,hd,h,h2]
   refine ⟨_,by have := x46 (v.zeroExtend 128) a.toNat (by omega);rw [Int.toNat_of_nonneg hh.1] at this;unfold hd at this;rw [hi_ext,lo_ext] at this;exact this,?_⟩
   (first | refine x11 [] _ _ ?_ | refine j11 [] _ _ _ ?_);simp (disch:=omega) only [go_sem,seval,hd,h,h2];(repeat refine ⟨by omega,?_⟩)
   (first | refine q10 rfl rfl rfl ?_ | refine z10 rfl rfl rfl ?_);simp (disch:=omega) only [go_sem,seval,hd,h,h2]
   refine ⟨_,or_c _ _,?_⟩
   (first | refine x11 [] _ _ ?_ | refine j11 [] _ _ _ ?_);simp (disch:=omega) only [go_sem,seval,hd,h,h2];(repeat refine ⟨by omega,?_⟩)
   (first | (refine j5 (hK _ ?_);clear hK K;show AWP _ _ _ _ _) | (refine x6 (hK _ _ x5 ?_);clear hK K;show AWP _ _ _ _ _))
   refine z9 ⟨_,?_,rfl⟩;rw [Try.results57];simp (disch:=omega) only [ResVars,ResVar,ptrLoc,go_sem,seval,hd,h,h2]
   rfl
  ·refine x22 rfl (fun ht => ?_) (fun ht => absurd ht (by decide))
   (repeat refine j0 ?_);(first | refine x4 fun K hK => ?_ | refine j4 fun K hK => ?_);(first | refine x11 [] _ _ ?_ | refine j11 [] _ _ _ ?_);simp (disch:=omega) only [go_sem,seval,hd,h,h2];(repeat refine ⟨by omega,?_⟩);(first | (refine j5 (hK _ ?_);clear hK K;show AWP _ _ _ _ _) | (refine x6 (hK _ _ x5 ?_);clear hK K;show AWP _ _ _ _ _))
   refine z9 ⟨_,?_,rfl⟩;rw [Try.results57];simp (disch:=omega) only [ResVars,ResVar,ptrLoc,go_sem,seval,hd,h,h2]
   first | rw [z18,x18] | (change _ = hd 0;unfold hd;rw [z18,x18])
theorem none_c (x : BitVec 128) : ACalls Try.prog 101 [.agg (hd x)] (· = [.d (.v (.bool (x == 0)))]) := by
 refine x9 Try.func101 rfl (by decide +kernel) (by rw [Try.ntmps101];simp) ?_;rw [Try.ntmps101];simp only [frOf]
 (repeat refine j0 ?_);(first | refine x4 fun K hK => ?_ | refine j4 fun K hK => ?_);(first | refine x11 [] _ _ ?_ | refine j11 [] _ _ _ ?_);simp (disch:=omega) only [go_sem,seval,hd,cb,x17,j17,x16,z17];(repeat refine ⟨by omega,?_⟩);(first | (refine j5 (hK _ ?_);clear hK K;show AWP _ _ _ _ _) | (refine x6 (hK _ _ x5 ?_);clear hK K;show AWP _ _ _ _ _))
 (repeat refine j0 ?_);(first | refine x4 fun K hK => ?_ | refine j4 fun K hK => ?_);(first | refine x11 [] _ _ ?_ | refine j11 [] _ _ _ ?_);simp (disch:=omega) only [go_sem,seval,hd,cb,x17,j17,x16,z17];(repeat refine ⟨by omega,?_⟩);(first | (refine j5 (hK _ ?_);clear hK K;show AWP _ _ _ _ _) | (refine x6 (hK _ _ x5 ?_);clear hK K;show AWP _ _ _ _ _))
 refine z9 ⟨_,?_,rfl⟩;rw [Try.results101];simp (disch:=omega) only [ResVars,ResVar,ptrLoc,go_sem,seval,hd,cb,x17,j17,x16,z17]
theorem z81 (k : Cube) : ACalls Try.prog 88 [.agg (cb k)] (· = [.d (.v (.bool k.sound))]) := by
 refine x9 Try.func88 rfl (by decide +kernel) (by rw [Try.ntmps88];simp) ?_;rw [Try.ntmps88];simp only [frOf]
 (repeat refine j0 ?_);(first | refine x4 fun K hK => ?_ | refine j4 fun K hK => ?_);(first | refine x11 [] _ _ ?_ | refine j11 [] _ _ _ ?_);simp (disch:=omega) only [go_sem,seval,hd,cb,x17,j17,x16,z17];(repeat refine ⟨by omega,?_⟩);(first | (refine j5 (hK _ ?_);clear hK K;show AWP _ _ _ _ _) | (refine x6 (hK _ _ x5 ?_);clear hK K;show AWP _ _ _ _ _))
 (repeat refine j0 ?_);(first | refine x4 fun K hK => ?_ | refine j4 fun K hK => ?_)
 (first | refine x11 [] _ _ ?_ | refine j11 [] _ _ _ ?_);simp (disch:=omega) only [go_sem,seval,hd,cb,x17,j17,x16,z17];(repeat refine ⟨by omega,?_⟩)
 (first | refine q10 rfl rfl rfl ?_ | refine z10 rfl rfl rfl ?_);simp (disch:=omega) only [go_sem,seval,hd,cb,x17,j17,x16,z17]
 refine ⟨_,Less_c k.v k.c,?_⟩
 (first | refine x11 [] _ _ ?_ | refine j11 [] _ _ _ ?_);simp (disch:=omega) only [go_sem,seval,hd,cb,x17,j17,x16,z17];(repeat refine ⟨by omega,?_⟩)
 (first | refine q10 rfl rfl rfl ?_ | refine z10 rfl rfl rfl ?_);simp (disch:=omega) only [go_sem,seval,hd,cb,x17,j17,x16,z17]
 refine ⟨_,none_c _,?_⟩
 (first | refine x11 [] _ _ ?_ | refine j11 [] _ _ _ ?_);simp (disch:=omega) only [go_sem,seval,hd,cb,x17,j17,x16,z17];(repeat refine ⟨by omega,?_⟩)
 (first | (refine j5 (hK _ ?_);clear hK K;show AWP _ _ _ _ _) | (refine x6 (hK _ _ x5 ?_);clear hK K;show AWP _ _ _ _ _))
 refine z9 ⟨_,?_,rfl⟩;rw [Try.results88];simp (disch:=omega) only [ResVars,ResVar,ptrLoc,go_sem,seval,hd,cb,x17,j17,x16,z17]
 (first | done | rfl | (refine ⟨?_,?_⟩ <;> rfl))
theorem Make_c (x y : BitVec 128) : ACalls Try.prog 58 [.agg (hd x),.agg (hd y)] (· = [.agg (cb (mkC x y))]) := by
 refine x9 Try.func58 rfl (by decide +kernel) (by rw [Try.ntmps58];simp) ?_;rw [Try.ntmps58];simp only [frOf]
 (repeat refine j0 ?_);(first | refine x4 fun K hK => ?_ | refine j4 fun K hK => ?_);(first | refine x11 [] _ _ ?_ | refine j11 [] _ _ _ ?_);simp (disch:=omega) only [go_sem,seval,hd,cb,x17,j17,x16,z17];(repeat refine ⟨by omega,?_⟩);(first | (refine j5 (hK _ ?_);clear hK K;show AWP _ _ _ _ _) | (refine x6 (hK _ _ x5 ?_);clear hK K;show AWP _ _ _ _ _))
 (repeat refine j0 ?_);(first | refine x4 fun K hK => ?_ | refine j4 fun K hK => ?_)
 (first | refine x11 [] _ _ ?_ | refine j11 [] _ _ _ ?_);simp (disch:=omega) only [go_sem,seval,hd,cb,x17,j17,x16,z17];(repeat refine ⟨by omega,?_⟩)
 (first | refine q10 rfl rfl rfl ?_ | refine z10 rfl rfl rfl ?_);simp (disch:=omega) only [go_sem,seval,hd,cb,x17,j17,x16,z17]
 refine ⟨_,And_c x y,?_⟩
 (first | refine x11 [] _ _ ?_ | refine j11 [] _ _ _ ?_);simp (disch:=omega) only [go_sem,seval,hd,cb,x17,j17,x16,z17];(repeat refine ⟨by omega,?_⟩)
 (first | (refine j5 (hK _ ?_);clear hK K;show AWP _ _ _ _ _) | (refine x6 (hK _ _ x5 ?_);clear hK K;show AWP _ _ _ _ _))
 refine z9 ⟨_,?_,rfl⟩;rw [Try.results58];simp (disch:=omega) only [ResVars,ResVar,ptrLoc,go_sem,seval,hd,cb,x17,j17,x16,z17]
 (first | done | rfl | (refine ⟨?_,?_⟩ <;> rfl))
structure Rule where
 pr : Int
 mt : Cube
 kd : Int
 pt : Int
 tb : Int
 st : Cube
deriving DecidableEq
structure Port where
 kd : Int
 tn : Int
 pe : Int
 at' : Int
 co : Int
deriving DecidableEq
def ruleD (r : Rule) : List Dat := [.v (.int .i64 r.pr),.v (.int .u64 (hi r.mt.v)),.v (.int .u64 (lo r.mt.v)),.v (.int .u64 (hi r.mt.c)),.v (.int .u64 (lo r.mt.c)),.v (.int .i64 r.kd),.v (.int .i64 r.pt),.v (.int .i64 r.tb),
 .v (.int .u64 (hi r.st.v)),.v (.int .u64 (lo r.st.v)),.v (.int .u64 (hi r.st.c)),.v (.int .u64 (lo r.st.c))]
def portD (p : Port) : List Dat := [.v (.int .i64 p.kd),.v (.int .i64 p.tn),.v (.int .i64 p.pe),.v (.int .i64 p.at'),.v (.int .i64 p.co)]
def r0 : Rule := ⟨0,⟨0,0⟩,0,0,0,⟨0,0⟩⟩
def p0 : Port := ⟨0,0,0,0,0⟩
def rowR (l : List Rule) : Nat → List Dat := fun i => ruleD (l.getD i r0)
def rowP (l : List Port) : Nat → List Dat := fun i => portD (l.getD i p0)
theorem z38 (l : List Rule) (i : Nat) : rowR l i = ruleD (l.getD i r0) := rfl
theorem j22 (l : List Port) (i : Nat) : rowP l i = portD (l.getD i p0) := rfl
theorem x81 (a b : Rule) : eqI [a.pr,hi a.mt.v,lo a.mt.v,hi a.mt.c,lo a.mt.c,a.kd,a.pt,a.tb,hi a.st.v,lo a.st.v,hi a.st.c,lo a.st.c] [b.pr,hi b.mt.v,lo b.mt.v,hi b.mt.c,lo b.mt.c,b.kd,b.pt,b.tb,hi b.st.v,lo b.st.v,hi b.st.c,lo b.st.c] = (a == b) := by
 obtain ⟨a1,⟨a2,a3⟩,a4,a5,a6,⟨a7,a8⟩⟩ := a
 obtain ⟨b1,⟨b2,b3⟩,b4,b5,b6,⟨b7,b8⟩⟩ := b
 rw [Bool.eq_iff_iff]
 have e : ∀ x y : BitVec 128,((hi x == hi y) && (lo x == lo y)) = true ↔ x = y := fun x y => by rw [j77];exact beq_iff_eq
 simp only [Bool.and_eq_true,beq_iff_eq] at e
 simp only [eqI,Bool.and_eq_true,beq_iff_eq,Bool.and_true,Rule.mk.injEq,Cube.mk.injEq]
 rw [← e a2 b2,← e a3 b3,← e a7 b7,← e a8 b8]
 constructor
 ·rintro ⟨h1,h2,h3,h4,h5,h6,h7,h8,h9,h10,h11,h12⟩;exact ⟨h1,⟨⟨h2,h3⟩,h4,h5⟩,h6,h7,h8,⟨h9,h10⟩,h11,h12⟩
 ·rintro ⟨h1,⟨⟨h2,h3⟩,h4,h5⟩,h6,h7,h8,⟨h9,h10⟩,h11,h12⟩;exact ⟨h1,h2,h3,h4,h5,h6,h7,h8,h9,h10,h11,h12⟩
def portR (r : Rule) (k : Int) (ps : List Port) : Bool := r.tb == 0 && decide (0 ≤ r.pt) && decide (r.pt < ps.length) && (ps.getD r.pt.toNat p0).kd == k
def doesR (r : Rule) (t : Int) (ps : List Port) : Bool :=
 if r.kd = 1 then r.pt == 0 && r.tb == 0 else if r.kd = 2 then portR r 1 ps else if r.kd = 3 then portR r 2 ps else if r.kd = 4 then r.pt == 0 && decide (t < r.tb) && decide (r.tb < 3) else false
def soundR (r : Rule) (t : Int) (ps : List Port) : Bool := decide (0 ≤ r.pr) && decide (r.pr ≤ 1048576) && r.mt.sound && r.st.sound && doesR r t ps
theorem j81 (r : Rule) (k : Int) (ps : List Port) (hl : ps.length ≤ 9223372036854775807) : ACalls Try.prog 103 [.agg (ruleD r),.d (.v (.int .i64 k)),.d (.sl 5 ps.length (rowP ps))] (· = [.d (.v (.bool (portR r k ps)))]) := by
 obtain ⟨pr,mt,kd,pt,tb,st⟩ := r
 unfold portR
 simp only []
 by_cases h1 : tb = 0
 ·subst h1
  by_cases h2 : 0 ≤ pt
  ·obtain ⟨n,rfl⟩ := Int.eq_ofNat_of_zero_le h2
   by_cases h3 : n < ps.length
   ·have r1 := j22 ps n
    rw [decide_eq_true h2,decide_eq_true (show (n : Int) < ps.length by omega),Int.toNat_natCast]
    generalize ps.getD n p0 = p at r1
    simp only [beq_self_eq_true,Bool.true_and]
    refine x9 Try.func103 rfl (by decide +kernel) (by rw [Try.ntmps103];simp) ?_;rw [Try.ntmps103];simp only [frOf]
    (repeat (first | apply j0 | refine q8 rfl ?_ | refine z8 rfl ?_ | apply z7 | (refine x4 fun K hK => ?_) | (refine j4 fun K hK => ?_) | ((first | apply j6 | apply x7 | ((first | refine j5 (hK _ ?_) | refine x6 (hK _ _ x5 ?_));clear hK K));(first | show AWP _ _ _ _ _ | ((try simp only [j7]);first | show loopQ _ _ _ _ _ _ | show cutQ _ _ _ _ | show AWP _ _ _ _ _))) | ((first | refine x8 [] rfl ?_ | refine j8 [] rfl ?_);simp (disch:=omega) only [go_sem,seval,hd,cb,ruleD,portD,q12,r1];(repeat (first | refine ⟨by omega,?_⟩ | refine ⟨True.intro,?_⟩)))))
    refine z9 ⟨_,?_,rfl⟩;rw [Try.results103];simp (disch:=omega) only [ResVars,ResVar,ptrLoc,go_sem,seval,hd,cb,ruleD,portD,q12,r1]
   ·rw [decide_eq_true h2,decide_eq_false (show ¬ (n : Int) < ps.length by omega)]
    simp only [Bool.and_false,Bool.false_and]
    refine x9 Try.func103 rfl (by decide +kernel) (by rw [Try.ntmps103];simp) ?_;rw [Try.ntmps103];simp only [frOf]
    (repeat (first | apply j0 | refine q8 rfl ?_ | refine z8 rfl ?_ | apply z7 | (refine x4 fun K hK => ?_) | (refine j4 fun K hK => ?_) | ((first | apply j6 | apply x7 | ((first | refine j5 (hK _ ?_) | refine x6 (hK _ _ x5 ?_));clear hK K));(first | show AWP _ _ _ _ _ | ((try simp only [j7]);first | show loopQ _ _ _ _ _ _ | show cutQ _ _ _ _ | show AWP _ _ _ _ _))) | ((first | refine x8 [] rfl ?_ | refine j8 [] rfl ?_);simp (disch:=omega) only [go_sem,seval,hd,cb,ruleD,portD,q12];(repeat (first | refine ⟨by omega,?_⟩ | refine ⟨True.intro,?_⟩)))))
    refine z9 ⟨_,?_,rfl⟩;rw [Try.results103];simp (disch:=omega) only [ResVars,ResVar,ptrLoc,go_sem,seval,hd,cb,ruleD,portD,q12]
  ·rw [decide_eq_false h2]
   simp only [Bool.and_false,Bool.false_and]
   refine x9 Try.func103 rfl (by decide +kernel) (by rw [Try.ntmps103];simp) ?_;rw [Try.ntmps103];simp only [frOf]
   (repeat (first | apply j0 | refine q8 rfl ?_ | refine z8 rfl ?_ | apply z7 | (refine x4 fun K hK => ?_) | (refine j4 fun K hK => ?_) | ((first | apply j6 | apply x7 | ((first | refine j5 (hK _ ?_) | refine x6 (hK _ _ x5 ?_));clear hK K));(first | show AWP _ _ _ _ _ | ((try simp only [j7]);first | show loopQ _ _ _ _ _ _ | show cutQ _ _ _ _ | show AWP _ _ _ _ _))) | ((first | refine x8 [] rfl ?_ | refine j8 [] rfl ?_);simp (disch:=omega) only [go_sem,seval,hd,cb,ruleD,portD,q12];(repeat (first | refine ⟨by omega,?_⟩ | refine ⟨True.intro,?_⟩)))))
   refine z9 ⟨_,?_,rfl⟩;rw [Try.results103];simp (disch:=omega) only [ResVars,ResVar,ptrLoc,go_sem,seval,hd,cb,ruleD,portD,q12]
 ·have q : (tb == 0) = false := by simpa using h1
  rw [q]
  simp only [Bool.false_and]
  refine x9 Try.func103 rfl (by decide +kernel) (by rw [Try.ntmps103];simp) ?_;rw [Try.ntmps103];simp only [frOf]
  (repeat (first | apply j0 | refine q8 rfl ?_ | refine z8 rfl ?_ | apply z7 | (refine x4 fun K hK => ?_) | (refine j4 fun K hK => ?_) | ((first | apply j6 | apply x7 | ((first | refine j5 (hK _ ?_) | refine x6 (hK _ _ x5 ?_));clear hK K));(first | show AWP _ _ _ _ _ | ((try simp only [j7]);first | show loopQ _ _ _ _ _ _ | show cutQ _ _ _ _ | show AWP _ _ _ _ _))) | ((first | refine x8 [] rfl ?_ | refine j8 [] rfl ?_);simp (disch:=omega) only [go_sem,seval,hd,cb,ruleD,portD,q12,q];(repeat (first | refine ⟨by omega,?_⟩ | refine ⟨True.intro,?_⟩)))))
  refine z9 ⟨_,?_,rfl⟩;rw [Try.results103];simp (disch:=omega) only [ResVars,ResVar,ptrLoc,go_sem,seval,hd,cb,ruleD,portD,q12,q]
theorem does_c (r : Rule) (t : Int) (ps : List Port) (hl : ps.length ≤ 9223372036854775807) : ACalls Try.prog 89 [.agg (ruleD r),.d (.v (.int .i64 t)),.d (.sl 5 ps.length (rowP ps))] (· = [.d (.v (.bool (doesR r t ps)))]) := by
 have p1 := j81 r 1 ps hl
 have p2 := j81 r 2 ps hl
 unfold doesR
 generalize portR r 1 ps = b1 at p1
 generalize portR r 2 ps = b2 at p2
 obtain ⟨pr,mt,kd,pt,tb,st⟩ := r
 simp only [] at p1 p2 ⊢
 by_cases h1 : kd = 1
 ·subst h1
  by_cases h2 : pt = 0
  ·subst h2
   simp only [if_true,beq_self_eq_true,Bool.true_and]
   refine x9 Try.func89 rfl (by decide +kernel) (by rw [Try.ntmps89];simp) ?_;rw [Try.ntmps89];simp only [frOf]
   (repeat (first | apply j0 | refine q8 rfl ?_ | refine z8 rfl ?_ | apply z7 | (refine x4 fun K hK => ?_) | (refine j4 fun K hK => ?_) | ((first | apply j6 | apply x7 | ((first | refine j5 (hK _ ?_) | refine x6 (hK _ _ x5 ?_));clear hK K));(first | show AWP _ _ _ _ _ | ((try simp only [j7]);first | show loopQ _ _ _ _ _ _ | show cutQ _ _ _ _ | show AWP _ _ _ _ _))) | ((first | refine x8 [] rfl ?_ | refine j8 [] rfl ?_);simp (disch:=omega) only [go_sem,seval,hd,cb,ruleD,portD,q12];(repeat (first | refine ⟨by omega,?_⟩ | refine ⟨True.intro,?_⟩)))))
   refine z9 ⟨_,?_,rfl⟩;rw [Try.results89];simp (disch:=omega) only [ResVars,ResVar,ptrLoc,go_sem,seval,hd,cb,ruleD,portD,q12]
  ·have q : (pt == 0) = false := by simpa using h2
   rw [q]
   simp only [if_true,Bool.false_and]
   refine x9 Try.func89 rfl (by decide +kernel) (by rw [Try.ntmps89];simp) ?_;rw [Try.ntmps89];simp only [frOf]
   (repeat (first | apply j0 | refine q8 rfl ?_ | refine z8 rfl ?_ | apply z7 | (refine x4 fun K hK => ?_) | (refine j4 fun K hK => ?_) | ((first | apply j6 | apply x7 | ((first | refine j5 (hK _ ?_) | refine x6 (hK _ _ x5 ?_));clear hK K));(first | show AWP _ _ _ _ _ | ((try simp only [j7]);first | show loopQ _ _ _ _ _ _ | show cutQ _ _ _ _ | show AWP _ _ _ _ _))) | ((first | refine x8 [] rfl ?_ | refine j8 [] rfl ?_);simp (disch:=omega) only [go_sem,seval,hd,cb,ruleD,portD,q12,q];(repeat (first | refine ⟨by omega,?_⟩ | refine ⟨True.intro,?_⟩)))))
   refine z9 ⟨_,?_,rfl⟩;rw [Try.results89];simp (disch:=omega) only [ResVars,ResVar,ptrLoc,go_sem,seval,hd,cb,ruleD,portD,q12,q]
 ·rw [if_neg h1]
  have q1 : (kd == 1) = false := by simpa using h1
  by_cases h2 : kd = 2
  ·subst h2
   simp only [if_true]
   refine x9 Try.func89 rfl (by decide +kernel) (by rw [Try.ntmps89];simp) ?_;rw [Try.ntmps89];simp only [frOf]
   (repeat (first | apply j0 | refine q8 rfl ?_ | refine z8 rfl ?_ | apply z7 | (refine x4 fun K hK => ?_) | (refine j4 fun K hK => ?_) | ((first | apply j6 | apply x7 | ((first | refine j5 (hK _ ?_) | refine x6 (hK _ _ x5 ?_));clear hK K));(first | show AWP _ _ _ _ _ | ((try simp only [j7]);first | show loopQ _ _ _ _ _ _ | show cutQ _ _ _ _ | show AWP _ _ _ _ _))) | ((first | refine q10 rfl rfl rfl ?_ | refine z10 rfl rfl rfl ?_);simp (disch:=omega) only [go_sem,seval,hd,cb,ruleD,portD,q12];(first | refine ⟨_,p1,?_⟩)) | ((first | refine x8 [] rfl ?_ | refine j8 [] rfl ?_);simp (disch:=omega) only [go_sem,seval,hd,cb,ruleD,portD,q12];(repeat (first | refine ⟨by omega,?_⟩ | refine ⟨True.intro,?_⟩)))))
   refine z9 ⟨_,?_,rfl⟩;rw [Try.results89];simp (disch:=omega) only [ResVars,ResVar,ptrLoc,go_sem,seval,hd,cb,ruleD,portD,q12]
  ·rw [if_neg h2]
   have q2 : (kd == 2) = false := by simpa using h2
   by_cases h3 : kd = 3
   ·subst h3
    simp only [if_true]
    refine x9 Try.func89 rfl (by decide +kernel) (by rw [Try.ntmps89];simp) ?_;rw [Try.ntmps89];simp only [frOf]
    (repeat (first | apply j0 | refine q8 rfl ?_ | refine z8 rfl ?_ | apply z7 | (refine x4 fun K hK => ?_) | (refine j4 fun K hK => ?_) | ((first | apply j6 | apply x7 | ((first | refine j5 (hK _ ?_) | refine x6 (hK _ _ x5 ?_));clear hK K));(first | show AWP _ _ _ _ _ | ((try simp only [j7]);first | show loopQ _ _ _ _ _ _ | show cutQ _ _ _ _ | show AWP _ _ _ _ _))) | ((first | refine q10 rfl rfl rfl ?_ | refine z10 rfl rfl rfl ?_);simp (disch:=omega) only [go_sem,seval,hd,cb,ruleD,portD,q12];(first | refine ⟨_,p2,?_⟩)) | ((first | refine x8 [] rfl ?_ | refine j8 [] rfl ?_);simp (disch:=omega) only [go_sem,seval,hd,cb,ruleD,portD,q12];(repeat (first | refine ⟨by omega,?_⟩ | refine ⟨True.intro,?_⟩)))))
    refine z9 ⟨_,?_,rfl⟩;rw [Try.results89];simp (disch:=omega) only [ResVars,ResVar,ptrLoc,go_sem,seval,hd,cb,ruleD,portD,q12]
   ·rw [if_neg h3]
    have q3 : (kd == 3) = false := by simpa using h3
    by_cases h4 : kd = 4
    ·subst h4
     simp only [if_true]
     by_cases h5 : pt = 0
     ·subst h5
      by_cases h6 : t < tb
      ·rw [decide_eq_true h6]
       simp only [beq_self_eq_true,Bool.true_and]
       refine x9 Try.func89 rfl (by decide +kernel) (by rw [Try.ntmps89];simp) ?_;rw [Try.ntmps89];simp only [frOf]
       (repeat (first | apply j0 | refine q8 rfl ?_ | refine z8 rfl ?_ | apply z7 | (refine x4 fun K hK => ?_) | (refine j4 fun K hK => ?_) | ((first | apply j6 | apply x7 | ((first | refine j5 (hK _ ?_) | refine x6 (hK _ _ x5 ?_));clear hK K));(first | show AWP _ _ _ _ _ | ((try simp only [j7]);first | show loopQ _ _ _ _ _ _ | show cutQ _ _ _ _ | show AWP _ _ _ _ _))) | ((first | refine x8 [] rfl ?_ | refine j8 [] rfl ?_);simp (disch:=omega) only [go_sem,seval,hd,cb,ruleD,portD,q12];(repeat (first | refine ⟨by omega,?_⟩ | refine ⟨True.intro,?_⟩)))))
       refine z9 ⟨_,?_,rfl⟩;rw [Try.results89];simp (disch:=omega) only [ResVars,ResVar,ptrLoc,go_sem,seval,hd,cb,ruleD,portD,q12]
      ·rw [decide_eq_false h6]
       simp only [Bool.and_false,Bool.false_and]
       refine x9 Try.func89 rfl (by decide +kernel) (by rw [Try.ntmps89];simp) ?_;rw [Try.ntmps89];simp only [frOf]
       (repeat (first | apply j0 | refine q8 rfl ?_ | refine z8 rfl ?_ | apply z7 | (refine x4 fun K hK => ?_) | (refine j4 fun K hK => ?_) | ((first | apply j6 | apply x7 | ((first | refine j5 (hK _ ?_) | refine x6 (hK _ _ x5 ?_));clear hK K));(first | show AWP _ _ _ _ _ | ((try simp only [j7]);first | show loopQ _ _ _ _ _ _ | show cutQ _ _ _ _ | show AWP _ _ _ _ _))) | ((first | refine x8 [] rfl ?_ | refine j8 [] rfl ?_);simp (disch:=omega) only [go_sem,seval,hd,cb,ruleD,portD,q12];(repeat (first | refine ⟨by omega,?_⟩ | refine ⟨True.intro,?_⟩)))))
       refine z9 ⟨_,?_,rfl⟩;rw [Try.results89];simp (disch:=omega) only [ResVars,ResVar,ptrLoc,go_sem,seval,hd,cb,ruleD,portD,q12]
     ·have q : (pt == 0) = false := by simpa using h5
      rw [q]
      simp only [Bool.false_and]
      refine x9 Try.func89 rfl (by decide +kernel) (by rw [Try.ntmps89];simp) ?_;rw [Try.ntmps89];simp only [frOf]
      (repeat (first | apply j0 | refine q8 rfl ?_ | refine z8 rfl ?_ | apply z7 | (refine x4 fun K hK => ?_) | (refine j4 fun K hK => ?_) | ((first | apply j6 | apply x7 | ((first | refine j5 (hK _ ?_) | refine x6 (hK _ _ x5 ?_));clear hK K));(first | show AWP _ _ _ _ _ | ((try simp only [j7]);first | show loopQ _ _ _ _ _ _ | show cutQ _ _ _ _ | show AWP _ _ _ _ _))) | ((first | refine x8 [] rfl ?_ | refine j8 [] rfl ?_);simp (disch:=omega) only [go_sem,seval,hd,cb,ruleD,portD,q12,q];(repeat (first | refine ⟨by omega,?_⟩ | refine ⟨True.intro,?_⟩)))))
      refine z9 ⟨_,?_,rfl⟩;rw [Try.results89];simp (disch:=omega) only [ResVars,ResVar,ptrLoc,go_sem,seval,hd,cb,ruleD,portD,q12,q]
    ·rw [if_neg h4]
     have q4 : (kd == 4) = false := by simpa using h4
     refine x9 Try.func89 rfl (by decide +kernel) (by rw [Try.ntmps89];simp) ?_;rw [Try.ntmps89];simp only [frOf]
     (repeat (first | apply j0 | refine q8 rfl ?_ | refine z8 rfl ?_ | apply z7 | (refine x4 fun K hK => ?_) | (refine j4 fun K hK => ?_) | ((first | apply j6 | apply x7 | ((first | refine j5 (hK _ ?_) | refine x6 (hK _ _ x5 ?_));clear hK K));(first | show AWP _ _ _ _ _ | ((try simp only [j7]);first | show loopQ _ _ _ _ _ _ | show cutQ _ _ _ _ | show AWP _ _ _ _ _))) | ((first | refine x8 [] rfl ?_ | refine j8 [] rfl ?_);simp (disch:=omega) only [go_sem,seval,hd,cb,ruleD,portD,q12,q1,q2,q3,q4];(repeat (first | refine ⟨by omega,?_⟩ | refine ⟨True.intro,?_⟩)))))
     refine z9 ⟨_,?_,rfl⟩;rw [Try.results89];simp (disch:=omega) only [ResVars,ResVar,ptrLoc,go_sem,seval,hd,cb,ruleD,portD,q12,q1,q2,q3,q4]
theorem z126 (r : Rule) (t : Int) (ps : List Port) (hl : ps.length ≤ 9223372036854775807) : ACalls Try.prog 80 [.agg (ruleD r),.d (.v (.int .i64 t)),.d (.sl 5 ps.length (rowP ps))] (· = [.d (.v (.bool (soundR r t ps)))]) := by
 have d := does_c r t ps hl
 have s1 := z81 r.mt
 have s2 := z81 r.st
 unfold soundR
 generalize doesR r t ps = b at d
 generalize r.mt.sound = c1 at s1
 generalize r.st.sound = c2 at s2
 by_cases h1 : 0 ≤ r.pr
 ·by_cases h2 : r.pr ≤ 1048576
  ·rw [decide_eq_true h1,decide_eq_true h2]
   cases c1
   ·refine x9 Try.func80 rfl (by decide +kernel) (by rw [Try.ntmps80];simp) ?_;rw [Try.ntmps80];simp only [frOf]
    (repeat (first | apply j0 | refine q8 rfl ?_ | refine z8 rfl ?_ | apply z7 | (refine x4 fun K hK => ?_) | (refine j4 fun K hK => ?_) | ((first | apply j6 | apply x7 | ((first | refine j5 (hK _ ?_) | refine x6 (hK _ _ x5 ?_));clear hK K));(first | show AWP _ _ _ _ _ | ((try simp only [j7]);first | show loopQ _ _ _ _ _ _ | show cutQ _ _ _ _ | show AWP _ _ _ _ _))) | ((first | refine q10 rfl rfl rfl ?_ | refine z10 rfl rfl rfl ?_);simp (disch:=omega) only [go_sem,seval,hd,cb,ruleD,portD,q12];(first | refine ⟨_,s1,?_⟩ | refine ⟨_,s2,?_⟩ | refine ⟨_,d,?_⟩)) | ((first | refine x8 [] rfl ?_ | refine j8 [] rfl ?_);simp (disch:=omega) only [go_sem,seval,hd,cb,ruleD,portD,q12];(repeat (first | refine ⟨by omega,?_⟩ | refine ⟨True.intro,?_⟩)))))
    refine z9 ⟨_,?_,rfl⟩;rw [Try.results80];simp (disch:=omega) only [ResVars,ResVar,ptrLoc,go_sem,seval,hd,cb,ruleD,portD,q12]
   ·cases c2
    all_goals
     refine x9 Try.func80 rfl (by decide +kernel) (by rw [Try.ntmps80];simp) ?_;rw [Try.ntmps80];simp only [frOf]
     (repeat (first | apply j0 | refine q8 rfl ?_ | refine z8 rfl ?_ | apply z7 | (refine x4 fun K hK => ?_) | (refine j4 fun K hK => ?_) | ((first | apply j6 | apply x7 | ((first | refine j5 (hK _ ?_) | refine x6 (hK _ _ x5 ?_));clear hK K));(first | show AWP _ _ _ _ _ | ((try simp only [j7]);first | show loopQ _ _ _ _ _ _ | show cutQ _ _ _ _ | show AWP _ _ _ _ _))) | ((first | refine q10 rfl rfl rfl ?_ | refine z10 rfl rfl rfl ?_);simp (disch:=omega) only [go_sem,seval,hd,cb,ruleD,portD,q12];(first | refine ⟨_,s1,?_⟩ | refine ⟨_,s2,?_⟩ | refine ⟨_,d,?_⟩)) | ((first | refine x8 [] rfl ?_ | refine j8 [] rfl ?_);simp (disch:=omega) only [go_sem,seval,hd,cb,ruleD,portD,q12];(repeat (first | refine ⟨by omega,?_⟩ | refine ⟨True.intro,?_⟩)))))
     refine z9 ⟨_,?_,rfl⟩;rw [Try.results80];simp (disch:=omega) only [ResVars,ResVar,ptrLoc,go_sem,seval,hd,cb,ruleD,portD,q12]
  ·rw [decide_eq_true h1,decide_eq_false h2]
   refine x9 Try.func80 rfl (by decide +kernel) (by rw [Try.ntmps80];simp) ?_;rw [Try.ntmps80];simp only [frOf]
   (repeat (first | apply j0 | refine q8 rfl ?_ | refine z8 rfl ?_ | apply z7 | (refine x4 fun K hK => ?_) | (refine j4 fun K hK => ?_) | ((first | apply j6 | apply x7 | ((first | refine j5 (hK _ ?_) | refine x6 (hK _ _ x5 ?_));clear hK K));(first | show AWP _ _ _ _ _ | ((try simp only [j7]);first | show loopQ _ _ _ _ _ _ | show cutQ _ _ _ _ | show AWP _ _ _ _ _))) | ((first | refine q10 rfl rfl rfl ?_ | refine z10 rfl rfl rfl ?_);simp (disch:=omega) only [go_sem,seval,hd,cb,ruleD,portD,q12];(first | refine ⟨_,s1,?_⟩ | refine ⟨_,s2,?_⟩ | refine ⟨_,d,?_⟩)) | ((first | refine x8 [] rfl ?_ | refine j8 [] rfl ?_);simp (disch:=omega) only [go_sem,seval,hd,cb,ruleD,portD,q12];(repeat (first | refine ⟨by omega,?_⟩ | refine ⟨True.intro,?_⟩)))))
   refine z9 ⟨_,?_,rfl⟩;rw [Try.results80];simp (disch:=omega) only [ResVars,ResVar,ptrLoc,go_sem,seval,hd,cb,ruleD,portD,q12]
 ·rw [decide_eq_false h1]
  refine x9 Try.func80 rfl (by decide +kernel) (by rw [Try.ntmps80];simp) ?_;rw [Try.ntmps80];simp only [frOf]
  (repeat (first | apply j0 | refine q8 rfl ?_ | refine z8 rfl ?_ | apply z7 | (refine x4 fun K hK => ?_) | (refine j4 fun K hK => ?_) | ((first | apply j6 | apply x7 | ((first | refine j5 (hK _ ?_) | refine x6 (hK _ _ x5 ?_));clear hK K));(first | show AWP _ _ _ _ _ | ((try simp only [j7]);first | show loopQ _ _ _ _ _ _ | show cutQ _ _ _ _ | show AWP _ _ _ _ _))) | ((first | refine q10 rfl rfl rfl ?_ | refine z10 rfl rfl rfl ?_);simp (disch:=omega) only [go_sem,seval,hd,cb,ruleD,portD,q12];(first | refine ⟨_,s1,?_⟩ | refine ⟨_,s2,?_⟩ | refine ⟨_,d,?_⟩)) | ((first | refine x8 [] rfl ?_ | refine j8 [] rfl ?_);simp (disch:=omega) only [go_sem,seval,hd,cb,ruleD,portD,q12];(repeat (first | refine ⟨by omega,?_⟩ | refine ⟨True.intro,?_⟩)))))
  refine z9 ⟨_,?_,rfl⟩;rw [Try.results80];simp (disch:=omega) only [ResVars,ResVar,ptrLoc,go_sem,seval,hd,cb,ruleD,portD,q12]
def ruleSh : Sh := .pair (.int .i64) (.pair cubeSh (.pair (.pair (.int .i64) (.pair (.int .i64) (.pair (.int .i64) (.pair cubeSh .unit)))) .unit))
def portSh : Sh := .pair (.int .i64) (.pair (.int .i64) (.pair (.int .i64) (.pair (.int .i64) (.pair (.int .i64) .unit))))
def in64 (n : Int) : Prop := -9223372036854775808 ≤ n ∧ n < 9223372036854775808
def Rule.ok (r : Rule) : Prop := in64 r.pr ∧ in64 r.kd ∧ in64 r.pt ∧ in64 r.tb
def Port.ok (p : Port) : Prop := in64 p.kd ∧ in64 p.tn ∧ in64 p.pe ∧ in64 p.at' ∧ in64 p.co
theorem is_rule {N : Nat} {ds : List Dat} (h : Is N ruleSh ds) : ∃ r : Rule,ds = ruleD r ∧ r.ok := by
 obtain ⟨_,_,rfl,⟨a,rfl,wa⟩,_,_,rfl,hb,_,_,rfl,⟨_,_,rfl,⟨c,rfl,wc⟩,_,_,rfl,⟨d,rfl,wd⟩,_,_,rfl,⟨e,rfl,we⟩,_,_,rfl,hf,rfl⟩,rfl⟩ := h
 obtain ⟨x,rfl⟩ := is_cb hb
 obtain ⟨y,rfl⟩ := is_cb hf
 exact ⟨⟨a,x,c,d,e,y⟩,rfl,q20 wa,q20 wc,q20 wd,q20 we⟩
theorem is_port {N : Nat} {ds : List Dat} (h : Is N portSh ds) : ∃ p : Port,ds = portD p ∧ p.ok := by
 obtain ⟨_,_,rfl,⟨a,rfl,wa⟩,_,_,rfl,⟨b,rfl,wb⟩,_,_,rfl,⟨c,rfl,wc⟩,_,_,rfl,⟨d,rfl,wd⟩,_,_,rfl,⟨e,rfl,we⟩,rfl⟩ := h
 exact ⟨⟨a,b,c,d,e⟩,rfl,q20 wa,q20 wb,q20 wc,q20 wd,q20 we⟩
theorem x126 {N : Nat} {ds : List Dat} (h : Is N (.slice ruleSh) ds) : ∃ l : List Rule,ds = [.sl 12 l.length (rowR l)] ∧ l.length ≤ N ∧ ∀ r ∈ l,r.ok :=
 z28 ruleD r0 ruleSh (by simp only [ruleD,r0,z18,x18];rfl) (fun ds hd => is_rule hd) h
theorem j126 {N : Nat} {ds : List Dat} (h : Is N (.slice portSh) ds) : ∃ l : List Port,ds = [.sl 5 l.length (rowP l)] ∧ l.length ≤ N ∧ ∀ r ∈ l,r.ok :=
 z28 portD p0 portSh rfl (fun ds hd => is_port hd) h
theorem q127 {N : Nat} {ds : List Dat} (h : Is N (.slice ruleSh) ds) : ∃ l : List Rule,ds = [.sl 12 l.length (rowR l)] ∧ l.length ≤ N := by
 obtain ⟨l,h1,h2,_⟩ := x126 h;exact ⟨l,h1,h2⟩
theorem z127 {N : Nat} {ds : List Dat} (h : Is N (.slice portSh) ds) : ∃ l : List Port,ds = [.sl 5 l.length (rowP l)] ∧ l.length ≤ N := by
 obtain ⟨l,h1,h2,_⟩ := j126 h;exact ⟨l,h1,h2⟩
def rowPP (l : List (List Port)) : Nat → List Dat := fun i => [.sl 5 (l.getD i []).length (rowP (l.getD i []))]
theorem q18 (l : List (List Port)) (i : Nat) : rowPP l i = [.sl 5 (l.getD i []).length (rowP (l.getD i []))] := rfl
def topoD (t : List (List Port)) : List Dat := [.sl 1 t.length (rowPP t)]
structure Spot where
 sw : Int
 po : Int
deriving DecidableEq
def spotD (s : Spot) : List Dat := [.v (.int .i64 s.sw),.v (.int .i64 s.po)]
def s0 : Spot := ⟨0,0⟩
def rowS (l : List Spot) : Nat → List Dat := rowO spotD s0 l
def portT (t : List (List Port)) (n at' : Nat) : Bool :=
 let p := (t.getD n []).getD at' p0
 let q := (t.getD p.pe.toNat []).getD p.at'.toNat p0
 if p.kd = 0 then p.tn == 0 && p.pe == 0 && p.at' == 0 && p.co == 0
 else if p.kd = 1 then decide (0 ≤ p.tn) && decide (p.tn < 4) && p.pe == 0 && p.at' == 0 && p.co == 0
 else if p.kd = 2 ∧ p.tn = 0 ∧ 1 ≤ p.co ∧ p.co ≤ 1000 ∧ 0 ≤ p.pe ∧ p.pe < t.length ∧ p.pe ≠ n ∧ 0 ≤ p.at' ∧ p.at' < (t.getD p.pe.toNat []).length then
  q.kd == 2 && q.tn == 0 && q.pe == n && q.at' == at' && q.co == p.co
 else false
def small (t : List (List Port)) : Prop := t.length ≤ 1048576 ∧ ∀ l ∈ t,l.length ≤ 1048576
theorem j16 {t : List (List Port)} (h : small t) (i : Nat) : (t.getD i []).length ≤ 1048576 := by
 by_cases hi : i < t.length
 ·exact h.2 _ (j32 hi [])
 ·rw [List.getD_eq_getElem?_getD,List.getElem?_eq_none (by omega)];simp
theorem eqI_p0 (tn pe at' co : Int) : eqI [0,tn,pe,at',co] [0,0,0,0,0] = (tn == 0 && pe == 0 && at' == 0 && co == 0) := by simp [eqI,Bool.and_assoc]
theorem eqI_p1 (tn pe at' co : Int) : eqI [1,tn,pe,at',co] [1,tn,0,0,0] = (pe == 0 && at' == 0 && co == 0) := by simp [eqI,Bool.and_assoc]
theorem eqI_p2 (a b c d e n k co : Int) : eqI [a,b,c,d,e] [2,0,n,k,co] = (a == 2 && b == 0 && c == n && d == k && e == co) := by simp [eqI,Bool.and_assoc]
theorem x127 (tn co pe at' : Int) (N n : Nat) (m : Int) : tn ≠ 0 ∨ (tn = 0 ∧ co < 1) ∨ (tn = 0 ∧ ¬ co < 1 ∧ 1000 < co) ∨ (tn = 0 ∧ ¬ co < 1 ∧ ¬ 1000 < co ∧ pe < 0) ∨ (tn = 0 ∧ ¬ co < 1 ∧ ¬ 1000 < co ∧ 0 ≤ pe ∧ (N : Int) ≤ pe) ∨
  (tn = 0 ∧ ¬ co < 1 ∧ ¬ 1000 < co ∧ 0 ≤ pe ∧ pe < (N : Int) ∧ pe = (n : Int)) ∨ (tn = 0 ∧ ¬ co < 1 ∧ ¬ 1000 < co ∧ 0 ≤ pe ∧ pe < (N : Int) ∧ pe ≠ (n : Int) ∧ at' < 0) ∨
  (tn = 0 ∧ ¬ co < 1 ∧ ¬ 1000 < co ∧ 0 ≤ pe ∧ pe < (N : Int) ∧ pe ≠ (n : Int) ∧ 0 ≤ at' ∧ m ≤ at') ∨
  (tn = 0 ∧ ¬ co < 1 ∧ ¬ 1000 < co ∧ 0 ≤ pe ∧ pe < (N : Int) ∧ pe ≠ (n : Int) ∧ 0 ≤ at' ∧ at' < m) := by omega
set_option maxRecDepth 100000 in
theorem portT_c (t : List (List Port)) (n k : Nat) (ht : small t) (hn : n < t.length) (hk : k < (t.getD n []).length) : ACalls Try.prog 79 [.agg (topoD t),.d (.v (.int .i64 (n : Int))),.d (.v (.int .i64 (k : Int)))] (· = [.d (.v (.bool (portT t n k)))]) := by
 obtain ⟨ht1,ht2⟩ := ht
 have hs := j16 ⟨ht1,ht2⟩
 have l1 := hs n
 have r1 := q18 t n
 have r2 := j22 (t.getD n []) k
 unfold portT topoD
 generalize t.getD n [] = ps at r1 r2 hk l1
 generalize ps.getD k p0 = p at r2
 obtain ⟨kd,tn,pe,at',co⟩ := p
 simp only [portD] at r2 ⊢
 by_cases h0 : kd = 0
 ·subst h0
  rw [if_pos rfl]
  refine x9 Try.func79 rfl (by decide +kernel) (by rw [Try.ntmps79];simp) ?_;rw [Try.ntmps79];simp only [frOf]
  (repeat (first | apply j0 | refine q8 rfl ?_ | refine z8 rfl ?_ | apply z7 | (refine x4 fun K hK => ?_) | (refine j4 fun K hK => ?_) | ((first | apply j6 | apply x7 | ((first | refine j5 (hK _ ?_) | refine x6 (hK _ _ x5 ?_));clear hK K));(first | show AWP _ _ _ _ _ | ((try simp only [j7]);first | show loopQ _ _ _ _ _ _ | show cutQ _ _ _ _ | show AWP _ _ _ _ _))) | ((first | refine x8 [] rfl ?_ | refine j8 [] rfl ?_);simp (disch:=omega) only [go_sem,seval,portD,z13,z14,x14,j13,x13,r1,r2];(repeat (first | refine ⟨by omega,?_⟩ | refine ⟨True.intro,?_⟩)))))
  refine z9 ⟨_,?_,rfl⟩;rw [Try.results79];simp (disch:=omega) only [ResVars,ResVar,ptrLoc,go_sem,seval,portD,z13,z14,x14,j13,x13,r1,r2]
  rw [eqI_p0]
 ·rw [if_neg h0]
  by_cases h1 : kd = 1
  ·subst h1
   rw [if_pos rfl]
   have e := eqI_p1 tn pe at' co
   generalize hb : (pe == 0 && at' == 0 && co == 0) = b at e
   rw [Bool.and_assoc,Bool.and_assoc,← Bool.and_assoc (pe == 0),hb]
   cases b
   ·rw [Bool.and_false]
    refine x9 Try.func79 rfl (by decide +kernel) (by rw [Try.ntmps79];simp) ?_;rw [Try.ntmps79];simp only [frOf]
    (repeat (first | apply j0 | refine q8 rfl ?_ | refine z8 rfl ?_ | apply z7 | (refine x4 fun K hK => ?_) | (refine j4 fun K hK => ?_) | ((first | apply j6 | apply x7 | ((first | refine j5 (hK _ ?_) | refine x6 (hK _ _ x5 ?_));clear hK K));(first | show AWP _ _ _ _ _ | ((try simp only [j7]);first | show loopQ _ _ _ _ _ _ | show cutQ _ _ _ _ | show AWP _ _ _ _ _))) | ((first | refine x8 [] rfl ?_ | refine j8 [] rfl ?_);simp (disch:=omega) only [go_sem,seval,portD,z13,z14,x14,j13,x13,r1,r2,e];(repeat (first | refine ⟨by omega,?_⟩ | refine ⟨True.intro,?_⟩)))))
    refine z9 ⟨_,?_,rfl⟩;rw [Try.results79];simp (disch:=omega) only [ResVars,ResVar,ptrLoc,go_sem,seval,portD,z13,z14,x14,j13,x13,r1,r2,e]
   ·rw [Bool.and_true]
    by_cases h2 : 0 ≤ tn
    ·rw [decide_eq_true h2,Bool.true_and]
     refine x9 Try.func79 rfl (by decide +kernel) (by rw [Try.ntmps79];simp) ?_;rw [Try.ntmps79];simp only [frOf]
     (repeat (first | apply j0 | refine q8 rfl ?_ | refine z8 rfl ?_ | apply z7 | (refine x4 fun K hK => ?_) | (refine j4 fun K hK => ?_) | ((first | apply j6 | apply x7 | ((first | refine j5 (hK _ ?_) | refine x6 (hK _ _ x5 ?_));clear hK K));(first | show AWP _ _ _ _ _ | ((try simp only [j7]);first | show loopQ _ _ _ _ _ _ | show cutQ _ _ _ _ | show AWP _ _ _ _ _))) | ((first | refine x8 [] rfl ?_ | refine j8 [] rfl ?_);simp (disch:=omega) only [go_sem,seval,portD,z13,z14,x14,j13,x13,r1,r2,e];(repeat (first | refine ⟨by omega,?_⟩ | refine ⟨True.intro,?_⟩)))))
     refine z9 ⟨_,?_,rfl⟩;rw [Try.results79];simp (disch:=omega) only [ResVars,ResVar,ptrLoc,go_sem,seval,portD,z13,z14,x14,j13,x13,r1,r2,e]
    ·rw [decide_eq_false h2,Bool.false_and]
     refine x9 Try.func79 rfl (by decide +kernel) (by rw [Try.ntmps79];simp) ?_;rw [Try.ntmps79];simp only [frOf]
     (repeat (first | apply j0 | refine q8 rfl ?_ | refine z8 rfl ?_ | apply z7 | (refine x4 fun K hK => ?_) | (refine j4 fun K hK => ?_) | ((first | apply j6 | apply x7 | ((first | refine j5 (hK _ ?_) | refine x6 (hK _ _ x5 ?_));clear hK K));(first | show AWP _ _ _ _ _ | ((try simp only [j7]);first | show loopQ _ _ _ _ _ _ | show cutQ _ _ _ _ | show AWP _ _ _ _ _))) | ((first | refine x8 [] rfl ?_ | refine j8 [] rfl ?_);simp (disch:=omega) only [go_sem,seval,portD,z13,z14,x14,j13,x13,r1,r2,e];(repeat (first | refine ⟨by omega,?_⟩ | refine ⟨True.intro,?_⟩)))))
     refine z9 ⟨_,?_,rfl⟩;rw [Try.results79];simp (disch:=omega) only [ResVars,ResVar,ptrLoc,go_sem,seval,portD,z13,z14,x14,j13,x13,r1,r2,e]
  ·rw [if_neg h1]
   by_cases h2 : kd = 2
   ·subst h2
    have l2 := hs pe.toNat
    have r3 := q18 t pe.toNat
    have r4 := j22 (t.getD pe.toNat []) at'.toNat
    generalize t.getD pe.toNat [] = qs at r3 r4 l2
    generalize qs.getD at'.toNat p0 = q at r4
    obtain ⟨a,b,c,d,e⟩ := q
    simp only [portD] at r4 ⊢
    have lc := x127 tn co pe at' t.length n qs.length
    by_cases hc : True ∧ tn = 0 ∧ 1 ≤ co ∧ co ≤ 1000 ∧ 0 ≤ pe ∧ pe < (t.length : Int) ∧ pe ≠ (n : Int) ∧ 0 ≤ at' ∧ at' < (qs.length : Int)
    ·rw [if_pos hc]
     obtain ⟨_,c1,c2,c3,c4,c5,c6,c7,c8⟩ := hc
     have e2 := eqI_p2 a b c d e n k co
     clear lc
     subst c1
     refine x9 Try.func79 rfl (by decide +kernel) (by rw [Try.ntmps79];simp) ?_;rw [Try.ntmps79];simp only [frOf]
     (repeat ((fail_if_success (show AWP _ _ (.region 8 _ _) _ _));first | apply j0 | refine q8 rfl ?_ | refine z8 rfl ?_ | apply z7 | (refine x4 fun K hK => ?_) | (refine j4 fun K hK => ?_) | ((first | apply j6 | apply x7 | ((first | refine j5 (hK _ ?_) | refine x6 (hK _ _ x5 ?_));clear hK K));(first | show AWP _ _ _ _ _ | ((try simp only [j7]);first | show loopQ _ _ _ _ _ _ | show cutQ _ _ _ _ | show AWP _ _ _ _ _))) | ((first | refine x8 [] rfl ?_ | refine j8 [] rfl ?_);simp (disch:=omega) only [go_sem,seval,portD,z13,z14,x14,j13,x13,r1,r2,r3,r4,z14,x14,j13,x13];(repeat (first | refine ⟨by omega,?_⟩ | refine ⟨True.intro,?_⟩)))))
     (refine q45 [1,2,3,7] [7] ?_);simp only [AL.keep,AL.look,↓reduceIte,Nat.reduceEqDiff,reduceCtorEq]
     (repeat ((fail_if_success (show AWP _ _ (.region 11 _ _) _ _));first | apply j0 | refine q8 rfl ?_ | refine z8 rfl ?_ | apply z7 | (refine x4 fun K hK => ?_) | (refine j4 fun K hK => ?_) | ((first | apply j6 | apply x7 | ((first | refine j5 (hK _ ?_) | refine x6 (hK _ _ x5 ?_));clear hK K));(first | show AWP _ _ _ _ _ | ((try simp only [j7]);first | show loopQ _ _ _ _ _ _ | show cutQ _ _ _ _ | show AWP _ _ _ _ _))) | ((first | refine x8 [] rfl ?_ | refine j8 [] rfl ?_);simp (disch:=omega) only [go_sem,seval,portD,z13,z14,x14,j13,x13,r1,r2,r3,r4,z14,x14,j13,x13];(repeat (first | refine ⟨by omega,?_⟩ | refine ⟨True.intro,?_⟩)))))
     (refine q45 [1,7,2,8] [7] ?_);simp only [AL.keep,AL.look,↓reduceIte,Nat.reduceEqDiff,reduceCtorEq]
     (repeat (first | apply j0 | refine q8 rfl ?_ | refine z8 rfl ?_ | apply z7 | (refine x4 fun K hK => ?_) | (refine j4 fun K hK => ?_) | ((first | apply j6 | apply x7 | ((first | refine j5 (hK _ ?_) | refine x6 (hK _ _ x5 ?_));clear hK K));(first | show AWP _ _ _ _ _ | ((try simp only [j7]);first | show loopQ _ _ _ _ _ _ | show cutQ _ _ _ _ | show AWP _ _ _ _ _))) | ((first | refine x8 [] rfl ?_ | refine j8 [] rfl ?_);simp (disch:=omega) only [go_sem,seval,portD,z13,z14,x14,j13,x13,r1,r2,r3,r4,z14,x14,j13,x13];(repeat (first | refine ⟨by omega,?_⟩ | refine ⟨True.intro,?_⟩)))))
     refine z9 ⟨_,?_,rfl⟩;rw [Try.results79];simp (disch:=omega) only [ResVars,ResVar,ptrLoc,go_sem,seval,portD,z13,z14,x14,j13,x13,r1,r2,r3,r4,z14,x14,j13,x13]
     rw [e2]
    ·rw [if_neg hc]
     rcases lc with c1 | ⟨c1,c2⟩ | ⟨c1,c2,c3⟩ | ⟨c1,c2,c3,c4⟩ | ⟨c1,c2,c3,c4,c5⟩ | ⟨c1,c2,c3,c4,c5,c6⟩ | ⟨c1,c2,c3,c4,c5,c6,c7⟩ | ⟨c1,c2,c3,c4,c5,c6,c7,c8⟩ | ⟨c1,c2,c3,c4,c5,c6,c7,c8⟩
     case' inr.inr.inr.inr.inr.inr.inr.inr => exact absurd ⟨trivial,c1,by omega,by omega,c4,c5,c6,c7,c8⟩ hc
     all_goals
      clear hc
      refine x9 Try.func79 rfl (by decide +kernel) (by rw [Try.ntmps79];simp) ?_;rw [Try.ntmps79];simp only [frOf]
      (repeat ((fail_if_success (show AWP _ _ (.region 8 _ _) _ _));first | apply j0 | refine q8 rfl ?_ | refine z8 rfl ?_ | apply z7 | (refine x4 fun K hK => ?_) | (refine j4 fun K hK => ?_) | ((first | apply j6 | apply x7 | ((first | refine j5 (hK _ ?_) | refine x6 (hK _ _ x5 ?_));clear hK K));(first | show AWP _ _ _ _ _ | ((try simp only [j7]);first | show loopQ _ _ _ _ _ _ | show cutQ _ _ _ _ | show AWP _ _ _ _ _))) | ((first | refine x8 [] rfl ?_ | refine j8 [] rfl ?_);simp (disch:=omega) only [go_sem,seval,portD,z13,z14,x14,j13,x13,r1,r2,r3,r4,z14,x14,j13,x13];(repeat (first | refine ⟨by omega,?_⟩ | refine ⟨True.intro,?_⟩)))))
      (refine q45 [1,2,3,7] [7] ?_);simp only [AL.keep,AL.look,↓reduceIte,Nat.reduceEqDiff,reduceCtorEq]
      (repeat (first | apply j0 | refine q8 rfl ?_ | refine z8 rfl ?_ | apply z7 | (refine x4 fun K hK => ?_) | (refine j4 fun K hK => ?_) | ((first | apply j6 | apply x7 | ((first | refine j5 (hK _ ?_) | refine x6 (hK _ _ x5 ?_));clear hK K));(first | show AWP _ _ _ _ _ | ((try simp only [j7]);first | show loopQ _ _ _ _ _ _ | show cutQ _ _ _ _ | show AWP _ _ _ _ _))) | ((first | refine x8 [] rfl ?_ | refine j8 [] rfl ?_);simp (disch:=omega) only [go_sem,seval,portD,z13,z14,x14,j13,x13,r1,r2,r3,r4,z14,x14,j13,x13];(repeat (first | refine ⟨by omega,?_⟩ | refine ⟨True.intro,?_⟩)))))
      refine z9 ⟨_,?_,rfl⟩;rw [Try.results79];simp (disch:=omega) only [ResVars,ResVar,ptrLoc,go_sem,seval,portD,z13,z14,x14,j13,x13,r1,r2,r3,r4,z14,x14,j13,x13]
   ·rw [if_neg (fun h => h2 h.1)]
    refine x9 Try.func79 rfl (by decide +kernel) (by rw [Try.ntmps79];simp) ?_;rw [Try.ntmps79];simp only [frOf]
    (repeat (first | apply j0 | refine q8 rfl ?_ | refine z8 rfl ?_ | apply z7 | (refine x4 fun K hK => ?_) | (refine j4 fun K hK => ?_) | ((first | apply j6 | apply x7 | ((first | refine j5 (hK _ ?_) | refine x6 (hK _ _ x5 ?_));clear hK K));(first | show AWP _ _ _ _ _ | ((try simp only [j7]);first | show loopQ _ _ _ _ _ _ | show cutQ _ _ _ _ | show AWP _ _ _ _ _))) | ((first | refine x8 [] rfl ?_ | refine j8 [] rfl ?_);simp (disch:=omega) only [go_sem,seval,portD,z13,z14,x14,j13,x13,r1,r2];(repeat (first | refine ⟨by omega,?_⟩ | refine ⟨True.intro,?_⟩)))))
    refine z9 ⟨_,?_,rfl⟩;rw [Try.results79];simp (disch:=omega) only [ResVars,ResVar,ptrLoc,go_sem,seval,portD,z13,z14,x14,j13,x13,r1,r2]
def allF (f : Nat → Bool) (n i : Nat) : Bool := (List.range' i (n - i)).all f
theorem j14 {f : Nat → Bool} {n i : Nat} (h : i < n) : allF f n i = (f i && allF f n (i + 1)) := by
 unfold allF
 rw [show n - i = (n - (i + 1)) + 1 by omega,List.range'_succ,List.all_cons]
theorem q15 {f : Nat → Bool} {n i : Nat} (h : n ≤ i) : allF f n i = true := by
 unfold allF
 rw [show n - i = 0 by omega];rfl
theorem x58 {f : Nat → Bool} {n i : Nat} : allF f n i = true ↔ ∀ k,i ≤ k → k < n → f k = true := by
 unfold allF
 rw [List.all_eq_true]
 constructor
 ·intro h k h1 h2
  exact h k (by rw [List.mem_range'_1];omega)
 ·intro h k hk
  rw [List.mem_range'_1] at hk
  exact h k hk.1 (by omega)
def lensT (t : List (List Port)) (i : Nat) : Bool := decide ((t.getD i []).length ≤ 6)
def portsT (t : List (List Port)) (n : Nat) : Bool := allF (portT t n) (t.getD n []).length 0
def soundT (t : List (List Port)) : Int := if t.length = 0 ∨ 6 < t.length then 4 else if allF (lensT t) t.length 0 = false then 4 else if allF (portsT t) t.length 0 = true then 0 else 2
def soundTI (t : List (List Port)) (B : Bool) (s : {i : Nat // i ≤ t.length ∧ allF (lensT t) t.length i = B}) : ASt :=
 ⟨[(21,.p (.d (.v (.int .i64 (s.val : Int))))),(20,.p (.d (.v (.int .i64 (t.length : Int))))),(19,.p (.d (.sl 1 t.length (rowPP t)))),(1,.p (.d (.bx (topoD t))))],[]⟩
def soundTJ (t : List (List Port)) (R : Int) (s : {i : Nat // i ≤ t.length ∧ (if allF (portsT t) t.length i = true then 0 else 2) = R}) : ASt :=
 ⟨[(32,.p (.d (.v (.int .i64 (s.val : Int))))),(31,.p (.d (.v (.int .i64 (t.length : Int))))),(30,.p (.d (.sl 1 t.length (rowPP t)))),(1,.p (.d (.bx (topoD t))))],[]⟩
def soundTK (t : List (List Port)) (R : Int) (i : Nat) (l : List Port) (s : {k : Nat // k ≤ l.length ∧ (if (allF (portT t i) l.length k && allF (portsT t) t.length (i + 1)) = true then 0 else 2) = R}) : ASt :=
 ⟨[(39,.p (.d (.v (.int .i64 (s.val : Int))))),(38,.p (.d (.v (.int .i64 (l.length : Int))))),(32,.p (.d (.v (.int .i64 (i : Int))))),(31,.p (.d (.v (.int .i64 (t.length : Int))))),(30,.p (.d (.sl 1 t.length (rowPP t)))),(5,.p (.d (.v (.int .i64 (i : Int))))),(1,.p (.d (.bx (topoD t))))],[]⟩
set_option maxRecDepth 100000 in
theorem j127 (t : List (List Port)) (ht : small t) : ACalls Try.prog 59 [.agg (topoD t)] (· = [.d (.v (.int .i64 (soundT t)))]) := by
 have hs := j16 ht
 have ht1 := ht.1
 unfold soundT
 by_cases h0 : t.length = 0
 ·rw [if_pos (.inl h0)]
  have q : ((t.length : Int) == 0) = true := x14 (by omega)
  refine x9 Try.func59 rfl (by decide +kernel) (by rw [Try.ntmps59];simp) ?_;rw [Try.ntmps59];simp only [frOf]
  (repeat (first | apply j0 | refine q8 rfl ?_ | refine z8 rfl ?_ | apply z7 | (refine x4 fun K hK => ?_) | (refine j4 fun K hK => ?_) | ((first | apply j6 | apply x7 | ((first | refine j5 (hK _ ?_) | refine x6 (hK _ _ x5 ?_));clear hK K));(first | show AWP _ _ _ _ _ | ((try simp only [j7]);first | show loopQ _ _ _ _ _ _ | show cutQ _ _ _ _ | show AWP _ _ _ _ _))) | ((first | refine x8 [] rfl ?_ | refine j8 [] rfl ?_);simp (disch:=omega) only [go_sem,seval,portD,topoD,spotD,q];(repeat (first | refine ⟨by omega,?_⟩ | refine ⟨True.intro,?_⟩)))))
  refine z9 ⟨_,?_,rfl⟩;rw [Try.results59];simp (disch:=omega) only [ResVars,ResVar,ptrLoc,go_sem,seval,portD,topoD,spotD,q]
 ·have q : ((t.length : Int) == 0) = false := z14 (by omega)
  by_cases h6 : 6 < t.length
  ·rw [if_pos (.inr h6)]
   refine x9 Try.func59 rfl (by decide +kernel) (by rw [Try.ntmps59];simp) ?_;rw [Try.ntmps59];simp only [frOf]
   (repeat (first | apply j0 | refine q8 rfl ?_ | refine z8 rfl ?_ | apply z7 | (refine x4 fun K hK => ?_) | (refine j4 fun K hK => ?_) | ((first | apply j6 | apply x7 | ((first | refine j5 (hK _ ?_) | refine x6 (hK _ _ x5 ?_));clear hK K));(first | show AWP _ _ _ _ _ | ((try simp only [j7]);first | show loopQ _ _ _ _ _ _ | show cutQ _ _ _ _ | show AWP _ _ _ _ _))) | ((first | refine x8 [] rfl ?_ | refine j8 [] rfl ?_);simp (disch:=omega) only [go_sem,seval,portD,topoD,spotD,q];(repeat (first | refine ⟨by omega,?_⟩ | refine ⟨True.intro,?_⟩)))))
   refine z9 ⟨_,?_,rfl⟩;rw [Try.results59];simp (disch:=omega) only [ResVars,ResVar,ptrLoc,go_sem,seval,portD,topoD,spotD,q]
  ·rw [if_neg (by omega)]
   generalize hB : allF (lensT t) t.length 0 = B
   generalize hR : (if allF (portsT t) t.length 0 = true then (0 : Int) else 2) = R
   refine x9 Try.func59 rfl (by decide +kernel) (by rw [Try.ntmps59];simp) ?_;rw [Try.ntmps59];simp only [frOf]
   (repeat (first | apply j0 | refine q8 rfl ?_ | refine z8 rfl ?_ | apply z7 | (refine x4 fun K hK => ?_) | (refine j4 fun K hK => ?_) | ((first | apply j6 | apply x7 | ((first | refine j5 (hK _ ?_) | refine x6 (hK _ _ x5 ?_));clear hK K));(first | show AWP _ _ _ _ _ | ((try simp only [j7]);first | show loopQ _ _ _ _ _ _ | show cutQ _ _ _ _ | show AWP _ _ _ _ _))) | ((first | refine x8 [] rfl ?_ | refine j8 [] rfl ?_);simp (disch:=omega) only [go_sem,seval,portD,topoD,spotD,q];(repeat (first | refine ⟨by omega,?_⟩ | refine ⟨True.intro,?_⟩)))))
   refine x12 (soundTI t B) (fun s => t.length - s.val) ⟨0,Nat.zero_le _,hB⟩ ?_ (fun s => ?_)
   ·unfold soundTI
    refine Weak.list ?_ ?_;(all_goals simp (disch:=omega) only [AllF,AllL,j10,q11,x10,exists_eq_left',go_sem,seval,portD,topoD,spotD]);(all_goals (repeat' (with_reducible apply And.intro)));(all_goals try (first | exact q9 rfl | (refine z11 ?_;omega) | (refine q9 ?_;simp;done)))
   obtain ⟨i,hi,hb⟩ := s
   unfold soundTI
   simp only [] at hi hb ⊢
   by_cases h : i < t.length
   ·rw [j14 h] at hb
    unfold lensT at hb
    have r1 := q18 t i
    generalize t.getD i [] = l at r1 hb
    by_cases h7 : 6 < l.length
    ·rw [decide_eq_false (by omega),Bool.false_and] at hb
     subst hb
     rw [if_pos rfl]
     (repeat (first | apply j0 | refine q8 rfl ?_ | refine z8 rfl ?_ | apply z7 | (refine x4 fun K hK => ?_) | (refine j4 fun K hK => ?_) | ((first | apply j6 | apply x7 | ((first | refine j5 (hK _ ?_) | refine x6 (hK _ _ x5 ?_));clear hK K));(first | show AWP _ _ _ _ _ | ((try simp only [j7]);first | show loopQ _ _ _ _ _ _ | show cutQ _ _ _ _ | show AWP _ _ _ _ _))) | ((first | refine x8 [] rfl ?_ | refine j8 [] rfl ?_);simp (disch:=omega) only [go_sem,seval,portD,topoD,spotD,r1];(repeat (first | refine ⟨by omega,?_⟩ | refine ⟨True.intro,?_⟩)))))
     refine z9 ⟨_,?_,rfl⟩;rw [Try.results59];simp (disch:=omega) only [ResVars,ResVar,ptrLoc,go_sem,seval,portD,topoD,spotD,r1]
    ·rw [decide_eq_true (by omega),Bool.true_and] at hb
     (repeat (first | apply j0 | refine q8 rfl ?_ | refine z8 rfl ?_ | apply z7 | (refine x4 fun K hK => ?_) | (refine j4 fun K hK => ?_) | ((first | apply j6 | apply x7 | ((first | refine j5 (hK _ ?_) | refine x6 (hK _ _ x5 ?_));clear hK K));(first | show AWP _ _ _ _ _ | ((try simp only [j7]);first | show loopQ _ _ _ _ _ _ | show cutQ _ _ _ _ | show AWP _ _ _ _ _))) | ((first | refine x8 [] rfl ?_ | refine j8 [] rfl ?_);simp (disch:=omega) only [go_sem,seval,portD,topoD,spotD,r1];(repeat (first | refine ⟨by omega,?_⟩ | refine ⟨True.intro,?_⟩)))))
     refine ⟨⟨i + 1,by omega,hb⟩,by simp only [];omega,?_⟩
     refine Weak.list ?_ ?_;(all_goals simp (disch:=omega) only [AllF,AllL,j10,q11,x10,exists_eq_left',go_sem,seval,portD,topoD,spotD,r1]);(all_goals (repeat' (with_reducible apply And.intro)));(all_goals try (first | exact q9 rfl | (refine z11 ?_;omega) | (refine q9 ?_;simp;done)))
   ·rw [q15 (by omega)] at hb
    subst hb
    rw [if_neg (by decide)]
    (repeat (first | apply j0 | refine q8 rfl ?_ | refine z8 rfl ?_ | apply z7 | (refine x4 fun K hK => ?_) | (refine j4 fun K hK => ?_) | ((first | apply j6 | apply x7 | ((first | refine j5 (hK _ ?_) | refine x6 (hK _ _ x5 ?_));clear hK K));(first | show AWP _ _ _ _ _ | ((try simp only [j7]);first | show loopQ _ _ _ _ _ _ | show cutQ _ _ _ _ | show AWP _ _ _ _ _))) | ((first | refine x8 [] rfl ?_ | refine j8 [] rfl ?_);simp (disch:=omega) only [go_sem,seval,portD,topoD,spotD];(repeat (first | refine ⟨by omega,?_⟩ | refine ⟨True.intro,?_⟩)))))
    refine x12 (soundTJ t R) (fun s => t.length - s.val) ⟨0,Nat.zero_le _,hR⟩ ?_ (fun s => ?_)
    ·unfold soundTJ
     refine Weak.list ?_ ?_;(all_goals simp (disch:=omega) only [AllF,AllL,j10,q11,x10,exists_eq_left',go_sem,seval,portD,topoD,spotD]);(all_goals (repeat' (with_reducible apply And.intro)));(all_goals try (first | exact q9 rfl | (refine z11 ?_;omega) | (refine q9 ?_;simp;done)))
    clear hb hi h i
    obtain ⟨i,hi,hr⟩ := s
    unfold soundTJ
    simp only [] at hi hr ⊢
    by_cases h : i < t.length
    ·rw [j14 h] at hr
     have hp : portsT t i = allF (portT t i) (t.getD i []).length 0 := rfl
     rw [hp] at hr
     have hc := fun k (hk : k < (t.getD i []).length) => portT_c t i k ht h hk
     have r1 := q18 t i
     have l1 := hs i
     generalize t.getD i [] = l at r1 hr hc l1
     (repeat (first | apply j0 | refine q8 rfl ?_ | refine z8 rfl ?_ | apply z7 | (refine x4 fun K hK => ?_) | (refine j4 fun K hK => ?_) | ((first | apply j6 | apply x7 | ((first | refine j5 (hK _ ?_) | refine x6 (hK _ _ x5 ?_));clear hK K));(first | show AWP _ _ _ _ _ | ((try simp only [j7]);first | show loopQ _ _ _ _ _ _ | show cutQ _ _ _ _ | show AWP _ _ _ _ _))) | ((first | refine x8 [] rfl ?_ | refine j8 [] rfl ?_);simp (disch:=omega) only [go_sem,seval,portD,topoD,spotD,r1];(repeat (first | refine ⟨by omega,?_⟩ | refine ⟨True.intro,?_⟩)))))
     refine x12 (soundTK t R i l) (fun s => l.length - s.val) ⟨0,Nat.zero_le _,hr⟩ ?_ (fun s => ?_)
     ·unfold soundTK
      refine Weak.list ?_ ?_;(all_goals simp (disch:=omega) only [AllF,AllL,j10,q11,x10,exists_eq_left',go_sem,seval,portD,topoD,spotD]);(all_goals (repeat' (with_reducible apply And.intro)));(all_goals try (first | exact q9 rfl | (refine z11 ?_;omega) | (refine q9 ?_;simp;done)))
     clear hr
     obtain ⟨k,hk,hr⟩ := s
     unfold soundTK
     simp only [] at hk hr ⊢
     by_cases h2 : k < l.length
     ·have c := hc k h2
      rw [j14 h2] at hr
      generalize portT t i k = b at hr c
      simp only [topoD] at c
      cases b
      ·simp only [Bool.false_and,Bool.false_eq_true,if_false] at hr
       subst hr
       (repeat (first | apply j0 | refine q8 rfl ?_ | refine z8 rfl ?_ | apply z7 | (refine x4 fun K hK => ?_) | (refine j4 fun K hK => ?_) | ((first | apply j6 | apply x7 | ((first | refine j5 (hK _ ?_) | refine x6 (hK _ _ x5 ?_));clear hK K));(first | show AWP _ _ _ _ _ | ((try simp only [j7]);first | show loopQ _ _ _ _ _ _ | show cutQ _ _ _ _ | show AWP _ _ _ _ _))) | ((first | refine q10 rfl rfl rfl ?_ | refine z10 rfl rfl rfl ?_);simp (disch:=omega) only [go_sem,seval,portD,topoD,spotD];(first | refine ⟨_,c,?_⟩)) | ((first | refine x8 [] rfl ?_ | refine j8 [] rfl ?_);simp (disch:=omega) only [go_sem,seval,portD,topoD,spotD];(repeat (first | refine ⟨by omega,?_⟩ | refine ⟨True.intro,?_⟩)))))
       refine z9 ⟨_,?_,rfl⟩;rw [Try.results59];simp (disch:=omega) only [ResVars,ResVar,ptrLoc,go_sem,seval,portD,topoD,spotD]
      ·rw [Bool.true_and] at hr
       (repeat (first | apply j0 | refine q8 rfl ?_ | refine z8 rfl ?_ | apply z7 | (refine x4 fun K hK => ?_) | (refine j4 fun K hK => ?_) | ((first | apply j6 | apply x7 | ((first | refine j5 (hK _ ?_) | refine x6 (hK _ _ x5 ?_));clear hK K));(first | show AWP _ _ _ _ _ | ((try simp only [j7]);first | show loopQ _ _ _ _ _ _ | show cutQ _ _ _ _ | show AWP _ _ _ _ _))) | ((first | refine q10 rfl rfl rfl ?_ | refine z10 rfl rfl rfl ?_);simp (disch:=omega) only [go_sem,seval,portD,topoD,spotD];(first | refine ⟨_,c,?_⟩)) | ((first | refine x8 [] rfl ?_ | refine j8 [] rfl ?_);simp (disch:=omega) only [go_sem,seval,portD,topoD,spotD];(repeat (first | refine ⟨by omega,?_⟩ | refine ⟨True.intro,?_⟩)))))
       refine ⟨⟨k + 1,by omega,hr⟩,by simp only [];omega,?_⟩
       refine Weak.list ?_ ?_;(all_goals simp (disch:=omega) only [AllF,AllL,j10,q11,x10,exists_eq_left',go_sem,seval,portD,topoD,spotD]);(all_goals (repeat' (with_reducible apply And.intro)));(all_goals try (first | exact q9 rfl | (refine z11 ?_;omega) | (refine q9 ?_;simp;done)))
     ·rw [q15 (show l.length ≤ k by omega),Bool.true_and] at hr
      (repeat (first | apply j0 | refine q8 rfl ?_ | refine z8 rfl ?_ | apply z7 | (refine x4 fun K hK => ?_) | (refine j4 fun K hK => ?_) | ((first | apply j6 | apply x7 | ((first | refine j5 (hK _ ?_) | refine x6 (hK _ _ x5 ?_));clear hK K));(first | show AWP _ _ _ _ _ | ((try simp only [j7]);first | show loopQ _ _ _ _ _ _ | show cutQ _ _ _ _ | show AWP _ _ _ _ _))) | ((first | refine x8 [] rfl ?_ | refine j8 [] rfl ?_);simp (disch:=omega) only [go_sem,seval,portD,topoD,spotD];(repeat (first | refine ⟨by omega,?_⟩ | refine ⟨True.intro,?_⟩)))))
      refine ⟨⟨i + 1,by omega,hr⟩,by simp only [];omega,?_⟩
      refine Weak.list ?_ ?_;(all_goals simp (disch:=omega) only [AllF,AllL,j10,q11,x10,exists_eq_left',go_sem,seval,portD,topoD,spotD]);(all_goals (repeat' (with_reducible apply And.intro)));(all_goals try (first | exact q9 rfl | (refine z11 ?_;omega) | (refine q9 ?_;simp;done)))
    ·rw [q15 (by omega),if_pos rfl] at hr
     subst hr
     (repeat (first | apply j0 | refine q8 rfl ?_ | refine z8 rfl ?_ | apply z7 | (refine x4 fun K hK => ?_) | (refine j4 fun K hK => ?_) | ((first | apply j6 | apply x7 | ((first | refine j5 (hK _ ?_) | refine x6 (hK _ _ x5 ?_));clear hK K));(first | show AWP _ _ _ _ _ | ((try simp only [j7]);first | show loopQ _ _ _ _ _ _ | show cutQ _ _ _ _ | show AWP _ _ _ _ _))) | ((first | refine x8 [] rfl ?_ | refine j8 [] rfl ?_);simp (disch:=omega) only [go_sem,seval,portD,topoD,spotD];(repeat (first | refine ⟨by omega,?_⟩ | refine ⟨True.intro,?_⟩)))))
     refine z9 ⟨_,?_,rfl⟩;rw [Try.results59];simp (disch:=omega) only [ResVars,ResVar,ptrLoc,go_sem,seval,portD,topoD,spotD]
def edgeRow (ps : List Port) (n : Nat) : Nat → List Spot
 | 0 => []
 | k + 1 => edgeRow ps n k ++ if (ps.getD k p0).kd = 1 then [⟨n,k⟩] else []
def edgesTo (t : List (List Port)) : Nat → List Spot
 | 0 => []
 | n + 1 => edgesTo t n ++ edgeRow (t.getD n []) n (t.getD n []).length
def edgesT (t : List (List Port)) : List Spot := edgesTo t t.length
theorem j58 (ps : List Port) (n : Nat) : ∀ k,(edgeRow ps n k).length ≤ k
 | 0 => Nat.le_refl _
 |k + 1 => by
  have := j58 ps n k
  unfold edgeRow
  rw [List.length_append]
  split <;> simp <;> omega
theorem x38 {t : List (List Port)} (h : small t) : ∀ n,(edgesTo t n).length ≤ n * 1048576
 | 0 => Nat.le_refl _
 |n + 1 => by
  have h1 := x38 h n
  have h2 := j58 (t.getD n []) n (t.getD n []).length
  have h3 := j16 h n
  unfold edgesTo
  rw [List.length_append]
  omega
theorem q82 {ps : List Port} {n : Nat} {s : Spot} : ∀ {k : Nat},s ∈ edgeRow ps n k ↔ ∃ j,j < k ∧ (ps.getD j p0).kd = 1 ∧ s = ⟨n,j⟩
 | 0 => by simp [edgeRow]
 |k + 1 => by
  unfold edgeRow
  rw [List.mem_append,q82 (k := k)]
  constructor
  ·rintro (⟨j,h1,h2,h3⟩ | h)
   ·exact ⟨j,by omega,h2,h3⟩
   ·split at h
    ·rename_i hk
     exact ⟨k,by omega,hk,by simpa using h⟩
    ·simp at h
  ·rintro ⟨j,h1,h2,h3⟩
   by_cases hj : j = k
   ·subst hj
    right
    rw [if_pos h2]
    simp [h3]
   ·exact .inl ⟨j,by omega,h2,h3⟩
theorem q59 {t : List (List Port)} {s : Spot} : ∀ {n : Nat},s ∈ edgesTo t n ↔ ∃ i j,i < n ∧ j < (t.getD i []).length ∧ ((t.getD i []).getD j p0).kd = 1 ∧ s = ⟨i,j⟩
 | 0 => by simp [edgesTo]
 |n + 1 => by
  unfold edgesTo
  rw [List.mem_append,q59 (n := n),q82]
  constructor
  ·rintro (⟨i,j,h1,h2⟩ | ⟨j,h1,h2,h3⟩)
   ·exact ⟨i,j,by omega,h2⟩
   ·exact ⟨n,j,by omega,h1,h2,h3⟩
  ·rintro ⟨i,j,h1,h2,h3,h4⟩
   by_cases hi : i = n
   ·subst hi
    exact .inr ⟨j,h2,h3,h4⟩
   ·exact .inl ⟨i,j,by omega,h2,h3,h4⟩
def edgeT (t : List (List Port)) (s : Spot) : Int :=
 if s.sw < 0 ∨ (t.length : Int) ≤ s.sw then -1 else if s.po < 0 ∨ ((t.getD s.sw.toNat []).length : Int) ≤ s.po then -1 else
 if ((t.getD s.sw.toNat []).getD s.po.toNat p0).kd = 1 then ((t.getD s.sw.toNat []).getD s.po.toNat p0).tn else -1
def edgesI (t : List (List Port)) (s : {s : Nat × List Spot // s.1 ≤ t.length ∧ s.2 = edgesTo t s.1}) : ASt :=
 ⟨[(11,.p (.d (.v (.int .i64 (s.val.1 : Int))))),(10,.p (.d (.v (.int .i64 (t.length : Int))))),(9,.p (.d (.sl 1 t.length (rowPP t)))),(3,.gr 3 s.val.2.length 2 s.val.2.length (rowS s.val.2)),(1,.p (.d (.bx (topoD t))))],
  [(3,.grow 92 2 s.val.2.length s.val.2.length)]⟩
def edgesJ (t : List (List Port)) (l : List Port) (n : Nat) (s : {s : Nat × List Spot // s.1 ≤ l.length ∧ s.2 = edgesTo t n ++ edgeRow l n s.1}) : ASt :=
 ⟨[(18,.p (.d (.v (.int .i64 (s.val.1 : Int))))),(17,.p (.d (.v (.int .i64 (l.length : Int))))),(16,.p (.d (.sl 5 l.length (rowP l)))),(11,.p (.d (.v (.int .i64 (n : Int))))),(10,.p (.d (.v (.int .i64 (t.length : Int))))),(9,.p (.d (.sl 1 t.length (rowPP t)))),(4,.p (.d (.v (.int .i64 (n : Int))))),(3,.gr 3 s.val.2.length 2 s.val.2.length (rowS s.val.2)),(1,.p (.d (.bx (topoD t))))],
  [(3,.grow 92 2 s.val.2.length s.val.2.length)]⟩
set_option maxRecDepth 100000 in
theorem z82 (t : List (List Port)) (ht : small t) : ACalls Try.prog 55 [.agg (topoD t)] (· = [.d (.sl 2 (edgesT t).length (rowS (edgesT t)))]) := by
 have ht1 := ht.1
 unfold edgesT
 refine x9 Try.func55 rfl (by decide +kernel) (by rw [Try.ntmps55];simp) ?_;rw [Try.ntmps55];simp only [frOf]
 (repeat ((fail_if_success (show AWP _ _ (.region 2 _ _) _ _));first | apply j0 | refine q8 rfl ?_ | refine z8 rfl ?_ | apply z7 | (refine x4 fun K hK => ?_) | (refine j4 fun K hK => ?_) | ((first | apply j6 | apply x7 | ((first | refine j5 (hK _ ?_) | refine x6 (hK _ _ x5 ?_));clear hK K));(first | show AWP _ _ _ _ _ | ((try simp only [j7]);first | show loopQ _ _ _ _ _ _ | show cutQ _ _ _ _ | show AWP _ _ _ _ _))) | ((first | refine x8 [] rfl ?_ | refine j8 [] rfl ?_);simp (disch:=omega) only [go_sem,seval,portD,topoD,spotD];(repeat (first | refine ⟨by omega,?_⟩ | refine ⟨True.intro,?_⟩)))))
 refine q28 3 3 2 92 (rowS []) rfl (by kernel_rfl) rfl ?_
 (repeat (first | apply j0 | refine q8 rfl ?_ | refine z8 rfl ?_ | apply z7 | (refine x4 fun K hK => ?_) | (refine j4 fun K hK => ?_) | ((first | apply j6 | apply x7 | ((first | refine j5 (hK _ ?_) | refine x6 (hK _ _ x5 ?_));clear hK K));(first | show AWP _ _ _ _ _ | ((try simp only [j7]);first | show loopQ _ _ _ _ _ _ | show cutQ _ _ _ _ | show AWP _ _ _ _ _))) | ((first | refine x8 [] rfl ?_ | refine j8 [] rfl ?_);simp (disch:=omega) only [go_sem,seval,portD,topoD,spotD];(repeat (first | refine ⟨by omega,?_⟩ | refine ⟨True.intro,?_⟩)))))
 refine x12 (edgesI t) (fun s => t.length - s.val.1) ⟨(0,[]),Nat.zero_le _,rfl⟩ ?_ (fun s => ?_)
 ·unfold edgesI
  refine Weak.list ?_ ?_;(all_goals simp (disch:=omega) only [AllF,AllL,j10,q11,x10,exists_eq_left',go_sem,seval,portD,topoD,spotD]);(all_goals (repeat' (with_reducible apply And.intro)));(all_goals try (first | exact q9 rfl | (refine z11 ?_;omega) | (refine q9 ?_;simp;done)))
 obtain ⟨⟨n,out⟩,hn,ho⟩ := s
 unfold edgesI
 simp only [] at hn ho ⊢
 by_cases h : n < t.length
 ·have l1 := j16 ht n
  have b1 := x38 ht n
  have r1 := q18 t n
  have st : edgesTo t (n + 1) = edgesTo t n ++ edgeRow (t.getD n []) n (t.getD n []).length := rfl
  rw [← ho] at b1
  generalize t.getD n [] = l at r1 l1 st
  (repeat (first | apply j0 | refine q8 rfl ?_ | refine z8 rfl ?_ | apply z7 | (refine x4 fun K hK => ?_) | (refine j4 fun K hK => ?_) | ((first | apply j6 | apply x7 | ((first | refine j5 (hK _ ?_) | refine x6 (hK _ _ x5 ?_));clear hK K));(first | show AWP _ _ _ _ _ | ((try simp only [j7]);first | show loopQ _ _ _ _ _ _ | show cutQ _ _ _ _ | show AWP _ _ _ _ _))) | ((first | refine x8 [] rfl ?_ | refine j8 [] rfl ?_);simp (disch:=omega) only [go_sem,seval,portD,topoD,spotD,r1];(repeat (first | refine ⟨by omega,?_⟩ | refine ⟨True.intro,?_⟩)))))
  refine x12 (edgesJ t l n) (fun s => l.length - s.val.1) ⟨(0,out),Nat.zero_le _,by rw [ho];simp [edgeRow]⟩ ?_ (fun s => ?_)
  ·unfold edgesJ
   refine Weak.list ?_ ?_;(all_goals simp (disch:=omega) only [AllF,AllL,j10,q11,x10,exists_eq_left',go_sem,seval,portD,topoD,spotD]);(all_goals (repeat' (with_reducible apply And.intro)));(all_goals try (first | exact q9 rfl | (refine z11 ?_;omega) | (refine q9 ?_;simp;done)))
  clear b1
  obtain ⟨⟨k,out⟩,hk,ho⟩ := s
  unfold edgesJ
  simp only [] at hk ho ⊢
  have b1 := x38 ht n
  have b2 := j58 l n k
  have b3 : out.length = (edgesTo t n).length + (edgeRow l n k).length := by rw [ho,List.length_append]
  by_cases h2 : k < l.length
  ·have r2 := j22 l k
   have so : edgesTo t n ++ edgeRow l n (k + 1) = out ++ if (l.getD k p0).kd = 1 then [⟨n,k⟩] else [] := by
    rw [ho,List.append_assoc];rfl
   generalize l.getD k p0 = p at r2 so
   obtain ⟨kd,tn,pe,at',co⟩ := p
   simp only [portD] at r2 so
   by_cases h5 : kd = 1
   ·subst h5
    rw [if_pos rfl] at so
    (repeat (first | apply j0 | refine q8 rfl ?_ | refine z8 rfl ?_ | apply z7 | (refine x4 fun K hK => ?_) | (refine j4 fun K hK => ?_) | ((first | apply j6 | apply x7 | ((first | refine j5 (hK _ ?_) | refine x6 (hK _ _ x5 ?_));clear hK K));(first | show AWP _ _ _ _ _ | ((try simp only [j7]);first | show loopQ _ _ _ _ _ _ | show cutQ _ _ _ _ | show AWP _ _ _ _ _))) | ((first | refine x8 [] rfl ?_ | refine j8 [] rfl ?_);simp (disch:=omega) only [go_sem,seval,portD,topoD,spotD,r2];(repeat (first | refine ⟨by omega,?_⟩ | refine ⟨True.intro,?_⟩)))))
    refine ⟨⟨(k + 1,out ++ [⟨n,k⟩]),by simp only [];omega,so.symm⟩,by simp only [];omega,?_⟩
    refine Weak.list ?_ ?_;(all_goals simp (disch:=omega) only [AllF,AllL,j10,q11,x10,exists_eq_left',go_sem,seval,portD,topoD,spotD,r2]);(all_goals (repeat' (with_reducible apply And.intro)));(all_goals try (first | exact q9 rfl | (refine z11 ?_;omega) | (refine q9 ?_;simp;done)))
    ·exact j19 (by simp) (by simp) (fun j hj => j125 spotD s0 out ⟨n,k⟩ _ rfl j hj)
    ·exact j118 (by simp) (by simp)
   ·rw [if_neg h5,List.append_nil] at so
    have q : (kd == 1) = false := z14 h5
    (repeat (first | apply j0 | refine q8 rfl ?_ | refine z8 rfl ?_ | apply z7 | (refine x4 fun K hK => ?_) | (refine j4 fun K hK => ?_) | ((first | apply j6 | apply x7 | ((first | refine j5 (hK _ ?_) | refine x6 (hK _ _ x5 ?_));clear hK K));(first | show AWP _ _ _ _ _ | ((try simp only [j7]);first | show loopQ _ _ _ _ _ _ | show cutQ _ _ _ _ | show AWP _ _ _ _ _))) | ((first | refine x8 [] rfl ?_ | refine j8 [] rfl ?_);simp (disch:=omega) only [go_sem,seval,portD,topoD,spotD,r2,q];(repeat (first | refine ⟨by omega,?_⟩ | refine ⟨True.intro,?_⟩)))))
    refine ⟨⟨(k + 1,out),by simp only [];omega,so.symm⟩,by simp only [];omega,?_⟩
    refine Weak.list ?_ ?_;(all_goals simp (disch:=omega) only [AllF,AllL,j10,q11,x10,exists_eq_left',go_sem,seval,portD,topoD,spotD,r2,q]);(all_goals (repeat' (with_reducible apply And.intro)));(all_goals try (first | exact q9 rfl | (refine z11 ?_;omega) | (refine q9 ?_;simp;done)))
  ·have : k = l.length := by omega
   subst this
   (repeat (first | apply j0 | refine q8 rfl ?_ | refine z8 rfl ?_ | apply z7 | (refine x4 fun K hK => ?_) | (refine j4 fun K hK => ?_) | ((first | apply j6 | apply x7 | ((first | refine j5 (hK _ ?_) | refine x6 (hK _ _ x5 ?_));clear hK K));(first | show AWP _ _ _ _ _ | ((try simp only [j7]);first | show loopQ _ _ _ _ _ _ | show cutQ _ _ _ _ | show AWP _ _ _ _ _))) | ((first | refine x8 [] rfl ?_ | refine j8 [] rfl ?_);simp (disch:=omega) only [go_sem,seval,portD,topoD,spotD];(repeat (first | refine ⟨by omega,?_⟩ | refine ⟨True.intro,?_⟩)))))
   refine ⟨⟨(n + 1,out),by simp only [];omega,by rw [st];exact ho⟩,by simp only [];omega,?_⟩
   refine Weak.list ?_ ?_;(all_goals simp (disch:=omega) only [AllF,AllL,j10,q11,x10,exists_eq_left',go_sem,seval,portD,topoD,spotD]);(all_goals (repeat' (with_reducible apply And.intro)));(all_goals try (first | exact q9 rfl | (refine z11 ?_;omega) | (refine q9 ?_;simp;done)))
 ·have : n = t.length := by omega
  subst this
  subst ho
  (repeat ((fail_if_success (show AWP _ _ (.region 12 _ _) _ _));first | apply j0 | refine q8 rfl ?_ | refine z8 rfl ?_ | apply z7 | (refine x4 fun K hK => ?_) | (refine j4 fun K hK => ?_) | ((first | apply j6 | apply x7 | ((first | refine j5 (hK _ ?_) | refine x6 (hK _ _ x5 ?_));clear hK K));(first | show AWP _ _ _ _ _ | ((try simp only [j7]);first | show loopQ _ _ _ _ _ _ | show cutQ _ _ _ _ | show AWP _ _ _ _ _))) | ((first | refine x8 [] rfl ?_ | refine j8 [] rfl ?_);simp (disch:=omega) only [go_sem,seval,portD,topoD,spotD];(repeat (first | refine ⟨by omega,?_⟩ | refine ⟨True.intro,?_⟩)))))
  refine q16 3 _ (.p (.d (.sl 2 (edgesTo t t.length).length (rowS (edgesTo t t.length))))) rfl (z21 rfl (fun i hi => rfl)) ?_
  (repeat (first | apply j0 | refine q8 rfl ?_ | refine z8 rfl ?_ | apply z7 | (refine x4 fun K hK => ?_) | (refine j4 fun K hK => ?_) | ((first | apply j6 | apply x7 | ((first | refine j5 (hK _ ?_) | refine x6 (hK _ _ x5 ?_));clear hK K));(first | show AWP _ _ _ _ _ | ((try simp only [j7]);first | show loopQ _ _ _ _ _ _ | show cutQ _ _ _ _ | show AWP _ _ _ _ _))) | ((first | refine x8 [] rfl ?_ | refine j8 [] rfl ?_);simp (disch:=omega) only [go_sem,seval,portD,topoD,spotD];(repeat (first | refine ⟨by omega,?_⟩ | refine ⟨True.intro,?_⟩)))))
  refine z9 ⟨_,?_,rfl⟩;rw [Try.results55];simp (disch:=omega) only [ResVars,ResVar,ptrLoc,go_sem,seval,portD,topoD,spotD]
end Go.Proofs.Ytjfammnjpeeahaa
namespace Go.Proofs.Ytjfammnjpeeahaa.AL
open Go
theorem Weak.seal (A : ASt) (t l : Nat) (e : TypeId) (ds : List Dat) (ht : look A.fr t = some (.loc l 0)) (hl : look A.locs l = some (.cells e (ds.map fun d => .p (.d d)))) :
  Weak A ⟨(t,.p (.d (.bx ds))) :: A.fr,dropL l A.locs⟩ := by
 intro w0 g0 nt h a w r
 obtain ⟨arr,c7,c2,c5,c6,c8⟩ := r.locs l _ hl
 have hv : a.tmps.getD t _root_.Go.undef = .pointer (some ⟨h.ρ l,0,none⟩) := r.fr t _ ht
 have hne : ∀ k L,look (dropL l A.locs) k = some L → k ≠ l ∧ look A.locs k = some L := by
  intro k L hk
  rw [x15] at hk
  split at hk
  ·cases hk
  ·exact ⟨‹_›,hk⟩
 have hbl : h.ρ l < w.heap.size := (Array.getElem?_eq_some_iff.1 c2).1
 generalize hb : h.ρ l = b at *
 let h' : Gh := { h with g := setG h.g b ds.length }
 have hkeep : Keep w h.g w h'.g := by
  refine ⟨fun k => ?_,fun k q hq => rfl⟩
  simp only [h',setG];split
  ·rename_i e;rw [e,c6];exact Nat.zero_le _
  ·exact Nat.le_refl _
 have gz' : GZ w h'.g := fun k hk => by
  have : k ≠ b := by omega
  simp only [h',setG,if_neg this];exact r.gz k hk
 have tr : Trans w0.O w h w h' (fun k => b = k) none false := by
  refine ⟨BelowS.refl _ _,fun k _ hk => ⟨rfl,?_⟩,hkeep,gz',fun k hk => ?_,fun _ _ => rfl,fun k _ => ⟨rfl,rfl⟩,fun k hk => by cases hk⟩
  ·have : k ≠ b := fun e => hk e.symm
   simp [h',setG,this]
  ·have : k ≠ b := fun e => hk (e ▸ c7)
   simp [h',setG,this]
 have ho : ∀ k L,look (dropL l A.locs) k = some L → LocOK w0.O w h' k L ∧ inB h' k L = inB h k L := by
  intro k L hk
  obtain ⟨k1,k2⟩ := hne k L hk
  refine LocOK.trans tr (by simp) (fun hf => by cases hf) (fun b' hb' e => ?_) (r.locs k L k2)
  cases e
  exact r.sep k l L _ b k1 k2 hl hb' (by simp [inB,hb])
 refine ⟨h',r.size,r.defers,fun u y hy => ?_,fun k L hk => (ho k L hk).1,fun k k' L L' b' h1 h2 h3 h4 => ?_,⟨r.ext.below,fun k hk => (tr.gB k hk).trans (r.ext.gam k hk),gz',r.ext.keep.trans hkeep⟩,r.pin⟩
 ·simp only [look] at hy
  split at hy
  ·rename_i e;subst e;cases hy
   rw [hv]
   have hsz : arr.size = ds.length := by rw [c5,List.length_map]
   refine .d _ _ (.bx b 0 ds (fun j => (arr[j]?).getD _root_.Go.undef) (fun j hj => ?_) (by simp [h',setG]) (fun j x hx => ?_))
   ·rw [Nat.zero_add,z15 c2]
    simp [show j < arr.size by omega]
   ·have hj := (List.getElem?_eq_some_iff.1 hx).1
    have hja : arr[j]? = some arr[j] := by simp [show j < arr.size by omega]
    have h3 := (c8 j _ _ hja (by rw [List.getElem?_map,hx];rfl)).1
    rw [hja]
    show RelD w h'.g arr[j] x
    revert h3
    generalize arr[j] = v
    intro h3
    cases h3 with
    | d _ _ h3 => exact h3.keep hkeep
  ·exact RelA.trans tr (fun hf => by cases hf) (r.fr u y hy)
 ·rw [(ho k L h2).2] at h4
  rw [(ho k' L' h3).2]
  exact r.sep k k' L L' b' h1 (hne k L h2).2 (hne k' L' h3).2 h4
theorem x82 {P : Program} {nt : Nat} {c : Code} {Q : Exit → ASt → Prop} {A : ASt} (t l : Nat) (e : TypeId) (ds : List Dat) (ht : look A.fr t = some (.loc l 0)) (hl : look A.locs l = some (.cells e (ds.map fun d => .p (.d d))))
  (h : AWP P nt c Q ⟨(t,.p (.d (.bx ds))) :: A.fr,dropL l A.locs⟩) : AWP P nt c Q A := j21 (Weak.seal A t l e ds ht hl) h
end Go.Proofs.Ytjfammnjpeeahaa.AL
namespace Go.Proofs.Ytjfammnjpeeahaa
open Go.Proofs.Ytjfammnjpeeahaa.AL
theorem eqA2 : EqTy Try.prog 48 [.i64,.i64] := by
 refine ⟨by kernel_rfl,fun w xs ys hx hy => ?_⟩
 rcases xs with _ | ⟨a1,_ | ⟨a2,_ | ⟨a3,ar⟩⟩⟩ <;> first | (simp at hx;done) | skip
 rcases ys with _ | ⟨b1,_ | ⟨b2,_ | ⟨b3,br⟩⟩⟩ <;> first | (simp at hy;done) | skip
 show (Op.equalIn (9999 + 1) 48 _ _).run _ _ = _
 unfold Op.equalIn
 simp [go_sem,ints,eqI,Try.underlying48]
 by_cases h1 : a1 = b1
 ·by_cases h2 : a2 = b2
  ·simp [h1,h2]
  ·simp [h1,h2]
 ·simp [h1]
structure Way where
 fr : Int
 to : Int
 via : Int
deriving DecidableEq
structure Policy where
 tn : Int
 peers : List (Int × Int)
 ways : List Way
deriving DecidableEq
def wayD (w : Way) : List Dat := [.v (.int .i64 w.fr),.v (.int .i64 w.to),.v (.int .i64 w.via)]
def w0 : Way := ⟨0,0,0⟩
def pairD (p : Int × Int) : List Dat := [.v (.int .i64 p.1),.v (.int .i64 p.2)]
def rowW (l : List Way) : Nat → List Dat := rowO wayD w0 l
def rowA (l : List (Int × Int)) : Nat → List Dat := rowO pairD (0,0) l
theorem j38 (l : List Way) (i : Nat) : rowW l i = wayD (l.getD i w0) := rfl
theorem q33 (l : List (Int × Int)) (i : Nat) : rowA l i = pairD (l.getD i (0,0)) := rfl
theorem j82 (l : List Spot) (i : Nat) : rowS l i = spotD (l.getD i s0) := rfl
def policyD (p : Policy) : List Dat := [.v (.int .i64 p.tn),.sl 2 p.peers.length (rowA p.peers),.sl 3 p.ways.length (rowW p.ways)]
def Policy.small (p : Policy) : Prop := p.peers.length ≤ 1099511627776 ∧ p.ways.length ≤ 1099511627776
def tenantP (p : Policy) (n : Int) : Bool := decide (0 ≤ n) && decide (n < p.tn)
theorem z29 (p : Policy) (n : Int) : ACalls Try.prog 63 [.agg (policyD p),.d (.v (.int .i64 n))] (· = [.d (.v (.bool (tenantP p n)))]) := by
 unfold tenantP
 by_cases h : 0 ≤ n
 ·rw [decide_eq_true h]
  refine x9 Try.func63 rfl (by decide +kernel) (by rw [Try.ntmps63];simp) ?_;rw [Try.ntmps63];simp only [frOf]
  (repeat (first | apply j0 | refine q8 rfl ?_ | refine z8 rfl ?_ | apply z7 | (refine x4 fun K hK => ?_) | (refine j4 fun K hK => ?_) | ((first | apply j6 | apply x7 | ((first | refine j5 (hK _ ?_) | refine x6 (hK _ _ x5 ?_));clear hK K));(first | show AWP _ _ _ _ _ | ((try simp only [j7]);first | show loopQ _ _ _ _ _ _ | show cutQ _ _ _ _ | show AWP _ _ _ _ _))) | ((first | refine x8 [] rfl ?_ | refine j8 [] rfl ?_);simp (disch:=omega) only [go_sem,seval,policyD,wayD,pairD,spotD,eqA2,j9];(repeat (first | refine ⟨by omega,?_⟩ | refine ⟨True.intro,?_⟩)))))
  refine z9 ⟨_,?_,rfl⟩;rw [Try.results63];simp (disch:=omega) only [ResVars,ResVar,ptrLoc,go_sem,seval,policyD,wayD,pairD,spotD,eqA2,j9]
 ·rw [decide_eq_false h]
  refine x9 Try.func63 rfl (by decide +kernel) (by rw [Try.ntmps63];simp) ?_;rw [Try.ntmps63];simp only [frOf]
  (repeat (first | apply j0 | refine q8 rfl ?_ | refine z8 rfl ?_ | apply z7 | (refine x4 fun K hK => ?_) | (refine j4 fun K hK => ?_) | ((first | apply j6 | apply x7 | ((first | refine j5 (hK _ ?_) | refine x6 (hK _ _ x5 ?_));clear hK K));(first | show AWP _ _ _ _ _ | ((try simp only [j7]);first | show loopQ _ _ _ _ _ _ | show cutQ _ _ _ _ | show AWP _ _ _ _ _))) | ((first | refine x8 [] rfl ?_ | refine j8 [] rfl ?_);simp (disch:=omega) only [go_sem,seval,policyD,wayD,pairD,spotD,eqA2,j9];(repeat (first | refine ⟨by omega,?_⟩ | refine ⟨True.intro,?_⟩)))))
  refine z9 ⟨_,?_,rfl⟩;rw [Try.results63];simp (disch:=omega) only [ResVars,ResVar,ptrLoc,go_sem,seval,policyD,wayD,pairD,spotD,eqA2,j9]
def idxN (q : Nat → Bool) : Nat → Nat → Int
 | 0,_ => -1
 | m + 1,i => if q i then i else idxN q m (i + 1)
theorem q83 {q : Nat → Bool} {n i : Nat} (h : i < n) : idxN q (n - i) i = if q i then (i : Int) else idxN q (n - (i + 1)) (i + 1) := by
 rw [show n - i = (n - (i + 1)) + 1 by omega];rfl
theorem z83 {q : Nat → Bool} {n i : Nat} (h : n ≤ i) : idxN q (n - i) i = -1 := by
 rw [show n - i = 0 by omega];rfl
theorem z59 {q : Nat → Bool} : ∀ {m i : Nat},decide (0 ≤ idxN q m i) = (List.range' i m).any q
 | 0,i => by simp [idxN]
 |m + 1,i => by
  rw [List.range'_succ,List.any_cons]
  unfold idxN
  cases hq : q i
  ·simp only [Bool.false_eq_true,if_false,Bool.false_or];exact z59
  ·simp only [if_true,Bool.true_or];exact decide_eq_true (by omega)
theorem x83 {α : Type} (l : List α) (z : α) (p : α → Bool) : (List.range' 0 l.length).any (fun i => p (l.getD i z)) = l.any p := by
 rw [Bool.eq_iff_iff,List.any_eq_true,List.any_eq_true]
 constructor
 ·rintro ⟨i,hi,h⟩
  rw [List.mem_range'_1] at hi
  exact ⟨_,j32 (by omega) z,h⟩
 ·rintro ⟨x,hx,h⟩
  obtain ⟨i,hi,e⟩ := List.mem_iff_getElem.1 hx
  exact ⟨i,by rw [List.mem_range'_1];omega,by simpa [hi,e] using h⟩
def idxI (l : List (Int × Int)) (g : FuncId) (refs : List PV) (q : Nat → Bool) (R : Int) (s : {i : Nat // i ≤ l.length ∧ idxN q (l.length - i) i = R}) : ASt :=
 ⟨[(8,.p (.d (.v (.int .i64 (s.val : Int))))),(7,.p (.d (.v (.int .i64 (l.length : Int))))),(1,.p (.fn (.func g) [] refs)),(0,.p (.d (.sl 2 l.length (rowA l))))],[]⟩
theorem q128 (l : List (Int × Int)) (g : FuncId) (refs : List PV) (p : Int × Int → Bool) (hl : l.length ≤ 1099511627776) (hp : ∀ x ∈ l,ACalls Try.prog g (.agg (pairD x) :: refs) (· = [.d (.v (.bool (p x)))])) :
  ACalls Try.prog 81 [.d (.sl 2 l.length (rowA l)),.fn (.func g) [] refs] (· = [.d (.v (.int .i64 (idxN (fun i => p (l.getD i (0,0))) l.length 0)))]) := by
 have hstep := fun i (h : i < l.length) => q83 (q := fun i => p (l.getD i (0,0))) h
 have hq : ∀ i,(fun i => p (l.getD i (0,0))) i = p (l.getD i (0,0)) := fun i => rfl
 generalize (fun i => p (l.getD i (0,0))) = q at hstep hq
 generalize hR : idxN q l.length 0 = R
 refine x9 Try.func81 rfl (by decide +kernel) (by rw [Try.ntmps81];simp) ?_;rw [Try.ntmps81];simp only [frOf]
 (repeat (first | apply j0 | refine q8 rfl ?_ | refine z8 rfl ?_ | apply z7 | (refine x4 fun K hK => ?_) | (refine j4 fun K hK => ?_) | ((first | apply j6 | apply x7 | ((first | refine j5 (hK _ ?_) | refine x6 (hK _ _ x5 ?_));clear hK K));(first | show AWP _ _ _ _ _ | ((try simp only [j7]);first | show loopQ _ _ _ _ _ _ | show cutQ _ _ _ _ | show AWP _ _ _ _ _))) | ((first | refine x8 [] rfl ?_ | refine j8 [] rfl ?_);simp (disch:=omega) only [go_sem,seval,policyD,wayD,pairD,spotD,eqA2,j9];(repeat (first | refine ⟨by omega,?_⟩ | refine ⟨True.intro,?_⟩)))))
 refine x12 (idxI l g refs q R) (fun s => l.length - s.val) ⟨0,Nat.zero_le _,hR⟩ ?_ (fun s => ?_)
 ·unfold idxI
  refine Weak.list ?_ ?_;(all_goals simp (disch:=omega) only [AllF,AllL,j10,q11,x10,exists_eq_left',go_sem,seval,policyD,wayD,pairD,spotD,eqA2,j9]);(all_goals (repeat' (with_reducible apply And.intro)));(all_goals try (first | exact q9 rfl | (refine z11 ?_;omega) | (refine q9 ?_;simp;done)))
 obtain ⟨i,h1,h2⟩ := s
 unfold idxI
 simp only [] at h1 h2 ⊢
 by_cases h : i < l.length
 ·have r1 := q33 l i
  have hin := hp _ (j32 h (0,0))
  rw [hstep i h] at h2
  generalize l.getD i (0,0) = x at r1 hin h2
  obtain ⟨x1,x2⟩ := x
  simp only [pairD] at r1 hin
  generalize p (x1,x2) = b at hin h2
  cases b
  ·simp only [Bool.false_eq_true,if_false] at h2
   (repeat (first | apply j0 | refine q8 rfl ?_ | refine z8 rfl ?_ | apply z7 | (refine x4 fun K hK => ?_) | (refine j4 fun K hK => ?_) | ((first | apply j6 | apply x7 | ((first | refine j5 (hK _ ?_) | refine x6 (hK _ _ x5 ?_));clear hK K));(first | show AWP _ _ _ _ _ | ((try simp only [j7]);first | show loopQ _ _ _ _ _ _ | show cutQ _ _ _ _ | show AWP _ _ _ _ _))) | ((first | refine q10 rfl rfl rfl ?_ | refine z10 rfl rfl rfl ?_);simp (disch:=omega) only [go_sem,seval,policyD,wayD,pairD,spotD,eqA2,j9,r1];(first | refine ⟨_,hin,?_⟩)) | ((first | refine x8 [] rfl ?_ | refine j8 [] rfl ?_);simp (disch:=omega) only [go_sem,seval,policyD,wayD,pairD,spotD,eqA2,j9,r1];(repeat (first | refine ⟨by omega,?_⟩ | refine ⟨True.intro,?_⟩)))))
   refine ⟨⟨i + 1,by omega,h2⟩,by simp only [];omega,?_⟩
   refine Weak.list ?_ ?_;(all_goals simp (disch:=omega) only [AllF,AllL,j10,q11,x10,exists_eq_left',go_sem,seval,policyD,wayD,pairD,spotD,eqA2,j9,r1]);(all_goals (repeat' (with_reducible apply And.intro)));(all_goals try (first | exact q9 rfl | (refine z11 ?_;omega) | (refine q9 ?_;simp;done)))
  ·simp only [if_true] at h2
   subst h2
   (repeat (first | apply j0 | refine q8 rfl ?_ | refine z8 rfl ?_ | apply z7 | (refine x4 fun K hK => ?_) | (refine j4 fun K hK => ?_) | ((first | apply j6 | apply x7 | ((first | refine j5 (hK _ ?_) | refine x6 (hK _ _ x5 ?_));clear hK K));(first | show AWP _ _ _ _ _ | ((try simp only [j7]);first | show loopQ _ _ _ _ _ _ | show cutQ _ _ _ _ | show AWP _ _ _ _ _))) | ((first | refine q10 rfl rfl rfl ?_ | refine z10 rfl rfl rfl ?_);simp (disch:=omega) only [go_sem,seval,policyD,wayD,pairD,spotD,eqA2,j9,r1];(first | refine ⟨_,hin,?_⟩)) | ((first | refine x8 [] rfl ?_ | refine j8 [] rfl ?_);simp (disch:=omega) only [go_sem,seval,policyD,wayD,pairD,spotD,eqA2,j9,r1];(repeat (first | refine ⟨by omega,?_⟩ | refine ⟨True.intro,?_⟩)))))
   refine z9 ⟨_,?_,rfl⟩;rw [Try.results81];simp (disch:=omega) only [ResVars,ResVar,ptrLoc,go_sem,seval,policyD,wayD,pairD,spotD,eqA2,j9,r1]
 ·rw [z83 (by omega)] at h2
  subst h2
  (repeat (first | apply j0 | refine q8 rfl ?_ | refine z8 rfl ?_ | apply z7 | (refine x4 fun K hK => ?_) | (refine j4 fun K hK => ?_) | ((first | apply j6 | apply x7 | ((first | refine j5 (hK _ ?_) | refine x6 (hK _ _ x5 ?_));clear hK K));(first | show AWP _ _ _ _ _ | ((try simp only [j7]);first | show loopQ _ _ _ _ _ _ | show cutQ _ _ _ _ | show AWP _ _ _ _ _))) | ((first | refine x8 [] rfl ?_ | refine j8 [] rfl ?_);simp (disch:=omega) only [go_sem,seval,policyD,wayD,pairD,spotD,eqA2,j9];(repeat (first | refine ⟨by omega,?_⟩ | refine ⟨True.intro,?_⟩)))))
  refine z9 ⟨_,?_,rfl⟩;rw [Try.results81];simp (disch:=omega) only [ResVars,ResVar,ptrLoc,go_sem,seval,policyD,wayD,pairD,spotD,eqA2,j9]
theorem z128 (l : List (Int × Int)) (g : FuncId) (refs : List PV) (p : Int × Int → Bool) (hl : l.length ≤ 1099511627776) (hp : ∀ x ∈ l,ACalls Try.prog g (.agg (pairD x) :: refs) (· = [.d (.v (.bool (p x)))])) :
  ACalls Try.prog 64 [.d (.sl 2 l.length (rowA l)),.fn (.func g) [] refs] (· = [.d (.v (.bool (l.any p)))]) := by
 have c := q128 l g refs p hl hp
 have e := z59 (q := fun i => p (l.getD i (0,0))) (m := l.length) (i := 0)
 rw [x83 l (0,0) p] at e
 rw [← e]
 generalize idxN (fun i => p (l.getD i (0,0))) l.length 0 = r at c
 refine x9 Try.func64 rfl (by decide +kernel) (by rw [Try.ntmps64];simp) ?_;rw [Try.ntmps64];simp only [frOf]
 (repeat (first | apply j0 | refine q8 rfl ?_ | refine z8 rfl ?_ | apply z7 | (refine x4 fun K hK => ?_) | (refine j4 fun K hK => ?_) | ((first | apply j6 | apply x7 | ((first | refine j5 (hK _ ?_) | refine x6 (hK _ _ x5 ?_));clear hK K));(first | show AWP _ _ _ _ _ | ((try simp only [j7]);first | show loopQ _ _ _ _ _ _ | show cutQ _ _ _ _ | show AWP _ _ _ _ _))) | ((first | refine q10 rfl rfl rfl ?_ | refine z10 rfl rfl rfl ?_);simp (disch:=omega) only [go_sem,seval,policyD,wayD,pairD,spotD,eqA2,j9];(first | refine ⟨_,c,?_⟩)) | ((first | refine x8 [] rfl ?_ | refine j8 [] rfl ?_);simp (disch:=omega) only [go_sem,seval,policyD,wayD,pairD,spotD,eqA2,j9];(repeat (first | refine ⟨by omega,?_⟩ | refine ⟨True.intro,?_⟩)))))
 refine z9 ⟨_,?_,rfl⟩;rw [Try.results64];simp (disch:=omega) only [ResVars,ResVar,ptrLoc,go_sem,seval,policyD,wayD,pairD,spotD,eqA2,j9]
def pairIs (a b : Int) (x : Int × Int) : Bool := (x.1 == a && x.2 == b) || (x.1 == b && x.2 == a)
theorem x128 (x : Int × Int) (a b : Int) : ACalls Try.prog 65 [.agg (pairD x),.d (.bx (pairD (a,b))),.d (.bx (pairD (b,a)))] (· = [.d (.v (.bool (pairIs a b x)))]) := by
 obtain ⟨x1,x2⟩ := x
 have e1 : eqI [x1,x2] [a,b] = (x1 == a && x2 == b) := by simp [eqI]
 have e2 : eqI [x1,x2] [b,a] = (x1 == b && x2 == a) := by simp [eqI]
 unfold pairIs
 simp only []
 generalize (x1 == a && x2 == b) = q1 at e1
 generalize (x1 == b && x2 == a) = q2 at e2
 cases q1
 all_goals
  refine x9 Try.func65 rfl (by decide +kernel) (by rw [Try.ntmps65];simp) ?_;rw [Try.ntmps65];simp only [frOf]
  (repeat (first | apply j0 | refine q8 rfl ?_ | refine z8 rfl ?_ | apply z7 | (refine x4 fun K hK => ?_) | (refine j4 fun K hK => ?_) | ((first | apply j6 | apply x7 | ((first | refine j5 (hK _ ?_) | refine x6 (hK _ _ x5 ?_));clear hK K));(first | show AWP _ _ _ _ _ | ((try simp only [j7]);first | show loopQ _ _ _ _ _ _ | show cutQ _ _ _ _ | show AWP _ _ _ _ _))) | ((first | refine x8 [] rfl ?_ | refine j8 [] rfl ?_);simp (disch:=omega) only [go_sem,seval,policyD,wayD,pairD,spotD,eqA2,j9,e1,e2];(repeat (first | refine ⟨by omega,?_⟩ | refine ⟨True.intro,?_⟩)))))
  refine z9 ⟨_,?_,rfl⟩;rw [Try.results65];simp (disch:=omega) only [ResVars,ResVar,ptrLoc,go_sem,seval,policyD,wayD,pairD,spotD,eqA2,j9,e1,e2]
  rfl
def allowedP (p : Policy) (a b : Int) : Bool := tenantP p a && tenantP p b && (a == b || p.peers.any (pairIs a b))
theorem j83 (p : Policy) (a b : Int) (hp : p.small) : ACalls Try.prog 38 [.agg (policyD p),.d (.v (.int .i64 a)),.d (.v (.int .i64 b))] (· = [.d (.v (.bool (allowedP p a b)))]) := by
 have c1 := z29 p a
 have c2 := z29 p b
 have c3 := z128 p.peers 65 [.d (.bx (pairD (a,b))),.d (.bx (pairD (b,a)))] (pairIs a b) hp.1 (fun x _ => x128 x a b)
 unfold allowedP
 generalize tenantP p a = b1 at c1
 generalize tenantP p b = b2 at c2
 generalize p.peers.any (pairIs a b) = b3 at c3
 simp only [pairD] at c3
 cases b1
 ·refine x9 Try.func38 rfl (by decide +kernel) (by rw [Try.ntmps38];simp) ?_;rw [Try.ntmps38];simp only [frOf]
  (repeat (first | apply j0 | refine q8 rfl ?_ | refine z8 rfl ?_ | apply z7 | (refine x4 fun K hK => ?_) | (refine j4 fun K hK => ?_) | ((first | apply j6 | apply x7 | ((first | refine j5 (hK _ ?_) | refine x6 (hK _ _ x5 ?_));clear hK K));(first | show AWP _ _ _ _ _ | ((try simp only [j7]);first | show loopQ _ _ _ _ _ _ | show cutQ _ _ _ _ | show AWP _ _ _ _ _))) | ((first | refine q10 rfl rfl rfl ?_ | refine z10 rfl rfl rfl ?_);simp (disch:=omega) only [go_sem,seval,policyD,wayD,pairD,spotD,eqA2,j9];(first | refine ⟨_,c1,?_⟩)) | ((first | refine x8 [] rfl ?_ | refine j8 [] rfl ?_);simp (disch:=omega) only [go_sem,seval,policyD,wayD,pairD,spotD,eqA2,j9];(repeat (first | refine ⟨by omega,?_⟩ | refine ⟨True.intro,?_⟩)))))
  refine z9 ⟨_,?_,rfl⟩;rw [Try.results38];simp (disch:=omega) only [ResVars,ResVar,ptrLoc,go_sem,seval,policyD,wayD,pairD,spotD,eqA2,j9]
 ·cases b2
  ·refine x9 Try.func38 rfl (by decide +kernel) (by rw [Try.ntmps38];simp) ?_;rw [Try.ntmps38];simp only [frOf]
   (repeat (first | apply j0 | refine q8 rfl ?_ | refine z8 rfl ?_ | apply z7 | (refine x4 fun K hK => ?_) | (refine j4 fun K hK => ?_) | ((first | apply j6 | apply x7 | ((first | refine j5 (hK _ ?_) | refine x6 (hK _ _ x5 ?_));clear hK K));(first | show AWP _ _ _ _ _ | ((try simp only [j7]);first | show loopQ _ _ _ _ _ _ | show cutQ _ _ _ _ | show AWP _ _ _ _ _))) | ((first | refine q10 rfl rfl rfl ?_ | refine z10 rfl rfl rfl ?_);simp (disch:=omega) only [go_sem,seval,policyD,wayD,pairD,spotD,eqA2,j9];(first | refine ⟨_,c1,?_⟩ | refine ⟨_,c2,?_⟩)) | ((first | refine x8 [] rfl ?_ | refine j8 [] rfl ?_);simp (disch:=omega) only [go_sem,seval,policyD,wayD,pairD,spotD,eqA2,j9];(repeat (first | refine ⟨by omega,?_⟩ | refine ⟨True.intro,?_⟩)))))
   refine z9 ⟨_,?_,rfl⟩;rw [Try.results38];simp (disch:=omega) only [ResVars,ResVar,ptrLoc,go_sem,seval,policyD,wayD,pairD,spotD,eqA2,j9]
  ·by_cases h : a = b
   ·have q : (a == b) = true := x14 h
    refine x9 Try.func38 rfl (by decide +kernel) (by rw [Try.ntmps38];simp) ?_;rw [Try.ntmps38];simp only [frOf]
    (repeat (first | apply j0 | refine q8 rfl ?_ | refine z8 rfl ?_ | apply z7 | (refine x4 fun K hK => ?_) | (refine j4 fun K hK => ?_) | ((first | apply j6 | apply x7 | ((first | refine j5 (hK _ ?_) | refine x6 (hK _ _ x5 ?_));clear hK K));(first | show AWP _ _ _ _ _ | ((try simp only [j7]);first | show loopQ _ _ _ _ _ _ | show cutQ _ _ _ _ | show AWP _ _ _ _ _))) | ((first | refine q10 rfl rfl rfl ?_ | refine z10 rfl rfl rfl ?_);simp (disch:=omega) only [go_sem,seval,policyD,wayD,pairD,spotD,eqA2,j9,q];(first | refine ⟨_,c1,?_⟩ | refine ⟨_,c2,?_⟩)) | ((first | refine x8 [] rfl ?_ | refine j8 [] rfl ?_);simp (disch:=omega) only [go_sem,seval,policyD,wayD,pairD,spotD,eqA2,j9,q];(repeat (first | refine ⟨by omega,?_⟩ | refine ⟨True.intro,?_⟩)))))
    refine z9 ⟨_,?_,rfl⟩;rw [Try.results38];simp (disch:=omega) only [ResVars,ResVar,ptrLoc,go_sem,seval,policyD,wayD,pairD,spotD,eqA2,j9,q]
    rfl
   ·have q : (a == b) = false := z14 h
    refine x9 Try.func38 rfl (by decide +kernel) (by rw [Try.ntmps38];simp) ?_;rw [Try.ntmps38];simp only [frOf]
    (repeat ((fail_if_success (show AWP _ _ (.region 4 _ _) _ _));first | apply j0 | refine q8 rfl ?_ | refine z8 rfl ?_ | apply z7 | (refine x4 fun K hK => ?_) | (refine j4 fun K hK => ?_) | ((first | apply j6 | apply x7 | ((first | refine j5 (hK _ ?_) | refine x6 (hK _ _ x5 ?_));clear hK K));(first | show AWP _ _ _ _ _ | ((try simp only [j7]);first | show loopQ _ _ _ _ _ _ | show cutQ _ _ _ _ | show AWP _ _ _ _ _))) | ((first | refine q10 rfl rfl rfl ?_ | refine z10 rfl rfl rfl ?_);simp (disch:=omega) only [go_sem,seval,policyD,wayD,pairD,spotD,eqA2,j9,q];(first | refine ⟨_,c1,?_⟩ | refine ⟨_,c2,?_⟩)) | ((first | refine x8 [] rfl ?_ | refine j8 [] rfl ?_);simp (disch:=omega) only [go_sem,seval,policyD,wayD,pairD,spotD,eqA2,j9,q];(repeat (first | refine ⟨by omega,?_⟩ | refine ⟨True.intro,?_⟩)))))
    refine x82 7 7 48 [.v (.int .i64 a),.v (.int .i64 b)] rfl rfl ?_
    refine x82 8 8 48 [.v (.int .i64 b),.v (.int .i64 a)] rfl rfl ?_
    (repeat (first | apply j0 | refine q8 rfl ?_ | refine z8 rfl ?_ | apply z7 | (refine x4 fun K hK => ?_) | (refine j4 fun K hK => ?_) | ((first | apply j6 | apply x7 | ((first | refine j5 (hK _ ?_) | refine x6 (hK _ _ x5 ?_));clear hK K));(first | show AWP _ _ _ _ _ | ((try simp only [j7]);first | show loopQ _ _ _ _ _ _ | show cutQ _ _ _ _ | show AWP _ _ _ _ _))) | ((first | refine q10 rfl rfl rfl ?_ | refine z10 rfl rfl rfl ?_);simp (disch:=omega) only [go_sem,seval,policyD,wayD,pairD,spotD,eqA2,j9,q];(first | refine ⟨_,c3,?_⟩)) | ((first | refine x8 [] rfl ?_ | refine j8 [] rfl ?_);simp (disch:=omega) only [go_sem,seval,policyD,wayD,pairD,spotD,eqA2,j9,q];(repeat (first | refine ⟨by omega,?_⟩ | refine ⟨True.intro,?_⟩)))))
    refine z9 ⟨_,?_,rfl⟩;rw [Try.results38];simp (disch:=omega) only [ResVars,ResVar,ptrLoc,go_sem,seval,policyD,wayD,pairD,spotD,eqA2,j9,q]
    rfl
def rowRR (l : List (List Rule)) : Nat → List Dat := fun i => [.sl 12 (l.getD i []).length (rowR (l.getD i []))]
theorem q24 (l : List (List Rule)) (i : Nat) : rowRR l i = [.sl 12 (l.getD i []).length (rowR (l.getD i []))] := rfl
def smallR (t : List (List Rule)) : Prop := t.length ≤ 1048576 ∧ ∀ l ∈ t,l.length ≤ 1048576
theorem q23 {t : List (List Rule)} (h : smallR t) (i : Nat) : (t.getD i []).length ≤ 1048576 := by
 by_cases hi : i < t.length
 ·exact h.2 _ (j32 hi [])
 ·rw [List.getD_eq_getElem?_getD,List.getElem?_eq_none (by omega)];simp
def sumR (ts : List (List Rule)) : Nat → Nat
 | 0 => 0
 | i + 1 => sumR ts i + (ts.getD i []).length
theorem q84 {ts : List (List Rule)} (h : smallR ts) : ∀ i,sumR ts i ≤ i * 1048576
 | 0 => Nat.le_refl _
 |i + 1 => by
  have h1 := q84 h i
  have h2 := q23 h i
  unfold sumR
  omega
def ruleOk (ts : List (List Rule)) (ps : List Port) (i k : Nat) : Bool := soundR ((ts.getD i []).getD k r0) i ps && decide (((ts.getD i []).getD k r0).tb < ts.length)
def tabOk (ts : List (List Rule)) (ps : List Port) (i : Nat) : Bool := allF (ruleOk ts ps i) (ts.getD i []).length 0
def soundTab (ts : List (List Rule)) (ps : List Port) : Int := if ts.length = 0 ∨ 3 < ts.length then 4 else if 96 < sumR ts ts.length then 12 else if allF (tabOk ts ps) ts.length 0 = true then 0 else 2
def tabI (ts : List (List Rule)) (ps : List Port) (i : Fin (ts.length + 1)) : ASt :=
 ⟨[(22,.p (.d (.v (.int .i64 (i.val : Int))))),(21,.p (.d (.v (.int .i64 (ts.length : Int))))),(20,.p (.d (.sl 1 ts.length (rowRR ts)))),(5,.p (.d (.v (.int .i64 (sumR ts i.val : Int))))),(1,.p (.d (.sl 5 ps.length (rowP ps)))),(0,.p (.d (.sl 1 ts.length (rowRR ts))))],[]⟩
def tabJ (ts : List (List Rule)) (ps : List Port) (R : Int) (s : {i : Nat // i ≤ ts.length ∧ (if allF (tabOk ts ps) ts.length i = true then 0 else 2) = R}) : ASt :=
 ⟨[(35,.p (.d (.v (.int .i64 (s.val : Int))))),(34,.p (.d (.v (.int .i64 (ts.length : Int))))),(33,.p (.d (.sl 1 ts.length (rowRR ts)))),(1,.p (.d (.sl 5 ps.length (rowP ps)))),(0,.p (.d (.sl 1 ts.length (rowRR ts))))],[]⟩
def tabK (ts : List (List Rule)) (ps : List Port) (R : Int) (i : Nat) (l : List Rule) (s : {k : Nat // k ≤ l.length ∧ (if (allF (ruleOk ts ps i) l.length k && allF (tabOk ts ps) ts.length (i + 1)) = true then 0 else 2) = R}) : ASt :=
 ⟨[(42,.p (.d (.v (.int .i64 (s.val : Int))))),(41,.p (.d (.v (.int .i64 (l.length : Int))))),(40,.p (.d (.sl 12 l.length (rowR l)))),(35,.p (.d (.v (.int .i64 (i : Int))))),(34,.p (.d (.v (.int .i64 (ts.length : Int))))),(33,.p (.d (.sl 1 ts.length (rowRR ts)))),(8,.p (.d (.v (.int .i64 (i : Int))))),(1,.p (.d (.sl 5 ps.length (rowP ps)))),(0,.p (.d (.sl 1 ts.length (rowRR ts))))],[]⟩
set_option maxRecDepth 100000 in
theorem j128 (ts : List (List Rule)) (ps : List Port) (ht : smallR ts) (hp : ps.length ≤ 1048576) : ACalls Try.prog 62 [.d (.sl 1 ts.length (rowRR ts)),.d (.sl 5 ps.length (rowP ps))] (· = [.d (.v (.int .i64 (soundTab ts ps)))]) := by
 have hs := q23 ht
 have hsum := q84 ht
 have ht1 := ht.1
 unfold soundTab
 by_cases h0 : ts.length = 0
 ·rw [if_pos (.inl h0)]
  have q : ((ts.length : Int) == 0) = true := x14 (by omega)
  refine x9 Try.func62 rfl (by decide +kernel) (by rw [Try.ntmps62];simp) ?_;rw [Try.ntmps62];simp only [frOf]
  (repeat (first | apply j0 | refine q8 rfl ?_ | refine z8 rfl ?_ | apply z7 | (refine x4 fun K hK => ?_) | (refine j4 fun K hK => ?_) | ((first | apply j6 | apply x7 | ((first | refine j5 (hK _ ?_) | refine x6 (hK _ _ x5 ?_));clear hK K));(first | show AWP _ _ _ _ _ | ((try simp only [j7]);first | show loopQ _ _ _ _ _ _ | show cutQ _ _ _ _ | show AWP _ _ _ _ _))) | ((first | refine x8 [] rfl ?_ | refine j8 [] rfl ?_);simp (disch:=omega) only [go_sem,seval,hd,cb,ruleD,portD,q];(repeat (first | refine ⟨by omega,?_⟩ | refine ⟨True.intro,?_⟩)))))
  refine z9 ⟨_,?_,rfl⟩;rw [Try.results62];simp (disch:=omega) only [ResVars,ResVar,ptrLoc,go_sem,seval,hd,cb,ruleD,portD,q]
 ·have q : ((ts.length : Int) == 0) = false := z14 (by omega)
  by_cases h3 : 3 < ts.length
  ·rw [if_pos (.inr h3)]
   refine x9 Try.func62 rfl (by decide +kernel) (by rw [Try.ntmps62];simp) ?_;rw [Try.ntmps62];simp only [frOf]
   (repeat (first | apply j0 | refine q8 rfl ?_ | refine z8 rfl ?_ | apply z7 | (refine x4 fun K hK => ?_) | (refine j4 fun K hK => ?_) | ((first | apply j6 | apply x7 | ((first | refine j5 (hK _ ?_) | refine x6 (hK _ _ x5 ?_));clear hK K));(first | show AWP _ _ _ _ _ | ((try simp only [j7]);first | show loopQ _ _ _ _ _ _ | show cutQ _ _ _ _ | show AWP _ _ _ _ _))) | ((first | refine x8 [] rfl ?_ | refine j8 [] rfl ?_);simp (disch:=omega) only [go_sem,seval,hd,cb,ruleD,portD,q];(repeat (first | refine ⟨by omega,?_⟩ | refine ⟨True.intro,?_⟩)))))
   refine z9 ⟨_,?_,rfl⟩;rw [Try.results62];simp (disch:=omega) only [ResVars,ResVar,ptrLoc,go_sem,seval,hd,cb,ruleD,portD,q]
  ·rw [if_neg (by omega)]
   generalize hR : (if allF (tabOk ts ps) ts.length 0 = true then (0 : Int) else 2) = R
   refine x9 Try.func62 rfl (by decide +kernel) (by rw [Try.ntmps62];simp) ?_;rw [Try.ntmps62];simp only [frOf]
   (repeat (first | apply j0 | refine q8 rfl ?_ | refine z8 rfl ?_ | apply z7 | (refine x4 fun K hK => ?_) | (refine j4 fun K hK => ?_) | ((first | apply j6 | apply x7 | ((first | refine j5 (hK _ ?_) | refine x6 (hK _ _ x5 ?_));clear hK K));(first | show AWP _ _ _ _ _ | ((try simp only [j7]);first | show loopQ _ _ _ _ _ _ | show cutQ _ _ _ _ | show AWP _ _ _ _ _))) | ((first | refine x8 [] rfl ?_ | refine j8 [] rfl ?_);simp (disch:=omega) only [go_sem,seval,hd,cb,ruleD,portD,q];(repeat (first | refine ⟨by omega,?_⟩ | refine ⟨True.intro,?_⟩)))))
   refine x12 (tabI ts ps) (fun s => ts.length - s.val) ⟨0,by omega⟩ ?_ (fun s => ?_)
   ·unfold tabI
    refine Weak.list ?_ ?_;(all_goals simp (disch:=omega) only [AllF,AllL,j10,q11,x10,exists_eq_left',go_sem,seval,hd,cb,ruleD,portD]);(all_goals (repeat' (with_reducible apply And.intro)));(all_goals try (first | exact q9 rfl | (refine z11 ?_;omega) | (refine q9 ?_;simp;done)))
   obtain ⟨i,hi⟩ := s
   unfold tabI
   have b1 := hsum i
   by_cases h : i < ts.length
   ·have st : sumR ts (i + 1) = sumR ts i + (ts.getD i []).length := rfl
    have r1 := q24 ts i
    have l1 := hs i
    generalize ts.getD i [] = l at r1 st l1
    (repeat (first | apply j0 | refine q8 rfl ?_ | refine z8 rfl ?_ | apply z7 | (refine x4 fun K hK => ?_) | (refine j4 fun K hK => ?_) | ((first | apply j6 | apply x7 | ((first | refine j5 (hK _ ?_) | refine x6 (hK _ _ x5 ?_));clear hK K));(first | show AWP _ _ _ _ _ | ((try simp only [j7]);first | show loopQ _ _ _ _ _ _ | show cutQ _ _ _ _ | show AWP _ _ _ _ _))) | ((first | refine x8 [] rfl ?_ | refine j8 [] rfl ?_);simp (disch:=omega) only [go_sem,seval,hd,cb,ruleD,portD,r1];(repeat (first | refine ⟨by omega,?_⟩ | refine ⟨True.intro,?_⟩)))))
    refine ⟨⟨i + 1,by omega⟩,by simp only [];omega,?_⟩
    simp only [st]
    refine Weak.list ?_ ?_;(all_goals simp (disch:=omega) only [AllF,AllL,j10,q11,x10,exists_eq_left',go_sem,seval,hd,cb,ruleD,portD,r1]);(all_goals (repeat' (with_reducible apply And.intro)));(all_goals try (first | exact q9 rfl | (refine z11 ?_;omega) | (refine q9 ?_;simp;done)))
   ·have e : i = ts.length := by omega
    subst e
    by_cases h96 : 96 < sumR ts ts.length
    ·rw [if_pos h96]
     (repeat (first | apply j0 | refine q8 rfl ?_ | refine z8 rfl ?_ | apply z7 | (refine x4 fun K hK => ?_) | (refine j4 fun K hK => ?_) | ((first | apply j6 | apply x7 | ((first | refine j5 (hK _ ?_) | refine x6 (hK _ _ x5 ?_));clear hK K));(first | show AWP _ _ _ _ _ | ((try simp only [j7]);first | show loopQ _ _ _ _ _ _ | show cutQ _ _ _ _ | show AWP _ _ _ _ _))) | ((first | refine x8 [] rfl ?_ | refine j8 [] rfl ?_);simp (disch:=omega) only [go_sem,seval,hd,cb,ruleD,portD];(repeat (first | refine ⟨by omega,?_⟩ | refine ⟨True.intro,?_⟩)))))
     refine z9 ⟨_,?_,rfl⟩;rw [Try.results62];simp (disch:=omega) only [ResVars,ResVar,ptrLoc,go_sem,seval,hd,cb,ruleD,portD]
    ·rw [if_neg h96]
     (repeat (first | apply j0 | refine q8 rfl ?_ | refine z8 rfl ?_ | apply z7 | (refine x4 fun K hK => ?_) | (refine j4 fun K hK => ?_) | ((first | apply j6 | apply x7 | ((first | refine j5 (hK _ ?_) | refine x6 (hK _ _ x5 ?_));clear hK K));(first | show AWP _ _ _ _ _ | ((try simp only [j7]);first | show loopQ _ _ _ _ _ _ | show cutQ _ _ _ _ | show AWP _ _ _ _ _))) | ((first | refine x8 [] rfl ?_ | refine j8 [] rfl ?_);simp (disch:=omega) only [go_sem,seval,hd,cb,ruleD,portD];(repeat (first | refine ⟨by omega,?_⟩ | refine ⟨True.intro,?_⟩)))))
     refine x12 (tabJ ts ps R) (fun s => ts.length - s.val) ⟨0,Nat.zero_le _,hR⟩ ?_ (fun s => ?_)
     ·unfold tabJ
      refine Weak.list ?_ ?_;(all_goals simp (disch:=omega) only [AllF,AllL,j10,q11,x10,exists_eq_left',go_sem,seval,hd,cb,ruleD,portD]);(all_goals (repeat' (with_reducible apply And.intro)));(all_goals try (first | exact q9 rfl | (refine z11 ?_;omega) | (refine q9 ?_;simp;done)))
     clear hi h b1
     obtain ⟨i,hi,hr⟩ := s
     unfold tabJ
     simp only [] at hi hr ⊢
     by_cases h : i < ts.length
     ·rw [j14 h] at hr
      have hq : tabOk ts ps i = allF (ruleOk ts ps i) (ts.getD i []).length 0 := rfl
      rw [hq] at hr
      have hk0 : ∀ k,ruleOk ts ps i k = (soundR ((ts.getD i []).getD k r0) i ps && decide (((ts.getD i []).getD k r0).tb < ts.length)) := fun k => rfl
      have r1 := q24 ts i
      have l1 := hs i
      generalize ts.getD i [] = l at r1 hr l1 hk0
      (repeat (first | apply j0 | refine q8 rfl ?_ | refine z8 rfl ?_ | apply z7 | (refine x4 fun K hK => ?_) | (refine j4 fun K hK => ?_) | ((first | apply j6 | apply x7 | ((first | refine j5 (hK _ ?_) | refine x6 (hK _ _ x5 ?_));clear hK K));(first | show AWP _ _ _ _ _ | ((try simp only [j7]);first | show loopQ _ _ _ _ _ _ | show cutQ _ _ _ _ | show AWP _ _ _ _ _))) | ((first | refine x8 [] rfl ?_ | refine j8 [] rfl ?_);simp (disch:=omega) only [go_sem,seval,hd,cb,ruleD,portD,r1];(repeat (first | refine ⟨by omega,?_⟩ | refine ⟨True.intro,?_⟩)))))
      refine x12 (tabK ts ps R i l) (fun s => l.length - s.val) ⟨0,Nat.zero_le _,hr⟩ ?_ (fun s => ?_)
      ·unfold tabK
       refine Weak.list ?_ ?_;(all_goals simp (disch:=omega) only [AllF,AllL,j10,q11,x10,exists_eq_left',go_sem,seval,hd,cb,ruleD,portD]);(all_goals (repeat' (with_reducible apply And.intro)));(all_goals try (first | exact q9 rfl | (refine z11 ?_;omega) | (refine q9 ?_;simp;done)))
      clear hr
      obtain ⟨k,hk,hr⟩ := s
      unfold tabK
      simp only [] at hk hr ⊢
      by_cases h2 : k < l.length
      ·rw [j14 h2,hk0 k] at hr
       have r2 := z38 l k
       generalize l.getD k r0 = x at hr r2
       have c := z126 x i ps (by omega)
       generalize soundR x i ps = b at hr c
       cases b
       ·simp only [Bool.false_and,Bool.false_eq_true,if_false] at hr
        subst hr
        (repeat (first | apply j0 | refine q8 rfl ?_ | refine z8 rfl ?_ | apply z7 | (refine x4 fun K hK => ?_) | (refine j4 fun K hK => ?_) | ((first | apply j6 | apply x7 | ((first | refine j5 (hK _ ?_) | refine x6 (hK _ _ x5 ?_));clear hK K));(first | show AWP _ _ _ _ _ | ((try simp only [j7]);first | show loopQ _ _ _ _ _ _ | show cutQ _ _ _ _ | show AWP _ _ _ _ _))) | ((first | refine q10 rfl rfl rfl ?_ | refine z10 rfl rfl rfl ?_);simp (disch:=omega) only [go_sem,seval,hd,cb,ruleD,portD,r2];(first | refine ⟨_,c,?_⟩)) | ((first | refine x8 [] rfl ?_ | refine j8 [] rfl ?_);simp (disch:=omega) only [go_sem,seval,hd,cb,ruleD,portD,r2];(repeat (first | refine ⟨by omega,?_⟩ | refine ⟨True.intro,?_⟩)))))
        refine z9 ⟨_,?_,rfl⟩;rw [Try.results62];simp (disch:=omega) only [ResVars,ResVar,ptrLoc,go_sem,seval,hd,cb,ruleD,portD,r2]
       ·rw [Bool.true_and] at hr
        by_cases h5 : x.tb < ts.length
        ·rw [decide_eq_true h5,Bool.true_and] at hr
         (repeat (first | apply j0 | refine q8 rfl ?_ | refine z8 rfl ?_ | apply z7 | (refine x4 fun K hK => ?_) | (refine j4 fun K hK => ?_) | ((first | apply j6 | apply x7 | ((first | refine j5 (hK _ ?_) | refine x6 (hK _ _ x5 ?_));clear hK K));(first | show AWP _ _ _ _ _ | ((try simp only [j7]);first | show loopQ _ _ _ _ _ _ | show cutQ _ _ _ _ | show AWP _ _ _ _ _))) | ((first | refine q10 rfl rfl rfl ?_ | refine z10 rfl rfl rfl ?_);simp (disch:=omega) only [go_sem,seval,hd,cb,ruleD,portD,r2];(first | refine ⟨_,c,?_⟩)) | ((first | refine x8 [] rfl ?_ | refine j8 [] rfl ?_);simp (disch:=omega) only [go_sem,seval,hd,cb,ruleD,portD,r2];(repeat (first | refine ⟨by omega,?_⟩ | refine ⟨True.intro,?_⟩)))))
         refine ⟨⟨k + 1,by omega,hr⟩,by simp only [];omega,?_⟩
         refine Weak.list ?_ ?_;(all_goals simp (disch:=omega) only [AllF,AllL,j10,q11,x10,exists_eq_left',go_sem,seval,hd,cb,ruleD,portD,r2]);(all_goals (repeat' (with_reducible apply And.intro)));(all_goals try (first | exact q9 rfl | (refine z11 ?_;omega) | (refine q9 ?_;simp;done)))
        ·rw [decide_eq_false h5] at hr
         simp only [Bool.false_and,Bool.false_eq_true,if_false] at hr
         subst hr
         (repeat (first | apply j0 | refine q8 rfl ?_ | refine z8 rfl ?_ | apply z7 | (refine x4 fun K hK => ?_) | (refine j4 fun K hK => ?_) | ((first | apply j6 | apply x7 | ((first | refine j5 (hK _ ?_) | refine x6 (hK _ _ x5 ?_));clear hK K));(first | show AWP _ _ _ _ _ | ((try simp only [j7]);first | show loopQ _ _ _ _ _ _ | show cutQ _ _ _ _ | show AWP _ _ _ _ _))) | ((first | refine q10 rfl rfl rfl ?_ | refine z10 rfl rfl rfl ?_);simp (disch:=omega) only [go_sem,seval,hd,cb,ruleD,portD,r2];(first | refine ⟨_,c,?_⟩)) | ((first | refine x8 [] rfl ?_ | refine j8 [] rfl ?_);simp (disch:=omega) only [go_sem,seval,hd,cb,ruleD,portD,r2];(repeat (first | refine ⟨by omega,?_⟩ | refine ⟨True.intro,?_⟩)))))
         refine z9 ⟨_,?_,rfl⟩;rw [Try.results62];simp (disch:=omega) only [ResVars,ResVar,ptrLoc,go_sem,seval,hd,cb,ruleD,portD,r2]
      ·rw [q15 (show l.length ≤ k by omega),Bool.true_and] at hr
       (repeat (first | apply j0 | refine q8 rfl ?_ | refine z8 rfl ?_ | apply z7 | (refine x4 fun K hK => ?_) | (refine j4 fun K hK => ?_) | ((first | apply j6 | apply x7 | ((first | refine j5 (hK _ ?_) | refine x6 (hK _ _ x5 ?_));clear hK K));(first | show AWP _ _ _ _ _ | ((try simp only [j7]);first | show loopQ _ _ _ _ _ _ | show cutQ _ _ _ _ | show AWP _ _ _ _ _))) | ((first | refine x8 [] rfl ?_ | refine j8 [] rfl ?_);simp (disch:=omega) only [go_sem,seval,hd,cb,ruleD,portD];(repeat (first | refine ⟨by omega,?_⟩ | refine ⟨True.intro,?_⟩)))))
       refine ⟨⟨i + 1,by omega,hr⟩,by simp only [];omega,?_⟩
       refine Weak.list ?_ ?_;(all_goals simp (disch:=omega) only [AllF,AllL,j10,q11,x10,exists_eq_left',go_sem,seval,hd,cb,ruleD,portD]);(all_goals (repeat' (with_reducible apply And.intro)));(all_goals try (first | exact q9 rfl | (refine z11 ?_;omega) | (refine q9 ?_;simp;done)))
     ·rw [q15 (by omega),if_pos rfl] at hr
      subst hr
      (repeat (first | apply j0 | refine q8 rfl ?_ | refine z8 rfl ?_ | apply z7 | (refine x4 fun K hK => ?_) | (refine j4 fun K hK => ?_) | ((first | apply j6 | apply x7 | ((first | refine j5 (hK _ ?_) | refine x6 (hK _ _ x5 ?_));clear hK K));(first | show AWP _ _ _ _ _ | ((try simp only [j7]);first | show loopQ _ _ _ _ _ _ | show cutQ _ _ _ _ | show AWP _ _ _ _ _))) | ((first | refine x8 [] rfl ?_ | refine j8 [] rfl ?_);simp (disch:=omega) only [go_sem,seval,hd,cb,ruleD,portD];(repeat (first | refine ⟨by omega,?_⟩ | refine ⟨True.intro,?_⟩)))))
      refine z9 ⟨_,?_,rfl⟩;rw [Try.results62];simp (disch:=omega) only [ResVars,ResVar,ptrLoc,go_sem,seval,hd,cb,ruleD,portD]
def rowTT (l : List (List (List Rule))) : Nat → List Dat := fun i => [.sl 1 (l.getD i []).length (rowRR (l.getD i []))]
theorem z24 (l : List (List (List Rule))) (i : Nat) : rowTT l i = [.sl 1 (l.getD i []).length (rowRR (l.getD i []))] := rfl
structure Config where
 tp : List (List Port)
 po : Policy
 tb : List (List (List Rule))
def configD (c : Config) : List Dat := [.sl 1 c.tp.length (rowPP c.tp),.v (.int .i64 c.po.tn),.sl 2 c.po.peers.length (rowA c.po.peers),.sl 3 c.po.ways.length (rowW c.po.ways),.sl 1 c.tb.length (rowTT c.tb)]
structure Config.small (c : Config) : Prop where
 tp : Go.Proofs.Ytjfammnjpeeahaa.small c.tp
 po : c.po.small
 tb : c.tb.length ≤ 1048576
 tabs : ∀ t ∈ c.tb,smallR t
theorem q129 : smallR [] := ⟨by simp,fun l h => by simp at h⟩
theorem Config.small.at {c : Config} (h : c.small) (i : Nat) : smallR (c.tb.getD i []) := by
 by_cases hi : i < c.tb.length
 ·exact h.tabs _ (j32 hi [])
 ·rw [List.getD_eq_getElem?_getD,List.getElem?_eq_none (by omega)];exact q129
theorem x59 {t : List (List Port)} {s : Spot} (h : s ∈ edgesT t) : ∃ i j : Nat,s = ⟨i,j⟩ ∧ i < t.length ∧ j < (t.getD i []).length ∧ edgeT t s = ((t.getD i []).getD j p0).tn := by
 obtain ⟨i,j,h1,h2,h3,rfl⟩ := q59.1 h
 refine ⟨i,j,rfl,h1,h2,?_⟩
 unfold edgeT
 rw [if_neg (by simp only [];omega),if_neg (by simp only [Int.toNat_natCast];omega),if_pos (by simp only [Int.toNat_natCast];exact h3)]
 simp only [Int.toNat_natCast]
def edgeOk (c : Config) (i : Nat) : Bool := tenantP c.po (edgeT c.tp ((edgesT c.tp).getD i s0))
def sizesB (c : Config) : Bool := allF (edgeOk c) (edgesT c.tp).length 0
def sizesC (c : Config) : Bool := if c.po.tn < 1 ∨ 4 < c.po.tn ∨ 16 < c.po.peers.length ∨ 4 < c.po.ways.length then false else sizesB c
theorem z129 (tn : Int) (a b : Nat) : tn < 1 ∨ (¬ tn < 1 ∧ 4 < tn) ∨ (¬ tn < 1 ∧ ¬ 4 < tn ∧ 16 < a) ∨ (¬ tn < 1 ∧ ¬ 4 < tn ∧ ¬ 16 < a ∧ 4 < b) ∨ (¬ tn < 1 ∧ ¬ 4 < tn ∧ ¬ 16 < a ∧ ¬ 4 < b) := by omega
def sizesI (c : Config) (l : List Spot) (R : Bool) (s : {i : Nat // i ≤ l.length ∧ allF (edgeOk c) l.length i = R}) : ASt :=
 ⟨[(32,.p (.d (.v (.int .i64 (s.val : Int))))),(31,.p (.d (.v (.int .i64 (l.length : Int))))),(30,.p (.d (.sl 2 l.length (rowS l)))),(3,.loc 3 0),(1,.p (.d (.bx (configD c))))],
  [(3,.cells 28 [.p (.d (.v (.int .i64 c.po.tn))),.p (.d (.sl 2 c.po.peers.length (rowA c.po.peers))),.p (.d (.sl 3 c.po.ways.length (rowW c.po.ways)))])]⟩
set_option maxRecDepth 100000 in
theorem sizes_c (c : Config) (hc : c.small) : ACalls Try.prog 60 [.agg (configD c)] (· = [.d (.v (.bool (sizesC c)))]) := by
 have hp := hc.po
 have hl1 := hp.1
 have hl2 := hp.2
 have ed := z82 c.tp hc.tp
 have eb := x38 hc.tp c.tp.length
 have et := hc.tp.1
 rw [show edgesTo c.tp c.tp.length = edgesT c.tp from rfl] at eb
 unfold sizesC
 simp only [topoD] at ed
 rcases z129 c.po.tn c.po.peers.length c.po.ways.length with h1 | ⟨h1,h2⟩ | ⟨h1,h2,h3⟩ | ⟨h1,h2,h3,h4⟩ | ⟨h1,h2,h3,h4⟩
 case' inr.inr.inr.inr =>
  rw [if_neg (by omega)]
  unfold sizesB
  have hin := fun i (h : i < (edgesT c.tp).length) => x59 (j32 h s0)
  have hok : ∀ i,edgeOk c i = tenantP c.po (edgeT c.tp ((edgesT c.tp).getD i s0)) := fun i => rfl
  generalize edgesT c.tp = l at ed eb hin hok
  generalize hR : allF (edgeOk c) l.length 0 = R
  refine x9 Try.func60 rfl (by decide +kernel) (by rw [Try.ntmps60];simp) ?_;rw [Try.ntmps60];simp only [frOf]
  (repeat (first | apply j0 | refine q8 rfl ?_ | refine z8 rfl ?_ | apply z7 | (refine x4 fun K hK => ?_) | (refine j4 fun K hK => ?_) | ((first | apply j6 | apply x7 | ((first | refine j5 (hK _ ?_) | refine x6 (hK _ _ x5 ?_));clear hK K));(first | show AWP _ _ _ _ _ | ((try simp only [j7]);first | show loopQ _ _ _ _ _ _ | show cutQ _ _ _ _ | show AWP _ _ _ _ _))) | ((first | refine q10 rfl rfl rfl ?_ | refine z10 rfl rfl rfl ?_);simp (disch:=omega) only [go_sem,seval,policyD,wayD,pairD,spotD,topoD,configD,j9];(first | refine ⟨_,ed,?_⟩)) | ((first | refine x8 [] rfl ?_ | refine j8 [] rfl ?_);simp (disch:=omega) only [go_sem,seval,policyD,wayD,pairD,spotD,topoD,configD,j9];(repeat (first | refine ⟨by omega,?_⟩ | refine ⟨True.intro,?_⟩)))))
  refine x12 (sizesI c l R) (fun s => l.length - s.val) ⟨0,Nat.zero_le _,hR⟩ ?_ (fun s => ?_)
  ·unfold sizesI
   refine Weak.list ?_ ?_;(all_goals simp (disch:=omega) only [AllF,AllL,j10,q11,x10,exists_eq_left',go_sem,seval,policyD,wayD,pairD,spotD,topoD,configD,j9]);(all_goals (repeat' (with_reducible apply And.intro)));(all_goals try (first | exact q9 rfl | (refine z11 ?_;omega) | (refine q9 ?_;simp;done)))
  obtain ⟨i,hi,hr⟩ := s
  unfold sizesI
  simp only [] at hi hr ⊢
  by_cases h : i < l.length
  ·rw [j14 h,hok] at hr
   have r1 := j82 l i
   obtain ⟨n,k,e1,e2,e3,e4⟩ := hin i h
   rw [e4] at hr
   rw [e1] at r1
   simp only [spotD] at r1
   have r2 := q18 c.tp n
   have r3 := j22 (c.tp.getD n []) k
   have l1 := j16 hc.tp n
   generalize c.tp.getD n [] = ps at r2 r3 e3 hr l1
   generalize ps.getD k p0 = p at r3 hr
   obtain ⟨kd,tn,pe,at',co⟩ := p
   simp only [portD] at r3
   simp only [] at hr
   have ct := z29 c.po tn
   simp only [policyD] at ct
   generalize tenantP c.po tn = b at hr ct
   cases b
   ·rw [Bool.false_and] at hr
    subst hr
    (repeat (first | apply j0 | refine q8 rfl ?_ | refine z8 rfl ?_ | apply z7 | (refine x4 fun K hK => ?_) | (refine j4 fun K hK => ?_) | ((first | apply j6 | apply x7 | ((first | refine j5 (hK _ ?_) | refine x6 (hK _ _ x5 ?_));clear hK K));(first | show AWP _ _ _ _ _ | ((try simp only [j7]);first | show loopQ _ _ _ _ _ _ | show cutQ _ _ _ _ | show AWP _ _ _ _ _))) | ((first | refine q10 rfl rfl rfl ?_ | refine z10 rfl rfl rfl ?_);simp (disch:=omega) only [go_sem,seval,policyD,wayD,pairD,spotD,topoD,configD,j9,r1,r2,r3];(first | refine ⟨_,ct,?_⟩)) | ((first | refine x8 [] rfl ?_ | refine j8 [] rfl ?_);simp (disch:=omega) only [go_sem,seval,policyD,wayD,pairD,spotD,topoD,configD,j9,r1,r2,r3];(repeat (first | refine ⟨by omega,?_⟩ | refine ⟨True.intro,?_⟩)))))
    refine z9 ⟨_,?_,rfl⟩;rw [Try.results60];simp (disch:=omega) only [ResVars,ResVar,ptrLoc,go_sem,seval,policyD,wayD,pairD,spotD,topoD,configD,j9,r1,r2,r3]
   ·rw [Bool.true_and] at hr
    (repeat (first | apply j0 | refine q8 rfl ?_ | refine z8 rfl ?_ | apply z7 | (refine x4 fun K hK => ?_) | (refine j4 fun K hK => ?_) | ((first | apply j6 | apply x7 | ((first | refine j5 (hK _ ?_) | refine x6 (hK _ _ x5 ?_));clear hK K));(first | show AWP _ _ _ _ _ | ((try simp only [j7]);first | show loopQ _ _ _ _ _ _ | show cutQ _ _ _ _ | show AWP _ _ _ _ _))) | ((first | refine q10 rfl rfl rfl ?_ | refine z10 rfl rfl rfl ?_);simp (disch:=omega) only [go_sem,seval,policyD,wayD,pairD,spotD,topoD,configD,j9,r1,r2,r3];(first | refine ⟨_,ct,?_⟩)) | ((first | refine x8 [] rfl ?_ | refine j8 [] rfl ?_);simp (disch:=omega) only [go_sem,seval,policyD,wayD,pairD,spotD,topoD,configD,j9,r1,r2,r3];(repeat (first | refine ⟨by omega,?_⟩ | refine ⟨True.intro,?_⟩)))))
    refine ⟨⟨i + 1,by omega,hr⟩,by simp only [];omega,?_⟩
    refine Weak.list ?_ ?_;(all_goals simp (disch:=omega) only [AllF,AllL,j10,q11,x10,exists_eq_left',go_sem,seval,policyD,wayD,pairD,spotD,topoD,configD,j9,r1,r2,r3]);(all_goals (repeat' (with_reducible apply And.intro)));(all_goals try (first | exact q9 rfl | (refine z11 ?_;omega) | (refine q9 ?_;simp;done)))
  ·rw [q15 (by omega)] at hr
   subst hr
   (repeat (first | apply j0 | refine q8 rfl ?_ | refine z8 rfl ?_ | apply z7 | (refine x4 fun K hK => ?_) | (refine j4 fun K hK => ?_) | ((first | apply j6 | apply x7 | ((first | refine j5 (hK _ ?_) | refine x6 (hK _ _ x5 ?_));clear hK K));(first | show AWP _ _ _ _ _ | ((try simp only [j7]);first | show loopQ _ _ _ _ _ _ | show cutQ _ _ _ _ | show AWP _ _ _ _ _))) | ((first | refine x8 [] rfl ?_ | refine j8 [] rfl ?_);simp (disch:=omega) only [go_sem,seval,policyD,wayD,pairD,spotD,topoD,configD,j9];(repeat (first | refine ⟨by omega,?_⟩ | refine ⟨True.intro,?_⟩)))))
   refine z9 ⟨_,?_,rfl⟩;rw [Try.results60];simp (disch:=omega) only [ResVars,ResVar,ptrLoc,go_sem,seval,policyD,wayD,pairD,spotD,topoD,configD,j9]
 all_goals
  rw [if_pos (by omega)]
  refine x9 Try.func60 rfl (by decide +kernel) (by rw [Try.ntmps60];simp) ?_;rw [Try.ntmps60];simp only [frOf]
  (repeat (first | apply j0 | refine q8 rfl ?_ | refine z8 rfl ?_ | apply z7 | (refine x4 fun K hK => ?_) | (refine j4 fun K hK => ?_) | ((first | apply j6 | apply x7 | ((first | refine j5 (hK _ ?_) | refine x6 (hK _ _ x5 ?_));clear hK K));(first | show AWP _ _ _ _ _ | ((try simp only [j7]);first | show loopQ _ _ _ _ _ _ | show cutQ _ _ _ _ | show AWP _ _ _ _ _))) | ((first | refine x8 [] rfl ?_ | refine j8 [] rfl ?_);simp (disch:=omega) only [go_sem,seval,policyD,wayD,pairD,spotD,topoD,configD,j9];(repeat (first | refine ⟨by omega,?_⟩ | refine ⟨True.intro,?_⟩)))))
  refine z9 ⟨_,?_,rfl⟩;rw [Try.results60];simp (disch:=omega) only [ResVars,ResVar,ptrLoc,go_sem,seval,policyD,wayD,pairD,spotD,topoD,configD,j9]
def pairOk (c : Config) (i : Nat) : Bool := tenantP c.po (c.po.peers.getD i (0,0)).1 && tenantP c.po (c.po.peers.getD i (0,0)).2
def wayOk (c : Config) (i : Nat) : Bool := tenantP c.po (c.po.ways.getD i w0).fr && tenantP c.po (c.po.ways.getD i w0).to && decide (0 ≤ (c.po.ways.getD i w0).via) && decide ((c.po.ways.getD i w0).via < c.tp.length)
def policyC (c : Config) : Bool := allF (pairOk c) c.po.peers.length 0 && allF (wayOk c) c.po.ways.length 0
def polyI (c : Config) (R : Bool) (s : {i : Nat // i ≤ c.po.peers.length ∧ (allF (pairOk c) c.po.peers.length i && allF (wayOk c) c.po.ways.length 0) = R}) : ASt :=
 ⟨[(13,.p (.d (.v (.int .i64 (s.val : Int))))),(12,.p (.d (.v (.int .i64 (c.po.peers.length : Int))))),(11,.p (.d (.sl 2 c.po.peers.length (rowA c.po.peers)))),(3,.loc 3 0),(1,.p (.d (.bx (configD c))))],
  [(3,.cells 28 [.p (.d (.v (.int .i64 c.po.tn))),.p (.d (.sl 2 c.po.peers.length (rowA c.po.peers))),.p (.d (.sl 3 c.po.ways.length (rowW c.po.ways)))])]⟩
def polyJ (c : Config) (R : Bool) (s : {i : Nat // i ≤ c.po.ways.length ∧ allF (wayOk c) c.po.ways.length i = R}) : ASt :=
 ⟨[(33,.p (.d (.v (.int .i64 (s.val : Int))))),(32,.p (.d (.v (.int .i64 (c.po.ways.length : Int))))),(31,.p (.d (.sl 3 c.po.ways.length (rowW c.po.ways)))),(3,.loc 3 0),(1,.p (.d (.bx (configD c))))],
  [(3,.cells 28 [.p (.d (.v (.int .i64 c.po.tn))),.p (.d (.sl 2 c.po.peers.length (rowA c.po.peers))),.p (.d (.sl 3 c.po.ways.length (rowW c.po.ways)))])]⟩
set_option maxRecDepth 100000 in
theorem x129 (c : Config) (hc : c.small) : ACalls Try.prog 61 [.agg (configD c)] (· = [.d (.v (.bool (policyC c)))]) := by
 have hl1 := hc.po.1
 have hl2 := hc.po.2
 have et := hc.tp.1
 unfold policyC
 generalize hR : (allF (pairOk c) c.po.peers.length 0 && allF (wayOk c) c.po.ways.length 0) = R
 refine x9 Try.func61 rfl (by decide +kernel) (by rw [Try.ntmps61];simp) ?_;rw [Try.ntmps61];simp only [frOf]
 (repeat (first | apply j0 | refine q8 rfl ?_ | refine z8 rfl ?_ | apply z7 | (refine x4 fun K hK => ?_) | (refine j4 fun K hK => ?_) | ((first | apply j6 | apply x7 | ((first | refine j5 (hK _ ?_) | refine x6 (hK _ _ x5 ?_));clear hK K));(first | show AWP _ _ _ _ _ | ((try simp only [j7]);first | show loopQ _ _ _ _ _ _ | show cutQ _ _ _ _ | show AWP _ _ _ _ _))) | ((first | refine x8 [] rfl ?_ | refine j8 [] rfl ?_);simp (disch:=omega) only [go_sem,seval,policyD,wayD,pairD,spotD,topoD,configD,j9];(repeat (first | refine ⟨by omega,?_⟩ | refine ⟨True.intro,?_⟩)))))
 refine x12 (polyI c R) (fun s => c.po.peers.length - s.val) ⟨0,Nat.zero_le _,hR⟩ ?_ (fun s => ?_)
 ·unfold polyI
  refine Weak.list ?_ ?_;(all_goals simp (disch:=omega) only [AllF,AllL,j10,q11,x10,exists_eq_left',go_sem,seval,policyD,wayD,pairD,spotD,topoD,configD,j9]);(all_goals (repeat' (with_reducible apply And.intro)));(all_goals try (first | exact q9 rfl | (refine z11 ?_;omega) | (refine q9 ?_;simp;done)))
 obtain ⟨i,hi,hr⟩ := s
 unfold polyI
 simp only [] at hi hr ⊢
 by_cases h : i < c.po.peers.length
 ·have hok : pairOk c i = (tenantP c.po (c.po.peers.getD i (0,0)).1 && tenantP c.po (c.po.peers.getD i (0,0)).2) := rfl
  rw [j14 h,hok] at hr
  have r1 := q33 c.po.peers i
  generalize c.po.peers.getD i (0,0) = x at r1 hr
  obtain ⟨x1,x2⟩ := x
  simp only [pairD] at r1
  simp only [] at hr
  have c1 := z29 c.po x1
  have c2 := z29 c.po x2
  simp only [policyD] at c1 c2
  generalize tenantP c.po x1 = b1 at c1 hr
  generalize tenantP c.po x2 = b2 at c2 hr
  cases b1
  ·simp only [Bool.false_and] at hr
   subst hr
   (repeat (first | apply j0 | refine q8 rfl ?_ | refine z8 rfl ?_ | apply z7 | (refine x4 fun K hK => ?_) | (refine j4 fun K hK => ?_) | ((first | apply j6 | apply x7 | ((first | refine j5 (hK _ ?_) | refine x6 (hK _ _ x5 ?_));clear hK K));(first | show AWP _ _ _ _ _ | ((try simp only [j7]);first | show loopQ _ _ _ _ _ _ | show cutQ _ _ _ _ | show AWP _ _ _ _ _))) | ((first | refine q10 rfl rfl rfl ?_ | refine z10 rfl rfl rfl ?_);simp (disch:=omega) only [go_sem,seval,policyD,wayD,pairD,spotD,topoD,configD,j9,r1];(first | refine ⟨_,c1,?_⟩)) | ((first | refine x8 [] rfl ?_ | refine j8 [] rfl ?_);simp (disch:=omega) only [go_sem,seval,policyD,wayD,pairD,spotD,topoD,configD,j9,r1];(repeat (first | refine ⟨by omega,?_⟩ | refine ⟨True.intro,?_⟩)))))
   refine z9 ⟨_,?_,rfl⟩;rw [Try.results61];simp (disch:=omega) only [ResVars,ResVar,ptrLoc,go_sem,seval,policyD,wayD,pairD,spotD,topoD,configD,j9,r1]
  ·cases b2
   ·simp only [Bool.true_and,Bool.false_and] at hr
    subst hr
    (repeat (first | apply j0 | refine q8 rfl ?_ | refine z8 rfl ?_ | apply z7 | (refine x4 fun K hK => ?_) | (refine j4 fun K hK => ?_) | ((first | apply j6 | apply x7 | ((first | refine j5 (hK _ ?_) | refine x6 (hK _ _ x5 ?_));clear hK K));(first | show AWP _ _ _ _ _ | ((try simp only [j7]);first | show loopQ _ _ _ _ _ _ | show cutQ _ _ _ _ | show AWP _ _ _ _ _))) | ((first | refine q10 rfl rfl rfl ?_ | refine z10 rfl rfl rfl ?_);simp (disch:=omega) only [go_sem,seval,policyD,wayD,pairD,spotD,topoD,configD,j9,r1];(first | refine ⟨_,c1,?_⟩ | refine ⟨_,c2,?_⟩)) | ((first | refine x8 [] rfl ?_ | refine j8 [] rfl ?_);simp (disch:=omega) only [go_sem,seval,policyD,wayD,pairD,spotD,topoD,configD,j9,r1];(repeat (first | refine ⟨by omega,?_⟩ | refine ⟨True.intro,?_⟩)))))
    refine z9 ⟨_,?_,rfl⟩;rw [Try.results61];simp (disch:=omega) only [ResVars,ResVar,ptrLoc,go_sem,seval,policyD,wayD,pairD,spotD,topoD,configD,j9,r1]
   ·simp only [Bool.true_and] at hr
    (repeat (first | apply j0 | refine q8 rfl ?_ | refine z8 rfl ?_ | apply z7 | (refine x4 fun K hK => ?_) | (refine j4 fun K hK => ?_) | ((first | apply j6 | apply x7 | ((first | refine j5 (hK _ ?_) | refine x6 (hK _ _ x5 ?_));clear hK K));(first | show AWP _ _ _ _ _ | ((try simp only [j7]);first | show loopQ _ _ _ _ _ _ | show cutQ _ _ _ _ | show AWP _ _ _ _ _))) | ((first | refine q10 rfl rfl rfl ?_ | refine z10 rfl rfl rfl ?_);simp (disch:=omega) only [go_sem,seval,policyD,wayD,pairD,spotD,topoD,configD,j9,r1];(first | refine ⟨_,c1,?_⟩ | refine ⟨_,c2,?_⟩)) | ((first | refine x8 [] rfl ?_ | refine j8 [] rfl ?_);simp (disch:=omega) only [go_sem,seval,policyD,wayD,pairD,spotD,topoD,configD,j9,r1];(repeat (first | refine ⟨by omega,?_⟩ | refine ⟨True.intro,?_⟩)))))
    refine ⟨⟨i + 1,by omega,hr⟩,by simp only [];omega,?_⟩
    refine Weak.list ?_ ?_;(all_goals simp (disch:=omega) only [AllF,AllL,j10,q11,x10,exists_eq_left',go_sem,seval,policyD,wayD,pairD,spotD,topoD,configD,j9,r1]);(all_goals (repeat' (with_reducible apply And.intro)));(all_goals try (first | exact q9 rfl | (refine z11 ?_;omega) | (refine q9 ?_;simp;done)))
 ·rw [q15 (show c.po.peers.length ≤ i by omega),Bool.true_and] at hr
  (repeat (first | apply j0 | refine q8 rfl ?_ | refine z8 rfl ?_ | apply z7 | (refine x4 fun K hK => ?_) | (refine j4 fun K hK => ?_) | ((first | apply j6 | apply x7 | ((first | refine j5 (hK _ ?_) | refine x6 (hK _ _ x5 ?_));clear hK K));(first | show AWP _ _ _ _ _ | ((try simp only [j7]);first | show loopQ _ _ _ _ _ _ | show cutQ _ _ _ _ | show AWP _ _ _ _ _))) | ((first | refine x8 [] rfl ?_ | refine j8 [] rfl ?_);simp (disch:=omega) only [go_sem,seval,policyD,wayD,pairD,spotD,topoD,configD,j9];(repeat (first | refine ⟨by omega,?_⟩ | refine ⟨True.intro,?_⟩)))))
  refine x12 (polyJ c R) (fun s => c.po.ways.length - s.val) ⟨0,Nat.zero_le _,hr⟩ ?_ (fun s => ?_)
  ·unfold polyJ
   refine Weak.list ?_ ?_;(all_goals simp (disch:=omega) only [AllF,AllL,j10,q11,x10,exists_eq_left',go_sem,seval,policyD,wayD,pairD,spotD,topoD,configD,j9]);(all_goals (repeat' (with_reducible apply And.intro)));(all_goals try (first | exact q9 rfl | (refine z11 ?_;omega) | (refine q9 ?_;simp;done)))
  obtain ⟨i,hi,hr⟩ := s
  unfold polyJ
  simp only [] at hi hr ⊢
  by_cases h : i < c.po.ways.length
  ·have hok : wayOk c i = (tenantP c.po (c.po.ways.getD i w0).fr && tenantP c.po (c.po.ways.getD i w0).to && decide (0 ≤ (c.po.ways.getD i w0).via) && decide ((c.po.ways.getD i w0).via < c.tp.length)) := rfl
   rw [j14 h,hok] at hr
   have r1 := j38 c.po.ways i
   generalize c.po.ways.getD i w0 = x at r1 hr
   obtain ⟨x1,x2,x3⟩ := x
   simp only [wayD] at r1
   simp only [] at hr
   have c1 := z29 c.po x1
   have c2 := z29 c.po x2
   simp only [policyD] at c1 c2
   generalize tenantP c.po x1 = b1 at c1 hr
   generalize tenantP c.po x2 = b2 at c2 hr
   cases b1
   ·simp only [Bool.false_and] at hr
    subst hr
    (repeat (first | apply j0 | refine q8 rfl ?_ | refine z8 rfl ?_ | apply z7 | (refine x4 fun K hK => ?_) | (refine j4 fun K hK => ?_) | ((first | apply j6 | apply x7 | ((first | refine j5 (hK _ ?_) | refine x6 (hK _ _ x5 ?_));clear hK K));(first | show AWP _ _ _ _ _ | ((try simp only [j7]);first | show loopQ _ _ _ _ _ _ | show cutQ _ _ _ _ | show AWP _ _ _ _ _))) | ((first | refine q10 rfl rfl rfl ?_ | refine z10 rfl rfl rfl ?_);simp (disch:=omega) only [go_sem,seval,policyD,wayD,pairD,spotD,topoD,configD,j9,r1];(first | refine ⟨_,c1,?_⟩)) | ((first | refine x8 [] rfl ?_ | refine j8 [] rfl ?_);simp (disch:=omega) only [go_sem,seval,policyD,wayD,pairD,spotD,topoD,configD,j9,r1];(repeat (first | refine ⟨by omega,?_⟩ | refine ⟨True.intro,?_⟩)))))
    refine z9 ⟨_,?_,rfl⟩;rw [Try.results61];simp (disch:=omega) only [ResVars,ResVar,ptrLoc,go_sem,seval,policyD,wayD,pairD,spotD,topoD,configD,j9,r1]
   ·cases b2
    ·simp only [Bool.true_and,Bool.false_and] at hr
     subst hr
     (repeat (first | apply j0 | refine q8 rfl ?_ | refine z8 rfl ?_ | apply z7 | (refine x4 fun K hK => ?_) | (refine j4 fun K hK => ?_) | ((first | apply j6 | apply x7 | ((first | refine j5 (hK _ ?_) | refine x6 (hK _ _ x5 ?_));clear hK K));(first | show AWP _ _ _ _ _ | ((try simp only [j7]);first | show loopQ _ _ _ _ _ _ | show cutQ _ _ _ _ | show AWP _ _ _ _ _))) | ((first | refine q10 rfl rfl rfl ?_ | refine z10 rfl rfl rfl ?_);simp (disch:=omega) only [go_sem,seval,policyD,wayD,pairD,spotD,topoD,configD,j9,r1];(first | refine ⟨_,c1,?_⟩ | refine ⟨_,c2,?_⟩)) | ((first | refine x8 [] rfl ?_ | refine j8 [] rfl ?_);simp (disch:=omega) only [go_sem,seval,policyD,wayD,pairD,spotD,topoD,configD,j9,r1];(repeat (first | refine ⟨by omega,?_⟩ | refine ⟨True.intro,?_⟩)))))
     refine z9 ⟨_,?_,rfl⟩;rw [Try.results61];simp (disch:=omega) only [ResVars,ResVar,ptrLoc,go_sem,seval,policyD,wayD,pairD,spotD,topoD,configD,j9,r1]
    ·by_cases h3 : 0 ≤ x3
     ·by_cases h4 : x3 < c.tp.length
      ·rw [decide_eq_true h3,decide_eq_true h4] at hr
       simp only [Bool.true_and] at hr
       (repeat (first | apply j0 | refine q8 rfl ?_ | refine z8 rfl ?_ | apply z7 | (refine x4 fun K hK => ?_) | (refine j4 fun K hK => ?_) | ((first | apply j6 | apply x7 | ((first | refine j5 (hK _ ?_) | refine x6 (hK _ _ x5 ?_));clear hK K));(first | show AWP _ _ _ _ _ | ((try simp only [j7]);first | show loopQ _ _ _ _ _ _ | show cutQ _ _ _ _ | show AWP _ _ _ _ _))) | ((first | refine q10 rfl rfl rfl ?_ | refine z10 rfl rfl rfl ?_);simp (disch:=omega) only [go_sem,seval,policyD,wayD,pairD,spotD,topoD,configD,j9,r1];(first | refine ⟨_,c1,?_⟩ | refine ⟨_,c2,?_⟩)) | ((first | refine x8 [] rfl ?_ | refine j8 [] rfl ?_);simp (disch:=omega) only [go_sem,seval,policyD,wayD,pairD,spotD,topoD,configD,j9,r1];(repeat (first | refine ⟨by omega,?_⟩ | refine ⟨True.intro,?_⟩)))))
       refine ⟨⟨i + 1,by omega,hr⟩,by simp only [];omega,?_⟩
       refine Weak.list ?_ ?_;(all_goals simp (disch:=omega) only [AllF,AllL,j10,q11,x10,exists_eq_left',go_sem,seval,policyD,wayD,pairD,spotD,topoD,configD,j9,r1]);(all_goals (repeat' (with_reducible apply And.intro)));(all_goals try (first | exact q9 rfl | (refine z11 ?_;omega) | (refine q9 ?_;simp;done)))
      ·rw [decide_eq_true h3,decide_eq_false h4] at hr
       simp only [Bool.true_and,Bool.false_and] at hr
       subst hr
       (repeat (first | apply j0 | refine q8 rfl ?_ | refine z8 rfl ?_ | apply z7 | (refine x4 fun K hK => ?_) | (refine j4 fun K hK => ?_) | ((first | apply j6 | apply x7 | ((first | refine j5 (hK _ ?_) | refine x6 (hK _ _ x5 ?_));clear hK K));(first | show AWP _ _ _ _ _ | ((try simp only [j7]);first | show loopQ _ _ _ _ _ _ | show cutQ _ _ _ _ | show AWP _ _ _ _ _))) | ((first | refine q10 rfl rfl rfl ?_ | refine z10 rfl rfl rfl ?_);simp (disch:=omega) only [go_sem,seval,policyD,wayD,pairD,spotD,topoD,configD,j9,r1];(first | refine ⟨_,c1,?_⟩ | refine ⟨_,c2,?_⟩)) | ((first | refine x8 [] rfl ?_ | refine j8 [] rfl ?_);simp (disch:=omega) only [go_sem,seval,policyD,wayD,pairD,spotD,topoD,configD,j9,r1];(repeat (first | refine ⟨by omega,?_⟩ | refine ⟨True.intro,?_⟩)))))
       refine z9 ⟨_,?_,rfl⟩;rw [Try.results61];simp (disch:=omega) only [ResVars,ResVar,ptrLoc,go_sem,seval,policyD,wayD,pairD,spotD,topoD,configD,j9,r1]
     ·rw [decide_eq_false h3] at hr
      simp only [Bool.true_and,Bool.false_and] at hr
      subst hr
      (repeat (first | apply j0 | refine q8 rfl ?_ | refine z8 rfl ?_ | apply z7 | (refine x4 fun K hK => ?_) | (refine j4 fun K hK => ?_) | ((first | apply j6 | apply x7 | ((first | refine j5 (hK _ ?_) | refine x6 (hK _ _ x5 ?_));clear hK K));(first | show AWP _ _ _ _ _ | ((try simp only [j7]);first | show loopQ _ _ _ _ _ _ | show cutQ _ _ _ _ | show AWP _ _ _ _ _))) | ((first | refine q10 rfl rfl rfl ?_ | refine z10 rfl rfl rfl ?_);simp (disch:=omega) only [go_sem,seval,policyD,wayD,pairD,spotD,topoD,configD,j9,r1];(first | refine ⟨_,c1,?_⟩ | refine ⟨_,c2,?_⟩)) | ((first | refine x8 [] rfl ?_ | refine j8 [] rfl ?_);simp (disch:=omega) only [go_sem,seval,policyD,wayD,pairD,spotD,topoD,configD,j9,r1];(repeat (first | refine ⟨by omega,?_⟩ | refine ⟨True.intro,?_⟩)))))
      refine z9 ⟨_,?_,rfl⟩;rw [Try.results61];simp (disch:=omega) only [ResVars,ResVar,ptrLoc,go_sem,seval,policyD,wayD,pairD,spotD,topoD,configD,j9,r1]
  ·rw [q15 (show c.po.ways.length ≤ i by omega)] at hr
   subst hr
   (repeat (first | apply j0 | refine q8 rfl ?_ | refine z8 rfl ?_ | apply z7 | (refine x4 fun K hK => ?_) | (refine j4 fun K hK => ?_) | ((first | apply j6 | apply x7 | ((first | refine j5 (hK _ ?_) | refine x6 (hK _ _ x5 ?_));clear hK K));(first | show AWP _ _ _ _ _ | ((try simp only [j7]);first | show loopQ _ _ _ _ _ _ | show cutQ _ _ _ _ | show AWP _ _ _ _ _))) | ((first | refine x8 [] rfl ?_ | refine j8 [] rfl ?_);simp (disch:=omega) only [go_sem,seval,policyD,wayD,pairD,spotD,topoD,configD,j9];(repeat (first | refine ⟨by omega,?_⟩ | refine ⟨True.intro,?_⟩)))))
   refine z9 ⟨_,?_,rfl⟩;rw [Try.results61];simp (disch:=omega) only [ResVars,ResVar,ptrLoc,go_sem,seval,policyD,wayD,pairD,spotD,topoD,configD,j9]
def pairSh : Sh := .pair (.int .i64) (.pair (.int .i64) .unit)
def waySh : Sh := .pair (.int .i64) (.pair (.int .i64) (.pair (.int .i64) .unit))
def topoSh : Sh := .pair (.slice (.slice portSh)) .unit
def policySh : Sh := .pair (.int .i64) (.pair (.slice pairSh) (.pair (.slice waySh) .unit))
def tabsSh : Sh := .slice (.slice ruleSh)
def configSh : Sh := .pair topoSh (.pair policySh (.pair (.slice tabsSh) .unit))
theorem is_pair {N : Nat} {ds : List Dat} (h : Is N pairSh ds) : ∃ p : Int × Int,ds = pairD p ∧ in64 p.1 ∧ in64 p.2 := by
 obtain ⟨_,_,rfl,⟨a,rfl,wa⟩,_,_,rfl,⟨b,rfl,wb⟩,rfl⟩ := h
 exact ⟨⟨a,b⟩,rfl,q20 wa,q20 wb⟩
theorem is_way {N : Nat} {ds : List Dat} (h : Is N waySh ds) : ∃ w : Way,ds = wayD w ∧ in64 w.fr := by
 obtain ⟨_,_,rfl,⟨a,rfl,wa⟩,_,_,rfl,⟨b,rfl,wb⟩,_,_,rfl,⟨c,rfl,wc⟩,rfl⟩ := h
 exact ⟨⟨a,b,c⟩,rfl,q20 wa⟩
theorem j129 {N : Nat} {ds : List Dat} (h : Is N (.slice (.slice portSh)) ds) : ∃ l : List (List Port),ds = [.sl 1 l.length (rowPP l)] ∧ l.length ≤ N ∧ ∀ r ∈ l,r.length ≤ N :=
 z28 (fun r : List Port => [Dat.sl 5 r.length (rowP r)]) [] (.slice portSh) rfl (fun ds hd => z127 hd) h
theorem is_tabs {N : Nat} {ds : List Dat} (h : Is N tabsSh ds) : ∃ l : List (List Rule),ds = [.sl 1 l.length (rowRR l)] ∧ l.length ≤ N ∧ ∀ r ∈ l,r.length ≤ N :=
 z28 (fun r : List Rule => [Dat.sl 12 r.length (rowR r)]) [] (.slice ruleSh) (by
  have : rowR [] = fun _ => zeroSh ruleSh := by
   funext i
   show ruleD r0 = _
   simp only [ruleD,r0,z18,x18];rfl
  show [Dat.sl 12 0 (rowR [])] = _
  rw [this];rfl) (fun ds hd => q127 hd) h
theorem q130 {N : Nat} {ds : List Dat} (h : Is N (.slice tabsSh) ds) : ∃ l : List (List (List Rule)),ds = [.sl 1 l.length (rowTT l)] ∧ l.length ≤ N ∧ ∀ t ∈ l,t.length ≤ N ∧ ∀ r ∈ t,r.length ≤ N :=
 z28 (Q := fun t : List (List Rule) => t.length ≤ N ∧ ∀ r ∈ t,r.length ≤ N) (fun t : List (List Rule) => [Dat.sl 1 t.length (rowRR t)]) [] tabsSh (by
  have h0 : rowR [] = fun _ => zeroSh ruleSh := by
   funext i
   show ruleD r0 = _
   simp only [ruleD,r0,z18,x18];rfl
  have : rowRR [] = fun _ => zeroSh (.slice ruleSh) := by
   funext i
   show [Dat.sl 12 0 (rowR [])] = _
   rw [h0];rfl
  show [Dat.sl 1 0 (rowRR [])] = _
  rw [this];rfl) (fun ds hd => is_tabs hd) h
theorem z130 {N : Nat} {ds : List Dat} (h : Is N (.slice pairSh) ds) : ∃ l : List (Int × Int),ds = [.sl 2 l.length (rowA l)] ∧ l.length ≤ N := by
 obtain ⟨l,h1,h2,_⟩ := z28 (Q := fun _ => True) pairD (0,0) pairSh rfl (fun ds hd => by obtain ⟨p,h1,_⟩ := is_pair hd;exact ⟨p,h1,trivial⟩) h
 exact ⟨l,h1,h2⟩
theorem is_ways {N : Nat} {ds : List Dat} (h : Is N (.slice waySh) ds) : ∃ l : List Way,ds = [.sl 3 l.length (rowW l)] ∧ l.length ≤ N := by
 obtain ⟨l,h1,h2,_⟩ := z28 (Q := fun _ => True) wayD w0 waySh rfl (fun ds hd => by obtain ⟨p,h1,_⟩ := is_way hd;exact ⟨p,h1,trivial⟩) h
 exact ⟨l,h1,h2⟩
theorem x130 {ds : List Dat} (h : Is 1048576 policySh ds) : ∃ p : Policy,ds = policyD p ∧ p.small ∧ in64 p.tn := by
 obtain ⟨_,_,rfl,⟨a,rfl,wa⟩,_,_,rfl,hb,_,_,rfl,hc,rfl⟩ := h
 obtain ⟨ps,rfl,h1⟩ := z130 hb
 obtain ⟨ws,rfl,h2⟩ := is_ways hc
 exact ⟨⟨a,ps,ws⟩,rfl,⟨by simp only [];omega,by simp only [];omega⟩,q20 wa⟩
theorem z84 {ds : List Dat} (h : Is 1048576 configSh ds) : ∃ c : Config,ds = configD c ∧ c.small := by
 obtain ⟨_,_,rfl,⟨_,_,rfl,ha,rfl⟩,_,_,rfl,hb,_,_,rfl,hc,rfl⟩ := h
 obtain ⟨tp,rfl,t1,t2⟩ := j129 ha
 obtain ⟨po,rfl,p1,_⟩ := x130 hb
 obtain ⟨tb,rfl,b1,b2⟩ := q130 hc
 exact ⟨⟨tp,po,tb⟩,rfl,⟨⟨t1,t2⟩,p1,b1,b2⟩⟩
def errF (f : Nat → Int) : Nat → Nat → Int
 | 0,_ => 0
 | m + 1,i => if f i = 0 then errF f m (i + 1) else f i
theorem j130 {f : Nat → Int} {n i : Nat} (h : i < n) : errF f (n - i) i = if f i = 0 then errF f (n - (i + 1)) (i + 1) else f i := by
 rw [show n - i = (n - (i + 1)) + 1 by omega];rfl
theorem q131 {f : Nat → Int} {n i : Nat} (h : n ≤ i) : errF f (n - i) i = 0 := by
 rw [show n - i = 0 by omega];rfl
def polE (c : Config) : Int := if sizesC c = false then 4 else if policyC c = false then 2 else 0
def tabE (c : Config) (i : Nat) : Int := soundTab (c.tb.getD i []) (c.tp.getD i [])
def soundC (c : Config) : Int := if soundT c.tp ≠ 0 then soundT c.tp else if polE c ≠ 0 then polE c else if c.tb.length ≠ c.tp.length then 4 else errF (tabE c) c.tb.length 0
def soundCI (c : Config) (R : Int) (s : {i : Nat // i ≤ c.tb.length ∧ errF (tabE c) (c.tb.length - i) i = R}) : ASt :=
 ⟨[(33,.p (.d (.v (.int .i64 (s.val : Int))))),(32,.p (.d (.v (.int .i64 (c.tb.length : Int))))),(31,.p (.d (.sl 1 c.tb.length (rowTT c.tb)))),(1,.p (.d (.bx (configD c))))],[]⟩
set_option maxRecDepth 100000 in
theorem x84 (c : Config) (hc : c.small) : ACalls Try.prog 37 [.agg (configD c)] (· = [.d (.v (.int .i64 (soundC c)))]) := by
 have s1 := j127 c.tp hc.tp
 have s2 := sizes_c c hc
 have s3 := x129 c hc
 have htp := hc.tp
 have hat := hc.at
 have hb := hc.tb
 have hb2 := hc.tp.1
 unfold soundC polE
 simp only [topoD] at s1
 simp only [configD] at s2 s3
 generalize soundT c.tp = e1 at s1
 generalize sizesC c = b2 at s2
 generalize policyC c = b3 at s3
 by_cases h1 : e1 = 0
 ·subst h1
  rw [if_neg (by decide)]
  cases b2
  ·simp only [if_true]
   rw [if_pos (by decide)]
   refine x9 Try.func37 rfl (by decide +kernel) (by rw [Try.ntmps37];simp) ?_;rw [Try.ntmps37];simp only [frOf]
   (repeat (first | apply j0 | refine q8 rfl ?_ | refine z8 rfl ?_ | apply z7 | (refine x4 fun K hK => ?_) | (refine j4 fun K hK => ?_) | ((first | apply j6 | apply x7 | ((first | refine j5 (hK _ ?_) | refine x6 (hK _ _ x5 ?_));clear hK K));(first | show AWP _ _ _ _ _ | ((try simp only [j7]);first | show loopQ _ _ _ _ _ _ | show cutQ _ _ _ _ | show AWP _ _ _ _ _))) | ((first | refine q10 rfl rfl rfl ?_ | refine z10 rfl rfl rfl ?_);simp (disch:=omega) only [go_sem,seval,policyD,wayD,pairD,spotD,topoD,configD,j9];(first | refine ⟨_,s1,?_⟩ | refine ⟨_,s2,?_⟩ | refine ⟨_,s3,?_⟩)) | ((first | refine x8 [] rfl ?_ | refine j8 [] rfl ?_);simp (disch:=omega) only [go_sem,seval,policyD,wayD,pairD,spotD,topoD,configD,j9];(repeat (first | refine ⟨by omega,?_⟩ | refine ⟨True.intro,?_⟩)))))
   refine z9 ⟨_,?_,rfl⟩;rw [Try.results37];simp (disch:=omega) only [ResVars,ResVar,ptrLoc,go_sem,seval,policyD,wayD,pairD,spotD,topoD,configD,j9]
  ·cases b3
   ·simp only [if_true,Bool.true_eq_false,if_false]
    rw [if_pos (by decide)]
    refine x9 Try.func37 rfl (by decide +kernel) (by rw [Try.ntmps37];simp) ?_;rw [Try.ntmps37];simp only [frOf]
    (repeat (first | apply j0 | refine q8 rfl ?_ | refine z8 rfl ?_ | apply z7 | (refine x4 fun K hK => ?_) | (refine j4 fun K hK => ?_) | ((first | apply j6 | apply x7 | ((first | refine j5 (hK _ ?_) | refine x6 (hK _ _ x5 ?_));clear hK K));(first | show AWP _ _ _ _ _ | ((try simp only [j7]);first | show loopQ _ _ _ _ _ _ | show cutQ _ _ _ _ | show AWP _ _ _ _ _))) | ((first | refine q10 rfl rfl rfl ?_ | refine z10 rfl rfl rfl ?_);simp (disch:=omega) only [go_sem,seval,policyD,wayD,pairD,spotD,topoD,configD,j9];(first | refine ⟨_,s1,?_⟩ | refine ⟨_,s2,?_⟩ | refine ⟨_,s3,?_⟩)) | ((first | refine x8 [] rfl ?_ | refine j8 [] rfl ?_);simp (disch:=omega) only [go_sem,seval,policyD,wayD,pairD,spotD,topoD,configD,j9];(repeat (first | refine ⟨by omega,?_⟩ | refine ⟨True.intro,?_⟩)))))
    refine z9 ⟨_,?_,rfl⟩;rw [Try.results37];simp (disch:=omega) only [ResVars,ResVar,ptrLoc,go_sem,seval,policyD,wayD,pairD,spotD,topoD,configD,j9]
   ·simp only [if_true,Bool.true_eq_false,if_false]
    rw [if_neg (by decide)]
    by_cases h4 : c.tb.length = c.tp.length
    ·rw [if_neg (by omega)]
     have q : ((c.tb.length : Int) != (c.tp.length : Int)) = false := j13 (by omega)
     generalize hR : errF (tabE c) c.tb.length 0 = R
     refine x9 Try.func37 rfl (by decide +kernel) (by rw [Try.ntmps37];simp) ?_;rw [Try.ntmps37];simp only [frOf]
     (repeat (first | apply j0 | refine q8 rfl ?_ | refine z8 rfl ?_ | apply z7 | (refine x4 fun K hK => ?_) | (refine j4 fun K hK => ?_) | ((first | apply j6 | apply x7 | ((first | refine j5 (hK _ ?_) | refine x6 (hK _ _ x5 ?_));clear hK K));(first | show AWP _ _ _ _ _ | ((try simp only [j7]);first | show loopQ _ _ _ _ _ _ | show cutQ _ _ _ _ | show AWP _ _ _ _ _))) | ((first | refine q10 rfl rfl rfl ?_ | refine z10 rfl rfl rfl ?_);simp (disch:=omega) only [go_sem,seval,policyD,wayD,pairD,spotD,topoD,configD,j9,q];(first | refine ⟨_,s1,?_⟩ | refine ⟨_,s2,?_⟩ | refine ⟨_,s3,?_⟩)) | ((first | refine x8 [] rfl ?_ | refine j8 [] rfl ?_);simp (disch:=omega) only [go_sem,seval,policyD,wayD,pairD,spotD,topoD,configD,j9,q];(repeat (first | refine ⟨by omega,?_⟩ | refine ⟨True.intro,?_⟩)))))
     refine x12 (soundCI c R) (fun s => c.tb.length - s.val) ⟨0,Nat.zero_le _,hR⟩ ?_ (fun s => ?_)
     ·unfold soundCI
      refine Weak.list ?_ ?_;(all_goals simp (disch:=omega) only [AllF,AllL,j10,q11,x10,exists_eq_left',go_sem,seval,policyD,wayD,pairD,spotD,topoD,configD,j9]);(all_goals (repeat' (with_reducible apply And.intro)));(all_goals try (first | exact q9 rfl | (refine z11 ?_;omega) | (refine q9 ?_;simp;done)))
     obtain ⟨i,hi,hr⟩ := s
     unfold soundCI
     simp only [] at hi hr ⊢
     by_cases h : i < c.tb.length
     ·rw [j130 h] at hr
      have r1 := z24 c.tb i
      have r2 := q18 c.tp i
      have ct := j128 (c.tb.getD i []) (c.tp.getD i []) (hat i) (j16 htp i)
      have hte : tabE c i = soundTab (c.tb.getD i []) (c.tp.getD i []) := rfl
      rw [hte] at hr
      have l1 := j16 htp i
      have l2 := (hat i).1
      generalize soundTab (c.tb.getD i []) (c.tp.getD i []) = e at hr ct
      generalize c.tb.getD i [] = ts at r1 ct l2
      generalize c.tp.getD i [] = ps at r2 ct l1
      by_cases he : e = 0
      ·subst he
       rw [if_pos rfl] at hr
       (repeat (first | apply j0 | refine q8 rfl ?_ | refine z8 rfl ?_ | apply z7 | (refine x4 fun K hK => ?_) | (refine j4 fun K hK => ?_) | ((first | apply j6 | apply x7 | ((first | refine j5 (hK _ ?_) | refine x6 (hK _ _ x5 ?_));clear hK K));(first | show AWP _ _ _ _ _ | ((try simp only [j7]);first | show loopQ _ _ _ _ _ _ | show cutQ _ _ _ _ | show AWP _ _ _ _ _))) | ((first | refine q10 rfl rfl rfl ?_ | refine z10 rfl rfl rfl ?_);simp (disch:=omega) only [go_sem,seval,policyD,wayD,pairD,spotD,topoD,configD,j9,r1,r2];(first | refine ⟨_,ct,?_⟩)) | ((first | refine x8 [] rfl ?_ | refine j8 [] rfl ?_);simp (disch:=omega) only [go_sem,seval,policyD,wayD,pairD,spotD,topoD,configD,j9,r1,r2];(repeat (first | refine ⟨by omega,?_⟩ | refine ⟨True.intro,?_⟩)))))
       refine ⟨⟨i + 1,by omega,hr⟩,by simp only [];omega,?_⟩
       refine Weak.list ?_ ?_;(all_goals simp (disch:=omega) only [AllF,AllL,j10,q11,x10,exists_eq_left',go_sem,seval,policyD,wayD,pairD,spotD,topoD,configD,j9,r1,r2]);(all_goals (repeat' (with_reducible apply And.intro)));(all_goals try (first | exact q9 rfl | (refine z11 ?_;omega) | (refine q9 ?_;simp;done)))
      ·rw [if_neg he] at hr
       have q2 : (e != 0) = true := x13 he
       subst hr
       (repeat (first | apply j0 | refine q8 rfl ?_ | refine z8 rfl ?_ | apply z7 | (refine x4 fun K hK => ?_) | (refine j4 fun K hK => ?_) | ((first | apply j6 | apply x7 | ((first | refine j5 (hK _ ?_) | refine x6 (hK _ _ x5 ?_));clear hK K));(first | show AWP _ _ _ _ _ | ((try simp only [j7]);first | show loopQ _ _ _ _ _ _ | show cutQ _ _ _ _ | show AWP _ _ _ _ _))) | ((first | refine q10 rfl rfl rfl ?_ | refine z10 rfl rfl rfl ?_);simp (disch:=omega) only [go_sem,seval,policyD,wayD,pairD,spotD,topoD,configD,j9,r1,r2,q2];(first | refine ⟨_,ct,?_⟩)) | ((first | refine x8 [] rfl ?_ | refine j8 [] rfl ?_);simp (disch:=omega) only [go_sem,seval,policyD,wayD,pairD,spotD,topoD,configD,j9,r1,r2,q2];(repeat (first | refine ⟨by omega,?_⟩ | refine ⟨True.intro,?_⟩)))))
       refine z9 ⟨_,?_,rfl⟩;rw [Try.results37];simp (disch:=omega) only [ResVars,ResVar,ptrLoc,go_sem,seval,policyD,wayD,pairD,spotD,topoD,configD,j9,r1,r2,q2]
     ·rw [q131 (show c.tb.length ≤ i by omega)] at hr
      subst hr
      (repeat (first | apply j0 | refine q8 rfl ?_ | refine z8 rfl ?_ | apply z7 | (refine x4 fun K hK => ?_) | (refine j4 fun K hK => ?_) | ((first | apply j6 | apply x7 | ((first | refine j5 (hK _ ?_) | refine x6 (hK _ _ x5 ?_));clear hK K));(first | show AWP _ _ _ _ _ | ((try simp only [j7]);first | show loopQ _ _ _ _ _ _ | show cutQ _ _ _ _ | show AWP _ _ _ _ _))) | ((first | refine x8 [] rfl ?_ | refine j8 [] rfl ?_);simp (disch:=omega) only [go_sem,seval,policyD,wayD,pairD,spotD,topoD,configD,j9];(repeat (first | refine ⟨by omega,?_⟩ | refine ⟨True.intro,?_⟩)))))
      refine z9 ⟨_,?_,rfl⟩;rw [Try.results37];simp (disch:=omega) only [ResVars,ResVar,ptrLoc,go_sem,seval,policyD,wayD,pairD,spotD,topoD,configD,j9]
    ·rw [if_pos h4]
     have q : ((c.tb.length : Int) != (c.tp.length : Int)) = true := x13 (by omega)
     refine x9 Try.func37 rfl (by decide +kernel) (by rw [Try.ntmps37];simp) ?_;rw [Try.ntmps37];simp only [frOf]
     (repeat (first | apply j0 | refine q8 rfl ?_ | refine z8 rfl ?_ | apply z7 | (refine x4 fun K hK => ?_) | (refine j4 fun K hK => ?_) | ((first | apply j6 | apply x7 | ((first | refine j5 (hK _ ?_) | refine x6 (hK _ _ x5 ?_));clear hK K));(first | show AWP _ _ _ _ _ | ((try simp only [j7]);first | show loopQ _ _ _ _ _ _ | show cutQ _ _ _ _ | show AWP _ _ _ _ _))) | ((first | refine q10 rfl rfl rfl ?_ | refine z10 rfl rfl rfl ?_);simp (disch:=omega) only [go_sem,seval,policyD,wayD,pairD,spotD,topoD,configD,j9,q];(first | refine ⟨_,s1,?_⟩ | refine ⟨_,s2,?_⟩ | refine ⟨_,s3,?_⟩)) | ((first | refine x8 [] rfl ?_ | refine j8 [] rfl ?_);simp (disch:=omega) only [go_sem,seval,policyD,wayD,pairD,spotD,topoD,configD,j9,q];(repeat (first | refine ⟨by omega,?_⟩ | refine ⟨True.intro,?_⟩)))))
     refine z9 ⟨_,?_,rfl⟩;rw [Try.results37];simp (disch:=omega) only [ResVars,ResVar,ptrLoc,go_sem,seval,policyD,wayD,pairD,spotD,topoD,configD,j9,q]
 ·rw [if_pos h1]
  have q : (e1 != 0) = true := x13 h1
  refine x9 Try.func37 rfl (by decide +kernel) (by rw [Try.ntmps37];simp) ?_;rw [Try.ntmps37];simp only [frOf]
  (repeat (first | apply j0 | refine q8 rfl ?_ | refine z8 rfl ?_ | apply z7 | (refine x4 fun K hK => ?_) | (refine j4 fun K hK => ?_) | ((first | apply j6 | apply x7 | ((first | refine j5 (hK _ ?_) | refine x6 (hK _ _ x5 ?_));clear hK K));(first | show AWP _ _ _ _ _ | ((try simp only [j7]);first | show loopQ _ _ _ _ _ _ | show cutQ _ _ _ _ | show AWP _ _ _ _ _))) | ((first | refine q10 rfl rfl rfl ?_ | refine z10 rfl rfl rfl ?_);simp (disch:=omega) only [go_sem,seval,policyD,wayD,pairD,spotD,topoD,configD,j9,q];(first | refine ⟨_,s1,?_⟩)) | ((first | refine x8 [] rfl ?_ | refine j8 [] rfl ?_);simp (disch:=omega) only [go_sem,seval,policyD,wayD,pairD,spotD,topoD,configD,j9,q];(repeat (first | refine ⟨by omega,?_⟩ | refine ⟨True.intro,?_⟩)))))
  refine z9 ⟨_,?_,rfl⟩;rw [Try.results37];simp (disch:=omega) only [ResVars,ResVar,ptrLoc,go_sem,seval,policyD,wayD,pairD,spotD,topoD,configD,j9,q]
def spotI (l : List Spot) (x : Spot) (q : Nat → Bool) (R : Int) (s : {i : Nat // i ≤ l.length ∧ idxN q (l.length - i) i = R}) : ASt :=
 ⟨[(8,.p (.d (.v (.int .i64 (s.val : Int))))),(7,.p (.d (.v (.int .i64 (l.length : Int))))),(3,.p (.d (.bx (spotD x)))),(0,.p (.d (.sl 2 l.length (rowS l))))],[]⟩
theorem z131 (a b : Spot) : eqI [a.sw,a.po] [b.sw,b.po] = (a == b) := by
 obtain ⟨a1,a2⟩ := a
 obtain ⟨b1,b2⟩ := b
 rw [Bool.eq_iff_iff]
 simp [eqI]
theorem x131 (l : List Spot) (x : Spot) (hl : l.length ≤ 1099511627776) :
  ACalls Try.prog 72 [.d (.sl 2 l.length (rowS l)),.agg (spotD x)] (· = [.d (.v (.int .i64 (idxN (fun i => x == l.getD i s0) l.length 0)))]) := by
 have hstep := fun i (h : i < l.length) => q83 (q := fun i => x == l.getD i s0) h
 have hq : ∀ i,(fun i => x == l.getD i s0) i = (x == l.getD i s0) := fun i => rfl
 generalize (fun i => x == l.getD i s0) = q at hstep hq
 generalize hR : idxN q l.length 0 = R
 refine x9 Try.func72 rfl (by decide +kernel) (by rw [Try.ntmps72];simp) ?_;rw [Try.ntmps72];simp only [frOf]
 (repeat (first | apply j0 | refine q8 rfl ?_ | refine z8 rfl ?_ | apply z7 | (refine x4 fun K hK => ?_) | (refine j4 fun K hK => ?_) | ((first | apply j6 | apply x7 | ((first | refine j5 (hK _ ?_) | refine x6 (hK _ _ x5 ?_));clear hK K));(first | show AWP _ _ _ _ _ | ((try simp only [j7]);first | show loopQ _ _ _ _ _ _ | show cutQ _ _ _ _ | show AWP _ _ _ _ _))) | ((first | refine x8 [] rfl ?_ | refine j8 [] rfl ?_);simp (disch:=omega) only [go_sem,seval,policyD,wayD,spotD,j9];(repeat (first | refine ⟨by omega,?_⟩ | refine ⟨True.intro,?_⟩)))))
 refine x12 (spotI l x q R) (fun s => l.length - s.val) ⟨0,Nat.zero_le _,hR⟩ ?_ (fun s => ?_)
 ·unfold spotI
  refine Weak.list ?_ ?_;(all_goals simp (disch:=omega) only [AllF,AllL,j10,q11,x10,exists_eq_left',go_sem,seval,policyD,wayD,spotD,j9]);(all_goals (repeat' (with_reducible apply And.intro)));(all_goals try (first | exact q9 rfl | (refine z11 ?_;omega) | (refine q9 ?_;simp;done)))
 obtain ⟨i,h1,h2⟩ := s
 unfold spotI
 simp only [] at h1 h2 ⊢
 by_cases h : i < l.length
 ·have r1 := j82 l i
  rw [hstep i h] at h2
  generalize l.getD i s0 = y at r1 h2
  have e := z131 x y
  generalize (x == y) = b at e h2
  simp only [spotD] at r1
  cases b
  ·simp only [Bool.false_eq_true,if_false] at h2
   (repeat (first | apply j0 | refine q8 rfl ?_ | refine z8 rfl ?_ | apply z7 | (refine x4 fun K hK => ?_) | (refine j4 fun K hK => ?_) | ((first | apply j6 | apply x7 | ((first | refine j5 (hK _ ?_) | refine x6 (hK _ _ x5 ?_));clear hK K));(first | show AWP _ _ _ _ _ | ((try simp only [j7]);first | show loopQ _ _ _ _ _ _ | show cutQ _ _ _ _ | show AWP _ _ _ _ _))) | ((first | refine x8 [] rfl ?_ | refine j8 [] rfl ?_);simp (disch:=omega) only [go_sem,seval,policyD,wayD,spotD,j9,r1,e];(repeat (first | refine ⟨by omega,?_⟩ | refine ⟨True.intro,?_⟩)))))
   refine ⟨⟨i + 1,by omega,h2⟩,by simp only [];omega,?_⟩
   refine Weak.list ?_ ?_;(all_goals simp (disch:=omega) only [AllF,AllL,j10,q11,x10,exists_eq_left',go_sem,seval,policyD,wayD,spotD,j9,r1,e]);(all_goals (repeat' (with_reducible apply And.intro)));(all_goals try (first | exact q9 rfl | (refine z11 ?_;omega) | (refine q9 ?_;simp;done)))
  ·simp only [if_true] at h2
   subst h2
   (repeat (first | apply j0 | refine q8 rfl ?_ | refine z8 rfl ?_ | apply z7 | (refine x4 fun K hK => ?_) | (refine j4 fun K hK => ?_) | ((first | apply j6 | apply x7 | ((first | refine j5 (hK _ ?_) | refine x6 (hK _ _ x5 ?_));clear hK K));(first | show AWP _ _ _ _ _ | ((try simp only [j7]);first | show loopQ _ _ _ _ _ _ | show cutQ _ _ _ _ | show AWP _ _ _ _ _))) | ((first | refine x8 [] rfl ?_ | refine j8 [] rfl ?_);simp (disch:=omega) only [go_sem,seval,policyD,wayD,spotD,j9,r1,e];(repeat (first | refine ⟨by omega,?_⟩ | refine ⟨True.intro,?_⟩)))))
   refine z9 ⟨_,?_,rfl⟩;rw [Try.results72];simp (disch:=omega) only [ResVars,ResVar,ptrLoc,go_sem,seval,policyD,wayD,spotD,j9,r1,e]
 ·rw [z83 (by omega)] at h2
  subst h2
  (repeat (first | apply j0 | refine q8 rfl ?_ | refine z8 rfl ?_ | apply z7 | (refine x4 fun K hK => ?_) | (refine j4 fun K hK => ?_) | ((first | apply j6 | apply x7 | ((first | refine j5 (hK _ ?_) | refine x6 (hK _ _ x5 ?_));clear hK K));(first | show AWP _ _ _ _ _ | ((try simp only [j7]);first | show loopQ _ _ _ _ _ _ | show cutQ _ _ _ _ | show AWP _ _ _ _ _))) | ((first | refine x8 [] rfl ?_ | refine j8 [] rfl ?_);simp (disch:=omega) only [go_sem,seval,policyD,wayD,spotD,j9];(repeat (first | refine ⟨by omega,?_⟩ | refine ⟨True.intro,?_⟩)))))
  refine z9 ⟨_,?_,rfl⟩;rw [Try.results72];simp (disch:=omega) only [ResVars,ResVar,ptrLoc,go_sem,seval,policyD,wayD,spotD,j9]
theorem j131 (l : List Spot) (x : Spot) (hl : l.length ≤ 1099511627776) : ACalls Try.prog 54 [.d (.sl 2 l.length (rowS l)),.agg (spotD x)] (· = [.d (.v (.bool (l.contains x)))]) := by
 have c := x131 l x hl
 have e := z59 (q := fun i => x == l.getD i s0) (m := l.length) (i := 0)
 rw [x83 l s0 (fun y => x == y),List.any_beq] at e
 rw [← e]
 generalize idxN (fun i => x == l.getD i s0) l.length 0 = r at c
 simp only [spotD] at c
 refine x9 Try.func54 rfl (by decide +kernel) (by rw [Try.ntmps54];simp) ?_;rw [Try.ntmps54];simp only [frOf]
 (repeat (first | apply j0 | refine q8 rfl ?_ | refine z8 rfl ?_ | apply z7 | (refine x4 fun K hK => ?_) | (refine j4 fun K hK => ?_) | ((first | apply j6 | apply x7 | ((first | refine j5 (hK _ ?_) | refine x6 (hK _ _ x5 ?_));clear hK K));(first | show AWP _ _ _ _ _ | ((try simp only [j7]);first | show loopQ _ _ _ _ _ _ | show cutQ _ _ _ _ | show AWP _ _ _ _ _))) | ((first | refine q10 rfl rfl rfl ?_ | refine z10 rfl rfl rfl ?_);simp (disch:=omega) only [go_sem,seval,policyD,wayD,spotD,j9];(first | refine ⟨_,c,?_⟩)) | ((first | refine x8 [] rfl ?_ | refine j8 [] rfl ?_);simp (disch:=omega) only [go_sem,seval,policyD,wayD,spotD,j9];(repeat (first | refine ⟨by omega,?_⟩ | refine ⟨True.intro,?_⟩)))))
 refine z9 ⟨_,?_,rfl⟩;rw [Try.results54];simp (disch:=omega) only [ResVars,ResVar,ptrLoc,go_sem,seval,policyD,wayD,spotD,j9]
theorem j59 (n : Nat) (f : Nat → List Dat) (hn : n ≤ 1099511627776) : ACalls Try.prog 23 [.d (.sl 2 n f)] (· = [.d (.sl 2 n f)]) := by
 refine x9 Try.func23 rfl (by decide +kernel) (by rw [Try.ntmps23];simp) ?_;rw [Try.ntmps23];simp only [frOf]
 (repeat (first | apply j0 | refine q8 rfl ?_ | refine z8 rfl ?_ | apply z7 | (refine x4 fun K hK => ?_) | (refine j4 fun K hK => ?_) | ((first | apply j6 | apply x7 | ((first | refine j5 (hK _ ?_) | refine x6 (hK _ _ x5 ?_));clear hK K));(first | show AWP _ _ _ _ _ | ((try simp only [j7]);first | show loopQ _ _ _ _ _ _ | show cutQ _ _ _ _ | show AWP _ _ _ _ _))) | ((first | refine x8 [] rfl ?_ | refine j8 [] rfl ?_);simp (disch:=omega) only [go_sem,seval];(repeat (first | refine ⟨by omega,?_⟩ | refine ⟨True.intro,?_⟩)))))
 refine z9 ⟨_,?_,rfl⟩;rw [Try.results23];simp (disch:=omega) only [ResVars,ResVar,ptrLoc,go_sem,seval]
 rfl
set_option maxRecDepth 100000 in
theorem q60 (n : Nat) (f : Nat → List Dat) (hl : n ≤ 1099511627776) : ACalls Try.prog 24 [.d (.sl 2 n f)] (· = [.d (.sl 2 n f)]) := by
 by_cases h : n = 0
 ·subst h
  refine q46 fun a c => ?_
  cases a with
  |none =>
   refine x9 Try.func24 rfl (by decide +kernel) (by rw [Try.ntmps24];simp) ?_;rw [Try.ntmps24];simp only [frOf]
   (repeat (first | apply j0 | refine q8 rfl ?_ | refine z8 rfl ?_ | apply z7 | (refine x4 fun K hK => ?_) | (refine j4 fun K hK => ?_) | ((first | apply j6 | apply x7 | ((first | refine j5 (hK _ ?_) | refine x6 (hK _ _ x5 ?_));clear hK K));(first | show AWP _ _ _ _ _ | ((try simp only [j7]);first | show loopQ _ _ _ _ _ _ | show cutQ _ _ _ _ | show AWP _ _ _ _ _))) | ((first | refine x8 [5] rfl ?_ | refine j8 [5] rfl ?_);simp (disch:=omega) only [go_sem,seval];(repeat (first | refine ⟨by omega,?_⟩ | refine ⟨True.intro,?_⟩)))))
   refine q16 2 _ (.p (.d (.sl 2 0 f))) rfl j25 ?_
   refine z9 ⟨_,?_,rfl⟩;rw [Try.results24];simp (disch:=omega) only [ResVars,ResVar,ptrLoc,go_sem,seval]
  |some a =>
   refine x9 Try.func24 rfl (by decide +kernel) (by rw [Try.ntmps24];simp) ?_;rw [Try.ntmps24];simp only [frOf]
   (repeat ((fail_if_success (show AWP _ _ (.region 3 _ _) _ _));first | apply j0 | refine q8 rfl ?_ | refine z8 rfl ?_ | apply z7 | (refine x4 fun K hK => ?_) | (refine j4 fun K hK => ?_) | ((first | apply j6 | apply x7 | ((first | refine j5 (hK _ ?_) | refine x6 (hK _ _ x5 ?_));clear hK K));(first | show AWP _ _ _ _ _ | ((try simp only [j7]);first | show loopQ _ _ _ _ _ _ | show cutQ _ _ _ _ | show AWP _ _ _ _ _))) | ((first | refine x8 [5] rfl ?_ | refine j8 [5] rfl ?_);simp (disch:=omega) only [go_sem,seval];(repeat (first | refine ⟨by omega,?_⟩ | refine ⟨True.intro,?_⟩)))))
   refine q16 0 _ (.p (.d (.sl 2 0 f))) rfl j25 ?_
   (repeat (first | apply j0 | refine q8 rfl ?_ | refine z8 rfl ?_ | apply z7 | (refine x4 fun K hK => ?_) | (refine j4 fun K hK => ?_) | ((first | apply j6 | apply x7 | ((first | refine j5 (hK _ ?_) | refine x6 (hK _ _ x5 ?_));clear hK K));(first | show AWP _ _ _ _ _ | ((try simp only [j7]);first | show loopQ _ _ _ _ _ _ | show cutQ _ _ _ _ | show AWP _ _ _ _ _))) | ((first | refine x8 [5] rfl ?_ | refine j8 [5] rfl ?_);simp (disch:=omega) only [go_sem,seval];(repeat (first | refine ⟨by omega,?_⟩ | refine ⟨True.intro,?_⟩)))))
   refine q16 2 _ (.p (.d (.sl 2 0 f))) rfl (z21 rfl (fun i hi => by omega)) ?_
   refine z9 ⟨_,?_,rfl⟩;rw [Try.results24];simp (disch:=omega) only [ResVars,ResVar,ptrLoc,go_sem,seval]
 ·refine x9 Try.func24 rfl (by decide +kernel) (by rw [Try.ntmps24];simp) ?_;rw [Try.ntmps24];simp only [frOf]
  (repeat (first | apply j0 | refine q8 rfl ?_ | refine z8 rfl ?_ | apply z7 | (refine x4 fun K hK => ?_) | (refine j4 fun K hK => ?_) | ((first | apply j6 | apply x7 | ((first | refine j5 (hK _ ?_) | refine x6 (hK _ _ x5 ?_));clear hK K));(first | show AWP _ _ _ _ _ | ((try simp only [j7]);first | show loopQ _ _ _ _ _ _ | show cutQ _ _ _ _ | show AWP _ _ _ _ _))) | ((first | refine x8 [5] rfl ?_ | refine j8 [5] rfl ?_);simp (disch:=omega) only [go_sem,seval];(repeat (first | refine ⟨by omega,?_⟩ | refine ⟨True.intro,?_⟩)))))
  refine q16 2 _ (.p (.d (.sl 2 n f))) rfl (z21 (by omega) (fun i hi => by unfold catF;rw [if_neg (by omega)];rfl)) ?_
  refine z9 ⟨_,?_,rfl⟩;rw [Try.results24];simp (disch:=omega) only [ResVars,ResVar,ptrLoc,go_sem,seval]
theorem z60 (n : Nat) (f : Nat → List Dat) (hn : n ≤ 1099511627776) : ACalls Try.prog 25 [.d (.sl 3 n f)] (· = [.d (.sl 3 n f)]) := by
 refine x9 Try.func25 rfl (by decide +kernel) (by rw [Try.ntmps25];simp) ?_;rw [Try.ntmps25];simp only [frOf]
 (repeat (first | apply j0 | refine q8 rfl ?_ | refine z8 rfl ?_ | apply z7 | (refine x4 fun K hK => ?_) | (refine j4 fun K hK => ?_) | ((first | apply j6 | apply x7 | ((first | refine j5 (hK _ ?_) | refine x6 (hK _ _ x5 ?_));clear hK K));(first | show AWP _ _ _ _ _ | ((try simp only [j7]);first | show loopQ _ _ _ _ _ _ | show cutQ _ _ _ _ | show AWP _ _ _ _ _))) | ((first | refine x8 [] rfl ?_ | refine j8 [] rfl ?_);simp (disch:=omega) only [go_sem,seval];(repeat (first | refine ⟨by omega,?_⟩ | refine ⟨True.intro,?_⟩)))))
 refine z9 ⟨_,?_,rfl⟩;rw [Try.results25];simp (disch:=omega) only [ResVars,ResVar,ptrLoc,go_sem,seval]
 rfl
set_option maxRecDepth 100000 in
theorem x60 (n : Nat) (f : Nat → List Dat) (hl : n ≤ 1099511627776) : ACalls Try.prog 26 [.d (.sl 3 n f)] (· = [.d (.sl 3 n f)]) := by
 by_cases h : n = 0
 ·subst h
  refine q46 fun a c => ?_
  cases a with
  |none =>
   refine x9 Try.func26 rfl (by decide +kernel) (by rw [Try.ntmps26];simp) ?_;rw [Try.ntmps26];simp only [frOf]
   (repeat (first | apply j0 | refine q8 rfl ?_ | refine z8 rfl ?_ | apply z7 | (refine x4 fun K hK => ?_) | (refine j4 fun K hK => ?_) | ((first | apply j6 | apply x7 | ((first | refine j5 (hK _ ?_) | refine x6 (hK _ _ x5 ?_));clear hK K));(first | show AWP _ _ _ _ _ | ((try simp only [j7]);first | show loopQ _ _ _ _ _ _ | show cutQ _ _ _ _ | show AWP _ _ _ _ _))) | ((first | refine x8 [5] rfl ?_ | refine j8 [5] rfl ?_);simp (disch:=omega) only [go_sem,seval];(repeat (first | refine ⟨by omega,?_⟩ | refine ⟨True.intro,?_⟩)))))
   refine q16 2 _ (.p (.d (.sl 3 0 f))) rfl j25 ?_
   refine z9 ⟨_,?_,rfl⟩;rw [Try.results26];simp (disch:=omega) only [ResVars,ResVar,ptrLoc,go_sem,seval]
  |some a =>
   refine x9 Try.func26 rfl (by decide +kernel) (by rw [Try.ntmps26];simp) ?_;rw [Try.ntmps26];simp only [frOf]
   (repeat ((fail_if_success (show AWP _ _ (.region 3 _ _) _ _));first | apply j0 | refine q8 rfl ?_ | refine z8 rfl ?_ | apply z7 | (refine x4 fun K hK => ?_) | (refine j4 fun K hK => ?_) | ((first | apply j6 | apply x7 | ((first | refine j5 (hK _ ?_) | refine x6 (hK _ _ x5 ?_));clear hK K));(first | show AWP _ _ _ _ _ | ((try simp only [j7]);first | show loopQ _ _ _ _ _ _ | show cutQ _ _ _ _ | show AWP _ _ _ _ _))) | ((first | refine x8 [5] rfl ?_ | refine j8 [5] rfl ?_);simp (disch:=omega) only [go_sem,seval];(repeat (first | refine ⟨by omega,?_⟩ | refine ⟨True.intro,?_⟩)))))
   refine q16 0 _ (.p (.d (.sl 3 0 f))) rfl j25 ?_
   (repeat (first | apply j0 | refine q8 rfl ?_ | refine z8 rfl ?_ | apply z7 | (refine x4 fun K hK => ?_) | (refine j4 fun K hK => ?_) | ((first | apply j6 | apply x7 | ((first | refine j5 (hK _ ?_) | refine x6 (hK _ _ x5 ?_));clear hK K));(first | show AWP _ _ _ _ _ | ((try simp only [j7]);first | show loopQ _ _ _ _ _ _ | show cutQ _ _ _ _ | show AWP _ _ _ _ _))) | ((first | refine x8 [5] rfl ?_ | refine j8 [5] rfl ?_);simp (disch:=omega) only [go_sem,seval];(repeat (first | refine ⟨by omega,?_⟩ | refine ⟨True.intro,?_⟩)))))
   refine q16 2 _ (.p (.d (.sl 3 0 f))) rfl (z21 rfl (fun i hi => by omega)) ?_
   refine z9 ⟨_,?_,rfl⟩;rw [Try.results26];simp (disch:=omega) only [ResVars,ResVar,ptrLoc,go_sem,seval]
 ·refine x9 Try.func26 rfl (by decide +kernel) (by rw [Try.ntmps26];simp) ?_;rw [Try.ntmps26];simp only [frOf]
  (repeat (first | apply j0 | refine q8 rfl ?_ | refine z8 rfl ?_ | apply z7 | (refine x4 fun K hK => ?_) | (refine j4 fun K hK => ?_) | ((first | apply j6 | apply x7 | ((first | refine j5 (hK _ ?_) | refine x6 (hK _ _ x5 ?_));clear hK K));(first | show AWP _ _ _ _ _ | ((try simp only [j7]);first | show loopQ _ _ _ _ _ _ | show cutQ _ _ _ _ | show AWP _ _ _ _ _))) | ((first | refine x8 [5] rfl ?_ | refine j8 [5] rfl ?_);simp (disch:=omega) only [go_sem,seval];(repeat (first | refine ⟨by omega,?_⟩ | refine ⟨True.intro,?_⟩)))))
  refine q16 2 _ (.p (.d (.sl 3 n f))) rfl (z21 (by omega) (fun i hi => by unfold catF;rw [if_neg (by omega)];rfl)) ?_
  refine z9 ⟨_,?_,rfl⟩;rw [Try.results26];simp (disch:=omega) only [ResVars,ResVar,ptrLoc,go_sem,seval]
theorem j84 (n : Nat) (f : Nat → List Dat) (hn : n ≤ 1099511627776) : ACalls Try.prog 44 [.d (.sl 5 n f)] (· = [.d (.sl 5 n f)]) := by
 refine x9 Try.func44 rfl (by decide +kernel) (by rw [Try.ntmps44];simp) ?_;rw [Try.ntmps44];simp only [frOf]
 (repeat (first | apply j0 | refine q8 rfl ?_ | refine z8 rfl ?_ | apply z7 | (refine x4 fun K hK => ?_) | (refine j4 fun K hK => ?_) | ((first | apply j6 | apply x7 | ((first | refine j5 (hK _ ?_) | refine x6 (hK _ _ x5 ?_));clear hK K));(first | show AWP _ _ _ _ _ | ((try simp only [j7]);first | show loopQ _ _ _ _ _ _ | show cutQ _ _ _ _ | show AWP _ _ _ _ _))) | ((first | refine x8 [] rfl ?_ | refine j8 [] rfl ?_);simp (disch:=omega) only [go_sem,seval];(repeat (first | refine ⟨by omega,?_⟩ | refine ⟨True.intro,?_⟩)))))
 refine z9 ⟨_,?_,rfl⟩;rw [Try.results44];simp (disch:=omega) only [ResVars,ResVar,ptrLoc,go_sem,seval]
 rfl
set_option maxRecDepth 100000 in
theorem q85 (n : Nat) (f : Nat → List Dat) (hl : n ≤ 1099511627776) : ACalls Try.prog 45 [.d (.sl 5 n f)] (· = [.d (.sl 5 n f)]) := by
 by_cases h : n = 0
 ·subst h
  refine q46 fun a c => ?_
  cases a with
  |none =>
   refine x9 Try.func45 rfl (by decide +kernel) (by rw [Try.ntmps45];simp) ?_;rw [Try.ntmps45];simp only [frOf]
   (repeat (first | apply j0 | refine q8 rfl ?_ | refine z8 rfl ?_ | apply z7 | (refine x4 fun K hK => ?_) | (refine j4 fun K hK => ?_) | ((first | apply j6 | apply x7 | ((first | refine j5 (hK _ ?_) | refine x6 (hK _ _ x5 ?_));clear hK K));(first | show AWP _ _ _ _ _ | ((try simp only [j7]);first | show loopQ _ _ _ _ _ _ | show cutQ _ _ _ _ | show AWP _ _ _ _ _))) | ((first | refine x8 [5] rfl ?_ | refine j8 [5] rfl ?_);simp (disch:=omega) only [go_sem,seval];(repeat (first | refine ⟨by omega,?_⟩ | refine ⟨True.intro,?_⟩)))))
   refine q16 2 _ (.p (.d (.sl 5 0 f))) rfl j25 ?_
   refine z9 ⟨_,?_,rfl⟩;rw [Try.results45];simp (disch:=omega) only [ResVars,ResVar,ptrLoc,go_sem,seval]
  |some a =>
   refine x9 Try.func45 rfl (by decide +kernel) (by rw [Try.ntmps45];simp) ?_;rw [Try.ntmps45];simp only [frOf]
   (repeat ((fail_if_success (show AWP _ _ (.region 3 _ _) _ _));first | apply j0 | refine q8 rfl ?_ | refine z8 rfl ?_ | apply z7 | (refine x4 fun K hK => ?_) | (refine j4 fun K hK => ?_) | ((first | apply j6 | apply x7 | ((first | refine j5 (hK _ ?_) | refine x6 (hK _ _ x5 ?_));clear hK K));(first | show AWP _ _ _ _ _ | ((try simp only [j7]);first | show loopQ _ _ _ _ _ _ | show cutQ _ _ _ _ | show AWP _ _ _ _ _))) | ((first | refine x8 [5] rfl ?_ | refine j8 [5] rfl ?_);simp (disch:=omega) only [go_sem,seval];(repeat (first | refine ⟨by omega,?_⟩ | refine ⟨True.intro,?_⟩)))))
   refine q16 0 _ (.p (.d (.sl 5 0 f))) rfl j25 ?_
   (repeat (first | apply j0 | refine q8 rfl ?_ | refine z8 rfl ?_ | apply z7 | (refine x4 fun K hK => ?_) | (refine j4 fun K hK => ?_) | ((first | apply j6 | apply x7 | ((first | refine j5 (hK _ ?_) | refine x6 (hK _ _ x5 ?_));clear hK K));(first | show AWP _ _ _ _ _ | ((try simp only [j7]);first | show loopQ _ _ _ _ _ _ | show cutQ _ _ _ _ | show AWP _ _ _ _ _))) | ((first | refine x8 [5] rfl ?_ | refine j8 [5] rfl ?_);simp (disch:=omega) only [go_sem,seval];(repeat (first | refine ⟨by omega,?_⟩ | refine ⟨True.intro,?_⟩)))))
   refine q16 2 _ (.p (.d (.sl 5 0 f))) rfl (z21 rfl (fun i hi => by omega)) ?_
   refine z9 ⟨_,?_,rfl⟩;rw [Try.results45];simp (disch:=omega) only [ResVars,ResVar,ptrLoc,go_sem,seval]
 ·refine x9 Try.func45 rfl (by decide +kernel) (by rw [Try.ntmps45];simp) ?_;rw [Try.ntmps45];simp only [frOf]
  (repeat (first | apply j0 | refine q8 rfl ?_ | refine z8 rfl ?_ | apply z7 | (refine x4 fun K hK => ?_) | (refine j4 fun K hK => ?_) | ((first | apply j6 | apply x7 | ((first | refine j5 (hK _ ?_) | refine x6 (hK _ _ x5 ?_));clear hK K));(first | show AWP _ _ _ _ _ | ((try simp only [j7]);first | show loopQ _ _ _ _ _ _ | show cutQ _ _ _ _ | show AWP _ _ _ _ _))) | ((first | refine x8 [5] rfl ?_ | refine j8 [5] rfl ?_);simp (disch:=omega) only [go_sem,seval];(repeat (first | refine ⟨by omega,?_⟩ | refine ⟨True.intro,?_⟩)))))
  refine q16 2 _ (.p (.d (.sl 5 n f))) rfl (z21 (by omega) (fun i hi => by unfold catF;rw [if_neg (by omega)];rfl)) ?_
  refine z9 ⟨_,?_,rfl⟩;rw [Try.results45];simp (disch:=omega) only [ResVars,ResVar,ptrLoc,go_sem,seval]
theorem z85 (n : Nat) (f : Nat → List Dat) (hn : n ≤ 1099511627776) : ACalls Try.prog 47 [.d (.sl 12 n f)] (· = [.d (.sl 12 n f)]) := by
 refine x9 Try.func47 rfl (by decide +kernel) (by rw [Try.ntmps47];simp) ?_;rw [Try.ntmps47];simp only [frOf]
 (repeat (first | apply j0 | refine q8 rfl ?_ | refine z8 rfl ?_ | apply z7 | (refine x4 fun K hK => ?_) | (refine j4 fun K hK => ?_) | ((first | apply j6 | apply x7 | ((first | refine j5 (hK _ ?_) | refine x6 (hK _ _ x5 ?_));clear hK K));(first | show AWP _ _ _ _ _ | ((try simp only [j7]);first | show loopQ _ _ _ _ _ _ | show cutQ _ _ _ _ | show AWP _ _ _ _ _))) | ((first | refine x8 [] rfl ?_ | refine j8 [] rfl ?_);simp (disch:=omega) only [go_sem,seval];(repeat (first | refine ⟨by omega,?_⟩ | refine ⟨True.intro,?_⟩)))))
 refine z9 ⟨_,?_,rfl⟩;rw [Try.results47];simp (disch:=omega) only [ResVars,ResVar,ptrLoc,go_sem,seval]
 rfl
set_option maxRecDepth 100000 in
theorem x85 (n : Nat) (f : Nat → List Dat) (hl : n ≤ 1099511627776) : ACalls Try.prog 48 [.d (.sl 12 n f)] (· = [.d (.sl 12 n f)]) := by
 by_cases h : n = 0
 ·subst h
  refine q46 fun a c => ?_
  cases a with
  |none =>
   refine x9 Try.func48 rfl (by decide +kernel) (by rw [Try.ntmps48];simp) ?_;rw [Try.ntmps48];simp only [frOf]
   (repeat (first | apply j0 | refine q8 rfl ?_ | refine z8 rfl ?_ | apply z7 | (refine x4 fun K hK => ?_) | (refine j4 fun K hK => ?_) | ((first | apply j6 | apply x7 | ((first | refine j5 (hK _ ?_) | refine x6 (hK _ _ x5 ?_));clear hK K));(first | show AWP _ _ _ _ _ | ((try simp only [j7]);first | show loopQ _ _ _ _ _ _ | show cutQ _ _ _ _ | show AWP _ _ _ _ _))) | ((first | refine x8 [5] rfl ?_ | refine j8 [5] rfl ?_);simp (disch:=omega) only [go_sem,seval];(repeat (first | refine ⟨by omega,?_⟩ | refine ⟨True.intro,?_⟩)))))
   refine q16 2 _ (.p (.d (.sl 12 0 f))) rfl j25 ?_
   refine z9 ⟨_,?_,rfl⟩;rw [Try.results48];simp (disch:=omega) only [ResVars,ResVar,ptrLoc,go_sem,seval]
  |some a =>
   refine x9 Try.func48 rfl (by decide +kernel) (by rw [Try.ntmps48];simp) ?_;rw [Try.ntmps48];simp only [frOf]
   (repeat ((fail_if_success (show AWP _ _ (.region 3 _ _) _ _));first | apply j0 | refine q8 rfl ?_ | refine z8 rfl ?_ | apply z7 | (refine x4 fun K hK => ?_) | (refine j4 fun K hK => ?_) | ((first | apply j6 | apply x7 | ((first | refine j5 (hK _ ?_) | refine x6 (hK _ _ x5 ?_));clear hK K));(first | show AWP _ _ _ _ _ | ((try simp only [j7]);first | show loopQ _ _ _ _ _ _ | show cutQ _ _ _ _ | show AWP _ _ _ _ _))) | ((first | refine x8 [5] rfl ?_ | refine j8 [5] rfl ?_);simp (disch:=omega) only [go_sem,seval];(repeat (first | refine ⟨by omega,?_⟩ | refine ⟨True.intro,?_⟩)))))
   refine q16 0 _ (.p (.d (.sl 12 0 f))) rfl j25 ?_
   (repeat (first | apply j0 | refine q8 rfl ?_ | refine z8 rfl ?_ | apply z7 | (refine x4 fun K hK => ?_) | (refine j4 fun K hK => ?_) | ((first | apply j6 | apply x7 | ((first | refine j5 (hK _ ?_) | refine x6 (hK _ _ x5 ?_));clear hK K));(first | show AWP _ _ _ _ _ | ((try simp only [j7]);first | show loopQ _ _ _ _ _ _ | show cutQ _ _ _ _ | show AWP _ _ _ _ _))) | ((first | refine x8 [5] rfl ?_ | refine j8 [5] rfl ?_);simp (disch:=omega) only [go_sem,seval];(repeat (first | refine ⟨by omega,?_⟩ | refine ⟨True.intro,?_⟩)))))
   refine q16 2 _ (.p (.d (.sl 12 0 f))) rfl (z21 rfl (fun i hi => by omega)) ?_
   refine z9 ⟨_,?_,rfl⟩;rw [Try.results48];simp (disch:=omega) only [ResVars,ResVar,ptrLoc,go_sem,seval]
 ·refine x9 Try.func48 rfl (by decide +kernel) (by rw [Try.ntmps48];simp) ?_;rw [Try.ntmps48];simp only [frOf]
  (repeat (first | apply j0 | refine q8 rfl ?_ | refine z8 rfl ?_ | apply z7 | (refine x4 fun K hK => ?_) | (refine j4 fun K hK => ?_) | ((first | apply j6 | apply x7 | ((first | refine j5 (hK _ ?_) | refine x6 (hK _ _ x5 ?_));clear hK K));(first | show AWP _ _ _ _ _ | ((try simp only [j7]);first | show loopQ _ _ _ _ _ _ | show cutQ _ _ _ _ | show AWP _ _ _ _ _))) | ((first | refine x8 [5] rfl ?_ | refine j8 [5] rfl ?_);simp (disch:=omega) only [go_sem,seval];(repeat (first | refine ⟨by omega,?_⟩ | refine ⟨True.intro,?_⟩)))))
  refine q16 2 _ (.p (.d (.sl 12 n f))) rfl (z21 (by omega) (fun i hi => by unfold catF;rw [if_neg (by omega)];rfl)) ?_
  refine z9 ⟨_,?_,rfl⟩;rw [Try.results48];simp (disch:=omega) only [ResVars,ResVar,ptrLoc,go_sem,seval]
theorem j85 (n : Nat) (f : Nat → List Dat) (hn : n ≤ 1099511627776) : ACalls Try.prog 46 [.d (.sl 1 n f)] (· = [.d (.sl 1 n f)]) := by
 refine x9 Try.func46 rfl (by decide +kernel) (by rw [Try.ntmps46];simp) ?_;rw [Try.ntmps46];simp only [frOf]
 (repeat (first | apply j0 | refine q8 rfl ?_ | refine z8 rfl ?_ | apply z7 | (refine x4 fun K hK => ?_) | (refine j4 fun K hK => ?_) | ((first | apply j6 | apply x7 | ((first | refine j5 (hK _ ?_) | refine x6 (hK _ _ x5 ?_));clear hK K));(first | show AWP _ _ _ _ _ | ((try simp only [j7]);first | show loopQ _ _ _ _ _ _ | show cutQ _ _ _ _ | show AWP _ _ _ _ _))) | ((first | refine x8 [] rfl ?_ | refine j8 [] rfl ?_);simp (disch:=omega) only [go_sem,seval];(repeat (first | refine ⟨by omega,?_⟩ | refine ⟨True.intro,?_⟩)))))
 refine z9 ⟨_,?_,rfl⟩;rw [Try.results46];simp (disch:=omega) only [ResVars,ResVar,ptrLoc,go_sem,seval]
 rfl
theorem q86 (n : Nat) (f : Nat → List Dat) (hn : n ≤ 1099511627776) : ACalls Try.prog 49 [.d (.sl 1 n f)] (· = [.d (.sl 1 n f)]) := by
 refine x9 Try.func49 rfl (by decide +kernel) (by rw [Try.ntmps49];simp) ?_;rw [Try.ntmps49];simp only [frOf]
 (repeat (first | apply j0 | refine q8 rfl ?_ | refine z8 rfl ?_ | apply z7 | (refine x4 fun K hK => ?_) | (refine j4 fun K hK => ?_) | ((first | apply j6 | apply x7 | ((first | refine j5 (hK _ ?_) | refine x6 (hK _ _ x5 ?_));clear hK K));(first | show AWP _ _ _ _ _ | ((try simp only [j7]);first | show loopQ _ _ _ _ _ _ | show cutQ _ _ _ _ | show AWP _ _ _ _ _))) | ((first | refine x8 [] rfl ?_ | refine j8 [] rfl ?_);simp (disch:=omega) only [go_sem,seval];(repeat (first | refine ⟨by omega,?_⟩ | refine ⟨True.intro,?_⟩)))))
 refine z9 ⟨_,?_,rfl⟩;rw [Try.results49];simp (disch:=omega) only [ResVars,ResVar,ptrLoc,go_sem,seval]
 rfl
theorem z86 (n : Nat) (f : Nat → List Dat) (hn : n ≤ 1099511627776) : ACalls Try.prog 28 [.d (.sl 1 n f)] (· = [.d (.sl 1 n f)]) := by
 refine x9 Try.func28 rfl (by decide +kernel) (by rw [Try.ntmps28];simp) ?_;rw [Try.ntmps28];simp only [frOf]
 (repeat (first | apply j0 | refine q8 rfl ?_ | refine z8 rfl ?_ | apply z7 | (refine x4 fun K hK => ?_) | (refine j4 fun K hK => ?_) | ((first | apply j6 | apply x7 | ((first | refine j5 (hK _ ?_) | refine x6 (hK _ _ x5 ?_));clear hK K));(first | show AWP _ _ _ _ _ | ((try simp only [j7]);first | show loopQ _ _ _ _ _ _ | show cutQ _ _ _ _ | show AWP _ _ _ _ _))) | ((first | refine x8 [] rfl ?_ | refine j8 [] rfl ?_);simp (disch:=omega) only [go_sem,seval];(repeat (first | refine ⟨by omega,?_⟩ | refine ⟨True.intro,?_⟩)))))
 refine z9 ⟨_,?_,rfl⟩;rw [Try.results28];simp (disch:=omega) only [ResVars,ResVar,ptrLoc,go_sem,seval]
 rfl
theorem x86 (l : List (List Port)) (i : Nat) (hi : i < l.length) (k : Nat) (hk : k < i + 1) : catF i (rowPP l) (fun j => [[Dat.sl 5 (l.getD i []).length (rowP (l.getD i []))]].getD j []) k = rowPP l k := by
 unfold catF
 split
 ·rfl
 ·have : k = i := by omega
  subst this
  rw [Nat.sub_self];rfl
def deepPI (l : List (List Port)) (i : Fin (l.length + 1)) : ASt :=
 ⟨[(8,.p (.d (.v (.int .i64 (i.val : Int))))),(7,.p (.d (.v (.int .i64 (l.length : Int))))),(6,.p (.d (.sl 1 l.length (rowPP l)))),(3,.gr 3 i.val 1 i.val (rowPP l))],[(3,.grow 45 1 i.val i.val)]⟩
set_option maxRecDepth 100000 in
theorem deepP_c (l : List (List Port)) (hs : small l) : ACalls Try.prog 22 [.d (.sl 1 l.length (rowPP l))] (· = [.d (.sl 1 l.length (rowPP l))]) := by
 have hs1 := hs.1
 have cl := j85 l.length (rowPP l) (by omega)
 refine x9 Try.func22 rfl (by decide +kernel) (by rw [Try.ntmps22];simp) ?_;rw [Try.ntmps22];simp only [frOf]
 (repeat ((fail_if_success (show AWP _ _ (.region 2 _ _) _ _));first | apply j0 | refine q8 rfl ?_ | refine z8 rfl ?_ | apply z7 | (refine x4 fun K hK => ?_) | (refine j4 fun K hK => ?_) | ((first | apply j6 | apply x7 | ((first | refine j5 (hK _ ?_) | refine x6 (hK _ _ x5 ?_));clear hK K));(first | show AWP _ _ _ _ _ | ((try simp only [j7]);first | show loopQ _ _ _ _ _ _ | show cutQ _ _ _ _ | show AWP _ _ _ _ _))) | ((first | refine x8 [] rfl ?_ | refine j8 [] rfl ?_);simp (disch:=omega) only [go_sem,seval];(repeat (first | refine ⟨by omega,?_⟩ | refine ⟨True.intro,?_⟩)))))
 refine q28 3 3 1 45 (rowPP l) rfl (by kernel_rfl) rfl ?_
 (repeat (first | apply j0 | refine q8 rfl ?_ | refine z8 rfl ?_ | apply z7 | (refine x4 fun K hK => ?_) | (refine j4 fun K hK => ?_) | ((first | apply j6 | apply x7 | ((first | refine j5 (hK _ ?_) | refine x6 (hK _ _ x5 ?_));clear hK K));(first | show AWP _ _ _ _ _ | ((try simp only [j7]);first | show loopQ _ _ _ _ _ _ | show cutQ _ _ _ _ | show AWP _ _ _ _ _))) | ((first | refine x8 [] rfl ?_ | refine j8 [] rfl ?_);simp (disch:=omega) only [go_sem,seval];(repeat (first | refine ⟨by omega,?_⟩ | refine ⟨True.intro,?_⟩)))))
 refine x12 (deepPI l) (fun s => l.length - s.val) ⟨0,by omega⟩ ?_ (fun s => ?_)
 ·unfold deepPI
  refine Weak.list ?_ ?_;(all_goals simp (disch:=omega) only [AllF,AllL,j10,q11,x10,exists_eq_left',go_sem,seval]);(all_goals (repeat' (with_reducible apply And.intro)));(all_goals try (first | exact q9 rfl | (refine z11 ?_;omega) | (refine q9 ?_;simp;done)))
 obtain ⟨i,hi⟩ := s
 unfold deepPI
 by_cases h : i < l.length
 ·have r1 := q18 l i
  have hb := j16 hs i
  have pt := x86 l i h
  generalize l.getD i [] = x at r1 hb pt
  have c1 := q85 x.length (rowP x) (by omega)
  have c2 := j84 x.length (rowP x) (by omega)
  (repeat (first | apply j0 | refine q8 rfl ?_ | refine z8 rfl ?_ | apply z7 | (refine x4 fun K hK => ?_) | (refine j4 fun K hK => ?_) | ((first | apply j6 | apply x7 | ((first | refine j5 (hK _ ?_) | refine x6 (hK _ _ x5 ?_));clear hK K));(first | show AWP _ _ _ _ _ | ((try simp only [j7]);first | show loopQ _ _ _ _ _ _ | show cutQ _ _ _ _ | show AWP _ _ _ _ _))) | ((first | refine q10 rfl rfl rfl ?_ | refine z10 rfl rfl rfl ?_);simp (disch:=omega) only [go_sem,seval,r1];(first | refine ⟨_,c1,?_⟩ | refine ⟨_,c2,?_⟩)) | ((first | refine x8 [] rfl ?_ | refine j8 [] rfl ?_);simp (disch:=omega) only [go_sem,seval,r1];(repeat (first | refine ⟨by omega,?_⟩ | refine ⟨True.intro,?_⟩)))))
  refine ⟨⟨i + 1,by omega⟩,by simp only [];omega,?_⟩
  refine Weak.list ?_ ?_;(all_goals simp (disch:=omega) only [AllF,AllL,j10,q11,x10,exists_eq_left',go_sem,seval,r1]);(all_goals (repeat' (with_reducible apply And.intro)));(all_goals try (first | exact q9 rfl | (refine z11 ?_;omega) | (refine q9 ?_;simp;done)))
  ·exact j19 rfl rfl (fun k hk => pt k hk)
 ·have : i = l.length := by omega
  subst this
  (repeat (first | apply j0 | refine q8 rfl ?_ | refine z8 rfl ?_ | apply z7 | (refine x4 fun K hK => ?_) | (refine j4 fun K hK => ?_) | ((first | apply j6 | apply x7 | ((first | refine j5 (hK _ ?_) | refine x6 (hK _ _ x5 ?_));clear hK K));(first | show AWP _ _ _ _ _ | ((try simp only [j7]);first | show loopQ _ _ _ _ _ _ | show cutQ _ _ _ _ | show AWP _ _ _ _ _))) | ((first | refine q10 rfl rfl rfl ?_ | refine z10 rfl rfl rfl ?_);simp (disch:=omega) only [go_sem,seval];(first | refine ⟨_,cl,?_⟩)) | ((first | refine x8 [] rfl ?_ | refine j8 [] rfl ?_);simp (disch:=omega) only [go_sem,seval];(repeat (first | refine ⟨by omega,?_⟩ | refine ⟨True.intro,?_⟩)))))
  refine z9 ⟨_,?_,rfl⟩;rw [Try.results22];simp (disch:=omega) only [ResVars,ResVar,ptrLoc,go_sem,seval]
theorem j86 (l : List (List Rule)) (i : Nat) (hi : i < l.length) (k : Nat) (hk : k < i + 1) : catF i (rowRR l) (fun j => [[Dat.sl 12 (l.getD i []).length (rowR (l.getD i []))]].getD j []) k = rowRR l k := by
 unfold catF
 split
 ·rfl
 ·have : k = i := by omega
  subst this
  rw [Nat.sub_self];rfl
def deepRI (l : List (List Rule)) (i : Fin (l.length + 1)) : ASt :=
 ⟨[(8,.p (.d (.v (.int .i64 (i.val : Int))))),(7,.p (.d (.v (.int .i64 (l.length : Int))))),(6,.p (.d (.sl 1 l.length (rowRR l)))),(3,.gr 3 i.val 1 i.val (rowRR l))],[(3,.grow 35 1 i.val i.val)]⟩
set_option maxRecDepth 100000 in
theorem deepR_c (l : List (List Rule)) (hs : smallR l) : ACalls Try.prog 27 [.d (.sl 1 l.length (rowRR l))] (· = [.d (.sl 1 l.length (rowRR l))]) := by
 have hs1 := hs.1
 have cl := q86 l.length (rowRR l) (by omega)
 refine x9 Try.func27 rfl (by decide +kernel) (by rw [Try.ntmps27];simp) ?_;rw [Try.ntmps27];simp only [frOf]
 (repeat ((fail_if_success (show AWP _ _ (.region 2 _ _) _ _));first | apply j0 | refine q8 rfl ?_ | refine z8 rfl ?_ | apply z7 | (refine x4 fun K hK => ?_) | (refine j4 fun K hK => ?_) | ((first | apply j6 | apply x7 | ((first | refine j5 (hK _ ?_) | refine x6 (hK _ _ x5 ?_));clear hK K));(first | show AWP _ _ _ _ _ | ((try simp only [j7]);first | show loopQ _ _ _ _ _ _ | show cutQ _ _ _ _ | show AWP _ _ _ _ _))) | ((first | refine x8 [] rfl ?_ | refine j8 [] rfl ?_);simp (disch:=omega) only [go_sem,seval];(repeat (first | refine ⟨by omega,?_⟩ | refine ⟨True.intro,?_⟩)))))
 refine q28 3 3 1 35 (rowRR l) rfl (by kernel_rfl) rfl ?_
 (repeat (first | apply j0 | refine q8 rfl ?_ | refine z8 rfl ?_ | apply z7 | (refine x4 fun K hK => ?_) | (refine j4 fun K hK => ?_) | ((first | apply j6 | apply x7 | ((first | refine j5 (hK _ ?_) | refine x6 (hK _ _ x5 ?_));clear hK K));(first | show AWP _ _ _ _ _ | ((try simp only [j7]);first | show loopQ _ _ _ _ _ _ | show cutQ _ _ _ _ | show AWP _ _ _ _ _))) | ((first | refine x8 [] rfl ?_ | refine j8 [] rfl ?_);simp (disch:=omega) only [go_sem,seval];(repeat (first | refine ⟨by omega,?_⟩ | refine ⟨True.intro,?_⟩)))))
 refine x12 (deepRI l) (fun s => l.length - s.val) ⟨0,by omega⟩ ?_ (fun s => ?_)
 ·unfold deepRI
  refine Weak.list ?_ ?_;(all_goals simp (disch:=omega) only [AllF,AllL,j10,q11,x10,exists_eq_left',go_sem,seval]);(all_goals (repeat' (with_reducible apply And.intro)));(all_goals try (first | exact q9 rfl | (refine z11 ?_;omega) | (refine q9 ?_;simp;done)))
 obtain ⟨i,hi⟩ := s
 unfold deepRI
 by_cases h : i < l.length
 ·have r1 := q24 l i
  have hb := q23 hs i
  have pt := j86 l i h
  generalize l.getD i [] = x at r1 hb pt
  have c1 := x85 x.length (rowR x) (by omega)
  have c2 := z85 x.length (rowR x) (by omega)
  (repeat (first | apply j0 | refine q8 rfl ?_ | refine z8 rfl ?_ | apply z7 | (refine x4 fun K hK => ?_) | (refine j4 fun K hK => ?_) | ((first | apply j6 | apply x7 | ((first | refine j5 (hK _ ?_) | refine x6 (hK _ _ x5 ?_));clear hK K));(first | show AWP _ _ _ _ _ | ((try simp only [j7]);first | show loopQ _ _ _ _ _ _ | show cutQ _ _ _ _ | show AWP _ _ _ _ _))) | ((first | refine q10 rfl rfl rfl ?_ | refine z10 rfl rfl rfl ?_);simp (disch:=omega) only [go_sem,seval,r1];(first | refine ⟨_,c1,?_⟩ | refine ⟨_,c2,?_⟩)) | ((first | refine x8 [] rfl ?_ | refine j8 [] rfl ?_);simp (disch:=omega) only [go_sem,seval,r1];(repeat (first | refine ⟨by omega,?_⟩ | refine ⟨True.intro,?_⟩)))))
  refine ⟨⟨i + 1,by omega⟩,by simp only [];omega,?_⟩
  refine Weak.list ?_ ?_;(all_goals simp (disch:=omega) only [AllF,AllL,j10,q11,x10,exists_eq_left',go_sem,seval,r1]);(all_goals (repeat' (with_reducible apply And.intro)));(all_goals try (first | exact q9 rfl | (refine z11 ?_;omega) | (refine q9 ?_;simp;done)))
  ·exact j19 rfl rfl (fun k hk => pt k hk)
 ·have : i = l.length := by omega
  subst this
  (repeat (first | apply j0 | refine q8 rfl ?_ | refine z8 rfl ?_ | apply z7 | (refine x4 fun K hK => ?_) | (refine j4 fun K hK => ?_) | ((first | apply j6 | apply x7 | ((first | refine j5 (hK _ ?_) | refine x6 (hK _ _ x5 ?_));clear hK K));(first | show AWP _ _ _ _ _ | ((try simp only [j7]);first | show loopQ _ _ _ _ _ _ | show cutQ _ _ _ _ | show AWP _ _ _ _ _))) | ((first | refine q10 rfl rfl rfl ?_ | refine z10 rfl rfl rfl ?_);simp (disch:=omega) only [go_sem,seval];(first | refine ⟨_,cl,?_⟩)) | ((first | refine x8 [] rfl ?_ | refine j8 [] rfl ?_);simp (disch:=omega) only [go_sem,seval];(repeat (first | refine ⟨by omega,?_⟩ | refine ⟨True.intro,?_⟩)))))
  refine z9 ⟨_,?_,rfl⟩;rw [Try.results27];simp (disch:=omega) only [ResVars,ResVar,ptrLoc,go_sem,seval]
end Go.Proofs.Ytjfammnjpeeahaa
