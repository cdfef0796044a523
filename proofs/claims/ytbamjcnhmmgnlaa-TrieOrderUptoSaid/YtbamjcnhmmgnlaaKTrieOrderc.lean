/- Part 3 of a proof: lemmas beneath the theorem that the last text bears. Conditions: none. -/
import Derived.Test.YtbamjcnhmmgnlaaKTrieOrderb
import Derived.Shelf.Sort.Plain
import Derived.Shelf.Slices.CompactI
import Derived.Shelf.Slices.In.SortNone
set_option maxHeartbeats 64000000
set_option linter.unusedSimpArgs false
set_option linter.unusedVariables false
namespace Go.Proofs.Ytbamjcnhmmgnlaa.AL
open Go.RowKit
variable {P : Program}
def LocsOK (O : Nat → Prop) (w : World) (h : Gh) (L : List (Nat × LV)) : Prop :=
 (∀ l X,look L l = some X → LocOK O w h l X) ∧ ∀ l l' X X' b,l ≠ l' → look L l = some X → look L l' = some X' → inB h l X b → ¬ inB h l' X' b
def ownB (h : Gh) (L : List (Nat × LV)) (b : Nat) : Prop := ∃ l X,look L l = some X ∧ inB h l X b
def RelRA (w : World) (h : Gh) (v : Value) : List AV → Prop
 | [x] => RelA w h v x
 | xs => ∃ vs : List Value,v = .tuple vs.toArray ∧ RelAs w h vs xs
structure Chg (L L' : List (Nat × LV)) (w : World) (h : Gh) (w' : World) (h' : Gh) : Prop where
 below : BelowS (ownB h L) w w'
 gam : ∀ b,b < w.heap.size → ¬ ownB h L b → h'.g b = h.g b
 gz : GZ w' h'.g
 keep : Keep w h.g w' h'.g
 ρ : ∀ l X,look L l = some X → h'.ρ l = h.ρ l
 up : ∀ l X,look L l = some X → h.μ l < h'.μ l ∨ (h'.κ l = h.κ l ∧ h'.μ l = h.μ l)
 own : ∀ b,ownB h' L' b → w.heap.size ≤ b ∨ ownB h L b
def MCalls (P : Program) (f : FuncId) (xs : List AV) (L : List (Nat × LV)) (Q : List AV → List (Nat × LV) → Prop) : Prop :=
 ∀ (w : World) (h : Gh) (vs : List Value),GZ w h.g → RelAs w h vs xs → LocsOK (fun _ => True) w h L →
  CallRes P (fun v w' => ∃ h' rs L',Q rs L' ∧ RelRA w' h' v rs ∧ LocsOK (fun _ => True) w' h' L' ∧ Chg L L' w h w' h') ((callFunc f vs.toArray).run P w)
theorem MCalls.mono {P : Program} {f : FuncId} {xs : List AV} {L : List (Nat × LV)} {Q Q' : List AV → List (Nat × LV) → Prop} (h : MCalls P f xs L Q) (hq : ∀ rs M,Q rs M → Q' rs M) : MCalls P f xs L Q' := by
 intro w g vs hz hr hl
 have key := h w g vs hz hr hl
 unfold CallRes at *
 split at key
 ·exact key.mono fun e w' ⟨v,he,h',rs,L',h1,h2⟩ => ⟨v,he,h',rs,L',hq _ _ h1,h2⟩
 ·obtain ⟨h',rs,L',h1,h2⟩ := key;exact ⟨h',rs,L',hq _ _ h1,h2⟩
 ·exact key.elim
theorem z29 {O O' : Nat → Prop} {w : World} {h : Gh} {l : Nat} {X : LV} (k : LocOK O w h l X) (hO : ∀ b,inB h l X b → O' b) : LocOK O' w h l X := by
 cases X with
 | cells e cs => obtain ⟨arr,h1,h2⟩ := k;exact ⟨arr,hO _ rfl,h2⟩
 | arr e n f => obtain ⟨arr,fz,h1,h2⟩ := k;exact ⟨arr,fz,hO _ rfl,h2⟩
 | grow e sz n gen => obtain ⟨h1,h2,h3,h4⟩ := k;exact ⟨h1,h2,h3,fun b hb => hO b (by simpa [inB] using hb)⟩
 | own e sz n gen f => obtain ⟨h1,h2,h4⟩ := k;exact ⟨h1,h2,fun b hb => ⟨(h4 b hb).1,hO b (by simpa [inB] using hb)⟩⟩
 | fz e cs => obtain ⟨arr,h1,h2⟩ := k;exact ⟨arr,hO _ rfl,h2⟩
 | map ks es => obtain ⟨arr,c,h1,h2⟩ := k;exact ⟨arr,c,hO _ rfl,h2⟩
 | raw M => intro b o hb;exact ⟨hO b (by simp [inB,hb]),(k b o hb).2⟩
 | blk e sz n f => obtain ⟨cap,h1,h2⟩ := k;exact ⟨cap,hO _ rfl,h2⟩
 | obj o => exact ⟨hO _ rfl,k.2⟩
theorem inB_O {O : Nat → Prop} {w : World} {h : Gh} {l : Nat} {X : LV} (k : LocOK O w h l X) {b : Nat} (hb : inB h l X b) : O b := by
 cases X with
 | cells e cs => obtain ⟨arr,h1,h2⟩ := k;simp [inB] at hb;subst hb;exact h1
 | arr e n f => obtain ⟨arr,fz,h1,h2⟩ := k;simp [inB] at hb;subst hb;exact h1
 | grow e sz n gen => obtain ⟨h1,h2,h3,h4⟩ := k;exact h4 b (by simpa [inB] using hb)
 | own e sz n gen f => obtain ⟨h1,h2,h4⟩ := k;exact (h4 b (by simpa [inB] using hb)).2
 | fz e cs => obtain ⟨arr,h1,h2⟩ := k;simp [inB] at hb;subst hb;exact h1
 | map ks es => obtain ⟨arr,c,h1,h2⟩ := k;simp [inB] at hb;subst hb;exact h1
 |raw M =>
  simp only [inB] at hb
  cases hM : M b with
  | none => exact absurd hM hb
  | some o => exact (k b o hM).1
 | blk e sz n f => obtain ⟨cap,h1,h2⟩ := k;simp [inB] at hb;subst hb;exact h1
 | obj o => simp [inB] at hb;subst hb;exact k.1
def frA : Nat → List AV → List (Nat × AV)
 | _,[] => []
 | k,x :: xs => (k,x) :: frA (k + 1) xs
theorem j76 : ∀ (xs : List AV) (k t : Nat) (y : AV),look (frA k xs) t = some y → ∃ x,k ≤ t ∧ xs[t - k]? = some x ∧ y = x
 | [],k,t,y,h => by cases h
 |x :: r,k,t,y,h => by
  simp only [frA,look] at h
  split at h
  ·rename_i e;subst e;cases h;exact ⟨x,Nat.le_refl _,by simp,rfl⟩
  ·obtain ⟨z,h1,h2,h3⟩ := j76 r (k + 1) t y h
   refine ⟨z,by omega,?_,h3⟩
   have : t - k = (t - (k + 1)) + 1 := by omega
   rw [this];simpa using h2
def ResVarA (P : Program) (A : ASt) (v : ResultVar) (x : AV) : Prop := match v with
 | .tmp t => look A.fr t = some x
 | v => ∃ y,ResVar P A v y ∧ x = .p y
def ResVarsA (P : Program) (A : ASt) : List ResultVar → List AV → Prop
 | [],[] => True
 | v :: vs,x :: xs => ResVarA P A v x ∧ ResVarsA P A vs xs
 | _,_ => False
def retM (P : Program) (fn : Func) (Q : List AV → List (Nat × LV) → Prop) : Exit → ASt → Prop
 | .normal,A => ∃ rs L',ResVarsA P A fn.results.toList rs ∧ (∀ l X,look L' l = some X → look A.locs l = some X) ∧ Q rs L'
 | .ret,A => ∃ rs L',ResVarsA P A fn.results.toList rs ∧ (∀ l X,look L' l = some X → look A.locs l = some X) ∧ Q rs L'
 | _,_ => False
section
variable {w0 : Base} {g0 : Nat → Nat} {nt : Nat} {A : ASt} {h : Gh} {a : Act} {w : World}
theorem z123 (r : Rel w0 g0 nt A h a w) {v : ResultVar} {x : AV} (hv : ResVarA P A v x) : ∃ u,(oneResult a.tmps v).run P w = .ok u w ∧ RelA w h u x := by
 cases v with
 | tmp t => exact ⟨a.tmps.getD t undef,rfl,r.fr t x hv⟩
 |_ =>
  obtain ⟨y,h1,rfl⟩ := hv
  exact x72 r h1
theorem q77 (r : Rel w0 g0 nt A h a w) : ∀ {vs : List ResultVar} {rs : List AV},ResVarsA P A vs rs → ∃ us,(vs.mapM (oneResult a.tmps)).run P w = .ok us w ∧ RelAs w h us rs
 | [],[],_ => ⟨[],rfl,rfl,fun j v x hv => by simp at hv⟩
 |v :: vs,x :: xs,hh => by
  obtain ⟨u,h1,h2⟩ := z123 r hh.1
  obtain ⟨us,h3,h4⟩ := q77 r hh.2
  refine ⟨u :: us,by simp [List.mapM_cons,h1,h3],by simp [h4.1],fun j v' x' hv hx => ?_⟩
  cases j with
  | zero => simp at hv hx;subst hv;subst hx;exact h2
  | succ j => exact h4.2 j v' x' (by simpa using hv) (by simpa using hx)
 | [],_ :: _,hh => hh.elim
 | _ :: _,[],hh => hh.elim
theorem x123 (r : Rel w0 g0 nt A h a w) {fn : Func} {rs : List AV} (hv : ResVarsA P A fn.results.toList rs) : ∃ v,(results fn a.tmps).run P w = .ok v w ∧ RelRA w h v rs := by
 obtain ⟨us,h1,h2⟩ := q77 r hv
 have e : (fn.results.mapM (oneResult a.tmps)).run P w = .ok us.toArray w := by
  rw [Array.mapM_eq_mapM_toList]
  simp [h1]
 have e' : results fn a.tmps = (do let vs ← fn.results.mapM (oneResult a.tmps);pure (if h : vs.size = 1 then vs[0] else .tuple vs)) := by
  unfold results
  congr 1
 rw [e']
 simp only [Sem.run_bind,e,Result.andThen_ok,Sem.run_pure]
 refine ⟨_,rfl,?_⟩
 match us,rs,h2 with
 | [u],[x],h2 => exact h2.2 0 u x rfl rfl
 | [],[],h2 => exact ⟨[],rfl,h2⟩
 | u :: u' :: us,x :: x' :: rs,h2 => exact ⟨_,by simp,h2⟩
 | [],_ :: _,h2 => simp [RelAs] at h2
 | _ :: _,[],h2 => simp [RelAs] at h2
 | [_],_ :: _ :: _,h2 => simp [RelAs] at h2
 | _ :: _ :: _,[_],h2 => simp [RelAs] at h2
end
theorem j15 {f : FuncId} {fn : Func} {c : Code} {xs : List AV} {L : List (Nat × LV)} {Q : List AV → List (Nat × LV) → Prop} (hf : P.funcs[f]? = some fn) (hb : fn.body = some c) (hname : (fn.name == "runtime.NumGoroutine") = false) (hn : xs.length ≤ fn.ntmps)
  (hL : ∀ l X,look L l = some X → 1000 ≤ l) (H : AWP P fn.ntmps c (retM P fn Q) ⟨frA 0 xs,L⟩) : MCalls P f xs L Q := by
 intro w h vs hz hr hl
 have hrun : (callFunc f vs.toArray).run P w = .ok (.enter f vs.toArray) w := by
  simp only [callFunc,program,Sem.run,Bind.bind,Sem.bind,hf,hname,hb];rfl
 rw [hrun]
 show Calls P f vs.toArray w _
 refine calls_of_wp hf hb ?_
 let w0 : Base := ⟨w,fun b => w.heap.size ≤ b ∨ ownB h L b,fun b hb => .inl hb,h.ρ,h.κ,h.μ⟩
 have hlt : ∀ b,ownB h L b → b < w.heap.size := fun b ⟨l,X,h1,h2⟩ => x24 (hl.1 l X h1) h2
 have hrel : Rel w0 h.g fn.ntmps ⟨frA 0 xs,L⟩ h { tmps := vs.toArray ++ Array.replicate (fn.ntmps - vs.toArray.size) undef,defers := [] } w := by
  refine ⟨by have := hr.1;simp;omega,rfl,fun t y hy => ?_,fun l X hX => z29 (hl.1 l X hX) fun b hb => .inr ⟨l,X,hX,hb⟩,hl.2,ExtS.refl w0 hz,fun l _ => ⟨rfl,.inr ⟨rfl,rfl⟩⟩⟩
  obtain ⟨x,_,hx,rfl⟩ := j76 xs 0 t y hy
  have hlt : t < vs.length := by rw [hr.1];have := (List.getElem?_eq_some_iff.1 hx).1;simpa using this
  have hv : (vs.toArray ++ Array.replicate (fn.ntmps - vs.toArray.size) undef).getD t undef = vs[t] := by
   rw [Array.getD_eq_getD_getElem?,Array.getElem?_append_left (by simpa using hlt)]
   simp [hlt]
  rw [hv]
  exact hr.2 t _ y (by simp [hlt]) (by simpa using hx)
 refine Go.wp_mono (x116.1 H w0 h.g _ _ w hrel) fun e a' w' ⟨A',h',q,rr⟩ => ?_
 have fin : (∃ rs L',ResVarsA P A' fn.results.toList rs ∧ (∀ l X,look L' l = some X → look A'.locs l = some X) ∧ Q rs L') → a'.defers = [] ∧ ∃ v,(results fn a'.tmps).run P w' = .ok v w' ∧
   ∃ u,Ending.returned v = .returned u ∧ ∃ h' rs L',Q rs L' ∧ RelRA w' h' u rs ∧ LocsOK (fun _ => True) w' h' L' ∧ Chg L L' w h w' h' := by
  rintro ⟨rs,L',hv,hL',hq⟩
  obtain ⟨v,h1,h2⟩ := x123 rr hv
  refine ⟨rr.defers,v,h1,v,rfl,h',rs,L',hq,h2,⟨fun l X hX => z29 (rr.locs l X (hL' l X hX)) fun _ _ => trivial,fun l l' X X' b hne h1 h2 => rr.sep l l' X X' b hne (hL' l X h1) (hL' l' X' h2)⟩,?_⟩
  refine ⟨⟨rr.ext.below.os,rr.ext.below.tape,rr.ext.below.output,rr.ext.below.size,fun k hk hno => rr.ext.below.block k hk ?_⟩,fun b hb hno => rr.ext.gam b ?_,rr.ext.gz,rr.ext.keep,fun l X hX => (rr.pin l (hL l X hX)).1,fun l X hX => (rr.pin l (hL l X hX)).2,fun b ⟨l,X,h1,h2⟩ => inB_O (rr.locs l X (hL' l X h1)) h2⟩
  ·rintro (hge | ho)
   ·have hk : k < w.heap.size := hk
    omega
   ·exact hno ho
  ·rintro (hge | ho)
   ·omega
   ·exact hno ho
 cases e with
 | normal => exact fin q
 | ret => exact fin q
 | exit id => exact q.elim
 | goto l => exact q.elim
 | panic ch => exact q.elim
 | outgrown => exact q.elim
def sub (sg : List (Nat × Nat)) (l : Nat) : Nat := (look sg l).getD l
def back : List (Nat × Nat) → Nat → Option Nat
 | [],_ => none
 | (l,m) :: r,u => if m = u then some l else back r u
def CV.ren (s : Nat → Nat) : CV → CV
 | .p x => .p x
 | .loc l off => .loc (s l) off
 | .ow l gen sz n => .ow (s l) gen sz n
 | .mp l => .mp (s l)
 | .a1 l off => .a1 (s l) off
def AV.ren (s : Nat → Nat) : AV → AV
 | .ow l gen sz n => .ow (s l) gen sz n
 | .el l gen sz i j => .el (s l) gen sz i j
 | .cl f a b => .cl f (a.map (CV.ren s)) (b.map (CV.ren s))
 | .loc l off => .loc (s l) off
 | .gr l gen sz n f => .gr (s l) gen sz n f
 | .row l sz off n => .row (s l) sz off n
 | .mp l => .mp (s l)
 | .ag cs => .ag (cs.map (CV.ren s))
 | x => x
def LV.ren (s : Nat → Nat) : LV → LV
 | .cells e cs => .cells e (cs.map (AV.ren s))
 | .fz e cs => .fz e (cs.map (AV.ren s))
 | X => X
def Gh.ren (h : Gh) (s : Nat → Nat) : Gh := ⟨h.g,fun l => h.ρ (s l),fun l => h.κ (s l),fun l => h.μ (s l)⟩
theorem q22 {w : World} {h : Gh} {s : Nat → Nat} {v : Value} {x : AV} : RelA w h v (x.ren s) ↔ RelA w (h.ren s) v x := by
 have hc : ∀ (vs : List Value) (cs : List CV),RelCs w h vs (cs.map (CV.ren s)) ↔ RelCs w (h.ren s) vs cs := by
  intro vs cs
  have one : ∀ v (c : CV),RelCV w h v (c.ren s) ↔ RelCV w (h.ren s) v c := fun v c => by cases c <;> exact Iff.rfl
  constructor
  ·rintro ⟨h1,h2⟩
   exact ⟨by simpa using h1,fun j v c hv hc => (one v c).1 (h2 j v _ hv (by rw [List.getElem?_map,hc];rfl))⟩
  ·rintro ⟨h1,h2⟩
   refine ⟨by simpa using h1,fun j v c hv hc => ?_⟩
   rw [List.getElem?_map] at hc
   cases hj : cs[j]? with
   | none => rw [hj] at hc;cases hc
   | some y => rw [hj] at hc;cases hc;exact (one v y).2 (h2 j v y hv hj)
 cases x with
 |cl f a b =>
  constructor
  ·rintro ⟨vs,us,h1,h2,h3⟩;exact ⟨vs,us,h1,(hc _ _).1 h2,(hc _ _).1 h3⟩
  ·rintro ⟨vs,us,h1,h2,h3⟩;exact ⟨vs,us,h1,(hc _ _).2 h2,(hc _ _).2 h3⟩
 |ag cs =>
  constructor
  ·rintro ⟨vs,h1,h2,h3⟩;exact ⟨vs,h1,(hc _ _).1 h2,h3⟩
  ·rintro ⟨vs,h1,h2,h3⟩;exact ⟨vs,h1,(hc _ _).2 h2,h3⟩
 | _ => exact Iff.rfl
theorem q43 {O : Nat → Prop} {w : World} {h : Gh} {s : Nat → Nat} {l : Nat} {X : LV} : LocOK O w h (s l) (X.ren s) ↔ LocOK O w (h.ren s) l X := by
 cases X with
 |cells e cs =>
  simp only [LV.ren,LocOK]
  constructor
  ·rintro ⟨arr,h1,h2,h3,h4,h5⟩
   refine ⟨arr,h1,h2,by simpa using h3,h4,fun i v x hv hx => ?_⟩
   have := h5 i v (x.ren s) hv (by rw [List.getElem?_map,hx];rfl)
   exact ⟨q22.1 this.1,this.2⟩
  ·rintro ⟨arr,h1,h2,h3,h4,h5⟩
   refine ⟨arr,h1,h2,by simpa using h3,h4,fun i v x hv hx => ?_⟩
   rw [List.getElem?_map] at hx
   cases hc : cs[i]? with
   | none => rw [hc] at hx;cases hx
   |some y =>
    rw [hc] at hx;cases hx
    exact ⟨q22.2 (h5 i v y hv hc).1,(h5 i v y hv hc).2⟩
 |fz e cs =>
  simp only [LV.ren,LocOK]
  constructor
  ·rintro ⟨arr,h1,h2,h3,h4,h5⟩
   refine ⟨arr,h1,h2,by simpa using h3,h4,fun i v x hv hx => ?_⟩
   have := h5 i v (x.ren s) hv (by rw [List.getElem?_map,hx];rfl)
   exact ⟨q22.1 this.1,this.2⟩
  ·rintro ⟨arr,h1,h2,h3,h4,h5⟩
   refine ⟨arr,h1,h2,by simpa using h3,h4,fun i v x hv hx => ?_⟩
   rw [List.getElem?_map] at hx
   cases hc : cs[i]? with
   | none => rw [hc] at hx;cases hx
   |some y =>
    rw [hc] at hx;cases hx
    exact ⟨q22.2 (h5 i v y hv hc).1,(h5 i v y hv hc).2⟩
 | arr e n f => exact Iff.rfl
 | grow e sz n gen => exact Iff.rfl
 | own e sz n gen f => exact Iff.rfl
 | map ks es => exact Iff.rfl
 | raw M => exact Iff.rfl
 | blk e sz n f => exact Iff.rfl
 | obj o => exact Iff.rfl
theorem x29 {h : Gh} {s : Nat → Nat} {l : Nat} {X : LV} : inB h (s l) (X.ren s) = inB (h.ren s) l X := by cases X <;> rfl
theorem j29 {w : World} {h k : Gh} {v : Value} {x : AV} (hg : h.g = k.g) (hm : ∀ l ∈ x.mentions,h.ρ l = k.ρ l ∧ h.κ l = k.κ l ∧ h.μ l = k.μ l) (r : RelA w h v x) : RelA w k v x := by
 have hc : ∀ (vs : List Value) (cs : List CV),(∀ l ∈ cs.flatMap CV.mentions,h.ρ l = k.ρ l ∧ h.κ l = k.κ l ∧ h.μ l = k.μ l) → RelCs w h vs cs → RelCs w k vs cs := by
  intro vs cs hm r
  refine ⟨r.1,fun j v c hv hc => ?_⟩
  have r := r.2 j v c hv hc
  have hm := fun l hl => hm l (List.mem_flatMap.2 ⟨c,List.mem_of_getElem? hc,hl⟩)
  cases c with
  | p x => simp only [RelCV] at *;rw [← hg];exact r
  | loc l off => simp only [RelCV] at *;rw [← (hm l (by simp [CV.mentions])).1];exact r
  |ow l gen sz n =>
   obtain ⟨h1,h2,h3⟩ := hm l (by simp [CV.mentions])
   simp only [RelCV,RelOw] at *;rw [← h2,← h3];exact r
  | mp l => simp only [RelCV] at *;rw [← (hm l (by simp [CV.mentions])).1];exact r
  | a1 l off => simp only [RelCV] at *;rw [← (hm l (by simp [CV.mentions])).1];exact r
 cases x with
 |ow l gen sz n =>
  obtain ⟨h1,h2,h3⟩ := hm l (by simp [AV.mentions])
  simp only [RelA,RelOw] at *;rw [← h2,← h3];exact r
 |el l gen sz i j =>
  obtain ⟨h1,h2,h3⟩ := hm l (by simp [AV.mentions])
  simp only [RelA] at *;rw [← h2,← h3];exact r
 |cl f a b =>
  obtain ⟨vs,us,e,h1,h2⟩ := r
  simp only [AV.mentions,List.flatMap_append] at hm
  exact ⟨vs,us,e,hc _ _ (fun l hl => hm l (List.mem_append_left _ hl)) h1,hc _ _ (fun l hl => hm l (List.mem_append_right _ hl)) h2⟩
 | top => trivial
 | undef => exact r
 | p x => simp only [RelA] at *;rw [← hg];exact r
 | loc l off => simp only [RelA] at *;rw [← (hm l (by simp [AV.mentions])).1];exact r
 |gr l gen sz n f =>
  obtain ⟨h1,h2,h3⟩ := hm l (by simp [AV.mentions])
  simp only [RelA] at *;rw [← hg,← h2,← h3];exact r
 | row l sz off n => simp only [RelA] at *;rw [← (hm l (by simp [AV.mentions])).1];exact r
 | tup xs => simp only [RelA] at *;rw [← hg];exact r
 | mp l => simp only [RelA] at *;rw [← (hm l (by simp [AV.mentions])).1];exact r
 | ag cs => obtain ⟨vs,h1,h2,h3⟩ := r;exact ⟨vs,h1,hc _ _ hm h2,h3⟩
 | is q => exact r
 | ex b sz i j => exact r
theorem z56 {O : Nat → Prop} {w : World} {h k : Gh} {l : Nat} {X : LV} (hg : h.g = k.g) (hl : h.ρ l = k.ρ l ∧ h.κ l = k.κ l ∧ h.μ l = k.μ l) (hm : ∀ l ∈ X.mentions,h.ρ l = k.ρ l ∧ h.κ l = k.κ l ∧ h.μ l = k.μ l)
  (r : LocOK O w h l X) : LocOK O w k l X := by
 obtain ⟨e1,e2,e3⟩ := hl
 cases X with
 |cells e cs =>
  obtain ⟨arr,h1,h2,h3,h4,h5⟩ := r
  refine ⟨arr,by rw [← e1];exact h1,by rw [← e1];exact h2,h3,by rw [← hg,← e1];exact h4,fun i v x hv hx => ⟨j29 hg (fun l hl => hm l (List.mem_flatMap.2 ⟨x,List.mem_of_getElem? hx,hl⟩)) (h5 i v x hv hx).1,(h5 i v x hv hx).2⟩⟩
 |arr e n f =>
  obtain ⟨arr,fz,h1,h2,h3,h4,h5,h6⟩ := r
  exact ⟨arr,fz,by rw [← e1];exact h1,by rw [← e1];exact h2,h3,h4,by rw [← hg,← e1];exact h5,by rw [← hg];exact h6⟩
 |grow e sz n gen =>
  obtain ⟨h1,h2,h3,h4⟩ := r
  exact ⟨by rw [← e3];exact h1,by rw [← e2];exact h2,by rw [← e2,← hg];exact h3,by rw [← e2];exact h4⟩
 |own e sz n gen f =>
  obtain ⟨h1,h2,h4⟩ := r
  exact ⟨by rw [← e3];exact h1,by rw [← e2,← hg];exact h2,by rw [← e2,← hg];exact h4⟩
 |fz e cs =>
  obtain ⟨arr,h1,h2,h3,h4,h5⟩ := r
  refine ⟨arr,by rw [← e1];exact h1,by rw [← e1];exact h2,h3,by rw [← hg,← e1];exact h4,fun i v x hv hx => ⟨j29 hg (fun l hl => hm l (List.mem_flatMap.2 ⟨x,List.mem_of_getElem? hx,hl⟩)) (h5 i v x hv hx).1,(h5 i v x hv hx).2⟩⟩
 |map ks es =>
  obtain ⟨arr,c,h1,h2,h3,h4⟩ := r
  exact ⟨arr,c,by rw [← e1];exact h1,by rw [← e1];exact h2,by rw [← hg,← e1];exact h3,by rw [← hg];exact h4⟩
 | raw M => intro b o hb;obtain ⟨h1,h2,h3⟩ := r b o hb;exact ⟨h1,by rw [← hg];exact h2,by rw [← hg];exact h3⟩
 | blk e sz n f => obtain ⟨cap,h1,h2,h3⟩ := r;exact ⟨cap,by rw [← e1];exact h1,by rw [← e1,← hg];exact h2,by rw [← hg,← e1];exact h3⟩
 | obj o => obtain ⟨h1,h2,h3⟩ := r;exact ⟨by rw [← e1];exact h1,by rw [← e1];exact h2,by rw [← hg,← e1];exact h3⟩
theorem x56 {h k : Gh} {l : Nat} {X : LV} (hl : h.ρ l = k.ρ l ∧ h.κ l = k.κ l ∧ h.μ l = k.μ l) : inB h l X = inB k l X := by
 cases X <;> simp [inB,hl.1,hl.2.1]
def AV.clean (t : Nat → Option Nat) : AV → AV
 | .gr l gen sz n f => match t l with
  | some _ => .p (.d (.sl sz n f))
  | none => .gr l gen sz n f
 | x => x
def LV.clean (t : Nat → Option Nat) : LV → LV
 | .cells e cs => .cells e (cs.map (AV.clean t))
 | .fz e cs => .fz e (cs.map (AV.clean t))
 | X => X
theorem j123 {O : Nat → Prop} {w w' : World} {h h' : Gh} {t : Nat → Option Nat} {l : Nat} {X : LV} (hρ : h'.ρ l = h.ρ l) (hκ : h'.κ l = h.κ l) (hμ : h'.μ l = h.μ l) (hk : Keep w h.g w' h'.g)
  (hb : ∀ b,inB h l X b → w'.heap[b]? = w.heap[b]? ∧ h'.g b = h.g b) (hc : ∀ v x,(∀ l ∈ x.mentions,l ∈ X.mentions) → RelA w h v x → RelA w' h' v (x.clean t)) (k : LocOK O w h l X) :
  LocOK O w' h' l (X.clean t) ∧ inB h' l (X.clean t) = inB h l X := by
 cases X with
 |cells e cs =>
  obtain ⟨arr,h1,h2,h3,h4,h5⟩ := k
  obtain ⟨e1,e2⟩ := hb (h.ρ l) rfl
  refine ⟨⟨arr,by rw [hρ];exact h1,by rw [hρ,e1];exact h2,by simpa using h3,by rw [hρ,e2];exact h4,fun i v x hv hx => ?_⟩,by simp [inB,LV.clean,hρ]⟩
  rw [List.getElem?_map] at hx
  cases hci : cs[i]? with
  | none => rw [hci] at hx;cases hx
  |some y =>
   rw [hci] at hx;cases hx
   exact ⟨hc v y (fun l hl => List.mem_flatMap.2 ⟨y,List.mem_of_getElem? hci,hl⟩) (h5 i v y hv hci).1,(h5 i v y hv hci).2⟩
 |fz e cs =>
  obtain ⟨arr,h1,h2,h3,h4,h5⟩ := k
  obtain ⟨e1,e2⟩ := hb (h.ρ l) rfl
  refine ⟨⟨arr,by rw [hρ];exact h1,by rw [hρ,e1];exact h2,by simpa using h3,by rw [hρ,e2];exact h4,fun i v x hv hx => ?_⟩,by simp [inB,LV.clean,hρ]⟩
  rw [List.getElem?_map] at hx
  cases hci : cs[i]? with
  | none => rw [hci] at hx;cases hx
  |some y =>
   rw [hci] at hx;cases hx
   exact ⟨hc v y (fun l hl => List.mem_flatMap.2 ⟨y,List.mem_of_getElem? hci,hl⟩) (h5 i v y hv hci).1,(h5 i v y hv hci).2⟩
 |arr e n f =>
  obtain ⟨arr,fz,h1,h2,hfz,h3,h4,h5⟩ := k
  obtain ⟨e1,e2⟩ := hb (h.ρ l) rfl
  exact ⟨⟨arr,fz,by rw [hρ];exact h1,by rw [hρ,e1];exact h2,hfz,h3,by rw [hρ,e2];exact h4,fun i v hi hv => (h5 i v hi hv).keep hk⟩,by simp [inB,LV.clean,hρ]⟩
 |grow e sz n gen =>
  obtain ⟨h1,⟨xs,h2⟩,h3,h4⟩ := k
  refine ⟨⟨by rw [hμ];exact h1,⟨xs,?_⟩,fun b c hb' => ?_,fun b hb' => h4 b (by rw [← hκ];exact hb')⟩,by simp [inB,LV.clean,hκ]⟩
  ·rw [hκ]
   rcases h2 with ⟨a1,a2 | ⟨gb,cap,cur,a2,a3,a4,a5⟩⟩
   ·exact ⟨a1,.inl a2⟩
   ·have hb' : inB h l (.grow e sz n gen) gb := by simp [inB,a2,Value.ownBlock]
    exact ⟨a1,.inr ⟨gb,cap,cur,a2,a3,by rw [(hb gb hb').1];exact a4,a5⟩⟩
  ·rw [hκ] at hb'
   have hb2 : inB h l (.grow e sz n gen) b := by simp [inB,hb',Value.ownBlock]
   rw [(hb b hb2).2]
   exact h3 b c hb'
 |own e sz n gen f =>
  obtain ⟨h1,⟨xs,h2,h3⟩,h4⟩ := k
  refine ⟨⟨by rw [hμ];exact h1,⟨xs,?_,h3.keep hk⟩,fun b hb' => ?_⟩,by simp [inB,LV.clean,hκ]⟩
  ·rw [hκ]
   exact j62 h2 fun b hb' => (hb b (by simpa [inB] using hb')).1
  ·rw [hκ] at hb'
   rw [(hb b (by simpa [inB] using hb')).2]
   exact h4 b hb'
 |map ks es =>
  obtain ⟨arr,c,h1,h2,h3,h4⟩ := k
  obtain ⟨e1,e2⟩ := hb (h.ρ l) rfl
  exact ⟨⟨arr,c,by rw [hρ];exact h1,by rw [hρ,e1];exact h2,by rw [hρ,e2];exact h3,h4.keep hk⟩,by simp [inB,LV.clean,hρ]⟩
 |raw M =>
  refine ⟨fun b o hM => ?_,rfl⟩
  obtain ⟨h1,h2,h3⟩ := k b o hM
  obtain ⟨e1,e2⟩ := hb b (by simp [inB,hM])
  exact ⟨h1,h2.keep hk e1,by rw [e2];exact h3⟩
 |blk e sz n f =>
  obtain ⟨cap,h1,h2,h3⟩ := k
  obtain ⟨e1,e2⟩ := hb (h.ρ l) rfl
  exact ⟨⟨cap,by rw [hρ];exact h1,by rw [hρ];exact h2.keep hk e1,by rw [hρ,e2];exact h3⟩,by simp [inB,LV.clean,hρ]⟩
 |obj o =>
  obtain ⟨h1,h2,h3⟩ := k
  obtain ⟨e1,e2⟩ := hb (h.ρ l) rfl
  exact ⟨⟨by rw [hρ];exact h1,by rw [hρ,e1];exact h2,by rw [hρ,e2];exact h3⟩,by simp [inB,LV.clean,hρ]⟩
theorem z77 {α : Type} (L M : List (Nat × α)) (k : Nat) : look (L ++ M) k = match look L k with
  | some x => some x
  | none => look M k := by
 induction L with
 | nil => rfl
 |cons p L ih =>
  obtain ⟨t,x⟩ := p
  simp only [List.cons_append,look]
  split
  ·rfl
  ·exact ih
theorem j56 {α β : Type} (f : α → β) (L : List (Nat × α)) (k : Nat) : look (L.map fun p => (p.1,f p.2)) k = (look L k).map f := by
 induction L with
 | nil => rfl
 |cons p L ih =>
  obtain ⟨t,x⟩ := p
  simp only [List.map_cons,look]
  split
  ·rfl
  ·exact ih
theorem q124 {α : Type} (q : Nat → Bool) (L : List (Nat × α)) (k : Nat) : look (L.filter fun p => q p.1) k = if q k then look L k else none := by
 induction L with
 | nil => simp [look]
 |cons p L ih =>
  obtain ⟨t,x⟩ := p
  simp only [List.filter_cons]
  by_cases ht : t = k
  ·subst ht
   cases hq : q t
   ·simp only [Bool.false_eq_true,if_false];rw [ih,hq];rfl
   ·simp [look]
  ·cases hq : q t
   ·simp only [Bool.false_eq_true,if_false,look,if_neg ht];exact ih
   ·simp only [if_true,look,if_neg ht];exact ih
def keysOK {α : Type} : List (Nat × α) → Bool
 | [] => true
 | (t,_) :: r => (look r t).isNone && keysOK r
theorem x77 {α β : Type} (s : Nat → Nat) (f : α → β) : ∀ (L : List (Nat × α)) (m : Nat) (y : β),keysOK L = true → look (L.map fun p => (s p.1,f p.2)) m = some y → ∃ l x,look L l = some x ∧ s l = m ∧ y = f x
 | [],m,y,_,h => by cases h
 |(t,x) :: L,m,y,hk,h => by
  simp only [keysOK,Bool.and_eq_true] at hk
  simp only [List.map_cons,look] at h
  split at h
  ·rename_i e;cases h;exact ⟨t,x,by simp [look],e,rfl⟩
  ·obtain ⟨l,x',h1,h2,h3⟩ := x77 s f L m y hk.2 h
   refine ⟨l,x',?_,h2,h3⟩
   simp only [look]
   rw [if_neg (fun e => by subst e;rw [h1] at hk;simp at hk)]
   exact h1
def afterCall (sg : List (Nat × Nat)) (A : ASt) (dst : Option Tmp) (res : AV) (L' : List (Nat × LV)) : ASt :=
 ⟨(match dst with
  | some d => [(d,res.ren (sub sg))]
  | none => []) ++ A.fr.map fun p => (p.1,p.2.clean (back sg)),
  (L'.map fun p => (sub sg p.1,p.2.ren (sub sg))) ++ (A.locs.filter fun p => (back sg p.1).isNone).map fun p => (p.1,p.2.clean (back sg))⟩
def resM : List AV → Option AV
 | [x] => some x
 | xs => (xs.mapM pvAV).map .tup
theorem z124 {w : World} {h : Gh} {v : Value} {rs : List AV} {x : AV} (hx : resM rs = some x) (r : RelRA w h v rs) : RelA w h v x := by
 match rs,hx,r with
 | [y],hx,r => cases hx;exact r
 | [],hx,⟨vs,hv,hr⟩ => cases hx;exact ⟨vs,hv,by have := hr.1;simp at this;subst this;exact RelPs.nil _ _⟩
 |a :: b :: r',hx,⟨vs,hv,hr⟩ =>
  simp only [resM,Option.map_eq_some_iff] at hx
  obtain ⟨ys,hy,rfl⟩ := hx
  exact ⟨vs,hv,q40 hy hr⟩
theorem RelAs.append {w : World} {h : Gh} {vs us : List Value} {xs ys : List AV} (r : RelAs w h vs xs) (t : RelAs w h us ys) : RelAs w h (vs ++ us) (xs ++ ys) := by
 refine ⟨by simp [r.1,t.1],fun j v x hv hx => ?_⟩
 by_cases hj : j < vs.length
 ·rw [List.getElem?_append_left hj] at hv
  rw [List.getElem?_append_left (r.1 ▸ hj)] at hx
  exact r.2 j v x hv hx
 ·rw [List.getElem?_append_right (by omega)] at hv
  rw [List.getElem?_append_right (by have := r.1;omega),← r.1] at hx
  exact t.2 _ v x hv hx
def calleeC : AV → Option (FuncId × List CV × List CV)
 | .p (.fn (.func f) a b) => some (f,a.map .p,b.map .p)
 | .cl (.func f) a b => some (f,a,b)
 | _ => none
theorem j77 {w : World} {h : Gh} {vs : List Value} {xs : List CV} (r : RelCs w h vs xs) : RelAs w h vs (xs.map CV.av) := by
 refine ⟨by simp [r.1],fun j v x hv hx => ?_⟩
 rw [List.getElem?_map] at hx
 cases hj : xs[j]? with
 | none => rw [hj] at hx;cases hx
 | some y => rw [hj] at hx;cases hx;exact (q38 y).1 (r.2 j v y hv hj)
theorem q78 {w : World} {h : Gh} {vs : List Value} {xs : List PV} (r : RelPs w h.g vs xs) : RelCs w h vs (xs.map .p) := by
 refine ⟨by simp [r.1],fun j v x hv hx => ?_⟩
 rw [List.getElem?_map] at hx
 cases hj : xs[j]? with
 | none => rw [hj] at hx;cases hx
 | some y => rw [hj] at hx;cases hx;exact r.2 j v y hv hj
theorem x124 {w : World} {h : Gh} {x : AV} {g : FuncId} {pre post : List CV} (hx : calleeC x = some (g,pre,post)) {v : Value} (hf : RelA w h v x) :
  ∃ us vs : List Value,v = .func (.func g) us.toArray vs.toArray ∧ RelCs w h us pre ∧ RelCs w h vs post := by
 unfold calleeC at hx
 split at hx
 ·cases hx
  cases hf with
  | fn _ us vs _ _ hl hm hr hs => exact ⟨us,vs,rfl,q78 ⟨hl,hr⟩,q78 ⟨hm,hs⟩⟩
 ·cases hx
  obtain ⟨us,vs,e,h1,h2⟩ := hf
  exact ⟨us,vs,e,h1,h2⟩
 ·cases hx
theorem q57 {o : Oper} {c : Call} {f : Operand} (ho : o.op = .call c) (hc : c.callee = .value f) {x : AV} {g : FuncId} {pre post : List CV} (hx : calleeC x = some (g,pre,post)) {ys : List AV}
  {w : World} {h : Gh} {a : Act} (hf : RelA w h (a.eval f) x) (hargs : RelAs w h (c.args.toList.map a.eval) ys) :
  ∃ vs : List Value,RelAs w h vs (pre.map CV.av ++ ys ++ post.map CV.av) ∧ (execOp a.eval o).run P w = (callFunc g vs.toArray).run P w := by
 obtain ⟨us,vs,hv0,h1,h2⟩ := x124 hx hf
 refine ⟨us ++ c.args.toList.map a.eval ++ vs,RelAs.append (RelAs.append (j77 h1) hargs) (j77 h2),?_⟩
 have : (us ++ c.args.toList.map a.eval ++ vs).toArray = us.toArray ++ c.args.map a.eval ++ vs.toArray := by
  apply Array.ext';simp
 rw [this]
 simp [execOp,ho,resolve,hc,hv0,Deferred.ofValue,invoke]
structure NamesOK (sg : List (Nat × Nat)) (A : ASt) (L L' : List (Nat × LV)) (res : AV) : Prop where
 keys : keysOK L' = true
 locs : ∀ l X,look L l = some X → look A.locs (sub sg l) = some (X.ren (sub sg))
 dom : ∀ l X,look L l = some X → back sg (sub sg l) = some l
 dom' : ∀ l X,look L' l = some X → back sg (sub sg l) = some l ∧ ∀ k ∈ X.mentions,back sg (sub sg k) = some k
 res : ∀ k ∈ res.mentions,back sg (sub sg k) = some k
 inv : ∀ m l,back sg m = some l → sub sg l = m
 fresh : ∀ m l,back sg m = some l → (∃ X,look L l = some X) ∨ A.unused m
theorem j16 {ι : Type} {nt : Nat} {ops : Array Oper} {o : Oper} {A : ASt} {c : Call} {f : Operand} {g : FuncId} {pre post : List CV} {xs : List AV} {rsI : ι → List AV} {L : List (Nat × LV)} {LI : ι → List (Nat × LV)} {resI : ι → AV} (sg : List (Nat × Nat))
  (hw : wantedA ops o A = some true) (hd : dstOK nt o = true) (ho : o.op = .call c) (hc : c.callee = .value f) (hx : calleeC (A.eval f) = some (g,pre,post))
  (hargs : pre.map CV.av ++ c.args.toList.map A.eval ++ post.map CV.av = xs.map (AV.ren (sub sg))) (hcall : MCalls P g xs L (fun r M => ∃ i,r = rsI i ∧ M = LI i)) (hres : ∀ i,resM (rsI i) = some (resI i)) (hN : NamesOK sg A L [] .top) (hNI : ∀ i,NamesOK sg A L (LI i) (resI i)) :
  StepX P nt ops o A (fun A' => ∃ i,A' = afterCall sg A o.dst (resI i) (LI i)) := by
 intro w0 g0 h a w r K Q hn
 rw [j40 r hw]
 simp only [if_true]
 left
 have hev := r.evals c.args.toList
 obtain ⟨vs,hvs,hrun⟩ := q57 (P := P) ho hc hx (r.eval f) hev
 rw [hargs] at hvs
 let hσ := h.ren (sub sg)
 have hvs' : RelAs w hσ vs xs := by
  refine ⟨by have := hvs.1;simpa using this,fun j v x hv hxj => ?_⟩
  exact q22.1 (hvs.2 j v _ hv (by rw [List.getElem?_map,hxj];rfl))
 have hlocs : LocsOK (fun _ => True) w hσ L := by
  refine ⟨fun l X hX => z29 (q43.1 (r.locs _ _ (hN.locs l X hX))) fun _ _ => trivial,fun l l' X X' b hne h1 h2 hb hb' => ?_⟩
  rw [← x29] at hb hb'
  exact r.sep _ _ _ _ b (fun e => hne (by have e1 := hN.dom l X h1;have e2 := hN.dom l' X' h2;rw [e,e2] at e1;cases e1;rfl)) (hN.locs l X h1) (hN.locs l' X' h2) hb hb'
 have key := hcall w hσ vs r.gz hvs' hlocs
 have fin : ∀ v w',(∃ h1 r1 L1,(∃ i,r1 = rsI i ∧ L1 = LI i) ∧ RelRA w' h1 v r1 ∧ LocsOK (fun _ => True) w' h1 L1 ∧ Chg L L1 w hσ w' h1) → K (a.put o.dst v) w' := by
  rintro v w' ⟨h1,r1,L1,⟨i,e1,e2⟩,hR,hL,hC⟩
  rw [e1] at hR
  rw [e2] at hL hC
  clear e1 e2 r1 L1
  have hN := hNI i
  have hres := hres i
  have hn := fun a' w' h'' hr => hn (afterCall sg A o.dst (resI i) (LI i)) a' w' h'' ⟨i,rfl⟩ hr
  clear hNI
  generalize hrs : rsI i = rs at hR hres
  generalize hLi : LI i = L' at *
  generalize hri : resI i = res at *
  let h' : Gh := ⟨h1.g,fun m => match back sg m with | some l => h1.ρ l | none => h.ρ m,fun m => match back sg m with | some l => h1.κ l | none => h.κ m,fun m => match back sg m with | some l => h1.μ l | none => h.μ m⟩
  have hname : ∀ l,back sg (sub sg l) = some l → h1.ρ l = (h'.ren (sub sg)).ρ l ∧ h1.κ l = (h'.ren (sub sg)).κ l ∧ h1.μ l = (h'.ren (sub sg)).μ l := by
   intro l hl
   simp [Gh.ren,h',hl]
  have hout : ∀ m,back sg m = none → h'.ρ m = h.ρ m ∧ h'.κ m = h.κ m ∧ h'.μ m = h.μ m := by
   intro m hm
   simp [h',hm]
  have hownO : ∀ b,ownB hσ L b → w0.O b ∧ b < w.heap.size := by
   rintro b ⟨l,X,hX,hb⟩
   rw [← x29] at hb
   have := r.locs _ _ (hN.locs l X hX)
   exact ⟨inB_O this hb,x24 this hb⟩
  have hotherB : ∀ m Y b,look A.locs m = some Y → back sg m = none → inB h m Y b → ¬ ownB hσ L b := by
   rintro m Y b hY hm hb ⟨l,X,hX,hb2⟩
   rw [← x29] at hb2
   refine r.sep m (sub sg l) Y _ b (fun e => ?_) hY (hN.locs l X hX) hb hb2
   rw [e,hN.dom l X hX] at hm;cases hm
  have hclean : ∀ v x,(∀ m ∈ x.mentions,∀ l,back sg m = some l → ∃ X,look L l = some X) → RelA w h v x → RelA w' h' v (x.clean (back sg)) := by
   intro v x hm rx
   have hρ : ∀ l,l ∈ x.mentions → h'.ρ l = h.ρ l := by
    intro m hmm
    cases hb : back sg m with
    | none => exact (hout m hb).1
    |some l =>
     obtain ⟨X,hX⟩ := hm m hmm l hb
     have e1 := hC.ρ l X hX
     have e2 := hN.inv m l hb
     show (match back sg m with | some l => h1.ρ l | none => h.ρ m) = h.ρ m
     rw [hb]
     show h1.ρ l = h.ρ m
     rw [e1]
     show h.ρ (sub sg l) = h.ρ m
     rw [e2]
   have hup : ∀ l,l ∈ x.mentions → h.μ l < h'.μ l ∨ (h'.κ l = h.κ l ∧ h'.μ l = h.μ l) := by
    intro m hmm
    cases hb : back sg m with
    | none => exact .inr (hout m hb).2
    |some l =>
     obtain ⟨X,hX⟩ := hm m hmm l hb
     have e2 := hN.inv m l hb
     have e1 := hC.up l X hX
     simp only [hσ,Gh.ren,e2] at e1
     simp only [h',hb]
     exact e1
   have hgen : ∀ l gen,l ∈ x.mentions → gen ≤ h.μ l → gen ≤ h'.μ l ∧ (h'.μ l = gen → h.μ l = gen ∧ h'.κ l = h.κ l) := by
    intro l gen hl hg
    rcases hup l hl with hlt | ⟨e1,e2⟩
    ·exact ⟨by omega,fun he => by omega⟩
    ·rw [e1,e2];exact ⟨hg,fun e => ⟨e,rfl⟩⟩
   have how : ∀ v l gen n,l ∈ x.mentions → RelOw h v l gen n → RelOw h' v l gen n := by
    rintro v l gen n hl ⟨r1,r2,r3⟩
    obtain ⟨g1,g2⟩ := hgen l gen hl r1
    exact ⟨g1,r2,fun he => by obtain ⟨e1,e2⟩ := g2 he;rw [e2];exact r3 e1⟩
   have hcs : ∀ (vs : List Value) (cs : List CV),(∀ l ∈ cs.flatMap CV.mentions,l ∈ x.mentions) → RelCs w h vs cs → RelCs w' h' vs cs := by
    intro vs cs hmx r
    refine ⟨r.1,fun j v c hv hc => ?_⟩
    have r := r.2 j v c hv hc
    have hmx := fun l hl => hmx l (List.mem_flatMap.2 ⟨c,List.mem_of_getElem? hc,hl⟩)
    cases c with
    | p x => exact RelP.keep hC.keep r
    | loc l off => simp only [RelCV] at *;rw [hρ l (hmx l (by simp [CV.mentions]))];exact r
    | ow l gen sz n => exact how v l gen n (hmx l (by simp [CV.mentions])) r
    | mp l => simp only [RelCV] at *;rw [hρ l (hmx l (by simp [CV.mentions]))];exact r
    | a1 l off => simp only [RelCV] at *;rw [hρ l (hmx l (by simp [CV.mentions]))];exact r
   cases x with
   | ow l gen sz n => exact how v l gen n (by simp [AV.mentions]) rx
   |el l gen sz i j =>
    obtain ⟨r1,b,r2,r3⟩ := rx
    obtain ⟨g1,g2⟩ := hgen l gen (by simp [AV.mentions]) r1
    exact ⟨g1,b,r2,fun he => by obtain ⟨e1,e2⟩ := g2 he;rw [e2];exact r3 e1⟩
   |cl f a b =>
    obtain ⟨vs,us,e,h1,h2⟩ := rx
    exact ⟨vs,us,e,hcs _ _ (fun l hl => by simp only [AV.mentions,List.flatMap_append];exact List.mem_append_left _ hl) h1,hcs _ _ (fun l hl => by simp only [AV.mentions,List.flatMap_append];exact List.mem_append_right _ hl) h2⟩
   | top => trivial
   | undef => exact rx
   | p x => exact RelP.keep hC.keep rx
   | loc l off => simp only [AV.clean,RelA] at *;rw [hρ l (by simp [AV.mentions])];exact rx
   | row l sz off n => simp only [AV.clean,RelA] at *;rw [hρ l (by simp [AV.mentions])];exact rx
   | tup xs => obtain ⟨us,hv,hr⟩ := rx;exact ⟨us,hv,hr.keep hC.keep⟩
   | mp l => simp only [AV.clean,RelA] at *;rw [hρ l (by simp [AV.mentions])];exact rx
   | ag cs => obtain ⟨vs,h1,h2,h3⟩ := rx;exact ⟨vs,h1,hcs _ _ (fun l hl => hl) h2,h3⟩
   | is q => exact rx
   | ex b sz i j => exact rx
   |gr l gen sz n f =>
    obtain ⟨r1,r2,r3⟩ := rx
    simp only [AV.clean]
    cases hb : back sg l with
    | some k => exact .d _ _ (r1.keep hC.keep)
    |none =>
     obtain ⟨_,e2,e3⟩ := hout l hb
     exact ⟨r1.keep hC.keep,by rw [e3];exact r2,fun he => by rw [e2];exact r3 (by rw [← e3];exact he)⟩
  have hlookL : ∀ m Y,look (afterCall sg A o.dst res L').locs m = some Y → (∃ l X,look L' l = some X ∧ sub sg l = m ∧ Y = X.ren (sub sg)) ∨ (back sg m = none ∧ ∃ X,look A.locs m = some X ∧ Y = X.clean (back sg)) := by
   intro m Y hY
   simp only [afterCall,z77] at hY
   split at hY
   ·rename_i y hy
    cases hY
    obtain ⟨l,X,q1,q2,q3⟩ := x77 (sub sg) (LV.ren (sub sg)) L' m _ hN.keys hy
    exact .inl ⟨l,X,q1,q2,q3⟩
   ·rw [j56,q124 (fun m => (back sg m).isNone)] at hY
    split at hY
    ·rename_i hq
     cases hX : look A.locs m with
     | none => rw [hX] at hY;cases hY
     |some X =>
      rw [hX] at hY;cases hY
      exact .inr ⟨by simpa using hq,X,rfl,rfl⟩
    ·cases hY
  have hmenF : ∀ t x,look A.fr t = some x → ∀ m ∈ x.mentions,∀ l,back sg m = some l → ∃ X,look L l = some X := by
   intro t x hx m hm l hb
   rcases hN.fresh m l hb with h | h
   ·exact h
   ·exact absurd hm (h.1 t x hx)
  have hmenL : ∀ k X,look A.locs k = some X → ∀ m ∈ X.mentions,∀ l,back sg m = some l → ∃ X,look L l = some X := by
   intro k X hX m hm l hb
   rcases hN.fresh m l hb with h | h
   ·exact h
   ·exact absurd hm (h.2.1 k X hX)
  have hloc1 : ∀ l X,look L' l = some X → LocOK w0.O w' h' (sub sg l) (X.ren (sub sg)) ∧ (∀ b,inB h' (sub sg l) (X.ren (sub sg)) b → w.heap.size ≤ b ∨ ownB hσ L b) ∧ inB h' (sub sg l) (X.ren (sub sg)) = inB h1 l X := by
   intro l X hX
   obtain ⟨d1,d2⟩ := hN.dom' l X hX
   have hbk : inB h' (sub sg l) (X.ren (sub sg)) = inB h1 l X := by rw [x29,← x56 (hname l d1)]
   have hown : ∀ b,inB h1 l X b → w.heap.size ≤ b ∨ ownB hσ L b := fun b hb => hC.own b ⟨l,X,hX,hb⟩
   refine ⟨q43.2 (z56 (h := h1) (k := h'.ren (sub sg)) rfl (hname l d1) (fun k hk => hname k (d2 k hk)) (z29 (hL.1 l X hX) fun b hb => ?_)),fun b hb => hown b (by rw [← hbk];exact hb),hbk⟩
   rcases hown b hb with hge | ho
   ·exact r.base b hge
   ·exact (hownO b ho).1
  have hloc2 : ∀ m X,look A.locs m = some X → back sg m = none → LocOK w0.O w' h' m (X.clean (back sg)) ∧ inB h' m (X.clean (back sg)) = inB h m X := by
   intro m X hX hm
   obtain ⟨e1,e2,e3⟩ := hout m hm
   refine j123 e1 e2 e3 hC.keep (fun b hb => ?_) (fun v x hsub rx => hclean v x (fun k hk => hmenL m X hX k (hsub k hk)) rx) (r.locs m X hX)
   have hlt := x24 (r.locs m X hX) hb
   have hno := hotherB m X b hX hm hb
   exact ⟨hC.below.block b hlt hno,hC.gam b hlt hno⟩
  refine hn _ _ h' ⟨?_,by cases o.dst <;> exact r.defers,fun t x hx => ?_,fun m Y hY => ?_,fun m m' Y Y' b hne hY hY' hb hb' => ?_,?_,fun l hl => ?_⟩
  ·simpa [Act.put] using (by cases o.dst <;> simpa [Act.put] using r.size)
  ·simp only [afterCall,z77] at hx
   have hdt := j27 hd
   cases hod : o.dst with
   |none =>
    rw [hod] at hx
    simp only [look,j56] at hx
    cases hy : look A.fr t with
    | none => rw [hy] at hx;cases hx
    |some y =>
     rw [hy] at hx;cases hx
     simp only [Act.put]
     exact hclean _ y (hmenF t y hy) (r.fr t y hy)
   |some d =>
    rw [hod] at hx
    rw [q63 a d t v (by rw [r.size];exact hdt d hod)]
    simp only [look] at hx
    by_cases hdt' : d = t
    ·subst hdt'
     rw [if_pos rfl] at hx ⊢
     cases hx
     refine q22.2 (j29 (h := h1) rfl (fun k hk => hname k (hN.res k hk)) (z124 hres hR))
    ·rw [if_neg hdt'] at hx ⊢
     simp only [j56] at hx
     cases hy : look A.fr t with
     | none => rw [hy] at hx;cases hx
     |some y =>
      rw [hy] at hx;cases hx
      exact hclean _ y (hmenF t y hy) (r.fr t y hy)
  ·rcases hlookL m Y hY with ⟨l,X,hX,rfl,rfl⟩ | ⟨hm,X,hX,rfl⟩
   ·exact (hloc1 l X hX).1
   ·exact (hloc2 m X hX hm).1
  ·rcases hlookL m Y hY with ⟨l,X,hX,rfl,rfl⟩ | ⟨hm,X,hX,rfl⟩ <;> rcases hlookL m' Y' hY' with ⟨l',X',hX',rfl,rfl⟩ | ⟨hm',X',hX',rfl⟩
   ·rw [(hloc1 l X hX).2.2] at hb
    rw [(hloc1 l' X' hX').2.2] at hb'
    exact hL.2 l l' X X' b (fun e => hne (by rw [e])) hX hX' hb hb'
   ·rw [(hloc2 m' X' hX' hm').2] at hb'
    have hlt := x24 (r.locs m' X' hX') hb'
    rcases (hloc1 l X hX).2.1 b hb with hge | ho
    ·omega
    ·exact hotherB m' X' b hX' hm' hb' ho
   ·rw [(hloc2 m X hX hm).2] at hb
    have hlt := x24 (r.locs m X hX) hb
    rcases (hloc1 l' X' hX').2.1 b hb' with hge | ho
    ·omega
    ·exact hotherB m X b hX hm hb ho
   ·rw [(hloc2 m X hX hm).2] at hb
    rw [(hloc2 m' X' hX' hm').2] at hb'
    exact r.sep m m' X X' b hne hX hX' hb hb'
  ·refine ⟨r.ext.below.trans ⟨hC.below.os,hC.below.tape,hC.below.output,hC.below.size,fun k hk hO => hC.below.block k hk fun ho => hO (hownO k ho).1⟩,fun b hO => ?_,hC.gz,r.ext.keep.trans hC.keep⟩
   exact (hC.gam b (r.base.lt hO) fun ho => hO (hownO b ho).1).trans (r.ext.gam b hO)
  ·obtain ⟨p1,p2⟩ := r.pin l hl
   cases hb : back sg l with
   | none => obtain ⟨o1,o2,o3⟩ := hout l hb;rw [o1,o2,o3];exact ⟨p1,p2⟩
   |some k =>
    rcases hN.fresh l k hb with ⟨X,hX⟩ | hu
    ·have e1 := hC.ρ k X hX
     have e2 := hN.inv l k hb
     have e3 := hC.up k X hX
     simp only [hσ,Gh.ren,e2] at e1 e3
     simp only [h',hb]
     refine ⟨by rw [e1];exact p1,?_⟩
     rcases e3 with e3 | ⟨e3,e4⟩
     ·rcases p2 with p2 | ⟨p2,p3⟩
      ·exact .inl (by omega)
      ·exact .inl (by omega)
     ·rw [e3,e4];exact p2
    ·have := hu.2.2;omega
 unfold Oper.wp
 rw [hrun]
 unfold CallRes at key
 split at key
 ·rename_i f' args w1 hrr
  rw [hrr]
  show Calls P f' args w1 _
  refine key.mono fun e w' ⟨v,he,hR⟩ => ?_
  subst he
  exact fin v w' hR
 ·rename_i v w1 hrr
  rw [hrr]
  exact fin v w1 key
 ·exact key.elim
theorem q18 {nt : Nat} {ops : Array Oper} {o : Oper} {A : ASt} {c : Call} {f : Operand} {g : FuncId} {pre post : List CV} {xs rs : List AV} {L L' : List (Nat × LV)} {res : AV} (sg : List (Nat × Nat))
  (hw : wantedA ops o A = some true) (hd : dstOK nt o = true) (ho : o.op = .call c) (hc : c.callee = .value f) (hx : calleeC (A.eval f) = some (g,pre,post))
  (hargs : pre.map CV.av ++ c.args.toList.map A.eval ++ post.map CV.av = xs.map (AV.ren (sub sg))) (hcall : MCalls P g xs L (fun r M => r = rs ∧ M = L')) (hres : resM rs = some res) (hN : NamesOK sg A L L' res) :
  StepS P nt ops o A (afterCall sg A o.dst res L') := by
 have h := j16 (ι := Unit) (rsI := fun _ => rs) (LI := fun _ => L') (resI := fun _ => res) sg hw hd ho hc hx hargs (hcall.mono fun r M h => ⟨(),h⟩) (fun _ => hres)
  ⟨rfl,hN.locs,hN.dom,fun l X hX => (by cases hX),fun k hk => (by cases hk),hN.inv,hN.fresh⟩ (fun _ => hN)
 exact StepX.s fun w0 g0 h' a w r K Q hn => h w0 g0 h' a w r K Q fun A1 a' w' h'' ⟨_,e⟩ hr => hn A1 a' w' h'' e hr
theorem j124 : (none : Option Operand).toArray.toList = [] := rfl
theorem q125 (x : Operand) : (some x).toArray.toList = [x] := rfl
attribute [go_sem] j124 q125
attribute [go_sem] afterCall AV.clean LV.clean AV.ren LV.ren CV.ren CV.av sub back List.filter_cons List.filter_nil Option.isNone_some Option.isNone_none
def LocsAt (A : ASt) (s : Nat → Nat) : List (Nat × LV) → Prop
 | [] => True
 | p :: r => look A.locs (s p.1) = some (p.2.ren s) ∧ LocsAt A s r
def namesB (sg : List (Nat × Nat)) (A : ASt) (L L' : List (Nat × LV)) (res : AV) : Bool :=
 keysOK L' && L.all (fun p => back sg (sub sg p.1) == some p.1) && L'.all (fun p => (back sg (sub sg p.1) == some p.1) && p.2.mentions.all fun k => back sg (sub sg k) == some k) &&
  res.mentions.all (fun k => back sg (sub sg k) == some k) && sg.all (fun p => sub sg p.1 == p.2) && sg.all fun p => (look L p.1).isSome || unusedB A p.2
theorem z57 : ∀ {sg : List (Nat × Nat)} {m l : Nat},back sg m = some l → (l,m) ∈ sg
 |(l,m) :: r,u,k,h => by
  simp only [back] at h
  split at h
  ·rename_i e;cases h;subst e;simp
  ·exact List.mem_cons_of_mem _ (z57 h)
theorem z43 {α : Type} : ∀ {L : List (Nat × α)} {l : Nat} {x : α},look L l = some x → (l,x) ∈ L
 |(t,y) :: r,l,x,h => by
  simp only [look] at h
  split at h
  ·rename_i e;cases h;subst e;simp
  ·exact List.mem_cons_of_mem _ (z43 h)
theorem q11 {sg : List (Nat × Nat)} {A : ASt} {L L' : List (Nat × LV)} {res : AV} (hl : LocsAt A (sub sg) L) (hb : namesB sg A L L' res = true) : NamesOK sg A L L' res := by
 unfold namesB at hb
 simp only [Bool.and_eq_true,List.all_eq_true,beq_iff_eq,Bool.or_eq_true] at hb
 obtain ⟨⟨⟨⟨⟨h1,h2⟩,h3⟩,h4⟩,h5⟩,h6⟩ := hb
 refine ⟨h1,fun l X hX => ?_,fun l X hX => h2 (l,X) (z43 hX),fun l X hX => h3 (l,X) (z43 hX),h4,fun m l h => h5 (l,m) (z57 h),fun m l h => ?_⟩
 ·have key : ∀ (L : List (Nat × LV)),LocsAt A (sub sg) L → ∀ p ∈ L,look A.locs (sub sg p.1) = some (p.2.ren (sub sg)) := by
   intro L
   induction L with
   | nil => intro _ p hp;cases hp
   |cons q L ih =>
    intro hl p hp
    rcases List.mem_cons.1 hp with rfl | hp
    ·exact hl.1
    ·exact ih hl.2 p hp
  exact key L hl (l,X) (z43 hX)
 ·rcases h6 (l,m) (z57 h) with h | h
  ·exact .inl (Option.isSome_iff_exists.1 h)
  ·exact .inr (z25 h)
end Go.Proofs.Ytbamjcnhmmgnlaa.AL
namespace Go.Proofs.Ytbamjcnhmmgnlaa
open Go.Proofs.Ytbamjcnhmmgnlaa.AL
theorem z78 {a : Option Addr} {c sz : Nat} {f : Nat → List Dat} : Le (.p (.d (.v (.slice a 0 c)))) (.p (.d (.sl sz 0 f))) := by
 intro w h v r
 have := z11 r
 subst this
 exact .d _ _ (.sl0 _ _ _ _)
theorem x57 {P : Program} {fn : Func} {Q : List AV → List (Nat × LV) → Prop} {A : ASt} {l t : Nat} {X : LV} {x : AV} (hr : fn.results.toList = [.tmp t]) (hx : AL.look A.fr t = some x) (hl : AL.look A.locs l = some X) (hq : Q [x] [(l,X)]) : retM P fn Q .ret A := by
 refine ⟨[x],[(l,X)],by rw [hr];exact ⟨hx,trivial⟩,fun k Y h => ?_,hq⟩
 simp only [AL.look] at h
 split at h
 ·rename_i e;subst e;cases h;exact hl
 ·cases h
def PLe (x y : PV) : Prop := ∀ (w : World) (g : Nat → Nat) (v : Value),RelP w g v x → RelP w g v y
inductive PLes : List PV → List PV → Prop
 | nil : PLes [] []
 | cons {x y : PV} {xs ys : List PV} (h : PLe x y) (t : PLes xs ys) : PLes (x :: xs) (y :: ys)
theorem PLes.rel {xs ys : List PV} (h : PLes xs ys) {w : World} {g : Nat → Nat} {vs : List Value} (r : RelPs w g vs xs) : RelPs w g vs ys := by
 induction h generalizing vs with
 | nil => exact r
 |cons h t ih =>
  obtain ⟨v,vs',rfl,h1,h2⟩ := r.cons_inv
  exact RelPs.cons (h _ _ _ h1) (ih h2)
theorem hi0 : hi 0#128 = 0 := by decide
theorem hi1 : hi 1#128 = 0 := by decide
theorem relP_v {w : World} {g : Nat → Nat} {v x : Value} (h : RelP w g v (.d (.v x))) : v = x := by
 cases h with
 | d _ _ h => cases h;rfl
theorem x78 {w : World} {g : Nat → Nat} : ∀ (xs vs : List Value),RelPs w g vs (xs.map fun x => .d (.v x)) → vs = xs
 | [],vs,h => by have := h.1;simp at this;exact this
 |x :: xs,vs,h => by
  cases vs with
  | nil => have := h.1;simp at this
  |cons v vs =>
   have h0 := relP_v (h.2 0 v _ rfl rfl)
   have ht := x78 xs vs ⟨by simpa using h.1,fun j v' x' h1 h2 => h.2 (j + 1) v' x' (by simpa using h1) (by simpa using h2)⟩
   rw [h0,ht]
theorem z125 {P : Program} {f : FuncId} {xs : List Value} {v : Value} {rs : List PV} (hr : ∀ w,(callFunc f xs.toArray).run P w = .ok (.value v) w) (hv : ∀ w g,RelR w g v rs) :
  ACalls P f (xs.map fun x => .d (.v x)) (· = rs) := by
 refine q34.2 fun w g vs hz h => ?_
 rw [x78 xs vs h,hr w]
 exact ⟨g,rs,Ext.refl hz,rfl,hv w g⟩
theorem j78 {P : Program} {f : FuncId} {fn : Func} {c : Code} (args : Array Value) (w : World) (hf : P.funcs[f]? = some fn) (hb : fn.body = some c) (hname : (fn.name == "runtime.NumGoroutine") = false) :
  (callFunc f args).run P w = .ok (.enter f args) w := by
 simp only [callFunc,program,Sem.run,Bind.bind,Sem.bind,hf,hname,hb];rfl
theorem ieq_ff {a b : Int} (h : a ≠ b) : (a == b) = false := by simpa using h
theorem less_c (x y : BitVec 128) : ACalls Try.prog 93 [.agg (hd x),.agg (hd y)] (· = [.agg (hd (x &&& ~~~y))]) := by
 refine z13 Try.func93 rfl (by decide +kernel) (by rw [Try.ntmps93];simp) ?_;rw [Try.ntmps93];simp only [frOf]
 (repeat refine j4 ?_);(first | refine j0 fun K hK => ?_ | refine x5 fun K hK => ?_);(first | refine q9 [] _ _ ?_ | refine x9 [] _ _ _ ?_);simp (disch:=omega) only [go_sem,seval,hd];(repeat refine ⟨by omega,?_⟩);(first | (refine z6 (hK _ ?_);clear hK K;show AWP _ _ _ _ _) | (refine x6 (hK _ _ j5 ?_);clear hK K;show AWP _ _ _ _ _))
 (repeat refine j4 ?_);(first | refine j0 fun K hK => ?_ | refine x5 fun K hK => ?_);(first | refine q9 [] _ _ ?_ | refine x9 [] _ _ _ ?_);simp (disch:=omega) only [go_sem,seval,hd];(repeat refine ⟨by omega,?_⟩);(first | (refine z6 (hK _ ?_);clear hK K;show AWP _ _ _ _ _) | (refine x6 (hK _ _ j5 ?_);clear hK K;show AWP _ _ _ _ _))
 refine q10 ⟨_,?_,rfl⟩;rw [Try.results93];simp (disch:=omega) only [ResVars,ResVar,ptrLoc,go_sem,seval,hd]
 simp only [hi_less,lo_less,and_true]
theorem and_c (x y : BitVec 128) : ACalls Try.prog 107 [.agg (hd x),.agg (hd y)] (· = [.agg (hd (x &&& y))]) := by
 refine z13 Try.func107 rfl (by decide +kernel) (by rw [Try.ntmps107];simp) ?_;rw [Try.ntmps107];simp only [frOf]
 (repeat refine j4 ?_);(first | refine j0 fun K hK => ?_ | refine x5 fun K hK => ?_);(first | refine q9 [] _ _ ?_ | refine x9 [] _ _ _ ?_);simp (disch:=omega) only [go_sem,seval,hd];(repeat refine ⟨by omega,?_⟩);(first | (refine z6 (hK _ ?_);clear hK K;show AWP _ _ _ _ _) | (refine x6 (hK _ _ j5 ?_);clear hK K;show AWP _ _ _ _ _))
 (repeat refine j4 ?_);(first | refine j0 fun K hK => ?_ | refine x5 fun K hK => ?_);(first | refine q9 [] _ _ ?_ | refine x9 [] _ _ _ ?_);simp (disch:=omega) only [go_sem,seval,hd];(repeat refine ⟨by omega,?_⟩);(first | (refine z6 (hK _ ?_);clear hK K;show AWP _ _ _ _ _) | (refine x6 (hK _ _ j5 ?_);clear hK K;show AWP _ _ _ _ _))
 refine q10 ⟨_,?_,rfl⟩;rw [Try.results107];simp (disch:=omega) only [ResVars,ResVar,ptrLoc,go_sem,seval,hd]
 simp only [hi_and,lo_and,and_true]
theorem q79 (g : FuncId) (x y z : BitVec 128) (hg : ACalls Try.prog g [.agg (hd x),.agg (hd y)] (· = [.agg (hd z)])) : ACalls Try.prog 92 [.fn (.func g) [] [],.agg (hd x),.agg (hd y)] (· = [.agg (hd z)]) := by
 refine z13 Try.func92 rfl (by decide +kernel) (by rw [Try.ntmps92];simp) ?_;rw [Try.ntmps92];simp only [frOf]
 (repeat refine j4 ?_);(first | refine j0 fun K hK => ?_ | refine x5 fun K hK => ?_);(first | refine q9 [] _ _ ?_ | refine x9 [] _ _ _ ?_);simp (disch:=omega) only [go_sem,seval,hd];(repeat refine ⟨by omega,?_⟩);(first | (refine z6 (hK _ ?_);clear hK K;show AWP _ _ _ _ _) | (refine x6 (hK _ _ j5 ?_);clear hK K;show AWP _ _ _ _ _))
 (repeat refine j4 ?_);(first | refine j0 fun K hK => ?_ | refine x5 fun K hK => ?_)
 (first | refine q9 [] _ _ ?_ | refine x9 [] _ _ _ ?_);simp (disch:=omega) only [go_sem,seval,hd];(repeat refine ⟨by omega,?_⟩)
 (first | refine x10 rfl rfl rfl ?_ | refine j10 rfl rfl rfl ?_);simp (disch:=omega) only [go_sem,seval,hd]
 refine ⟨_,hg,?_⟩
 (first | refine q9 [] _ _ ?_ | refine x9 [] _ _ _ ?_);simp (disch:=omega) only [go_sem,seval,hd];(repeat refine ⟨by omega,?_⟩)
 (first | (refine z6 (hK _ ?_);clear hK K;show AWP _ _ _ _ _) | (refine x6 (hK _ _ j5 ?_);clear hK K;show AWP _ _ _ _ _))
 refine q10 ⟨_,?_,rfl⟩;rw [Try.results92];simp (disch:=omega) only [ResVars,ResVar,ptrLoc,go_sem,seval,hd]
theorem Less_c (x y : BitVec 128) : ACalls Try.prog 69 [.agg (hd x),.agg (hd y)] (· = [.agg (hd (x &&& ~~~y))]) := by
 refine z13 Try.func69 rfl (by decide +kernel) (by rw [Try.ntmps69];simp) ?_;rw [Try.ntmps69];simp only [frOf]
 (repeat refine j4 ?_);(first | refine j0 fun K hK => ?_ | refine x5 fun K hK => ?_);(first | refine q9 [] _ _ ?_ | refine x9 [] _ _ _ ?_);simp (disch:=omega) only [go_sem,seval,hd];(repeat refine ⟨by omega,?_⟩);(first | (refine z6 (hK _ ?_);clear hK K;show AWP _ _ _ _ _) | (refine x6 (hK _ _ j5 ?_);clear hK K;show AWP _ _ _ _ _))
 (repeat refine j4 ?_);(first | refine j0 fun K hK => ?_ | refine x5 fun K hK => ?_)
 (first | refine q9 [] _ _ ?_ | refine x9 [] _ _ _ ?_);simp (disch:=omega) only [go_sem,seval,hd];(repeat refine ⟨by omega,?_⟩)
 (first | refine x10 rfl rfl rfl ?_ | refine j10 rfl rfl rfl ?_);simp (disch:=omega) only [go_sem,seval,hd]
 refine ⟨_,q79 _ _ _ _ (less_c x y),?_⟩
 (first | refine q9 [] _ _ ?_ | refine x9 [] _ _ _ ?_);simp (disch:=omega) only [go_sem,seval,hd];(repeat refine ⟨by omega,?_⟩)
 (first | (refine z6 (hK _ ?_);clear hK K;show AWP _ _ _ _ _) | (refine x6 (hK _ _ j5 ?_);clear hK K;show AWP _ _ _ _ _))
 refine q10 ⟨_,?_,rfl⟩;rw [Try.results69];simp (disch:=omega) only [ResVars,ResVar,ptrLoc,go_sem,seval,hd]
theorem And_c (x y : BitVec 128) : ACalls Try.prog 77 [.agg (hd x),.agg (hd y)] (· = [.agg (hd (x &&& y))]) := by
 refine z13 Try.func77 rfl (by decide +kernel) (by rw [Try.ntmps77];simp) ?_;rw [Try.ntmps77];simp only [frOf]
 (repeat refine j4 ?_);(first | refine j0 fun K hK => ?_ | refine x5 fun K hK => ?_);(first | refine q9 [] _ _ ?_ | refine x9 [] _ _ _ ?_);simp (disch:=omega) only [go_sem,seval,hd];(repeat refine ⟨by omega,?_⟩);(first | (refine z6 (hK _ ?_);clear hK K;show AWP _ _ _ _ _) | (refine x6 (hK _ _ j5 ?_);clear hK K;show AWP _ _ _ _ _))
 (repeat refine j4 ?_);(first | refine j0 fun K hK => ?_ | refine x5 fun K hK => ?_)
 (first | refine q9 [] _ _ ?_ | refine x9 [] _ _ _ ?_);simp (disch:=omega) only [go_sem,seval,hd];(repeat refine ⟨by omega,?_⟩)
 (first | refine x10 rfl rfl rfl ?_ | refine j10 rfl rfl rfl ?_);simp (disch:=omega) only [go_sem,seval,hd]
 refine ⟨_,q79 _ _ _ _ (and_c x y),?_⟩
 (first | refine q9 [] _ _ ?_ | refine x9 [] _ _ _ ?_);simp (disch:=omega) only [go_sem,seval,hd];(repeat refine ⟨by omega,?_⟩)
 (first | (refine z6 (hK _ ?_);clear hK K;show AWP _ _ _ _ _) | (refine x6 (hK _ _ j5 ?_);clear hK K;show AWP _ _ _ _ _))
 refine q10 ⟨_,?_,rfl⟩;rw [Try.results77];simp (disch:=omega) only [ResVars,ResVar,ptrLoc,go_sem,seval,hd]
theorem right_c (x : BitVec 128) (n : Nat) (hn : n ≤ 128) : ACalls Try.prog 120 [.agg (hd x),.d (.v (.int .i64 (n : Int)))] (· = [.agg (hd (x >>> n))]) := by
 refine z13 Try.func120 rfl (by decide +kernel) (by rw [Try.ntmps120];simp) ?_;rw [Try.ntmps120];simp only [frOf]
 (repeat refine j4 ?_);(first | refine j0 fun K hK => ?_ | refine x5 fun K hK => ?_);(first | refine q9 [] _ _ ?_ | refine x9 [] _ _ _ ?_);simp (disch:=omega) only [go_sem,seval,hd];(repeat refine ⟨by omega,?_⟩);(first | (refine z6 (hK _ ?_);clear hK K;show AWP _ _ _ _ _) | (refine x6 (hK _ _ j5 ?_);clear hK K;show AWP _ _ _ _ _))
 (repeat refine j4 ?_);(first | refine j0 fun K hK => ?_ | refine x5 fun K hK => ?_);(first | refine q9 [] _ _ ?_ | refine x9 [] _ _ _ ?_);simp (disch:=omega) only [go_sem,seval,hd];(repeat refine ⟨by omega,?_⟩);(first | (refine z6 (hK _ ?_);clear hK K;show AWP _ _ _ _ _) | (refine x6 (hK _ _ j5 ?_);clear hK K;show AWP _ _ _ _ _))
 (repeat refine j4 ?_);refine q25 rfl (fun ht => ?_) (fun ht => ?_)
 ·simp only [decide_eq_true_eq] at ht
  (repeat refine j4 ?_);(first | refine j0 fun K hK => ?_ | refine x5 fun K hK => ?_);(first | refine q9 [] _ _ ?_ | refine x9 [] _ _ _ ?_);simp (disch:=omega) only [go_sem,seval,hd];(repeat refine ⟨by omega,?_⟩);(first | (refine z6 (hK _ ?_);clear hK K;show AWP _ _ _ _ _) | (refine x6 (hK _ _ j5 ?_);clear hK K;show AWP _ _ _ _ _))
  refine q10 ⟨_,?_,rfl⟩;rw [Try.results120];simp (disch:=omega) only [ResVars,ResVar,ptrLoc,go_sem,seval,hd]
  rw [z119 x n (by omega),← q119 x n (by omega)]
 ·refine j6 ?_;show AWP _ _ _ _ _
  simp only [decide_eq_false_iff_not] at ht
  (repeat refine j4 ?_);(first | refine j0 fun K hK => ?_ | refine x5 fun K hK => ?_);(first | refine q9 [] _ _ ?_ | refine x9 [] _ _ _ ?_);simp (disch:=omega) only [go_sem,seval,hd];(repeat refine ⟨by omega,?_⟩);(first | (refine z6 (hK _ ?_);clear hK K;show AWP _ _ _ _ _) | (refine x6 (hK _ _ j5 ?_);clear hK K;show AWP _ _ _ _ _))
  refine q10 ⟨_,?_,rfl⟩;rw [Try.results120];simp (disch:=omega) only [ResVars,ResVar,ptrLoc,go_sem,seval,hd]
  rw [j118 x n (by omega),x118 x n (by omega)]
theorem z79 (x : BitVec 128) (n : Nat) (hn : n ≤ 128) : ACalls Try.prog 76 [.agg (hd x),.d (.v (.int .i64 (n : Int)))] (· = [.agg (hd (x <<< n))]) := by
 refine z13 Try.func76 rfl (by decide +kernel) (by rw [Try.ntmps76];simp) ?_;rw [Try.ntmps76];simp only [frOf]
 (repeat refine j4 ?_);(first | refine j0 fun K hK => ?_ | refine x5 fun K hK => ?_);(first | refine q9 [] _ _ ?_ | refine x9 [] _ _ _ ?_);simp (disch:=omega) only [go_sem,seval,hd];(repeat refine ⟨by omega,?_⟩);(first | (refine z6 (hK _ ?_);clear hK K;show AWP _ _ _ _ _) | (refine x6 (hK _ _ j5 ?_);clear hK K;show AWP _ _ _ _ _))
 (repeat refine j4 ?_);(first | refine j0 fun K hK => ?_ | refine x5 fun K hK => ?_);(first | refine q9 [] _ _ ?_ | refine x9 [] _ _ _ ?_);simp (disch:=omega) only [go_sem,seval,hd];(repeat refine ⟨by omega,?_⟩);(first | (refine z6 (hK _ ?_);clear hK K;show AWP _ _ _ _ _) | (refine x6 (hK _ _ j5 ?_);clear hK K;show AWP _ _ _ _ _))
 (repeat refine j4 ?_);refine q25 rfl (fun ht => ?_) (fun ht => ?_)
 ·simp only [decide_eq_true_eq] at ht
  (repeat refine j4 ?_);(first | refine j0 fun K hK => ?_ | refine x5 fun K hK => ?_);(first | refine q9 [] _ _ ?_ | refine x9 [] _ _ _ ?_);simp (disch:=omega) only [go_sem,seval,hd];(repeat refine ⟨by omega,?_⟩);(first | (refine z6 (hK _ ?_);clear hK K;show AWP _ _ _ _ _) | (refine x6 (hK _ _ j5 ?_);clear hK K;show AWP _ _ _ _ _))
  refine q10 ⟨_,?_,rfl⟩;rw [Try.results76];simp (disch:=omega) only [ResVars,ResVar,ptrLoc,go_sem,seval,hd]
  rw [z120 x n (by omega),← q120 x n (by omega)]
 ·refine j6 ?_;show AWP _ _ _ _ _
  simp only [decide_eq_false_iff_not] at ht
  (repeat refine j4 ?_);(first | refine j0 fun K hK => ?_ | refine x5 fun K hK => ?_);(first | refine q9 [] _ _ ?_ | refine x9 [] _ _ _ ?_);simp (disch:=omega) only [go_sem,seval,hd];(repeat refine ⟨by omega,?_⟩);(first | (refine z6 (hK _ ?_);clear hK K;show AWP _ _ _ _ _) | (refine x6 (hK _ _ j5 ?_);clear hK K;show AWP _ _ _ _ _))
  refine q10 ⟨_,?_,rfl⟩;rw [Try.results76];simp (disch:=omega) only [ResVars,ResVar,ptrLoc,go_sem,seval,hd]
  rw [x119 x n (by omega),j119 x n (by omega)]
theorem x79 (a b m : Int) (hb : -9223372036854775808 ≤ b ∧ b < 9223372036854775808) (hm : m ≤ 128) : ACalls Try.prog 74 [.d (.v (.int .i64 a)),.d (.v (.int .i64 b)),.d (.v (.int .i64 m))] (· = [.d (.v (.bool (fieldB a b m)))]) := by
 have hh : ¬ 0 ≤ a ∨ (0 ≤ a ∧ ¬ 0 ≤ b) ∨ (0 ≤ a ∧ 0 ≤ b ∧ ¬ b ≤ m) ∨ (0 ≤ a ∧ 0 ≤ b ∧ b ≤ m ∧ ¬ a + b ≤ 128) ∨ (0 ≤ a ∧ 0 ≤ b ∧ b ≤ m ∧ a + b ≤ 128) := by omega
 rcases hh with h | h | h | h | h
 all_goals
  refine z13 Try.func74 rfl (by decide +kernel) (by rw [Try.ntmps74];simp) ?_;rw [Try.ntmps74];simp only [frOf]
  (repeat refine j4 ?_);(first | refine j0 fun K hK => ?_ | refine x5 fun K hK => ?_);(first | refine q9 [] _ _ ?_ | refine x9 [] _ _ _ ?_);simp (disch:=omega) only [go_sem,seval,hd];(repeat refine ⟨by omega,?_⟩);(first | (refine z6 (hK _ ?_);clear hK K;show AWP _ _ _ _ _) | (refine x6 (hK _ _ j5 ?_);clear hK K;show AWP _ _ _ _ _))
  (repeat refine j4 ?_);(first | refine j0 fun K hK => ?_ | refine x5 fun K hK => ?_);(first | refine q9 [] _ _ ?_ | refine x9 [] _ _ _ ?_);simp (disch:=omega) only [go_sem,seval,hd];(repeat refine ⟨by omega,?_⟩);(first | (refine z6 (hK _ ?_);clear hK K;show AWP _ _ _ _ _) | (refine x6 (hK _ _ j5 ?_);clear hK K;show AWP _ _ _ _ _))
  refine q10 ⟨_,?_,rfl⟩;rw [Try.results74];simp (disch:=omega) only [ResVars,ResVar,ptrLoc,go_sem,seval,hd]
  simp only [fieldB,h,and_true,and_false,true_and,false_and,decide_true,decide_false]
def subE : Array Value → Sem Value := fun args => do
 let (x, y, b) ← Extern.MathBitsCarry.three "Sub64" args
 pure (Extern.MathBitsCarry.pair ((x + Extern.MathBitsCarry.m64 - y - b) % Extern.MathBitsCarry.m64) (if x < y + b then 1 else 0))
theorem sub_c (x : Nat) : ACalls Try.prog 106 [.d (.v (.int .u64 (x : Int))),.d (.v (.int .u64 1)),.d (.v (.int .u64 0))]
  (· = [.d (.v (.int .u64 (((x + 18446744073709551616 - 1) % 18446744073709551616 : Nat) : Int))),.d (.v (.int .u64 ((if x < 1 then 1 else 0 : Nat) : Int)))]) := by
 refine z125 (xs := [.int .u64 (x : Int),.int .u64 1,.int .u64 0]) (v := .tuple #[.int .u64 (((x + 18446744073709551616 - 1) % 18446744073709551616 : Nat) : Int),.int .u64 ((if x < 1 then 1 else 0 : Nat) : Int)]) (fun w => ?_) (fun w g => ?_)
 ·rw [run_callFunc_extern (fn := Try.f106) (by kernel_rfl) (by kernel_rfl) (by kernel_rfl) (by kernel_rfl) (e := subE) (by kernel_rfl)]
  rfl
 ·exact ⟨[_,_],rfl,.cons (.d _ _ (.v _ rfl)) (.cons (.d _ _ (.v _ rfl)) (.nil w g))⟩
theorem low_c (n : Nat) (hn : n ≤ 128) : ACalls Try.prog 75 [.d (.v (.int .i64 (n : Int)))] (· = [.agg (hd (ones n))]) := by
 refine z13 Try.func75 rfl (by decide +kernel) (by rw [Try.ntmps75];simp) ?_;rw [Try.ntmps75];simp only [frOf]
 (repeat refine j4 ?_);(first | refine j0 fun K hK => ?_ | refine x5 fun K hK => ?_);(first | refine q9 [] _ _ ?_ | refine x9 [] _ _ _ ?_);simp (disch:=omega) only [go_sem,↓reduceIte,reduceCtorEq,Nat.reduceLT,Nat.reducePow,Nat.reduceLeDiff,Nat.reduceAdd,Nat.reduceMul,Nat.reduceSub,Nat.reduceEqDiff,Nat.reduceBEq,Int.reduceToNat,Int.reduceBEq,Int.reduceBNe,hd];(repeat refine ⟨by omega,?_⟩);(first | (refine z6 (hK _ ?_);clear hK K;show AWP _ _ _ _ _) | (refine x6 (hK _ _ j5 ?_);clear hK K;show AWP _ _ _ _ _))
 (repeat refine j4 ?_);(first | refine j0 fun K hK => ?_ | refine x5 fun K hK => ?_);(first | refine q9 [] _ _ ?_ | refine x9 [] _ _ _ ?_);simp (disch:=omega) only [go_sem,↓reduceIte,reduceCtorEq,Nat.reduceLT,Nat.reducePow,Nat.reduceLeDiff,Nat.reduceAdd,Nat.reduceMul,Nat.reduceSub,Nat.reduceEqDiff,Nat.reduceBEq,Int.reduceToNat,Int.reduceBEq,Int.reduceBNe,hd];(repeat refine ⟨by omega,?_⟩);(first | (refine z6 (hK _ ?_);clear hK K;show AWP _ _ _ _ _) | (refine x6 (hK _ _ j5 ?_);clear hK K;show AWP _ _ _ _ _))
 (repeat refine j4 ?_);refine q25 rfl (fun ht => ?_) (fun ht => ?_)
 ·simp only [decide_eq_true_eq] at ht
  (repeat refine j4 ?_);(first | refine j0 fun K hK => ?_ | refine x5 fun K hK => ?_);(first | refine q9 [] _ _ ?_ | refine x9 [] _ _ _ ?_);simp (disch:=omega) only [go_sem,↓reduceIte,reduceCtorEq,Nat.reduceLT,Nat.reducePow,Nat.reduceLeDiff,Nat.reduceAdd,Nat.reduceMul,Nat.reduceSub,Nat.reduceEqDiff,Nat.reduceBEq,Int.reduceToNat,Int.reduceBEq,Int.reduceBNe,hd];(repeat refine ⟨by omega,?_⟩);(first | (refine z6 (hK _ ?_);clear hK K;show AWP _ _ _ _ _) | (refine x6 (hK _ _ j5 ?_);clear hK K;show AWP _ _ _ _ _))
  refine q10 ⟨_,?_,rfl⟩;rw [Try.results75];simp (disch:=omega) only [ResVars,ResVar,ptrLoc,go_sem,↓reduceIte,reduceCtorEq,Nat.reduceLT,Nat.reducePow,Nat.reduceLeDiff,Nat.reduceAdd,Nat.reduceMul,Nat.reduceSub,Nat.reduceEqDiff,Nat.reduceBEq,Int.reduceToNat,Int.reduceBEq,Int.reduceBNe,hd]
  have : n = 128 := by omega
  subst this
  rw [show hi (ones 128) = 18446744073709551615 from by decide,show lo (ones 128) = 18446744073709551615 from by decide]
 ·refine j6 ?_;show AWP _ _ _ _ _
  simp only [decide_eq_false_iff_not] at ht
  (repeat refine j4 ?_);(first | refine j0 fun K hK => ?_ | refine x5 fun K hK => ?_)
  (first | refine q9 [] _ _ ?_ | refine x9 [] _ _ _ ?_);simp (disch:=omega) only [go_sem,↓reduceIte,reduceCtorEq,Nat.reduceLT,Nat.reducePow,Nat.reduceLeDiff,Nat.reduceAdd,Nat.reduceMul,Nat.reduceSub,Nat.reduceEqDiff,Nat.reduceBEq,Int.reduceToNat,Int.reduceBEq,Int.reduceBNe,hd];(repeat refine ⟨by omega,?_⟩)
  (first | refine x10 rfl rfl rfl ?_ | refine j10 rfl rfl rfl ?_);simp (disch:=omega) only [go_sem,↓reduceIte,reduceCtorEq,Nat.reduceLT,Nat.reducePow,Nat.reduceLeDiff,Nat.reduceAdd,Nat.reduceMul,Nat.reduceSub,Nat.reduceEqDiff,Nat.reduceBEq,Int.reduceToNat,Int.reduceBEq,Int.reduceBNe,hd]
  refine ⟨_,z79 1 n hn,?_⟩
  (first | refine q9 [] _ _ ?_ | refine x9 [] _ _ _ ?_);simp (disch:=omega) only [go_sem,↓reduceIte,reduceCtorEq,Nat.reduceLT,Nat.reducePow,Nat.reduceLeDiff,Nat.reduceAdd,Nat.reduceMul,Nat.reduceSub,Nat.reduceEqDiff,Nat.reduceBEq,Int.reduceToNat,Int.reduceBEq,Int.reduceBNe,hd];(repeat refine ⟨by omega,?_⟩)
  (first | (refine z6 (hK _ ?_);clear hK K;show AWP _ _ _ _ _) | (refine x6 (hK _ _ j5 ?_);clear hK K;show AWP _ _ _ _ _))
  (repeat refine j4 ?_);(first | refine j0 fun K hK => ?_ | refine x5 fun K hK => ?_)
  (first | refine q9 [] _ _ ?_ | refine x9 [] _ _ _ ?_);simp (disch:=omega) only [go_sem,↓reduceIte,reduceCtorEq,Nat.reduceLT,Nat.reducePow,Nat.reduceLeDiff,Nat.reduceAdd,Nat.reduceMul,Nat.reduceSub,Nat.reduceEqDiff,Nat.reduceBEq,Int.reduceToNat,Int.reduceBEq,Int.reduceBNe,hd];(repeat refine ⟨by omega,?_⟩)
  (first | refine x10 rfl rfl rfl ?_ | refine j10 rfl rfl rfl ?_);simp (disch:=omega) only [go_sem,↓reduceIte,reduceCtorEq,Nat.reduceLT,Nat.reducePow,Nat.reduceLeDiff,Nat.reduceAdd,Nat.reduceMul,Nat.reduceSub,Nat.reduceEqDiff,Nat.reduceBEq,Int.reduceToNat,Int.reduceBEq,Int.reduceBNe,hd]
  refine ⟨_,sub_c _,?_⟩
  (first | refine q9 [] _ _ ?_ | refine x9 [] _ _ _ ?_);simp (disch:=omega) only [go_sem,↓reduceIte,reduceCtorEq,Nat.reduceLT,Nat.reducePow,Nat.reduceLeDiff,Nat.reduceAdd,Nat.reduceMul,Nat.reduceSub,Nat.reduceEqDiff,Nat.reduceBEq,Int.reduceToNat,Int.reduceBEq,Int.reduceBNe,hd];(repeat refine ⟨by omega,?_⟩)
  (first | (refine z6 (hK _ ?_);clear hK K;show AWP _ _ _ _ _) | (refine x6 (hK _ _ j5 ?_);clear hK K;show AWP _ _ _ _ _))
  (repeat refine j4 ?_);(first | refine j0 fun K hK => ?_ | refine x5 fun K hK => ?_);(first | refine q9 [] _ _ ?_ | refine x9 [] _ _ _ ?_);simp (disch:=omega) only [go_sem,↓reduceIte,reduceCtorEq,Nat.reduceLT,Nat.reducePow,Nat.reduceLeDiff,Nat.reduceAdd,Nat.reduceMul,Nat.reduceSub,Nat.reduceEqDiff,Nat.reduceBEq,Int.reduceToNat,Int.reduceBEq,Int.reduceBNe,hd];(repeat refine ⟨by omega,?_⟩);(first | (refine z6 (hK _ ?_);clear hK K;show AWP _ _ _ _ _) | (refine x6 (hK _ _ j5 ?_);clear hK K;show AWP _ _ _ _ _))
  refine q10 ⟨_,?_,rfl⟩;rw [Try.results75];simp (disch:=omega) only [ResVars,ResVar,ptrLoc,go_sem,↓reduceIte,reduceCtorEq,Nat.reduceLT,Nat.reducePow,Nat.reduceLeDiff,Nat.reduceAdd,Nat.reduceMul,Nat.reduceSub,Nat.reduceEqDiff,Nat.reduceBEq,Int.reduceToNat,Int.reduceBEq,Int.reduceBNe,hd]
  rw [low_lo n (by omega),low_hi n (by omega)]
theorem Bit_c (x : BitVec 128) (n : Int) : ACalls Try.prog 94 [.agg (hd x),.d (.v (.int .i64 n))] (· = [.d (.v (.bool (if 0 ≤ n ∧ n < 128 then x.getLsbD n.toNat else false)))]) := by
 have hh : ¬ 0 ≤ n ∨ (0 ≤ n ∧ ¬ n < 128) ∨ (0 ≤ n ∧ n < 128) := by omega
 rcases hh with h | h | h
 ·refine z13 Try.func94 rfl (by decide +kernel) (by rw [Try.ntmps94];simp) ?_;rw [Try.ntmps94];simp only [frOf]
  (repeat refine j4 ?_);(first | refine j0 fun K hK => ?_ | refine x5 fun K hK => ?_);(first | refine q9 [] _ _ ?_ | refine x9 [] _ _ _ ?_);simp (disch:=omega) only [go_sem,seval,hd];(repeat refine ⟨by omega,?_⟩);(first | (refine z6 (hK _ ?_);clear hK K;show AWP _ _ _ _ _) | (refine x6 (hK _ _ j5 ?_);clear hK K;show AWP _ _ _ _ _))
  (repeat refine j4 ?_);(first | refine j0 fun K hK => ?_ | refine x5 fun K hK => ?_);(first | refine q9 [] _ _ ?_ | refine x9 [] _ _ _ ?_);simp (disch:=omega) only [go_sem,seval,hd];(repeat refine ⟨by omega,?_⟩);(first | (refine z6 (hK _ ?_);clear hK K;show AWP _ _ _ _ _) | (refine x6 (hK _ _ j5 ?_);clear hK K;show AWP _ _ _ _ _))
  refine q10 ⟨_,?_,rfl⟩;rw [Try.results94];simp (disch:=omega) only [ResVars,ResVar,ptrLoc,go_sem,seval,hd]
  simp only [h,false_and,if_false]
 ·refine z13 Try.func94 rfl (by decide +kernel) (by rw [Try.ntmps94];simp) ?_;rw [Try.ntmps94];simp only [frOf]
  (repeat refine j4 ?_);(first | refine j0 fun K hK => ?_ | refine x5 fun K hK => ?_);(first | refine q9 [] _ _ ?_ | refine x9 [] _ _ _ ?_);simp (disch:=omega) only [go_sem,seval,hd];(repeat refine ⟨by omega,?_⟩);(first | (refine z6 (hK _ ?_);clear hK K;show AWP _ _ _ _ _) | (refine x6 (hK _ _ j5 ?_);clear hK K;show AWP _ _ _ _ _))
  (repeat refine j4 ?_);(first | refine j0 fun K hK => ?_ | refine x5 fun K hK => ?_);(first | refine q9 [] _ _ ?_ | refine x9 [] _ _ _ ?_);simp (disch:=omega) only [go_sem,seval,hd];(repeat refine ⟨by omega,?_⟩);(first | (refine z6 (hK _ ?_);clear hK K;show AWP _ _ _ _ _) | (refine x6 (hK _ _ j5 ?_);clear hK K;show AWP _ _ _ _ _))
  refine q10 ⟨_,?_,rfl⟩;rw [Try.results94];simp (disch:=omega) only [ResVars,ResVar,ptrLoc,go_sem,seval,hd]
  simp only [h,and_false,if_false]
 ·refine z13 Try.func94 rfl (by decide +kernel) (by rw [Try.ntmps94];simp) ?_;rw [Try.ntmps94];simp only [frOf]
  (repeat refine j4 ?_);(first | refine j0 fun K hK => ?_ | refine x5 fun K hK => ?_);(first | refine q9 [] _ _ ?_ | refine x9 [] _ _ _ ?_);simp (disch:=omega) only [go_sem,seval,hd];(repeat refine ⟨by omega,?_⟩);(first | (refine z6 (hK _ ?_);clear hK K;show AWP _ _ _ _ _) | (refine x6 (hK _ _ j5 ?_);clear hK K;show AWP _ _ _ _ _))
  (repeat refine j4 ?_);(first | refine j0 fun K hK => ?_ | refine x5 fun K hK => ?_)
  (first | refine q9 [] _ _ ?_ | refine x9 [] _ _ _ ?_);simp (disch:=omega) only [go_sem,seval,hd];(repeat refine ⟨by omega,?_⟩)
  (first | refine x10 rfl rfl rfl ?_ | refine j10 rfl rfl rfl ?_);simp (disch:=omega) only [go_sem,seval,hd]
  refine ⟨_,by have := right_c x n.toNat (by omega);rw [Int.toNat_of_nonneg h.1] at this;exact this,?_⟩
  (first | refine q9 [] _ _ ?_ | refine x9 [] _ _ _ ?_);simp (disch:=omega) only [go_sem,seval,hd];(repeat refine ⟨by omega,?_⟩)
  (first | (refine z6 (hK _ ?_);clear hK K;show AWP _ _ _ _ _) | (refine x6 (hK _ _ j5 ?_);clear hK K;show AWP _ _ _ _ _))
  refine q10 ⟨_,?_,rfl⟩;rw [Try.results94];simp (disch:=omega) only [ResVars,ResVar,ptrLoc,go_sem,seval,hd]
  rw [bit_lo];simp [h]
theorem Mask_c (a b : Int) (hb : -9223372036854775808 ≤ b ∧ b < 9223372036854775808) : ACalls Try.prog 42 [.d (.v (.int .i64 a)),.d (.v (.int .i64 b))]
  (· = [.agg (hd (if fieldB a b 128 then ones b.toNat <<< a.toNat else 0)),.d (.v (.int .i64 (if fieldB a b 128 then 0 else 1)))]) := by
 cases h : fieldB a b 128
 ·refine z13 Try.func42 rfl (by decide +kernel) (by rw [Try.ntmps42];simp) ?_;rw [Try.ntmps42];simp only [frOf]
  (repeat refine j4 ?_);(first | refine j0 fun K hK => ?_ | refine x5 fun K hK => ?_);(first | refine q9 [] _ _ ?_ | refine x9 [] _ _ _ ?_);simp (disch:=omega) only [go_sem,↓reduceIte,reduceCtorEq,Nat.reduceLT,Nat.reducePow,Nat.reduceLeDiff,Nat.reduceAdd,Nat.reduceMul,Nat.reduceSub,Nat.reduceEqDiff,Nat.reduceBEq,Int.reduceToNat,Int.reduceBEq,Int.reduceBNe,hd,h];(repeat refine ⟨by omega,?_⟩);(first | (refine z6 (hK _ ?_);clear hK K;show AWP _ _ _ _ _) | (refine x6 (hK _ _ j5 ?_);clear hK K;show AWP _ _ _ _ _))
  (repeat refine j4 ?_);(first | refine j0 fun K hK => ?_ | refine x5 fun K hK => ?_)
  (first | refine q9 [] _ _ ?_ | refine x9 [] _ _ _ ?_);simp (disch:=omega) only [go_sem,↓reduceIte,reduceCtorEq,Nat.reduceLT,Nat.reducePow,Nat.reduceLeDiff,Nat.reduceAdd,Nat.reduceMul,Nat.reduceSub,Nat.reduceEqDiff,Nat.reduceBEq,Int.reduceToNat,Int.reduceBEq,Int.reduceBNe,hd,h];(repeat refine ⟨by omega,?_⟩)
  (first | refine x10 rfl rfl rfl ?_ | refine j10 rfl rfl rfl ?_);simp (disch:=omega) only [go_sem,↓reduceIte,reduceCtorEq,Nat.reduceLT,Nat.reducePow,Nat.reduceLeDiff,Nat.reduceAdd,Nat.reduceMul,Nat.reduceSub,Nat.reduceEqDiff,Nat.reduceBEq,Int.reduceToNat,Int.reduceBEq,Int.reduceBNe,hd,h]
  refine ⟨_,x79 a b 128 hb (by omega),?_⟩
  (first | refine q9 [] _ _ ?_ | refine x9 [] _ _ _ ?_);simp (disch:=omega) only [go_sem,↓reduceIte,reduceCtorEq,Nat.reduceLT,Nat.reducePow,Nat.reduceLeDiff,Nat.reduceAdd,Nat.reduceMul,Nat.reduceSub,Nat.reduceEqDiff,Nat.reduceBEq,Int.reduceToNat,Int.reduceBEq,Int.reduceBNe,hd,h];(repeat refine ⟨by omega,?_⟩)
  (first | (refine z6 (hK _ ?_);clear hK K;show AWP _ _ _ _ _) | (refine x6 (hK _ _ j5 ?_);clear hK K;show AWP _ _ _ _ _))
  (repeat refine j4 ?_);refine q25 rfl (fun ht => ?_) (fun ht => ?_)
  ·(repeat refine j4 ?_);(first | refine j0 fun K hK => ?_ | refine x5 fun K hK => ?_);(first | refine q9 [] _ _ ?_ | refine x9 [] _ _ _ ?_);simp (disch:=omega) only [go_sem,↓reduceIte,reduceCtorEq,Nat.reduceLT,Nat.reducePow,Nat.reduceLeDiff,Nat.reduceAdd,Nat.reduceMul,Nat.reduceSub,Nat.reduceEqDiff,Nat.reduceBEq,Int.reduceToNat,Int.reduceBEq,Int.reduceBNe,hd,h];(repeat refine ⟨by omega,?_⟩);(first | (refine z6 (hK _ ?_);clear hK K;show AWP _ _ _ _ _) | (refine x6 (hK _ _ j5 ?_);clear hK K;show AWP _ _ _ _ _))
   refine q10 ⟨_,?_,rfl⟩;rw [Try.results42];simp (disch:=omega) only [ResVars,ResVar,ptrLoc,go_sem,↓reduceIte,reduceCtorEq,Nat.reduceLT,Nat.reducePow,Nat.reduceLeDiff,Nat.reduceAdd,Nat.reduceMul,Nat.reduceSub,Nat.reduceEqDiff,Nat.reduceBEq,Int.reduceToNat,Int.reduceBEq,Int.reduceBNe,hd,h]
   first | rw [j28,q29] | (change _ = hd 0;unfold hd;rw [j28,q29])
  ·exact absurd ht (by decide)
 ·have hh := of_decide_eq_true h
  refine z13 Try.func42 rfl (by decide +kernel) (by rw [Try.ntmps42];simp) ?_;rw [Try.ntmps42];simp only [frOf]
  (repeat refine j4 ?_);(first | refine j0 fun K hK => ?_ | refine x5 fun K hK => ?_);(first | refine q9 [] _ _ ?_ | refine x9 [] _ _ _ ?_);simp (disch:=omega) only [go_sem,↓reduceIte,reduceCtorEq,Nat.reduceLT,Nat.reducePow,Nat.reduceLeDiff,Nat.reduceAdd,Nat.reduceMul,Nat.reduceSub,Nat.reduceEqDiff,Nat.reduceBEq,Int.reduceToNat,Int.reduceBEq,Int.reduceBNe,hd,h];(repeat refine ⟨by omega,?_⟩);(first | (refine z6 (hK _ ?_);clear hK K;show AWP _ _ _ _ _) | (refine x6 (hK _ _ j5 ?_);clear hK K;show AWP _ _ _ _ _))
  (repeat refine j4 ?_);(first | refine j0 fun K hK => ?_ | refine x5 fun K hK => ?_)
  (first | refine q9 [] _ _ ?_ | refine x9 [] _ _ _ ?_);simp (disch:=omega) only [go_sem,↓reduceIte,reduceCtorEq,Nat.reduceLT,Nat.reducePow,Nat.reduceLeDiff,Nat.reduceAdd,Nat.reduceMul,Nat.reduceSub,Nat.reduceEqDiff,Nat.reduceBEq,Int.reduceToNat,Int.reduceBEq,Int.reduceBNe,hd,h];(repeat refine ⟨by omega,?_⟩)
  (first | refine x10 rfl rfl rfl ?_ | refine j10 rfl rfl rfl ?_);simp (disch:=omega) only [go_sem,↓reduceIte,reduceCtorEq,Nat.reduceLT,Nat.reducePow,Nat.reduceLeDiff,Nat.reduceAdd,Nat.reduceMul,Nat.reduceSub,Nat.reduceEqDiff,Nat.reduceBEq,Int.reduceToNat,Int.reduceBEq,Int.reduceBNe,hd,h]
  refine ⟨_,x79 a b 128 hb (by omega),?_⟩
  (first | refine q9 [] _ _ ?_ | refine x9 [] _ _ _ ?_);simp (disch:=omega) only [go_sem,↓reduceIte,reduceCtorEq,Nat.reduceLT,Nat.reducePow,Nat.reduceLeDiff,Nat.reduceAdd,Nat.reduceMul,Nat.reduceSub,Nat.reduceEqDiff,Nat.reduceBEq,Int.reduceToNat,Int.reduceBEq,Int.reduceBNe,hd,h];(repeat refine ⟨by omega,?_⟩)
  (first | (refine z6 (hK _ ?_);clear hK K;show AWP _ _ _ _ _) | (refine x6 (hK _ _ j5 ?_);clear hK K;show AWP _ _ _ _ _))
  (repeat refine j4 ?_);refine q25 rfl (fun ht => ?_) (fun ht => ?_)
  ·exact absurd ht (by decide)
  ·refine j6 ?_;show AWP _ _ _ _ _
   (repeat refine j4 ?_);(first | refine j0 fun K hK => ?_ | refine x5 fun K hK => ?_)
   (first | refine q9 [] _ _ ?_ | refine x9 [] _ _ _ ?_);simp (disch:=omega) only [go_sem,↓reduceIte,reduceCtorEq,Nat.reduceLT,Nat.reducePow,Nat.reduceLeDiff,Nat.reduceAdd,Nat.reduceMul,Nat.reduceSub,Nat.reduceEqDiff,Nat.reduceBEq,Int.reduceToNat,Int.reduceBEq,Int.reduceBNe,hd,h];(repeat refine ⟨by omega,?_⟩)
   (first | refine x10 rfl rfl rfl ?_ | refine j10 rfl rfl rfl ?_);simp (disch:=omega) only [go_sem,↓reduceIte,reduceCtorEq,Nat.reduceLT,Nat.reducePow,Nat.reduceLeDiff,Nat.reduceAdd,Nat.reduceMul,Nat.reduceSub,Nat.reduceEqDiff,Nat.reduceBEq,Int.reduceToNat,Int.reduceBEq,Int.reduceBNe,hd,h]
   refine ⟨_,by have := low_c b.toNat (by omega);rw [Int.toNat_of_nonneg hh.2.1] at this;exact this,?_⟩
   (first | refine q9 [] _ _ ?_ | refine x9 [] _ _ _ ?_);simp (disch:=omega) only [go_sem,↓reduceIte,reduceCtorEq,Nat.reduceLT,Nat.reducePow,Nat.reduceLeDiff,Nat.reduceAdd,Nat.reduceMul,Nat.reduceSub,Nat.reduceEqDiff,Nat.reduceBEq,Int.reduceToNat,Int.reduceBEq,Int.reduceBNe,hd,h];(repeat refine ⟨by omega,?_⟩)
   (first | refine x10 rfl rfl rfl ?_ | refine j10 rfl rfl rfl ?_);simp (disch:=omega) only [go_sem,↓reduceIte,reduceCtorEq,Nat.reduceLT,Nat.reducePow,Nat.reduceLeDiff,Nat.reduceAdd,Nat.reduceMul,Nat.reduceSub,Nat.reduceEqDiff,Nat.reduceBEq,Int.reduceToNat,Int.reduceBEq,Int.reduceBNe,hd,h]
   refine ⟨_,by have := z79 (ones b.toNat) a.toNat (by omega);rw [Int.toNat_of_nonneg hh.1] at this;exact this,?_⟩
   (first | refine q9 [] _ _ ?_ | refine x9 [] _ _ _ ?_);simp (disch:=omega) only [go_sem,↓reduceIte,reduceCtorEq,Nat.reduceLT,Nat.reducePow,Nat.reduceLeDiff,Nat.reduceAdd,Nat.reduceMul,Nat.reduceSub,Nat.reduceEqDiff,Nat.reduceBEq,Int.reduceToNat,Int.reduceBEq,Int.reduceBNe,hd,h];(repeat refine ⟨by omega,?_⟩)
   (first | (refine z6 (hK _ ?_);clear hK K;show AWP _ _ _ _ _) | (refine x6 (hK _ _ j5 ?_);clear hK K;show AWP _ _ _ _ _))
   refine q10 ⟨_,?_,rfl⟩;rw [Try.results42];simp (disch:=omega) only [ResVars,ResVar,ptrLoc,go_sem,↓reduceIte,reduceCtorEq,Nat.reduceLT,Nat.reducePow,Nat.reduceLeDiff,Nat.reduceAdd,Nat.reduceMul,Nat.reduceSub,Nat.reduceEqDiff,Nat.reduceBEq,Int.reduceToNat,Int.reduceBEq,Int.reduceBNe,hd,h]
theorem none_c (x : BitVec 128) : ACalls Try.prog 68 [.agg (hd x)] (· = [.d (.v (.bool (x == 0)))]) := by
 refine z13 Try.func68 rfl (by decide +kernel) (by rw [Try.ntmps68];simp) ?_;rw [Try.ntmps68];simp only [frOf]
 (repeat refine j4 ?_);(first | refine j0 fun K hK => ?_ | refine x5 fun K hK => ?_);(first | refine q9 [] _ _ ?_ | refine x9 [] _ _ _ ?_);simp (disch:=omega) only [go_sem,seval,hd,cb,j18,q19,j17,x18];(repeat refine ⟨by omega,?_⟩);(first | (refine z6 (hK _ ?_);clear hK K;show AWP _ _ _ _ _) | (refine x6 (hK _ _ j5 ?_);clear hK K;show AWP _ _ _ _ _))
 (repeat refine j4 ?_);(first | refine j0 fun K hK => ?_ | refine x5 fun K hK => ?_);(first | refine q9 [] _ _ ?_ | refine x9 [] _ _ _ ?_);simp (disch:=omega) only [go_sem,seval,hd,cb,j18,q19,j17,x18];(repeat refine ⟨by omega,?_⟩);(first | (refine z6 (hK _ ?_);clear hK K;show AWP _ _ _ _ _) | (refine x6 (hK _ _ j5 ?_);clear hK K;show AWP _ _ _ _ _))
 refine q10 ⟨_,?_,rfl⟩;rw [Try.results68];simp (disch:=omega) only [ResVars,ResVar,ptrLoc,go_sem,seval,hd,cb,j18,q19,j17,x18]
theorem x43 (k : Cube) : ACalls Try.prog 35 [.agg (cb k)] (· = [.d (.v (.bool k.sound))]) := by
 refine z13 Try.func35 rfl (by decide +kernel) (by rw [Try.ntmps35];simp) ?_;rw [Try.ntmps35];simp only [frOf]
 (repeat refine j4 ?_);(first | refine j0 fun K hK => ?_ | refine x5 fun K hK => ?_);(first | refine q9 [] _ _ ?_ | refine x9 [] _ _ _ ?_);simp (disch:=omega) only [go_sem,seval,hd,cb,j18,q19,j17,x18];(repeat refine ⟨by omega,?_⟩);(first | (refine z6 (hK _ ?_);clear hK K;show AWP _ _ _ _ _) | (refine x6 (hK _ _ j5 ?_);clear hK K;show AWP _ _ _ _ _))
 (repeat refine j4 ?_);(first | refine j0 fun K hK => ?_ | refine x5 fun K hK => ?_)
 (first | refine q9 [] _ _ ?_ | refine x9 [] _ _ _ ?_);simp (disch:=omega) only [go_sem,seval,hd,cb,j18,q19,j17,x18];(repeat refine ⟨by omega,?_⟩)
 (first | refine x10 rfl rfl rfl ?_ | refine j10 rfl rfl rfl ?_);simp (disch:=omega) only [go_sem,seval,hd,cb,j18,q19,j17,x18]
 refine ⟨_,Less_c k.v k.c,?_⟩
 (first | refine q9 [] _ _ ?_ | refine x9 [] _ _ _ ?_);simp (disch:=omega) only [go_sem,seval,hd,cb,j18,q19,j17,x18];(repeat refine ⟨by omega,?_⟩)
 (first | refine x10 rfl rfl rfl ?_ | refine j10 rfl rfl rfl ?_);simp (disch:=omega) only [go_sem,seval,hd,cb,j18,q19,j17,x18]
 refine ⟨_,none_c _,?_⟩
 (first | refine q9 [] _ _ ?_ | refine x9 [] _ _ _ ?_);simp (disch:=omega) only [go_sem,seval,hd,cb,j18,q19,j17,x18];(repeat refine ⟨by omega,?_⟩)
 (first | (refine z6 (hK _ ?_);clear hK K;show AWP _ _ _ _ _) | (refine x6 (hK _ _ j5 ?_);clear hK K;show AWP _ _ _ _ _))
 refine q10 ⟨_,?_,rfl⟩;rw [Try.results35];simp (disch:=omega) only [ResVars,ResVar,ptrLoc,go_sem,seval,hd,cb,j18,q19,j17,x18]
 (first | done | rfl | (refine ⟨?_,?_⟩ <;> rfl))
theorem Make_c (x y : BitVec 128) : ACalls Try.prog 43 [.agg (hd x),.agg (hd y)] (· = [.agg (cb (mkC x y))]) := by
 refine z13 Try.func43 rfl (by decide +kernel) (by rw [Try.ntmps43];simp) ?_;rw [Try.ntmps43];simp only [frOf]
 (repeat refine j4 ?_);(first | refine j0 fun K hK => ?_ | refine x5 fun K hK => ?_);(first | refine q9 [] _ _ ?_ | refine x9 [] _ _ _ ?_);simp (disch:=omega) only [go_sem,seval,hd,cb,j18,q19,j17,x18];(repeat refine ⟨by omega,?_⟩);(first | (refine z6 (hK _ ?_);clear hK K;show AWP _ _ _ _ _) | (refine x6 (hK _ _ j5 ?_);clear hK K;show AWP _ _ _ _ _))
 (repeat refine j4 ?_);(first | refine j0 fun K hK => ?_ | refine x5 fun K hK => ?_)
 (first | refine q9 [] _ _ ?_ | refine x9 [] _ _ _ ?_);simp (disch:=omega) only [go_sem,seval,hd,cb,j18,q19,j17,x18];(repeat refine ⟨by omega,?_⟩)
 (first | refine x10 rfl rfl rfl ?_ | refine j10 rfl rfl rfl ?_);simp (disch:=omega) only [go_sem,seval,hd,cb,j18,q19,j17,x18]
 refine ⟨_,And_c x y,?_⟩
 (first | refine q9 [] _ _ ?_ | refine x9 [] _ _ _ ?_);simp (disch:=omega) only [go_sem,seval,hd,cb,j18,q19,j17,x18];(repeat refine ⟨by omega,?_⟩)
 (first | (refine z6 (hK _ ?_);clear hK K;show AWP _ _ _ _ _) | (refine x6 (hK _ _ j5 ?_);clear hK K;show AWP _ _ _ _ _))
 refine q10 ⟨_,?_,rfl⟩;rw [Try.results43];simp (disch:=omega) only [ResVars,ResVar,ptrLoc,go_sem,seval,hd,cb,j18,q19,j17,x18]
 (first | done | rfl | (refine ⟨?_,?_⟩ <;> rfl))
theorem x125 (a b : Cube) : (apart a b == 0) = true ↔ ∀ i,i < 128 → a.c.getLsbD i = true → b.c.getLsbD i = true → a.v.getLsbD i = b.v.getLsbD i := by
 unfold apart
 rw [beq_iff_eq]
 constructor
 ·intro h i hlt ha hb
  have := congrArg (fun z => z.getLsbD i) h
  simp only [BitVec.getLsbD_and,BitVec.getLsbD_xor,ha,hb,Bool.and_self,Bool.and_true,BitVec.getLsbD_zero] at this
  simpa using this
 ·intro h
  apply BitVec.eq_of_getLsbD_eq
  intro i hlt
  have := h i hlt
  simp only [BitVec.getLsbD_and,BitVec.getLsbD_xor,BitVec.getLsbD_zero]
  cases ha : a.c.getLsbD i <;> cases hb : b.c.getLsbD i <;> simp
  simpa using this ha hb
def other (r b : Cube) (n : Nat) : Cube := ⟨(r.v ||| (b.v &&& (ones 1 <<< n))) ^^^ (ones 1 <<< n),r.c ||| (ones 1 <<< n)⟩
def brC (k : Cube) (n : Nat) : Nat := if k.c.getLsbD n then (if k.v.getLsbD n then 1 else 0) else 2
theorem j57 (k : Cube) (n : Nat) : brC k n < 3 := by unfold brC;split <;> (try split) <;> omega
def firstGo (p : Nat → Bool) : Nat → Nat → Nat
 | 0,n => n
 | f + 1,n => if p n then n else firstGo p f (n + 1)
theorem q58 (p : Nat → Bool) : ∀ f n,n ≤ firstGo p f n ∧ firstGo p f n ≤ n + f ∧ (∀ i,n ≤ i → i < firstGo p f n → p i = false) ∧ (firstGo p f n < n + f → p (firstGo p f n) = true)
 | 0,n => ⟨by simp [firstGo],by simp [firstGo],fun i h1 h2 => by simp [firstGo] at h2;omega,fun h => by simp [firstGo] at h⟩
 |f + 1,n => by
  unfold firstGo
  by_cases hp : p n = true
  ·rw [if_pos hp];exact ⟨Nat.le_refl _,by omega,fun i h1 h2 => by omega,fun _ => hp⟩
  ·rw [if_neg hp]
   obtain ⟨h1,h2,h3,h4⟩ := q58 p f (n + 1)
   refine ⟨by omega,by omega,fun i hi hlt => ?_,fun h => h4 (by omega)⟩
   by_cases e : i = n
   ·subst e;simpa using hp
   ·exact h3 i (by omega) hlt
def lastC (k : Cube) : Nat := firstGo (fun n => k.c.getLsbD n) 128 0
theorem j125 (k : Cube) : lastC k ≤ 128 := by have := (q58 (fun n => k.c.getLsbD n) 128 0).2.1;simpa [lastC] using this
theorem q126 (k : Cube) {i : Nat} (h : i < lastC k) : k.c.getLsbD i = false := (q58 (fun n => k.c.getLsbD n) 128 0).2.2.1 i (Nat.zero_le _) h
def pathC (k : Cube) : List Nat := (List.range (128 - lastC k)).map fun i => brC k (127 - i)
theorem x23 (k : Cube) : (pathC k).length = 128 - lastC k := by simp [pathC]
theorem z58 (k : Cube) {i : Nat} (h : i < (pathC k).length) : (pathC k)[i] = brC k (127 - i) := by simp [pathC]
theorem z126 (k : Cube) {i : Nat} (h : i < 128 - lastC k) : (pathC k).take (i + 1) = (pathC k).take i ++ [brC k (127 - i)] := by
 have hl : i < (pathC k).length := by rw [x23];exact h
 rw [List.take_add_one,List.getElem?_eq_getElem hl,z58 k hl];rfl
def waysC (c : Cube) (n : Nat) : List Nat := if brC c n = 2 then [0,1,2] else [brC c n,2]
theorem x126 (c : Cube) (n : Nat) : (waysC c n).Nodup := by
 unfold waysC
 split
 ·decide
 ·simp;omega
abbrev Items := List (Int × Cube)
def idsAt (l : Items) (p : List Nat) : List Int := (l.filter fun x => pathC x.2 == p).map (·.1)
def gath (l : Items) (c : Cube) : Nat → List Nat → List Int
 | 0,p => idsAt l p
 | f + 1,p => idsAt l p ++ (waysC c f).flatMap fun k => gath l c f (p ++ [k])
def fitB (c : Cube) : Nat → List Nat → List Nat → Bool
 | 0,p,q => q == p
 | f + 1,p,q => q == p || (waysC c f).any fun k => fitB c f (p ++ [k]) q
theorem q26 (c : Cube) : ∀ f p q,fitB c f p q = true ↔ ∃ r,q = p ++ r ∧ r.length ≤ f ∧ ∀ i,i < r.length → r.getD i 0 ∈ waysC c (f - 1 - i)
 |0,p,q => by
  unfold fitB
  rw [beq_iff_eq]
  constructor
  ·rintro rfl;exact ⟨[],by simp,by simp,fun i hi => by simp at hi⟩
  ·rintro ⟨r,rfl,h,_⟩
   have : r = [] := List.eq_nil_of_length_eq_zero (by omega)
   subst this;simp
 |f + 1,p,q => by
  unfold fitB
  rw [Bool.or_eq_true,beq_iff_eq,List.any_eq_true]
  constructor
  ·rintro (rfl | ⟨k,hk,hf⟩)
   ·exact ⟨[],by simp,by simp,fun i hi => by simp at hi⟩
   ·obtain ⟨r,rfl,hl,hr⟩ := (q26 c f (p ++ [k]) q).1 hf
    refine ⟨k :: r,by simp,by simp;omega,fun i hi => ?_⟩
    cases i with
    | zero => simpa using hk
    |succ i =>
     have := hr i (by simpa using hi)
     have e : f + 1 - 1 - (i + 1) = f - 1 - i := by omega
     rw [e];simpa using this
  ·rintro ⟨r,rfl,hl,hr⟩
   cases r with
   | nil => left;simp
   |cons k r =>
    right
    have h0 := hr 0 (by simp)
    refine ⟨k,by simpa using h0,(q26 c f (p ++ [k]) _).2 ⟨r,by simp,by simpa using hl,fun i hi => ?_⟩⟩
    have := hr (i + 1) (by simpa using hi)
    have e : f + 1 - 1 - (i + 1) = f - 1 - i := by omega
    rw [e] at this;simpa using this
theorem x58 {α : Type} (a b : α → Bool) : ∀ (l : List α),(∀ x ∈ l,a x = true → b x = false) → (l.filter fun x => a x || b x).Perm (l.filter a ++ l.filter b)
 | [],_ => by simp
 |x :: l,h => by
  have ih := x58 a b l fun y hy => h y (List.mem_cons_of_mem _ hy)
  have hx := h x (List.mem_cons_self ..)
  cases ha : a x with
  |true =>
   simp only [List.filter_cons,ha,hx ha,Bool.true_or,if_true,Bool.false_eq_true,if_false]
   exact ih.cons x
  |false =>
   cases hb : b x with
   |true =>
    simp only [List.filter_cons,ha,hb,Bool.or_true,if_true,Bool.false_eq_true,if_false]
    exact (ih.cons x).trans List.perm_middle.symm
   |false =>
    simp only [List.filter_cons,ha,hb,Bool.or_false,Bool.false_eq_true,if_false]
    exact ih
theorem j79 {α : Type} (g : Nat → α → Bool) (l : List α) : ∀ (ws : List Nat),ws.Nodup → (∀ x ∈ l,∀ k k',g k x = true → g k' x = true → k = k') → (l.filter fun x => ws.any fun k => g k x).Perm (ws.flatMap fun k => l.filter (g k))
 | [],_,_ => by simp
 |k :: ws,hn,h => by
  rw [List.nodup_cons] at hn
  have ih := j79 g l ws hn.2 h
  have e : (l.filter fun x => (k :: ws).any fun k => g k x) = l.filter fun x => g k x || ws.any fun k => g k x := by simp
  rw [e]
  refine (x58 (g k) (fun x => ws.any fun k => g k x) l fun x hx hk => ?_).trans ?_
  ·cases hb : ws.any fun k => g k x with
   | false => rfl
   |true =>
    obtain ⟨k',h1,h2⟩ := List.any_eq_true.1 hb
    have := h x hx k k' hk h2
    subst this;exact absurd h1 hn.1
  ·rw [List.flatMap_cons];exact ih.append_left _
theorem j43 (l : Items) (c : Cube) : ∀ f p,(gath l c f p).Perm ((l.filter fun x => fitB c f p (pathC x.2)).map (·.1))
 | 0,p => by unfold gath idsAt fitB;exact List.Perm.refl _
 |f + 1,p => by
  have e : (fun x : Int × Cube => fitB c (f + 1) p (pathC x.2)) = fun x => (pathC x.2 == p) || ((waysC c f).any fun k => fitB c f (p ++ [k]) (pathC x.2)) := rfl
  rw [e]
  have h1 := (x58 (fun x : Int × Cube => pathC x.2 == p) (fun x => (waysC c f).any fun k => fitB c f (p ++ [k]) (pathC x.2)) l fun x _ hx => by
   rw [beq_iff_eq] at hx
   rw [List.any_eq_false]
   intro k _ hf
   obtain ⟨r,hr,_⟩ := (q26 _ _ _ _).1 hf
   rw [hx] at hr
   have := congrArg List.length hr
   simp at this).map (·.1)
  refine List.Perm.trans ?_ h1.symm
  rw [List.map_append]
  unfold gath
  refine List.Perm.append (List.Perm.refl _) ?_
  have h2 := (j79 (fun k (x : Int × Cube) => fitB c f (p ++ [k]) (pathC x.2)) l (waysC c f) (x126 c f) fun x _ k k' h1 h2 => by
   obtain ⟨r,hr,_⟩ := (q26 _ _ _ _).1 h1
   obtain ⟨r',hr',_⟩ := (q26 _ _ _ _).1 h2
   rw [hr] at hr'
   simp at hr'
   exact hr'.1).map (·.1)
  refine List.Perm.trans ?_ h2.symm
  rw [List.map_flatMap]
  generalize waysC c f = ws
  induction ws with
  | nil => simp
  |cons k ws ih =>
   rw [List.flatMap_cons,List.flatMap_cons]
   exact (j43 l c f (p ++ [k])).append ih
theorem j126 (c k : Cube) : fitB c 128 [] (pathC k) = true ↔ ∀ n,n < 128 → brC k n ∈ waysC c n := by
 rw [q26]
 constructor
 ·rintro ⟨r,hr,hl,h⟩ n hn
  rw [List.nil_append] at hr
  subst hr
  by_cases hk : n < lastC k
  ·have : brC k n = 2 := by unfold brC;rw [q126 k hk];rfl
   rw [this];unfold waysC;split <;> simp
  ·have hlen := x23 k
   have hi : 127 - n < (pathC k).length := by omega
   have := h (127 - n) hi
   rw [List.getD_eq_getElem?_getD,List.getElem?_eq_getElem hi,z58 k hi] at this
   have e : 128 - 1 - (127 - n) = n := by omega
   rw [e] at this
   simpa using this
 ·intro h
  refine ⟨pathC k,by simp,by rw [x23];omega,fun i hi => ?_⟩
  rw [List.getD_eq_getElem?_getD,List.getElem?_eq_getElem hi,z58 k hi]
  have hlen := x23 k
  have e : 128 - 1 - i = 127 - i := by omega
  rw [e]
  simpa using h (127 - i) (by omega)
theorem q127 (c k : Cube) : (∀ n,n < 128 → brC k n ∈ waysC c n) ↔ (apart k c == 0) = true := by
 rw [x125]
 refine forall_congr' fun n => forall_congr' fun hn => ?_
 unfold waysC brC
 cases h1 : k.c.getLsbD n <;> cases h2 : c.c.getLsbD n <;> cases h3 : k.v.getLsbD n <;> cases h4 : c.v.getLsbD n <;> simp
theorem z127 {c k : Cube} (hc : c.sound = true) (hk : k.sound = true) : fitB c 128 [] (pathC k) = meetO k c := by
 rw [Bool.eq_iff_iff,j126,q127]
 unfold meetO
 rw [hc,hk];simp
def foundU (l : Items) (c : Cube) : List Int := (l.filter fun x => meetO x.2 c).map (·.1)
theorem x127 {l : Items} {c : Cube} (hc : c.sound = true) (hl : ∀ x ∈ l,x.2.sound = true) : (gath l c 128 []).Perm (foundU l c) := by
 refine (j43 l c 128 []).trans ?_
 unfold foundU
 rw [List.filter_congr fun x hx => z127 hc (hl x hx)]
theorem j127 {l : Items} {c : Cube} (hc : c.sound = false) : foundU l c = [] := by
 unfold foundU
 rw [List.map_eq_nil_iff,List.filter_eq_nil_iff]
 intro x _
 unfold meetO
 rw [hc];simp
theorem q128 (l : Items) (c : Cube) (f : Nat) (p : List Nat) (h : ∀ x ∈ l,∀ r,pathC x.2 ≠ p ++ r) : gath l c f p = [] := by
 have hp := j43 l c f p
 have : (l.filter fun x => fitB c f p (pathC x.2)) = [] := by
  rw [List.filter_eq_nil_iff]
  intro x hx hf
  obtain ⟨r,hr,_⟩ := (q26 _ _ _ _).1 hf
  exact h x hx r hr
 rw [this] at hp
 exact List.Perm.eq_nil hp
def rowZ (l : List Int) : Nat → List Dat := fun i => [.v (.int .i64 (l.getD i 0))]
theorem q44 (l : List Int) (i : Nat) : rowZ l i = [.v (.int .i64 (l.getD i 0))] := rfl
theorem z128 (out : List Int) (c : Int) (i : Nat) (hlt : i < out.length + 1) : catF out.length (rowZ out) (fun i => [[Dat.v (.int .i64 c)]].getD i []) i = rowZ (out ++ [c]) i := by
 unfold catF rowZ
 simp only [List.getD_eq_getElem?_getD]
 split
 ·rw [List.getElem?_append_left (by assumption)]
 ·have : i = out.length := by omega
  subst this
  simp
theorem x128 (a b : List Int) (i : Nat) : catF a.length (rowZ a) (rowZ b) i = rowZ (a ++ b) i := by
 unfold catF rowZ
 simp only [List.getD_eq_getElem?_getD]
 split
 ·rw [List.getElem?_append_left (by assumption)]
 ·rw [List.getElem?_append_right (by omega)]
theorem ClipZ_c (n : Nat) (f : Nat → List Dat) (hn : n ≤ 140737488355328) : ACalls Try.prog 41 [.d (.sl 1 n f)] (· = [.d (.sl 1 n f)]) := by
 refine z13 Try.func41 rfl (by decide +kernel) (by rw [Try.ntmps41];simp) ?_;rw [Try.ntmps41];simp only [frOf]
 (repeat (first | apply j4 | refine q8 rfl ?_ | refine z8 rfl ?_ | apply j7 | (refine j0 fun K hK => ?_) | (refine x5 fun K hK => ?_) | ((first | apply j6 | apply z7 | ((first | refine z6 (hK _ ?_) | refine x6 (hK _ _ j5 ?_));clear hK K));(first | show AWP _ _ _ _ _ | ((try simp only [x7]);first | show loopQ _ _ _ _ _ _ | show cutQ _ _ _ _ | show AWP _ _ _ _ _))) | ((first | refine x8 [] rfl ?_ | refine j8 [] rfl ?_);simp (disch:=omega) only [go_sem,seval];(repeat (first | refine ⟨by omega,?_⟩ | refine ⟨True.intro,?_⟩)))))
 refine q10 ⟨_,?_,rfl⟩;rw [Try.results41];simp (disch:=omega) only [ResVars,ResVar,ptrLoc,go_sem,seval]
 rfl
end Go.Proofs.Ytbamjcnhmmgnlaa
namespace Go.Proofs.Ytbamjcnhmmgnlaa
open Go Go.Proofs.Ytbamjcnhmmgnlaa.AL
theorem j128 (x : BitVec 128) {n : Nat} (hn : n < 128) : (if 0 ≤ (n : Int) ∧ (n : Int) < 128 then x.getLsbD (n : Int).toNat else false) = x.getLsbD n := by
 rw [if_pos ⟨by omega,by omega⟩,Int.toNat_natCast]
theorem j58 (x : BitVec 128) {n : Nat} (hn : n < 128) : ACalls Try.prog 94 [.agg (hd x),.d (.v (.int .i64 (n : Int)))] (· = [.d (.v (.bool (x.getLsbD n)))]) := by
 have := Bit_c x (n : Int)
 rw [j128 x hn] at this
 exact this
theorem q80 (k : Cube) {n : Nat} (hn : n < 128) : ACalls Try.prog 71 [.agg (cb k),.d (.v (.int .i64 (n : Int)))] (· = [.d (.v (.int .i64 (brC k n : Int)))]) := by
 have b1 := j58 k.c hn
 have b2 := j58 k.v hn
 unfold brC
 generalize k.c.getLsbD n = p at *
 generalize k.v.getLsbD n = q at *
 cases p with
 |false =>
  refine z13 Try.func71 rfl (by decide +kernel) (by rw [Try.ntmps71];simp) ?_;rw [Try.ntmps71];simp only [frOf]
  (repeat (first | apply j4 | refine q8 rfl ?_ | refine z8 rfl ?_ | apply j7 | (refine j0 fun K hK => ?_) | (refine x5 fun K hK => ?_) | ((first | apply j6 | apply z7 | ((first | refine z6 (hK _ ?_) | refine x6 (hK _ _ j5 ?_));clear hK K));(first | show AWP _ _ _ _ _ | ((try simp only [x7]);first | show loopQ _ _ _ _ _ _ | show cutQ _ _ _ _ | show AWP _ _ _ _ _))) | ((first | refine x10 rfl rfl rfl ?_ | refine j10 rfl rfl rfl ?_);simp (disch:=omega) only [go_sem,seval,hd,cb];(first | refine ⟨_,b1,?_⟩)) | ((first | refine x8 [] rfl ?_ | refine j8 [] rfl ?_);simp (disch:=omega) only [go_sem,seval,hd,cb];(repeat (first | refine ⟨by omega,?_⟩ | refine ⟨True.intro,?_⟩)))))
  refine q10 ⟨_,?_,rfl⟩;rw [Try.results71];simp (disch:=omega) only [ResVars,ResVar,ptrLoc,go_sem,seval,hd,cb]
 |true =>
  cases q with
  |false =>
   refine z13 Try.func71 rfl (by decide +kernel) (by rw [Try.ntmps71];simp) ?_;rw [Try.ntmps71];simp only [frOf]
   (repeat (first | apply j4 | refine q8 rfl ?_ | refine z8 rfl ?_ | apply j7 | (refine j0 fun K hK => ?_) | (refine x5 fun K hK => ?_) | ((first | apply j6 | apply z7 | ((first | refine z6 (hK _ ?_) | refine x6 (hK _ _ j5 ?_));clear hK K));(first | show AWP _ _ _ _ _ | ((try simp only [x7]);first | show loopQ _ _ _ _ _ _ | show cutQ _ _ _ _ | show AWP _ _ _ _ _))) | ((first | refine x10 rfl rfl rfl ?_ | refine j10 rfl rfl rfl ?_);simp (disch:=omega) only [go_sem,seval,hd,cb];(first | refine ⟨_,b1,?_⟩ | refine ⟨_,b2,?_⟩)) | ((first | refine x8 [] rfl ?_ | refine j8 [] rfl ?_);simp (disch:=omega) only [go_sem,seval,hd,cb];(repeat (first | refine ⟨by omega,?_⟩ | refine ⟨True.intro,?_⟩)))))
   refine q10 ⟨_,?_,rfl⟩;rw [Try.results71];simp (disch:=omega) only [ResVars,ResVar,ptrLoc,go_sem,seval,hd,cb]
  |true =>
   refine z13 Try.func71 rfl (by decide +kernel) (by rw [Try.ntmps71];simp) ?_;rw [Try.ntmps71];simp only [frOf]
   (repeat (first | apply j4 | refine q8 rfl ?_ | refine z8 rfl ?_ | apply j7 | (refine j0 fun K hK => ?_) | (refine x5 fun K hK => ?_) | ((first | apply j6 | apply z7 | ((first | refine z6 (hK _ ?_) | refine x6 (hK _ _ j5 ?_));clear hK K));(first | show AWP _ _ _ _ _ | ((try simp only [x7]);first | show loopQ _ _ _ _ _ _ | show cutQ _ _ _ _ | show AWP _ _ _ _ _))) | ((first | refine x10 rfl rfl rfl ?_ | refine j10 rfl rfl rfl ?_);simp (disch:=omega) only [go_sem,seval,hd,cb];(first | refine ⟨_,b1,?_⟩ | refine ⟨_,b2,?_⟩)) | ((first | refine x8 [] rfl ?_ | refine j8 [] rfl ?_);simp (disch:=omega) only [go_sem,seval,hd,cb];(repeat (first | refine ⟨by omega,?_⟩ | refine ⟨True.intro,?_⟩)))))
   refine q10 ⟨_,?_,rfl⟩;rw [Try.results71];simp (disch:=omega) only [ResVars,ResVar,ptrLoc,go_sem,seval,hd,cb]
structure LaS (k : Cube) where
 i : Nat
 hi : i ≤ 128
 h : firstGo (fun n => k.c.getLsbD n) (128 - i) i = lastC k
def laI (k : Cube) (s : LaS k) : ASt := ⟨[(4,.p (.d (.v (.int .i64 (s.i : Int))))),(1,.p (.d (.bx (cb k))))],[]⟩
theorem last_c (k : Cube) : ACalls Try.prog 70 [.agg (cb k)] (· = [.d (.v (.int .i64 (lastC k : Int)))]) := by
 refine z13 Try.func70 rfl (by decide +kernel) (by rw [Try.ntmps70];simp) ?_;rw [Try.ntmps70];simp only [frOf]
 (repeat (first | apply j4 | refine q8 rfl ?_ | refine z8 rfl ?_ | apply j7 | (refine j0 fun K hK => ?_) | (refine x5 fun K hK => ?_) | ((first | apply j6 | apply z7 | ((first | refine z6 (hK _ ?_) | refine x6 (hK _ _ j5 ?_));clear hK K));(first | show AWP _ _ _ _ _ | ((try simp only [x7]);first | show loopQ _ _ _ _ _ _ | show cutQ _ _ _ _ | show AWP _ _ _ _ _))) | ((first | refine x8 [] rfl ?_ | refine j8 [] rfl ?_);simp (disch:=omega) only [go_sem,seval,hd,cb];(repeat (first | refine ⟨by omega,?_⟩ | refine ⟨True.intro,?_⟩)))))
 refine z23 (laI k) (fun s => 128 - s.i) ⟨0,by omega,rfl⟩ ?_ (fun s => ?_)
 ·unfold laI
  refine Weak.list ?_ ?_;(all_goals simp (disch:=omega) only [AllF,AllL,j13,q14,x13,exists_eq_left',go_sem,seval,hd,cb]);(all_goals (repeat' (with_reducible apply And.intro)));(all_goals try (first | exact z10 rfl | (refine z14 ?_;omega) | (refine z10 ?_;simp;done)))
 obtain ⟨i,hi,h⟩ := s
 unfold laI
 by_cases hlt : i < 128
 ·have b1 := j58 k.c hlt
  have e : 128 - i = (128 - (i + 1)) + 1 := by omega
  rw [e] at h
  unfold firstGo at h
  generalize k.c.getLsbD i = p at *
  cases p with
  |true =>
   simp only [if_true] at h
   rw [← h]
   (repeat (first | apply j4 | refine q8 rfl ?_ | refine z8 rfl ?_ | apply j7 | (refine j0 fun K hK => ?_) | (refine x5 fun K hK => ?_) | ((first | apply j6 | apply z7 | ((first | refine z6 (hK _ ?_) | refine x6 (hK _ _ j5 ?_));clear hK K));(first | show AWP _ _ _ _ _ | ((try simp only [x7]);first | show loopQ _ _ _ _ _ _ | show cutQ _ _ _ _ | show AWP _ _ _ _ _))) | ((first | refine x10 rfl rfl rfl ?_ | refine j10 rfl rfl rfl ?_);simp (disch:=omega) only [go_sem,seval,hd,cb];(first | refine ⟨_,b1,?_⟩)) | ((first | refine x8 [] rfl ?_ | refine j8 [] rfl ?_);simp (disch:=omega) only [go_sem,seval,hd,cb];(repeat (first | refine ⟨by omega,?_⟩ | refine ⟨True.intro,?_⟩)))))
   refine q10 ⟨_,?_,rfl⟩;rw [Try.results70];simp (disch:=omega) only [ResVars,ResVar,ptrLoc,go_sem,seval,hd,cb]
  |false =>
   simp only [Bool.false_eq_true,if_false] at h
   (repeat (first | apply j4 | refine q8 rfl ?_ | refine z8 rfl ?_ | apply j7 | (refine j0 fun K hK => ?_) | (refine x5 fun K hK => ?_) | ((first | apply j6 | apply z7 | ((first | refine z6 (hK _ ?_) | refine x6 (hK _ _ j5 ?_));clear hK K));(first | show AWP _ _ _ _ _ | ((try simp only [x7]);first | show loopQ _ _ _ _ _ _ | show cutQ _ _ _ _ | show AWP _ _ _ _ _))) | ((first | refine x10 rfl rfl rfl ?_ | refine j10 rfl rfl rfl ?_);simp (disch:=omega) only [go_sem,seval,hd,cb];(first | refine ⟨_,b1,?_⟩)) | ((first | refine x8 [] rfl ?_ | refine j8 [] rfl ?_);simp (disch:=omega) only [go_sem,seval,hd,cb];(repeat (first | refine ⟨by omega,?_⟩ | refine ⟨True.intro,?_⟩)))))
   refine ⟨⟨i + 1,by omega,h⟩,by simp only [];omega,?_⟩
   refine Weak.list ?_ ?_;(all_goals simp (disch:=omega) only [AllF,AllL,j13,q14,x13,exists_eq_left',go_sem,seval,hd,cb]);(all_goals (repeat' (with_reducible apply And.intro)));(all_goals try (first | exact z10 rfl | (refine z14 ?_;omega) | (refine z10 ?_;simp;done)))
 ·have : i = 128 := by omega
  subst this
  have : lastC k = 128 := by rw [← h];rfl
  rw [this]
  (repeat (first | apply j4 | refine q8 rfl ?_ | refine z8 rfl ?_ | apply j7 | (refine j0 fun K hK => ?_) | (refine x5 fun K hK => ?_) | ((first | apply j6 | apply z7 | ((first | refine z6 (hK _ ?_) | refine x6 (hK _ _ j5 ?_));clear hK K));(first | show AWP _ _ _ _ _ | ((try simp only [x7]);first | show loopQ _ _ _ _ _ _ | show cutQ _ _ _ _ | show AWP _ _ _ _ _))) | ((first | refine x8 [] rfl ?_ | refine j8 [] rfl ?_);simp (disch:=omega) only [go_sem,seval,hd,cb];(repeat (first | refine ⟨by omega,?_⟩ | refine ⟨True.intro,?_⟩)))))
  refine q10 ⟨_,?_,rfl⟩;rw [Try.results70];simp (disch:=omega) only [ResVars,ResVar,ptrLoc,go_sem,seval,hd,cb]
def waysZ (c : Cube) (f : Nat) : List Int := if f = 0 then [] else (waysC c (f - 1)).map fun (k : Nat) => (k : Int)
theorem q129 (c : Cube) (f : Nat) : (waysZ c f).length ≤ 3 := by unfold waysZ waysC;split <;> (try split) <;> simp
theorem ways_c (c : Cube) (f : Nat) (hf : f ≤ 128) : ACalls Try.prog 39 [.agg (cb c),.d (.v (.int .i64 ((f : Int) - 1)))] (· = [.d (.sl 1 (waysZ c f).length (rowZ (waysZ c f)))]) := by
 unfold waysZ
 cases f with
 |zero =>
  refine z13 Try.func39 rfl (by decide +kernel) (by rw [Try.ntmps39];simp) ?_;rw [Try.ntmps39];simp only [frOf]
  (repeat (first | apply j4 | refine q8 rfl ?_ | refine z8 rfl ?_ | apply j7 | (refine j0 fun K hK => ?_) | (refine x5 fun K hK => ?_) | ((first | apply j6 | apply z7 | ((first | refine z6 (hK _ ?_) | refine x6 (hK _ _ j5 ?_));clear hK K));(first | show AWP _ _ _ _ _ | ((try simp only [x7]);first | show loopQ _ _ _ _ _ _ | show cutQ _ _ _ _ | show AWP _ _ _ _ _))) | ((first | refine x8 [] rfl ?_ | refine j8 [] rfl ?_);simp (disch:=omega) only [go_sem,seval,hd,cb];(repeat (first | refine ⟨by omega,?_⟩ | refine ⟨True.intro,?_⟩)))))
  refine q42 4 _ (.p (.d (.sl 1 0 (rowZ [])))) rfl z78 ?_
  refine q10 ⟨_,?_,rfl⟩;rw [Try.results39];simp (disch:=omega) only [ResVars,ResVar,ptrLoc,go_sem,seval,hd,cb]
 |succ f =>
  have b := q80 c (n := f) (by omega)
  have e : ((f + 1 : Nat) : Int) - 1 = (f : Int) := by omega
  rw [e]
  rw [if_neg (by omega)]
  show ACalls Try.prog _ _ (· = [.d (.sl 1 ((waysC c f).map fun (k : Nat) => (k : Int)).length (rowZ ((waysC c f).map fun (k : Nat) => (k : Int))))])
  unfold waysC
  have hb := j57 c f
  generalize brC c f = k at *
  have h0 : decide ((f : Int) < 0) = false := decide_eq_false (by omega)
  by_cases hk : k = 2
  ·subst hk
   refine z13 Try.func39 rfl (by decide +kernel) (by rw [Try.ntmps39];simp) ?_;rw [Try.ntmps39];simp only [frOf]
   (repeat (first | apply j4 | refine q8 rfl ?_ | refine z8 rfl ?_ | apply j7 | (refine j0 fun K hK => ?_) | (refine x5 fun K hK => ?_) | ((first | apply j6 | apply z7 | ((first | refine z6 (hK _ ?_) | refine x6 (hK _ _ j5 ?_));clear hK K));(first | show AWP _ _ _ _ _ | ((try simp only [x7]);first | show loopQ _ _ _ _ _ _ | show cutQ _ _ _ _ | show AWP _ _ _ _ _))) | ((first | refine x10 rfl rfl rfl ?_ | refine j10 rfl rfl rfl ?_);simp (disch:=omega) only [go_sem,seval,hd,cb,h0];(first | refine ⟨_,b,?_⟩)) | ((first | refine x8 [] rfl ?_ | refine j8 [] rfl ?_);simp (disch:=omega) only [go_sem,seval,hd,cb,h0];(repeat (first | refine ⟨by omega,?_⟩ | refine ⟨True.intro,?_⟩)))))
   refine q42 4 _ (.p (.d (.sl 1 3 (rowZ [0,1,2])))) rfl (le_sl rfl (fun i hi => by
    have : i = 0 ∨ i = 1 ∨ i = 2 := by omega
    rcases this with rfl | rfl | rfl <;> rfl)) ?_
   refine q10 ⟨_,?_,rfl⟩;rw [Try.results39];simp (disch:=omega) only [ResVars,ResVar,ptrLoc,go_sem,seval,hd,cb,h0]
  ·rw [if_neg hk]
   have h1 : ((k : Int) != 2) = true := by rw [bne_iff_ne];omega
   refine z13 Try.func39 rfl (by decide +kernel) (by rw [Try.ntmps39];simp) ?_;rw [Try.ntmps39];simp only [frOf]
   (repeat (first | apply j4 | refine q8 rfl ?_ | refine z8 rfl ?_ | apply j7 | (refine j0 fun K hK => ?_) | (refine x5 fun K hK => ?_) | ((first | apply j6 | apply z7 | ((first | refine z6 (hK _ ?_) | refine x6 (hK _ _ j5 ?_));clear hK K));(first | show AWP _ _ _ _ _ | ((try simp only [x7]);first | show loopQ _ _ _ _ _ _ | show cutQ _ _ _ _ | show AWP _ _ _ _ _))) | ((first | refine x10 rfl rfl rfl ?_ | refine j10 rfl rfl rfl ?_);simp (disch:=omega) only [go_sem,seval,hd,cb,h0,h1];(first | refine ⟨_,b,?_⟩)) | ((first | refine x8 [] rfl ?_ | refine j8 [] rfl ?_);simp (disch:=omega) only [go_sem,seval,hd,cb,h0,h1];(repeat (first | refine ⟨by omega,?_⟩ | refine ⟨True.intro,?_⟩)))))
   refine q42 4 _ (.p (.d (.sl 1 2 (rowZ [(k : Int),2])))) rfl (le_sl rfl (fun i hi => by
    have : i = 0 ∨ i = 1 := by omega
    rcases this with rfl | rfl <;> rfl)) ?_
   refine q10 ⟨_,?_,rfl⟩;rw [Try.results39];simp (disch:=omega) only [ResVars,ResVar,ptrLoc,go_sem,seval,hd,cb,h0,h1]
end Go.Proofs.Ytbamjcnhmmgnlaa
namespace Go.Proofs.Ytbamjcnhmmgnlaa.AL
open Go
def LLes (M M2 : List (Nat × LV)) : Prop := ∀ l X2,look M2 l = some X2 → ∃ X,look M l = some X ∧ LLe X X2
theorem LLes.nil (M : List (Nat × LV)) : LLes M [] := fun l X2 h => by simp [look] at h
theorem LLes.cons {M M2 : List (Nat × LV)} {l : Nat} {X X2 : LV} (h : look M l = some X) (hl : LLe X X2) (t : LLes M M2) : LLes M ((l,X2) :: M2) := fun k Y hk => by
 simp only [look] at hk
 split at hk
 ·rename_i e;subst e;cases hk;exact ⟨X,h,hl⟩
 ·exact t k Y hk
theorem LLe.refl (X : LV) : LLe X X := of_eq_true (x13 X)
theorem MCalls.out {P : Program} {f : FuncId} {xs : List AV} {L M M2 : List (Nat × LV)} {rs : List AV} (h : MCalls P f xs L (fun r M' => r = rs ∧ M' = M)) (hM : LLes M M2) : MCalls P f xs L (fun r M' => r = rs ∧ M' = M2) := by
 intro w g vs hz hr hl
 have key := h w g vs hz hr hl
 have fin : ∀ v w',(∃ h' r M',(r = rs ∧ M' = M) ∧ RelRA w' h' v r ∧ LocsOK (fun _ => True) w' h' M' ∧ Chg L M' w g w' h') → ∃ h' r M',(r = rs ∧ M' = M2) ∧ RelRA w' h' v r ∧ LocsOK (fun _ => True) w' h' M' ∧ Chg L M' w g w' h' := by
  rintro v w' ⟨h',r,M',⟨rfl,rfl⟩,h1,h2,h3⟩
  refine ⟨h',_,M2,⟨rfl,rfl⟩,h1,⟨fun l X2 hX => ?_,fun l l' X X' b hne e1 e2 hb hb' => ?_⟩,⟨h3.below,h3.gam,h3.gz,h3.keep,h3.ρ,h3.up,fun b hb => ?_⟩⟩
  ·obtain ⟨X,e1,e2⟩ := hM l X2 hX
   exact (z34 e2 (h2.1 l X e1)).1
  ·obtain ⟨Y,y1,y2⟩ := hM l X e1
   obtain ⟨Y',z1,z2⟩ := hM l' X' e2
   rw [(z34 y2 (h2.1 l Y y1)).2] at hb
   rw [(z34 z2 (h2.1 l' Y' z1)).2] at hb'
   exact h2.2 l l' Y Y' b hne y1 z1 hb hb'
  ·obtain ⟨l,X2,e1,e2⟩ := hb
   obtain ⟨Y,y1,y2⟩ := hM l X2 e1
   rw [(z34 y2 (h2.1 l Y y1)).2] at e2
   exact h3.own b ⟨l,Y,y1,e2⟩
 unfold CallRes at *
 split at key
 ·exact key.mono fun e w' ⟨v,he,hh⟩ => ⟨v,he,fin v w' hh⟩
 ·exact fin _ _ key
 ·exact key.elim
end Go.Proofs.Ytbamjcnhmmgnlaa.AL
namespace Go.Proofs.Ytbamjcnhmmgnlaa.AL
variable {P : Program} {nt : Nat} {Q : Exit → ASt → Prop} {A : ASt}
def cutQ {ι : Type} (I : ι → ASt) (Q : Exit → ASt → Prop) : Exit → ASt → Prop
 | .normal,A => ∃ i,Weak A (I i)
 | e,A => Q e A
attribute [irreducible] cutQ
theorem q59 {α : Type} {M : List (Nat × α)} : ∀ {L : List (Nat × α)},(∀ p ∈ L,look M p.1 = some p.2) → ∀ l X,look L l = some X → look M l = some X
 | [],_,l,X,h => by cases h
 |p :: r,hl,l,X,h => by
  simp only [look] at h
  split at h
  ·rename_i e;subst e;cases h;exact hl p (by simp)
  ·exact q59 (fun q hq => hl q (by simp [hq])) l X h
theorem retM_of {fn : Func} {Q : List AV → List (Nat × LV) → Prop} (rs : List AV) (L : List (Nat × LV)) (hr : ResVarsA P A fn.results.toList rs) (hl : ∀ p ∈ L,look A.locs p.1 = some p.2) (hq : Q rs L) : retM P fn Q .ret A :=
 ⟨rs,L,hr,q59 hl,hq⟩
theorem z129 {fn : Func} {Q : List AV → List (Nat × LV) → Prop} (rs : List AV) (L : List (Nat × LV)) (hr : ResVarsA P A fn.results.toList rs) (hl : ∀ p ∈ L,look A.locs p.1 = some p.2) (hq : Q rs L) : retM P fn Q .normal A :=
 ⟨rs,L,hr,q59 hl,hq⟩
end Go.Proofs.Ytbamjcnhmmgnlaa.AL
namespace Go.Proofs.Ytbamjcnhmmgnlaa.AL
open Go.RowKit
variable {P : Program}
def WeakX (A : ASt) (S : ASt → Prop) : Prop := ∀ (w0 : Base) (g0 : Nat → Nat) (nt : Nat) (h : Gh) (a : Act) (w : World),Rel w0 g0 nt A h a w → ∃ A' h',S A' ∧ Rel w0 g0 nt A' h' a w
theorem x21 {nt : Nat} {ops : Array Oper} {o : Oper} {rest : List Oper} {A : ASt} {K : ASt → Prop} {S : ASt → Prop} (hw : WeakX A S) (h : ∀ A',S A' → walkS P nt ops (o :: rest) A' K) : walkS P nt ops (o :: rest) A K := by
 rw [j73]
 refine ⟨fun B => walkS P nt ops rest B K,fun w0 g0 h' a w r K' Q hn => ?_,fun _ hk => hk⟩
 obtain ⟨A',h2,hs,r'⟩ := hw w0 g0 nt h' a w r
 obtain ⟨S1,hd,hk⟩ := j73.1 (h A' hs)
 exact hd w0 g0 h2 a w r' K' Q fun A1 a' w' h3 e hr => hn A1 a' w' h3 (hk A1 e) hr
def noM : Nat → Option Ent := fun _ => none
theorem Weak.arena (A : ASt) (hn : look A.locs 1999 = none) : Weak A ⟨A.fr,(1999,.raw noM) :: A.locs⟩ := by
 intro w0 g0 nt h a w r
 have hin : ∀ b,¬ inB h 1999 (.raw noM) b := fun b hb => hb rfl
 refine ⟨h,r.size,r.defers,r.fr,fun l L hL => ?_,fun l l' L L' b hne hL hL' hb hb' => ?_,r.ext,r.pin⟩
 ·simp only [look] at hL
  split at hL
  ·rename_i e;subst e;cases hL;intro b E hb;cases hb
  ·exact r.locs l L hL
 ·simp only [look] at hL hL'
  split at hL
  ·rename_i e;subst e;cases hL;exact hin b hb
  ·split at hL'
   ·rename_i e;subst e;cases hL';exact hin b hb'
   ·exact r.sep l l' L L' b hne hL hL' hb hb'
theorem z80 {nt : Nat} {c : Code} {Q : Exit → ASt → Prop} {A : ASt} (hn : look A.locs 1999 = none) (h : AWP P nt c Q ⟨A.fr,(1999,.raw noM) :: A.locs⟩) : AWP P nt c Q A := x27 (Weak.arena A hn) h
def PackR (M : Nat → Option Ent) (e : TypeId) (sz n : Nat) (f : Nat → List Dat) (v : Value) (M' : Nat → Option Ent) : Prop :=
 (n = 0 ∧ v = .slice none 0 0 ∧ M' = M) ∨ ∃ b c,n ≤ c ∧ M b = none ∧ v = .slice (some ⟨b,0,none⟩) n c ∧ M' = setM M b (some ⟨e,sz,c,n,f⟩)
theorem z44 {l : Nat} {L : List (Nat × LV)} {k : Nat} {X : LV} (h : look (dropL l L) k = some X) : k ≠ l ∧ look L k = some X := by
 rw [q15] at h
 split at h
 ·cases h
 ·exact ⟨‹_›,h⟩
theorem Rel.into {w0 : Base} {g0 : Nat → Nat} {nt : Nat} {A : ASt} {h : Gh} {a : Act} {w : World} (r : Rel w0 g0 nt A h a w) {l b : Nat} {X : LV} {M : Nat → Option Ent} {E : Ent} {fr : List (Nat × AV)}
  (hl : look A.locs l = some X) (hM : look A.locs 1999 = some (.raw M)) (hne : l ≠ 1999) (hb : inB h l X b) (hO : w0.O b) (hE : EntOK w h.g b E) (hg : h.g b = 0)
  (hfr : ∀ t x,look fr t = some x → RelA w h (a.tmps.getD t undef) x) : M b = none ∧ Rel w0 g0 nt ⟨fr,(1999,.raw (setM M b (some E))) :: dropL l A.locs⟩ h a w := by
 have hMb : M b = none := by
  have := r.sep l 1999 X _ b hne hl hM hb
  simp only [inB] at this
  exact Classical.byContradiction fun e => this e
 have old : ∀ k L,look ((1999,LV.raw (setM M b (some E))) :: dropL l A.locs) k = some L → (k = 1999 ∧ L = .raw (setM M b (some E))) ∨ (k ≠ 1999 ∧ k ≠ l ∧ look A.locs k = some L) := by
  intro k L hk
  simp only [look] at hk
  split at hk
  ·rename_i e;cases hk;exact .inl ⟨e.symm,rfl⟩
  ·rename_i e
   obtain ⟨k1,k2⟩ := z44 hk
   exact .inr ⟨fun e' => e e'.symm,k1,k2⟩
 have hin : ∀ b',inB h 1999 (.raw (setM M b (some E))) b' → b' = b ∨ inB h 1999 (.raw M) b' := by
  intro b' hb'
  simp only [inB,setM] at hb' ⊢
  split at hb'
  ·exact .inl ‹_›
  ·exact .inr hb'
 refine ⟨hMb,r.size,r.defers,hfr,fun k L hk => ?_,fun k k' L L' b' hkk hk hk' hb1 hb2 => ?_,r.ext,r.pin⟩
 ·rcases old k L hk with ⟨rfl,rfl⟩ | ⟨_,_,h3⟩
  ·intro b' E' hE'
   simp only [setM] at hE'
   split at hE'
   ·rename_i e;subst e;cases hE';exact ⟨hO,hE,hg⟩
   ·exact r.locs 1999 _ hM b' E' hE'
  ·exact r.locs k L h3
 ·rcases old k L hk with ⟨rfl,rfl⟩ | ⟨n1,n2,h3⟩ <;> rcases old k' L' hk' with ⟨rfl,rfl⟩ | ⟨n1',n2',h3'⟩
  ·exact hkk rfl
  ·rcases hin b' hb1 with rfl | hb1
   ·exact r.sep l k' X L' b' (fun e => n2' e.symm) hl h3' hb hb2
   ·exact r.sep 1999 k' _ L' b' (fun e => n1' e.symm) hM h3' hb1 hb2
  ·rcases hin b' hb2 with rfl | hb2
   ·exact r.sep l k X L b' (fun e => n2 e.symm) hl h3 hb hb1
   ·exact r.sep 1999 k _ L b' (fun e => n1 e.symm) hM h3 hb2 hb1
  ·exact r.sep k k' L L' b' hkk h3 h3' hb1 hb2
theorem WeakX.packRow (A : ASt) (t l gen sz n : Nat) (e : TypeId) (f : Nat → List Dat) (M : Nat → Option Ent) (ht : look A.fr t = some (.ow l gen sz n)) (hl : look A.locs l = some (.own e sz n gen f)) (hM : look A.locs 1999 = some (.raw M)) (hne : l ≠ 1999) :
  WeakX A (fun A' => ∃ v M',PackR M e sz n f v M' ∧ A' = ⟨(t,.p (.d (.v v))) :: A.fr,(1999,.raw M') :: dropL l A.locs⟩) := by
 intro w0 g0 nt h a w r
 have hL := r.locs l _ hl
 obtain ⟨q1,⟨va,vc,q2,q2'⟩,q3⟩ := r.fr t _ ht
 have hv := q3 hL.1
 have hfr : ∀ v,a.tmps.getD t undef = v → v.oneCell' = true → ∀ u y,look ((t,AV.p (.d (.v v))) :: A.fr) u = some y → RelA w h (a.tmps.getD u undef) y := by
  intro v hv h1 u y hy
  simp only [look] at hy
  split at hy
  ·rename_i e;subst e;cases hy;rw [hv];exact x14 h1
  ·exact r.fr u y hy
 by_cases hn : (h.κ l).ownBlock = none
 ·obtain ⟨n0,hk⟩ : n = 0 ∧ h.κ l = .slice none 0 0 := by
   obtain ⟨_,⟨xs,⟨_,⟨h0,h1⟩ | ⟨gb,cap,cur,h0,_⟩⟩,_⟩,_⟩ := hL
   ·exact ⟨h1,h0⟩
   ·rw [h0] at hn;simp [Value.ownBlock] at hn
  subst n0
  refine ⟨_,h,⟨.slice none 0 0,M,.inl ⟨rfl,rfl,rfl⟩,rfl⟩,r.size,r.defers,hfr _ (hv.trans hk) rfl,fun k L hk => ?_,fun k k' L L' b' hkk hk hk' => ?_,r.ext,r.pin⟩
  ·simp only [look] at hk
   split at hk
   ·rename_i e;subst e;cases hk;exact r.locs 1999 _ hM
   ·exact r.locs k L (z44 hk).2
  ·have old : ∀ k L,look ((1999,LV.raw M) :: dropL l A.locs) k = some L → look A.locs k = some L := by
    intro k L hk
    simp only [look] at hk
    split at hk
    ·rename_i e;subst e;cases hk;exact hM
    ·exact (z44 hk).2
   exact r.sep k k' L L' b' hkk (old k L hk) (old k' L' hk')
 ·obtain ⟨b,hb⟩ := Option.ne_none_iff_exists'.1 hn
  obtain ⟨cap,cur,c1,c2,c3,c4,c5,c6,c7,c8⟩ := q27 hL hb
  obtain ⟨m1,m2⟩ := r.into hl hM hne (E := ⟨e,sz,cap,n,f⟩) (b := b) (by simp [inB,hb]) c7 ⟨cur,c2,c5,c3,c4,c8⟩ c6 (hfr _ (hv.trans c1) rfl)
  exact ⟨_,h,⟨_,_,.inr ⟨b,cap,c3,m1,rfl,rfl⟩,rfl⟩,m2⟩
def dOf : AV → Option Dat
 | .p (.d x) => some x
 | _ => none
theorem WeakX.packCells (A : ASt) (t l : Nat) (e : TypeId) (cs : List AV) (ds : List Dat) (M : Nat → Option Ent) (ht : look A.fr t = some (.loc l 0)) (hl : look A.locs l = some (.cells e cs)) (hM : look A.locs 1999 = some (.raw M)) (hne : l ≠ 1999) (hds : cs.map dOf = ds.map some) :
  WeakX A (fun A' => ∃ b,M b = none ∧ A' = ⟨(t,.p (.d (.v (.pointer (some ⟨b,0,none⟩))))) :: A.fr,(1999,.raw (setM M b (some ⟨e,ds.length,1,1,fun _ => ds⟩))) :: dropL l A.locs⟩) := by
 intro w0 g0 nt h a w r
 obtain ⟨arr,h1,h2,h3,h4,h5⟩ := r.locs l _ hl
 have hlen : cs.length = ds.length := by have := congrArg List.length hds;simpa using this
 have hv : a.tmps.getD t undef = .pointer (some ⟨h.ρ l,0,none⟩) := r.fr t _ ht
 have hE : EntOK w h.g (h.ρ l) ⟨e,ds.length,1,1,fun _ => ds⟩ := by
  refine ⟨arr,h2,by simp;omega,Nat.le_refl _,by simp [maxLen],fun i hi => rfl,fun i j d hi hj hd => ?_⟩
  have hi0 : i = 0 := by simp only [] at hi;omega
  subst hi0
  simp only [] at hj hd ⊢
  have hja : j < arr.size := by omega
  obtain ⟨u,hu⟩ : ∃ u,arr[j] = u := ⟨_,rfl⟩
  refine ⟨u,?_,?_⟩
  ·rw [List.getElem?_take_of_lt (by omega)]
   simp [hja,hu]
  ·have hc : cs[j]? = some cs[j] := List.getElem?_eq_getElem (by omega)
   have : dOf cs[j] = some d := by
    have := congrArg (·[j]?) hds
    simp only [List.getElem?_map,hc,hd,Option.map_some,Option.some.injEq] at this
    exact this
   have hr := (h5 j u cs[j] (by simp [hja,hu]) hc).1
   unfold dOf at this
   split at this
   ·rename_i x hx;cases this;rw [hx] at hr;cases hr with | d _ _ hr => exact hr
   ·cases this
 obtain ⟨m1,m2⟩ := r.into hl hM hne (b := h.ρ l) rfl h1 hE h4 (fr := (t,.p (.d (.v (.pointer (some ⟨h.ρ l,0,none⟩))))) :: A.fr) (by
  intro u y hy
  simp only [look] at hy
  split at hy
  ·rename_i e;subst e;cases hy;rw [hv];exact x14 rfl
  ·exact r.fr u y hy)
 exact ⟨_,h,⟨h.ρ l,m1,rfl⟩,m2⟩
theorem Weak.focus (A : ASt) (t l b c sz n : Nat) (e : TypeId) (f : Nat → List Dat) (M : Nat → Option Ent) (ht : look A.fr t = some (.p (.d (.v (.slice (some ⟨b,0,none⟩) n c))))) (hM : look A.locs 1999 = some (.raw M)) (hE : M b = some ⟨e,sz,c,n,f⟩)
  (hu : unusedB A l = true) (hn : look A.locs l = none) : Weak A ⟨(t,.ow l 0 sz n) :: A.fr,(l,.own e sz n 0 f) :: (1999,.raw (setM M b none)) :: A.locs⟩ := by
 intro w0 g0 nt h a w r
 let v : Value := .slice (some ⟨b,0,none⟩) n c
 let h' : Gh := { h with κ := fun k => if k = l then v else h.κ k,μ := fun k => if k = l then 0 else h.μ k }
 have un := z25 hu
 have tr : Trans w0.O w h w h' (fun _ => False) (some l) true := by
  refine ⟨BelowS.refl _ _,fun b _ _ => ⟨rfl,rfl⟩,⟨fun b => Nat.le_refl _,fun b o _ => rfl⟩,r.gz,fun b _ => rfl,fun _ _ => rfl,fun k hk => ?_,fun k _ hf => by cases hf⟩
  have : k ≠ l := fun e => hk (by rw [e])
  simp [h',this]
 have nl : h'.κ l = v := by simp [h']
 have nm : h'.μ l = 0 := by simp [h']
 have hl9 : l ≠ 1999 := by have := un.2.2;omega
 obtain ⟨b1,⟨cur,b2,b3,b4,b5,b6⟩,b7⟩ := r.locs 1999 _ hM b _ hE
 have hv : a.tmps.getD t undef = v := z11 (r.fr t _ ht)
 have oldk : ∀ k L,k ≠ l → look A.locs k = some L → LocOK w0.O w h' k L ∧ inB h' k L = inB h k L := fun k L hne hk =>
  LocOK.trans tr (fun e => hne (by cases e;rfl)) (fun _ l' hl' hm => by cases hl';exact un.2.1 k L hk hm) (fun b _ => by simp) (r.locs k L hk)
 have old : ∀ k L,look ((l,LV.own e sz n 0 f) :: (1999,LV.raw (setM M b none)) :: A.locs) k = some L → (k = l ∧ L = .own e sz n 0 f) ∨ (k = 1999 ∧ L = .raw (setM M b none)) ∨ (k ≠ 1999 ∧ k ≠ l ∧ look A.locs k = some L) := by
  intro k L hk
  simp only [look] at hk
  split at hk
  ·rename_i e;cases hk;exact .inl ⟨e.symm,rfl⟩
  ·rename_i e1
   split at hk
   ·rename_i e;cases hk;exact .inr (.inl ⟨e.symm,rfl⟩)
   ·rename_i e2
    exact .inr (.inr ⟨fun e => e2 e.symm,fun e => e1 e.symm,hk⟩)
 have hinl : ∀ b',inB h' l (.own e sz n 0 f) b' → b' = b := by
  intro b' hb'
  simp only [inB,nl,v,Value.ownBlock,Option.some.injEq] at hb'
  exact hb'.symm
 have hinM : ∀ b',inB h' 1999 (.raw (setM M b none)) b' → b' ≠ b ∧ inB h 1999 (.raw M) b' := by
  intro b' hb'
  simp only [inB,setM] at hb' ⊢
  split at hb'
  ·exact absurd rfl hb'
  ·exact ⟨‹_›,hb'⟩
 have hbM : inB h 1999 (.raw M) b := by simp [inB,hE]
 refine ⟨h',r.size,r.defers,fun u y hy => ?_,fun k L hk => ?_,fun k k' L L' b' hkk hk hk' hb1 hb2 => ?_,r.ext,fun k hk => ?_⟩
 ·simp only [look] at hy
  split at hy
  ·rename_i e;subst e;cases hy
   rw [hv]
   exact ⟨by omega,⟨_,_,rfl,fun _ => ⟨_,rfl⟩⟩,fun _ => nl.symm⟩
  ·exact RelA.trans tr (fun _ l' hl' hm => by cases hl';exact un.1 u y hy hm) (r.fr u y hy)
 ·rcases old k L hk with ⟨rfl,rfl⟩ | ⟨rfl,rfl⟩ | ⟨n1,n2,h3⟩
  ·refine ⟨nm,⟨_,?_,b6⟩,fun b' hb' => ?_⟩
   ·rw [nl]
    refine ⟨?_,.inr ⟨b,c,cur,rfl,Nat.zero_le _,b2,b4,b5,b3,rfl⟩⟩
    have : n * sz ≤ c * sz := Nat.mul_le_mul_right _ b4
    simp only [] at b3
    simp;omega
   ·rw [nl] at hb'
    simp only [v,Value.ownBlock,Option.some.injEq] at hb'
    subst hb'
    exact ⟨b7,b1⟩
  ·intro b' E' hE'
   simp only [setM] at hE'
   split at hE'
   ·cases hE'
   ·exact r.locs 1999 _ hM b' E' hE'
  ·exact (oldk k L n2 h3).1
 ·rcases old k L hk with ⟨rfl,rfl⟩ | ⟨rfl,rfl⟩ | ⟨n1,n2,h3⟩ <;> rcases old k' L' hk' with ⟨e',rfl⟩ | ⟨e',rfl⟩ | ⟨n1',n2',h3'⟩
  ·exact hkk e'.symm
  ·subst e';exact (hinM b' hb2).1 (hinl b' hb1)
  ·rw [(oldk k' L' n2' h3').2] at hb2
   have := hinl b' hb1;subst this
   exact r.sep 1999 k' _ L' b' (fun e => n1' e.symm) hM h3' hbM hb2
  ·subst e';exact (hinM b' hb1).1 (hinl b' hb2)
  ·exact hkk e'.symm
  ·rw [(oldk k' L' n2' h3').2] at hb2
   exact r.sep 1999 k' _ L' b' (fun e => n1' e.symm) hM h3' (hinM b' hb1).2 hb2
  ·subst e'
   rw [(oldk k L n2 h3).2] at hb1
   have := hinl b' hb2;subst this
   exact r.sep 1999 k _ L b' (fun e => n1 e.symm) hM h3 hbM hb1
  ·subst e'
   rw [(oldk k L n2 h3).2] at hb1
   exact r.sep 1999 k _ L b' (fun e => n1 e.symm) hM h3 (hinM b' hb2).2 hb1
  ·rw [(oldk k L n2 h3).2] at hb1
   rw [(oldk k' L' n2' h3').2] at hb2
   exact r.sep k k' L L' b' hkk h3 h3' hb1 hb2
 ·have : k ≠ l := by have := un.2.2;omega
  simp only [h',if_neg this]
  exact r.pin k hk
end Go.Proofs.Ytbamjcnhmmgnlaa.AL
namespace Go.Proofs.Ytbamjcnhmmgnlaa.AL
open Go.RowKit
variable {P : Program}
def RCalls (P : Program) (f : FuncId) (xs : List AV) (L : List (Nat × LV)) (x : AV) : Prop :=
 ∀ (w : World) (h : Gh) (vs : List Value),GZ w h.g → RelAs w h vs xs → LocsOK (fun _ => True) w h L →
  CallRes P (fun v w' => ∃ g',Ext w h.g w' g' ∧ RelA w' { h with g := g' } v x) ((callFunc f vs.toArray).run P w)
theorem x80 {w w' : World} {h : Gh} {g' : Nat → Nat} {B : Nat → Prop} (hz : GZ w h.g) (hB : NewIn B w) (he : Ext w h.g w' g') (own : Nat → Prop) : Trans B w h w' { h with g := g' } own none false :=
 Trans.same he.belowS (fun b hb => ⟨he.below.block b hb,he.gam b hb⟩) hz he.gz hB _
def rdOK (sg : List (Nat × Nat)) (rd : List Nat) (LA : List (Nat × LV)) : List (Nat × LV) → Prop
 | [] => True
 | p :: r => rd.contains (sub sg p.1) = true ∧ look LA (sub sg p.1) = some (p.2.ren (sub sg)) ∧ back sg (sub sg p.1) = some p.1 ∧ rdOK sg rd LA r
theorem x44 {sg : List (Nat × Nat)} {rd : List Nat} {LA : List (Nat × LV)} : ∀ {L : List (Nat × LV)},rdOK sg rd LA L → ∀ l X,look L l = some X → rd.contains (sub sg l) = true ∧ look LA (sub sg l) = some (X.ren (sub sg)) ∧ back sg (sub sg l) = some l
 |p :: r,h,l,X,hX => by
  simp only [look] at hX
  split at hX
  ·rename_i e;subst e;cases hX;exact ⟨h.1,h.2.1,h.2.2.1⟩
  ·exact x44 h.2.2.2 l X hX
theorem x129 {o : Oper} {c : Call} {f : Operand} (ho : o.op = .call c) (hc : c.callee = .value f) {x0 x : AV} {g : FuncId} {pre post : List CV} (hx : calleeC x0 = some (g,pre,post)) {zs xs : List AV} (sg : List (Nat × Nat))
  (hargs : pre.map CV.av ++ zs ++ post.map CV.av = xs.map (AV.ren (sub sg))) {L : List (Nat × LV)} (hcall : RCalls P g xs L x) {rd : List Nat} {LA : List (Nat × LV)} (hrd : rdOK sg rd LA L) : OpR P o (x0 :: zs) rd LA (x.ren (sub sg)) := by
 intro B w h a next Q hB hz hr hL hS hn
 have hops : o.op.operands.toList.map a.eval = a.eval f :: c.args.toList.map a.eval := by simp [ho,Op.operands,Call.operands,hc]
 rw [hops] at hr
 have hf := hr.2 0 (a.eval f) x0 rfl rfl
 have hev : RelAs w h (c.args.toList.map a.eval) zs := hr.tail
 obtain ⟨vs,hvs,hrun⟩ := q57 (P := P) ho hc hx hf hev
 rw [hargs] at hvs
 let hσ := h.ren (sub sg)
 have hvs' : RelAs w hσ vs xs := by
  refine ⟨by have := hvs.1;simpa using this,fun j v y hv hyj => ?_⟩
  exact q22.1 (hvs.2 j v _ hv (by rw [List.getElem?_map,hyj];rfl))
 have hlocs : LocsOK (fun _ => True) w hσ L := by
  refine ⟨fun l X hX => ?_,fun l l' X X' b hne h1 h2 hb hb' => ?_⟩
  ·obtain ⟨k1,k2,_⟩ := x44 hrd l X hX
   exact z29 (q43.1 (hL _ k1 _ k2)) fun _ _ => trivial
  ·obtain ⟨k1,k2,k3⟩ := x44 hrd l X h1
   obtain ⟨m1,m2,m3⟩ := x44 hrd l' X' h2
   rw [← x29] at hb hb'
   exact hS _ _ k1 m1 (fun e => hne (by rw [e,m3] at k3;cases k3;rfl)) _ _ b k2 m2 hb hb'
 have key := hcall w hσ vs hz hvs' hlocs
 have fin : ∀ v w',(∃ g',Ext w hσ.g w' g' ∧ RelA w' { hσ with g := g' } v x) → next (a.put o.dst v) w' := by
  rintro v w' ⟨g',he,hR⟩
  exact hn v w' { h with g := g' } (q22.2 hR) (x80 hz hB he _)
 unfold Oper.wp
 rw [hrun]
 unfold CallRes at key
 split at key
 ·rename_i f' args w1 hrr
  rw [hrr]
  show Calls P f' args w1 _
  refine key.mono fun e w' ⟨v,he,hR⟩ => ?_
  subst he
  exact fin v w' hR
 ·rename_i v w1 hrr
  rw [hrr]
  exact fin v w1 key
 ·exact key.elim
theorem j20 {nt : Nat} {ops : Array Oper} {K : ASt → List Done → Prop} {o : Oper} {rest : List Oper} {A : ASt} {tr : List Done} {c : Call} {f : Operand} {g : FuncId} {pre post : List CV} {xs : List AV} {L : List (Nat × LV)} {x : AV}
  (sg : List (Nat × Nat)) (rd : List Nat) (hd : dstOK nt o = true) (hw : wantedA ops o A = some true) (ho : o.op = .call c) (hc : c.callee = .value f) (hx : calleeC (A.eval f) = some (g,pre,post))
  (hargs : pre.map CV.av ++ c.args.toList.map A.eval ++ post.map CV.av = xs.map (AV.ren (sub sg))) (hcall : RCalls P g xs L x) (hrd : rdOK sg rd A.locs L)
  (hk : walkD P nt ops K rest (A.apply o.dst { val := x.ren (sub sg) }) (⟨o,none,{ val := x.ren (sub sg) },rd⟩ :: tr)) : walkD P nt ops K (o :: rest) A tr := by
 refine j114 hd hw ?_ hk
 have hops : o.op.operands.toList.map A.eval = A.eval f :: c.args.toList.map A.eval := by simp [ho,Op.operands,Call.operands,hc]
 rw [hops]
 exact x129 ho hc hx sg hargs hcall hrd
inductive XAV : AV → Prop
 | is (u : Value) : XAV (.is (· = u))
 | mp (l : Nat) : XAV (.mp l)
theorem XAV.same {x : AV} (hx : XAV x) {w w' : World} {h h' : Gh} (hρ : ∀ l ∈ x.mentions,h'.ρ l = h.ρ l) {v v' : Value} (r : RelA w h v x) (r' : RelA w' h' v' x) : v' = v := by
 cases hx with
 | is u => exact (show v' = u from r').trans (show v = u from r).symm
 |mp l =>
  have e1 : v = .map (some (h.ρ l)) := r
  have e2 : v' = .map (some (h'.ρ l)) := r'
  rw [e1,e2,hρ l (by simp [AV.mentions])]
inductive XLV : LV → Prop
 | cells (e : TypeId) (cs : List AV) (h : ∀ c ∈ cs,XAV c) : XLV (.cells e cs)
 | obj (o : Obj) : XLV (.obj o)
theorem XLV.same {X : LV} (hx : XLV X) {O : Nat → Prop} {w w' : World} {h h' : Gh} {l : Nat} (hρl : h'.ρ l = h.ρ l) (hρ : ∀ k ∈ X.mentions,h'.ρ k = h.ρ k) (r : LocOK O w h l X) (r' : LocOK O w' h' l X) {b : Nat} (hb : inB h l X b) :
  w'.heap[b]? = w.heap[b]? ∧ h'.g b = h.g b := by
 cases hx with
 |cells e cs hcs =>
  obtain ⟨arr,_,h2,h3,h4,h5⟩ := r
  obtain ⟨arr',_,k2,k3,k4,k5⟩ := r'
  simp [inB] at hb
  subst hb
  rw [hρl] at k2 k4
  refine ⟨?_,by rw [h4,k4]⟩
  rw [h2,k2]
  congr 2
  apply Array.ext
  ·rw [h3,k3]
  ·intro i hi1 hi2
   have hic : i < cs.length := by omega
   have e1 := (h5 i arr[i] cs[i] (by simp [hi2]) (List.getElem?_eq_getElem hic)).1
   have e2 := (k5 i arr'[i] cs[i] (by simp [hi1]) (List.getElem?_eq_getElem hic)).1
   exact (hcs _ (List.getElem_mem hic)).same (fun k hk => hρ k (List.mem_flatMap.2 ⟨_,List.getElem_mem hic,hk⟩)) e1 e2
 |obj o =>
  obtain ⟨_,h2,h4⟩ := r
  obtain ⟨_,k2,k4⟩ := r'
  simp [inB] at hb
  subst hb
  rw [hρl] at k2 k4
  exact ⟨by rw [h2,k2],by rw [h4,k4]⟩
theorem j129 {f : FuncId} {xs : List AV} {L : List (Nat × LV)} {x : AV} (hc : MCalls P f xs L (fun r M => r = [x] ∧ M = L)) (hX : ∀ l X,look L l = some X → XLV X ∧ ∀ k ∈ X.mentions,∃ Y,look L k = some Y) (hm : x.mentions = [])
  {w : World} {h : Gh} {vs : List Value} (hz : GZ w h.g) (hr : RelAs w h vs xs) (hl : LocsOK (fun _ => True) w h L) :
  CallRes P (fun v w' => ∃ g',Ext w h.g w' g' ∧ RelA w' { h with g := g' } v x) ((callFunc f vs.toArray).run P w) := by
 have key := hc w h vs hz hr hl
 have fin : ∀ v w',(∃ h1 r1 L1,(r1 = [x] ∧ L1 = L) ∧ RelRA w' h1 v r1 ∧ LocsOK (fun _ => True) w' h1 L1 ∧ Chg L L1 w h w' h1) → ∃ g',Ext w h.g w' g' ∧ RelA w' { h with g := g' } v x := by
  rintro v w' ⟨h1,r1,L1,⟨rfl,rfl⟩,hR,hL,hC⟩
  have same : ∀ b,ownB h L1 b → w'.heap[b]? = w.heap[b]? ∧ h1.g b = h.g b := by
   rintro b ⟨l,X,h1',h2⟩
   obtain ⟨k1,k2⟩ := hX l X h1'
   exact k1.same (hC.ρ l X h1') (fun k hk => by obtain ⟨Y,hY⟩ := k2 k hk;exact hC.ρ k Y hY) (hl.1 l X h1') (hL.1 l X h1') h2
  refine ⟨h1.g,⟨⟨hC.below.os,hC.below.tape,hC.below.output,hC.below.size,fun k hk => ?_⟩,fun b hb => ?_,hC.gz⟩,?_⟩
  ·by_cases ho : ownB h L1 k
   ·exact (same k ho).1
   ·exact hC.below.block k hk ho
  ·by_cases ho : ownB h L1 b
   ·exact (same b ho).2
   ·exact hC.gam b hb ho
  ·exact j29 (h := h1) (k := { h with g := h1.g }) rfl (fun l hl => by rw [hm] at hl;cases hl) hR
 unfold CallRes at *
 split at key
 ·exact key.mono fun e w' ⟨v,he,hR⟩ => ⟨v,he,fin v w' hR⟩
 ·exact fin _ _ key
 ·exact key.elim
theorem j44 {f : FuncId} {xs : List AV} {L : List (Nat × LV)} {x : AV} (hc : RCalls P f xs L x) : MCalls P f xs L (fun rs M => rs = [x] ∧ M = L) := by
 intro w h vs hz hr hl
 have key := hc w h vs hz hr hl
 have fin : ∀ v w',(∃ g',Ext w h.g w' g' ∧ RelA w' { h with g := g' } v x) → ∃ h1 r1 L1,(r1 = [x] ∧ L1 = L) ∧ RelRA w' h1 v r1 ∧ LocsOK (fun _ => True) w' h1 L1 ∧ Chg L L1 w h w' h1 := by
  rintro v w' ⟨g',he,hR⟩
  have tr := x80 (B := fun _ => True) hz (fun _ _ => trivial) he (fun _ => False)
  have hlok : ∀ l X,look L l = some X → LocOK (fun _ => True) w' { h with g := g' } l X ∧ inB { h with g := g' } l X = inB h l X := fun l X hX =>
   LocOK.trans tr (by simp) (fun hf => by cases hf) (fun b _ hno => hno) (hl.1 l X hX)
  refine ⟨{ h with g := g' },_,_,⟨rfl,rfl⟩,hR,⟨fun l X hX => (hlok l X hX).1,fun l l' X X' b hne h1 h2 => ?_⟩,⟨he.belowS,fun b hlt _ => he.gam b hlt,he.gz,he.keep hz,fun _ _ _ => rfl,fun _ _ _ => .inr ⟨rfl,rfl⟩,fun b ⟨l,X,h1,h2⟩ => .inr ⟨l,X,h1,?_⟩⟩⟩
  ·rw [(hlok l X h1).2,(hlok l' X' h2).2]
   exact hl.2 l l' X X' b hne h1 h2
  ·rw [(hlok l X h1).2] at h2;exact h2
 unfold CallRes at *
 split at key
 ·exact key.mono fun e w' ⟨v,he,hR⟩ => ⟨v,he,fin v w' hR⟩
 ·exact fin _ _ key
 ·exact key.elim
end Go.Proofs.Ytbamjcnhmmgnlaa.AL
namespace Go.Proofs.Ytbamjcnhmmgnlaa.AL
open Go.RowKit
variable {P : Program}
inductive RdD (M : Nat → Option Ent) : Dat → Dat → Prop
 | refl (d : Dat) : RdD M d d
 | sl (sz n : Nat) (f f' : Nat → List Dat) (hl : ∀ i,i < n → (f' i).length = (f i).length) (hr : ∀ (i j : Nat) (x y : Dat),i < n → (f i)[j]? = some x → (f' i)[j]? = some y → RdD M x y) : RdD M (.sl sz n f) (.sl sz n f')
 | row (b n c : Nat) (E : Ent) (f' : Nat → List Dat) (hM : M b = some E) (hn : n ≤ E.n) (hc : n ≤ c) (hl : ∀ i,i < n → (f' i).length = (E.f i).length)
   (hr : ∀ (i j : Nat) (x y : Dat),i < n → (E.f i)[j]? = some x → (f' i)[j]? = some y → RdD M x y) : RdD M (.v (.slice (some ⟨b,0,none⟩) n c)) (.sl E.sz n f')
 | nil (a : Option Addr) (c sz : Nat) (f : Nat → List Dat) : RdD M (.v (.slice a 0 c)) (.sl sz 0 f)
 | box (b : Nat) (E : Ent) (ds : List Dat) (hM : M b = some E) (hn : 0 < E.n) (hl : ds.length = E.sz)
   (hr : ∀ (j : Nat) (x y : Dat),(E.f 0)[j]? = some x → ds[j]? = some y → RdD M x y) : RdD M (.v (.pointer (some ⟨b,0,none⟩))) (.bx ds)
inductive RdP (M : Nat → Option Ent) : PV → PV → Prop
 | refl (x : PV) : RdP M x x
 | d {x y : Dat} (h : RdD M x y) : RdP M (.d x) (.d y)
 | agg (cs ds : List Dat) (hl : cs.length = ds.length) (hr : ∀ (j : Nat) x y,cs[j]? = some x → ds[j]? = some y → RdD M x y) : RdP M (.agg cs) (.agg ds)
def iced (g : Nat → Nat) (M : Nat → Option Ent) (b : Nat) : Nat := match M b with
 | some E => E.cap * E.sz
 | none => g b
def lowered (g : Nat → Nat) (M : Nat → Option Ent) (b : Nat) : Nat := match M b with
 | some _ => 0
 | none => g b
structure Arena (w : World) (g : Nat → Nat) (M : Nat → Option Ent) : Prop where
 ok : ∀ b E,M b = some E → EntOK w g b E
 g0 : ∀ b E,M b = some E → g b = 0
section
variable {w : World} {g : Nat → Nat} {M : Nat → Option Ent}
theorem q30 (hA : Arena w g M) : Keep w g w (iced g M) := by
 refine ⟨fun b => ?_,fun b o _ => rfl⟩
 unfold iced
 split
 ·rename_i E hE;rw [hA.g0 b E hE];exact Nat.zero_le _
 ·exact Nat.le_refl _
theorem Arena.lt (hA : Arena w g M) {b : Nat} {E : Ent} (h : M b = some E) : b < w.heap.size := by
 obtain ⟨cur,hh,_⟩ := hA.ok b E h;exact (Array.getElem?_eq_some_iff.1 hh).1
theorem q45 (hA : Arena w g M) (hz : GZ w g) : GZ w (iced g M) := by
 intro b hb
 unfold iced
 split
 ·rename_i E hE;have := hA.lt hE;omega
 ·exact hz b hb
theorem z59 (hA : Arena w g M) {x y : Dat} (h : RdD M x y) : ∀ {v : Value},RelD w g v x → RelD w (iced g M) v y := by
 induction h with
 | refl d => intro v r;exact r.keep (q30 hA)
 |sl sz n f f' hl hr ih =>
  intro v r
  cases r with
  | sl0 a c => exact .sl0 _ _ _ _
  |sl b off _ c _ _ u hn hl2 hc hg hr2 =>
   refine .sl b off n c sz f' u hn (fun i hi => (hl i hi).trans (hl2 i hi)) hc (Nat.le_trans hg ((q30 hA).gam b)) (fun i j y hi hy => ?_)
   have hj : j < (f i).length := by rw [← hl i hi];exact (List.getElem?_eq_some_iff.1 hy).1
   exact ih i j _ y hi (List.getElem?_eq_getElem hj) hy (hr2 i j _ hi (List.getElem?_eq_getElem hj))
 |row b n c E f' hM hn hc hl hr ih =>
  intro v r
  cases r
  obtain ⟨cur,q1,q2,q3,q4,q5⟩ := hA.ok b E hM
  have hnE : n * E.sz ≤ E.n * E.sz := Nat.mul_le_mul_right _ hn
  have hcE : E.n * E.sz ≤ E.cap * E.sz := Nat.mul_le_mul_right _ q3
  refine .sl b 0 n c E.sz f' (fun i j => (cur[i * E.sz + j]?).getD undef) hc (fun i hi => (hl i hi).trans (q5.1 i (by omega))) (fun i j hi hj => ?_) ?_ (fun i j y hi hy => ?_)
  ·obtain ⟨u,d,k1,k2,k3⟩ := q5.at (i := i) (j := j) (by omega) hj
   rw [Nat.zero_add,z15 q1,k2];rfl
  ·simp only [iced,hM];omega
  ·have hj : j < (E.f i).length := by rw [← hl i hi];exact (List.getElem?_eq_some_iff.1 hy).1
   obtain ⟨u,k1,k2⟩ := q5.cell (i := i) (j := j) (by omega) (by rw [← q5.1 i (by omega)];exact hj) (List.getElem?_eq_getElem hj)
   rw [k1]
   exact ih i j _ y hi (List.getElem?_eq_getElem hj) hy k2
 | nil a c sz f => intro v r;cases r;exact .sl0 _ _ _ _
 |box b E ds hM hn hl hr ih =>
  intro v r
  cases r
  obtain ⟨cur,q1,q2,q3,q4,q5⟩ := hA.ok b E hM
  have hcE : 1 * E.sz ≤ E.cap * E.sz := Nat.mul_le_mul_right _ (by omega)
  have hf := q5.1 0 hn
  refine .bx b 0 ds (fun j => (cur[j]?).getD undef) (fun j hj => ?_) ?_ (fun j y hy => ?_)
  ·obtain ⟨u,d,k1,k2,k3⟩ := q5.at (i := 0) (j := j) hn (by omega)
   rw [Nat.zero_mul,Nat.zero_add] at k2
   rw [Nat.zero_add,z15 q1,k2];rfl
  ·simp only [iced,hM];omega
  ·have hj : j < (E.f 0).length := by rw [hf,← hl];exact (List.getElem?_eq_some_iff.1 hy).1
   obtain ⟨u,k1,k2⟩ := q5.cell (i := 0) (j := j) hn (by rw [← hf];exact hj) (List.getElem?_eq_getElem hj)
   rw [Nat.zero_mul,Nat.zero_add] at k1
   rw [k1]
   exact ih j _ y (List.getElem?_eq_getElem hj) hy k2
theorem q130 (hA : Arena w g M) {x y : PV} (h : RdP M x y) {v : Value} (r : RelP w g v x) : RelP w (iced g M) v y := by
 cases h with
 | refl x => exact r.keep (q30 hA)
 | d h => cases r with | d _ _ r => exact .d _ _ (z59 hA h r)
 |agg cs ds hl hr =>
  cases r with
  |agg vs _ hl2 hr2 =>
   refine .agg vs ds (hl2.trans hl) fun j v y hv hy => ?_
   have hj : j < cs.length := by rw [hl];exact (List.getElem?_eq_some_iff.1 hy).1
   exact z59 hA (hr j _ y (List.getElem?_eq_getElem hj) hy) (hr2 j v _ hv (List.getElem?_eq_getElem hj))
end
def Dat.flat : Dat → Prop
 | .v _ => True
 | _ => False
def PV.flat : PV → Prop
 | .d x => x.flat
 | .agg cs => ∀ c ∈ cs,c.flat
 | _ => False
def AV.flat : AV → Prop
 | .p x => x.flat
 | .gr .. => False
 | .tup xs => ∀ x ∈ xs,x.flat
 | .cl .. => False
 | .ag _ => False
 | _ => True
def LV.flat : LV → Prop
 | .cells _ cs => ∀ c ∈ cs,c.flat
 | .own _ _ n _ f => ∀ i,i < n → ∀ d ∈ f i,d.flat
 | _ => False
theorem z45 {w w' : World} {g g' : Nat → Nat} {v : Value} {d : Dat} (hd : d.flat) (r : RelD w g v d) : RelD w' g' v d := by
 cases r with
 | v _ h => exact .v _ h
 | _ => exact hd.elim
theorem x59 {w w' : World} {g g' : Nat → Nat} {v : Value} {x : PV} (hx : x.flat) (r : RelP w g v x) : RelP w' g' v x := by
 cases r with
 | d _ _ r => exact .d _ _ (z45 hx r)
 | agg vs cs hl hr => exact .agg vs cs hl fun j v x hv hc => z45 ((show ∀ c ∈ cs,c.flat from hx) x (List.mem_of_getElem? hc)) (hr j v x hv hc)
 | _ => exact hx.elim
theorem j80 {w w' : World} {h h' : Gh} {v : Value} {x : AV} (hx : x.flat) (e1 : h'.ρ = h.ρ) (e2 : h'.κ = h.κ) (e3 : h'.μ = h.μ) (r : RelA w h v x) : RelA w' h' v x := by
 cases x with
 | p x => exact x59 hx r
 | gr => exact hx.elim
 | cl => exact hx.elim
 | ag => exact hx.elim
 |tup xs =>
  obtain ⟨vs,hv,hl,hr⟩ := r
  exact ⟨vs,hv,hl,fun j v x hv hc => x59 ((show ∀ x ∈ xs,x.flat from hx) x (List.mem_of_getElem? hc)) (hr j v x hv hc)⟩
 | _ => first | exact r | (simp only [RelA,RelOw,e1,e2,e3] at *;exact r)
theorem z130 {O : Nat → Prop} {w : World} {h h' : Gh} {l : Nat} {X : LV} (hX : X.flat) (e1 : h'.ρ = h.ρ) (e2 : h'.κ = h.κ) (e3 : h'.μ = h.μ) (hg : ∀ b,inB h l X b → h'.g b = h.g b) (r : LocOK O w h l X) : LocOK O w h' l X := by
 cases X with
 |cells e cs =>
  obtain ⟨arr,h1,h2,h3,h4,h5⟩ := r
  refine ⟨arr,by rw [e1];exact h1,by rw [e1];exact h2,h3,by rw [e1,hg _ rfl];exact h4,fun i v x hv hx => ⟨j80 ((show ∀ c ∈ cs,c.flat from hX) x (List.mem_of_getElem? hx)) e1 e2 e3 (h5 i v x hv hx).1,(h5 i v x hv hx).2⟩⟩
 |own e sz n gen f =>
  obtain ⟨h1,⟨xs,h2,h3⟩,h4⟩ := r
  refine ⟨by rw [e3];exact h1,⟨xs,by rw [e2];exact h2,h3.1,fun i j d hi hj hd => ?_⟩,fun b hb => ?_⟩
  ·obtain ⟨u,k1,k2⟩ := h3.2 i j d hi hj hd
   exact ⟨u,k1,z45 ((show ∀ i,i < n → ∀ d ∈ f i,d.flat from hX) i hi d (List.mem_of_getElem? hd)) k2⟩
  ·rw [e2] at hb
   rw [hg b (by simpa [inB] using hb)]
   exact h4 b hb
 | _ => exact hX.elim
def RdA (M : Nat → Option Ent) : AV → AV → Prop
 | .p x,.p y => RdP M x y
 | x,y => x = y
theorem RdA.refl (M : Nat → Option Ent) (x : AV) : RdA M x x := by cases x <;> first | rfl | exact RdP.refl _
theorem RdA.p {M : Nat → Option Ent} {x y : PV} (h : RdP M x y) : RdA M (.p x) (.p y) := h
inductive RdAs (M : Nat → Option Ent) : List AV → List AV → Prop
 | nil : RdAs M [] []
 | cons {x y : AV} {xs ys : List AV} (h : RdA M x y) (t : RdAs M xs ys) : RdAs M (x :: xs) (y :: ys)
theorem RdAs.refl (M : Nat → Option Ent) : ∀ xs,RdAs M xs xs
 | [] => .nil
 | x :: xs => .cons (RdA.refl M x) (RdAs.refl M xs)
theorem x130 {w : World} {h : Gh} {M : Nat → Option Ent} (hA : Arena w h.g M) {v : Value} {x : AV} (r : RelA w h v x) : RelA w { h with g := iced h.g M } v x := by
 have k := q30 hA
 have kc : ∀ (vs : List Value) (cs : List CV),RelCs w h vs cs → RelCs w { h with g := iced h.g M } vs cs := by
  intro vs cs r
  refine ⟨r.1,fun j v c hv hc => ?_⟩
  have r := r.2 j v c hv hc
  cases c with
  | p x => exact RelP.keep k r
  | _ => exact r
 cases x with
 | p x => exact RelP.keep k r
 | gr l gen sz n f => exact ⟨r.1.keep k,r.2⟩
 | cl f a b => obtain ⟨vs,us,e,h1,h2⟩ := r;exact ⟨vs,us,e,kc _ _ h1,kc _ _ h2⟩
 | ag cs => obtain ⟨vs,h1,h2,h3⟩ := r;exact ⟨vs,h1,kc _ _ h2,h3⟩
 | tup xs => obtain ⟨vs,hv,hr⟩ := r;exact ⟨vs,hv,hr.keep k⟩
 | _ => exact r
theorem j130 {w : World} {h : Gh} {M : Nat → Option Ent} (hA : Arena w h.g M) {x y : AV} (hx : RdA M x y) {v : Value} (r : RelA w h v x) : RelA w { h with g := iced h.g M } v y := by
 cases x with
 |p x =>
  cases y with
  | p y => exact q130 hA hx r
  | _ => cases hx
 |_ =>
  unfold RdA at hx
  subst hx
  exact x130 hA r
theorem q81 {w : World} {h : Gh} {M : Nat → Option Ent} (hA : Arena w h.g M) {xs ys : List AV} (hx : RdAs M xs ys) : ∀ {vs : List Value},RelAs w h vs xs → RelAs w { h with g := iced h.g M } vs ys := by
 induction hx with
 | nil => intro vs r;exact ⟨r.1,fun j v x hv hx => by simp at hx⟩
 |cons hx t ih =>
  intro vs r
  cases vs with
  | nil => simp [RelAs] at r
  |cons v vs =>
   have r2 := ih r.tail
   refine ⟨by simpa using r2.1,fun j u z hu hz => ?_⟩
   cases j with
   | zero => simp at hu hz;subst hu;subst hz;exact j130 hA hx (r.2 0 v _ rfl rfl)
   | succ j => exact r2.2 j u z (by simpa using hu) (by simpa using hz)
theorem j59 {O : Nat → Prop} {w : World} {h : Gh} {l : Nat} {M : Nat → Option Ent} (k : LocOK O w h l (.raw M)) : Arena w h.g M := ⟨fun b E hb => (k b E hb).2.1,fun b E hb => (k b E hb).2.2⟩
theorem q131 {B : Nat → Prop} {w : World} {h : Gh} {M : Nat → Option Ent} (hA : Arena w h.g M) (hz : GZ w h.g) (hO : ∀ b E,M b = some E → B b) : Trans B w h w { h with g := iced h.g M } (fun b => M b ≠ none) none false := by
 refine ⟨BelowS.refl _ _,fun b _ hb => ⟨rfl,?_⟩,q30 hA,q45 hA hz,fun b hb => ?_,fun _ _ => rfl,fun _ _ => ⟨rfl,rfl⟩,fun l hl => by cases hl⟩
 ·have : M b = none := Classical.byContradiction hb
  simp [iced,this]
 ·have : M b = none := by
   cases hM : M b with
   | none => rfl
   | some E => exact absurd (hO b E hM) hb
  simp [iced,this]
theorem LocOK.iced {B : Nat → Prop} {w : World} {h : Gh} {M : Nat → Option Ent} (hA : Arena w h.g M) (hz : GZ w h.g) (hO : ∀ b E,M b = some E → B b) {l : Nat} {X : LV} (hX : ∀ b,inB h l X b → M b = none) (k : LocOK B w h l X) : LocOK B w { h with g := iced h.g M } l X :=
 (LocOK.trans (q131 hA hz hO) (by simp) (fun hf => by cases hf) (fun b hb => by simp [hX b hb]) k).1
theorem x34 {g : Nat → Nat} {M : Nat → Option Ent} {b : Nat} (h : M b = none) : lowered g M b = g b := by simp [lowered,h]
theorem x45 {h : Gh} {g : Nat → Nat} {l : Nat} {X : LV} : inB { h with g := g } l X = inB h l X := by cases X <;> rfl
theorem MCalls.borrow {f : FuncId} {xs ys : List AV} {L : List (Nat × LV)} {Q : List AV → List (Nat × LV) → Prop} {M : Nat → Option Ent} (hc : MCalls P f ys L Q) (hx : RdAs M xs ys) (hL9 : look L 1999 = none)
  (hQ : ∀ rs L',Q rs L' → (∀ x ∈ rs,x.flat ∧ 1999 ∉ x.mentions) ∧ look L' 1999 = none ∧ ∀ l X,look L' l = some X → X.flat ∧ 1999 ∉ X.mentions) :
  MCalls P f xs ((1999,.raw M) :: L) (fun rs L2 => ∃ L',Q rs L' ∧ L2 = (1999,.raw M) :: L') := by
 intro w h vs hz hr hl
 have hA := j59 (hl.1 1999 (.raw M) (by simp [look]))
 let h2 : Gh := { h with g := iced h.g M }
 have hsub : ∀ l X,look L l = some X → look ((1999,LV.raw M) :: L) l = some X ∧ l ≠ 1999 := by
  intro l X hX
  have : l ≠ 1999 := fun e => by subst e;rw [hL9] at hX;cases hX
  exact ⟨by simp only [look];rw [if_neg (fun e => this e.symm)];exact hX,this⟩
 have hfree : ∀ l X,look L l = some X → ∀ b,inB h l X b → M b = none := by
  intro l X hX b hb
  obtain ⟨k1,k2⟩ := hsub l X hX
  have := hl.2 l 1999 X (.raw M) b k2 k1 (by simp [look]) hb
  simp only [inB] at this
  exact Classical.byContradiction fun e => this e
 have key := hc w h2 vs (q45 hA hz) (q81 hA hx hr) ⟨fun l X hX => LocOK.iced hA hz (fun _ _ _ => trivial) (hfree l X hX) (hl.1 l X (hsub l X hX).1),fun l l' X X' b hne e1 e2 hb hb' => by
  rw [x45] at hb hb'
  exact hl.2 l l' X X' b hne (hsub l X e1).1 (hsub l' X' e2).1 hb hb'⟩
 have hown2 : ∀ b,ownB h2 L b → ownB h ((1999,.raw M) :: L) b := by
  rintro b ⟨l,X,hX,hb⟩
  rw [x45] at hb
  exact ⟨l,X,(hsub l X hX).1,hb⟩
 have hownM : ∀ b,M b ≠ none → ownB h ((1999,.raw M) :: L) b := fun b hb => ⟨1999,.raw M,by simp [look],hb⟩
 have hnoM : ∀ b,M b ≠ none → b < w.heap.size ∧ ¬ ownB h2 L b := by
  intro b hb
  cases hE : M b with
  | none => exact absurd hE hb
  |some E =>
   refine ⟨hA.lt hE,?_⟩
   rintro ⟨l,X,hX,hb2⟩
   rw [x45] at hb2
   rw [hfree l X hX b hb2] at hE;cases hE
 have fin : ∀ v w',(∃ h' rs L',Q rs L' ∧ RelRA w' h' v rs ∧ LocsOK (fun _ => True) w' h' L' ∧ Chg L L' w h2 w' h') →
   ∃ h' rs L2,(∃ L',Q rs L' ∧ L2 = (1999,LV.raw M) :: L') ∧ RelRA w' h' v rs ∧ LocsOK (fun _ => True) w' h' L2 ∧ Chg ((1999,.raw M) :: L) L2 w h w' h' := by
  rintro v w' ⟨h',rs,L',hq,h1,h3,h4⟩
  obtain ⟨f1,f2,f3⟩ := hQ rs L' hq
  let h4' : Gh := { h' with g := lowered h'.g M }
  let h5 : Gh := ⟨lowered h'.g M,fun l => if l = 1999 then h.ρ l else h'.ρ l,fun l => if l = 1999 then h.κ l else h'.κ l,fun l => if l = 1999 then h.μ l else h'.μ l⟩
  have h45 : ∀ l,l ≠ 1999 → h4'.ρ l = h5.ρ l ∧ h4'.κ l = h5.κ l ∧ h4'.μ l = h5.μ l := fun l hl => by simp [h4',h5,hl]
  have h45m : ∀ (ms : List Nat),1999 ∉ ms → ∀ l ∈ ms,h4'.ρ l = h5.ρ l ∧ h4'.κ l = h5.κ l ∧ h4'.μ l = h5.μ l := fun ms hms l hl => h45 l fun e => hms (e ▸ hl)
  have hkeep : Keep w h.g w' h5.g := by
   refine ⟨fun b => ?_,fun b o ho => ?_⟩
   ·show h.g b ≤ lowered h'.g M b
    unfold lowered
    cases hE : M b with
    | none => have := h4.keep.gam b;simpa [h2,iced,hE] using this
    | some E => simp [hA.g0 b E hE]
   ·cases hE : M b with
    | none => exact h4.keep.cell b o (by simpa [h2,iced,hE] using ho)
    | some E => rw [hA.g0 b E hE] at ho;omega
  have hL'M : ∀ l X,look L' l = some X → ∀ b,inB h' l X b → M b = none := by
   intro l X hX b hb
   rcases h4.own b ⟨l,X,hX,hb⟩ with hge | ho
   ·cases hE : M b with
    | none => rfl
    | some E => have := hA.lt hE;omega
   ·exact Classical.byContradiction fun e => (hnoM b e).2 ho
  have hsub' : ∀ l X,look ((1999,LV.raw M) :: L') l = some X → (l = 1999 ∧ X = .raw M) ∨ (l ≠ 1999 ∧ look L' l = some X) := by
   intro l X hX
   simp only [look] at hX
   split at hX
   ·rename_i e;cases hX;exact .inl ⟨e.symm,rfl⟩
   ·rename_i e;exact .inr ⟨fun e' => e e'.symm,hX⟩
  have hlo : ∀ l X,look L' l = some X → LocOK (fun _ => True) w' h5 l X ∧ inB h5 l X = inB h' l X := fun l X hX =>
   have hl9 : l ≠ 1999 := fun e => by subst e;rw [f2] at hX;cases hX
   ⟨z56 (h := h4') (k := h5) rfl (h45 l hl9) (h45m _ (f3 l X hX).2) (z130 (h := h') (f3 l X hX).1 rfl rfl rfl (fun b hb => x34 (hL'M l X hX b hb)) (h3.1 l X hX)),(x56 (h45 l hl9)).symm.trans x45⟩
  refine ⟨h5,rs,_,⟨L',hq,rfl⟩,?_,⟨fun l X hX => ?_,fun l l' X X' b hne e1 e2 hb hb' => ?_⟩,?_⟩
  ·have one : ∀ u x,x ∈ rs → RelA w' h' u x → RelA w' h5 u x := fun u x hx r => j29 (h := h4') (k := h5) rfl (h45m _ (f1 x hx).2) (j80 (h := h') (f1 x hx).1 rfl rfl rfl r)
   have many : ∀ us,RelAs w' h' us rs → RelAs w' h5 us rs := fun us r => ⟨r.1,fun j u x hu hx => one u x (List.mem_of_getElem? hx) (r.2 j u x hu hx)⟩
   match rs,h1,one,many with
   | [x],h1,one,_ => exact one v x (by simp) h1
   | [],⟨us,e,r⟩,_,many => exact ⟨us,e,many us r⟩
   | _ :: _ :: _,⟨us,e,r⟩,_,many => exact ⟨us,e,many us r⟩
  ·rcases hsub' l X hX with ⟨rfl,rfl⟩ | ⟨_,hX'⟩
   ·intro b E hE
    have hb := hnoM b (by simp [hE])
    refine ⟨trivial,EntOK.keep hkeep (h4.below.block b hb.1 hb.2) (hA.ok b E hE),?_⟩
    show lowered h'.g M b = 0
    simp [lowered,hE]
   ·exact (hlo l X hX').1
  ·rcases hsub' l X e1 with ⟨rfl,rfl⟩ | ⟨_,hX'⟩ <;> rcases hsub' l' X' e2 with ⟨e',rfl⟩ | ⟨_,hX2⟩
   ·exact hne e'.symm
   ·rw [(hlo l' X' hX2).2] at hb'
    exact hb (hL'M l' X' hX2 b hb')
   ·rw [(hlo l X hX').2] at hb
    exact hb' (hL'M l X hX' b hb)
   ·rw [(hlo l X hX').2] at hb
    rw [(hlo l' X' hX2).2] at hb'
    exact h3.2 l l' X X' b hne hX' hX2 hb hb'
  ·refine ⟨⟨h4.below.os,h4.below.tape,h4.below.output,h4.below.size,fun k hk hno => h4.below.block k hk fun ho => hno (hown2 k ho)⟩,fun b hb hno => ?_,fun b hb => ?_,hkeep,fun l X hX => ?_,fun l X hX => ?_,fun b ⟨l,X,hX,hb⟩ => ?_⟩
   ·have hM : M b = none := Classical.byContradiction fun e => hno (hownM b e)
    show lowered h'.g M b = h.g b
    rw [x34 hM,h4.gam b hb fun ho => hno (hown2 b ho)]
    simp [h2,iced,hM]
   ·have hM : M b = none := by
     cases hE : M b with
     | none => rfl
     | some E => have := hA.lt hE;have := h4.below.size;omega
    show lowered h'.g M b = 0
    rw [x34 hM];exact h4.gz b hb
   ·simp only [look] at hX
    split at hX
    ·rename_i e;subst e;simp [h5]
    ·rename_i e
     have := h4.ρ l X hX
     simp only [h5,if_neg (fun e' => e (Eq.symm e'))];exact this
   ·simp only [look] at hX
    split at hX
    ·rename_i e;subst e;exact .inr (by simp [h5])
    ·rename_i e
     have := h4.up l X hX
     simp only [h5,if_neg (fun e' => e (Eq.symm e'))];exact this
   ·rcases hsub' l X hX with ⟨rfl,rfl⟩ | ⟨_,hX'⟩
    ·exact .inr (hownM b hb)
    ·rw [(hlo l X hX').2] at hb
     rcases h4.own b ⟨l,X,hX',hb⟩ with hge | ho
     ·exact .inl hge
     ·exact .inr (hown2 b ho)
 unfold CallRes at *
 split at key
 ·exact key.mono fun e w' ⟨v,he,hh⟩ => ⟨v,he,fin v w' hh⟩
 ·exact fin _ _ key
 ·exact key.elim
theorem z81 {w : World} {h : Gh} {vs : List Value} {xs : List PV} (r : RelAs w h vs (xs.map .p)) : RelPs w h.g vs xs :=
 ⟨by simpa using r.1,fun j v x hv hx => r.2 j v (.p x) hv (by rw [List.getElem?_map,hx];rfl)⟩
theorem x131 {w : World} {h : Gh} {v : Value} {rs : List PV} (r : RelR w h.g v rs) : RelRA w h v (rs.map .p) := by
 have many : ∀ us,RelPs w h.g us rs → RelAs w h us (rs.map .p) := fun us r => ⟨by simpa using r.1,fun j u x hu hx => by
  rw [List.getElem?_map] at hx
  cases hj : rs[j]? with
  | none => rw [hj] at hx;cases hx
  | some y => rw [hj] at hx;cases hx;exact r.2 j u y hu hj⟩
 match rs,r,many with
 | [x],r,_ => exact r
 | [],⟨us,e,r⟩,many => exact ⟨us,e,many us r⟩
 | _ :: _ :: _,⟨us,e,r⟩,many => exact ⟨us,e,many us r⟩
theorem j131 {f : FuncId} {xs rs : List PV} (hc : ACalls P f xs (· = rs)) : MCalls P f (xs.map .p) [] (fun r L => r = rs.map .p ∧ L = []) := by
 intro w h vs hz hr hl
 have key := q34.1 hc w h.g vs hz (z81 hr)
 have fin : ∀ v w',(∃ g' rs',Ext w h.g w' g' ∧ rs' = rs ∧ RelR w' g' v rs') → ∃ h' r L',(r = rs.map .p ∧ L' = []) ∧ RelRA w' h' v r ∧ LocsOK (fun _ => True) w' h' L' ∧ Chg [] L' w h w' h' := by
  rintro v w' ⟨g',_,he,rfl,hR⟩
  refine ⟨{ h with g := g' },_,[],⟨rfl,rfl⟩,x131 hR,⟨fun l X hX => (by cases hX),fun l l' X X' b _ hX => (by cases hX)⟩,?_⟩
  exact ⟨he.belowS,fun b hb _ => he.gam b hb,he.gz,he.keep hz,fun l X hX => (by cases hX),fun l X hX => (by cases hX),fun b ⟨l,X,hX,_⟩ => (by cases hX)⟩
 unfold CallRes at *
 split at key
 ·exact key.mono fun e w' ⟨v,he,hh⟩ => ⟨v,he,fin v w' hh⟩
 ·exact fin _ _ key
 ·exact key.elim
inductive RdPs (M : Nat → Option Ent) : List PV → List PV → Prop
 | nil : RdPs M [] []
 | cons {x y : PV} {xs ys : List PV} (h : RdP M x y) (t : RdPs M xs ys) : RdPs M (x :: xs) (y :: ys)
theorem RdPs.as {M : Nat → Option Ent} {xs ys : List PV} (h : RdPs M xs ys) : RdAs M (xs.map .p) (ys.map .p) := by
 induction h with
 | nil => exact .nil
 | cons h t ih => exact .cons (RdA.p h) ih
theorem ACalls.borrow {f : FuncId} {xs ys rs : List PV} {M : Nat → Option Ent} (hc : ACalls P f ys (· = rs)) (hx : RdPs M xs ys) (hr : ∀ r ∈ rs,r.flat) :
  MCalls P f (xs.map .p) [(1999,.raw M)] (fun r L => r = rs.map .p ∧ L = [(1999,.raw M)]) := by
 refine (MCalls.borrow (j131 hc) hx.as rfl ?_).mono ?_
 ·rintro r L ⟨rfl,rfl⟩
  refine ⟨fun x hx => ?_,rfl,fun l X hX => by cases hX⟩
  obtain ⟨y,hy,rfl⟩ := List.mem_map.1 hx
  exact ⟨hr y hy,by simp [AV.mentions]⟩
 ·rintro r L ⟨L',⟨rfl,rfl⟩,rfl⟩;exact ⟨rfl,rfl⟩
theorem RCalls.borrow {f : FuncId} {xs ys : List PV} {y : PV} {M : Nat → Option Ent} (hc : ACalls P f ys (· = [y])) (hx : RdPs M xs ys) (hy : y.flat) : RCalls P f (xs.map .p) [(1999,.raw M)] (.p y) := by
 intro w h vs hz hr hl
 have hA := j59 (hl.1 1999 (.raw M) (by simp [look]))
 have hr2 := q81 hA hx.as hr
 have key := q34.1 hc w (iced h.g M) vs (q45 hA hz) (z81 hr2)
 have fin : ∀ v w',(∃ g' rs',Ext w (iced h.g M) w' g' ∧ rs' = [y] ∧ RelR w' g' v rs') → ∃ g',Ext w h.g w' g' ∧ RelA w' { h with g := g' } v (.p y) := by
  rintro v w' ⟨g',_,he,rfl,hR⟩
  refine ⟨lowered g' M,⟨he.below,fun b hb => ?_,fun b hb => ?_⟩,x59 hy hR⟩
  ·cases hE : M b with
   | none => rw [x34 hE,he.gam b hb];simp [iced,hE]
   | some E => simp [lowered,hE,hA.g0 b E hE]
  ·cases hE : M b with
   | none => rw [x34 hE];exact he.gz b hb
   | some E => simp [lowered,hE]
 unfold CallRes at *
 split at key
 ·exact key.mono fun e w' ⟨v,he,hh⟩ => ⟨v,he,fin v w' hh⟩
 ·exact fin _ _ key
 ·exact key.elim
end Go.Proofs.Ytbamjcnhmmgnlaa.AL
namespace Go.Proofs.Ytbamjcnhmmgnlaa.AL
open Go.RowKit
def GrowsM (M M2 : Nat → Option Ent) : Prop := ∀ b E,M b = some E → M2 b = some E
theorem GrowsM.refl (M : Nat → Option Ent) : GrowsM M M := fun _ _ h => h
theorem GrowsM.trans {M M2 M3 : Nat → Option Ent} (h : GrowsM M M2) (k : GrowsM M2 M3) : GrowsM M M3 := fun b E e => k b E (h b E e)
def HoldR (M : Nat → Option Ent) (e : TypeId) (sz n : Nat) (f : Nat → List Dat) (v : Value) : Prop :=
 (n = 0 ∧ ∃ a c,v = .slice a 0 c) ∨ ∃ b c cap f',v = .slice (some ⟨b,0,none⟩) n c ∧ n ≤ c ∧ M b = some ⟨e,sz,cap,n,f'⟩ ∧ ∀ k,k < n → f' k = f k
theorem HoldR.mono {M M2 : Nat → Option Ent} {e : TypeId} {sz n : Nat} {f : Nat → List Dat} {v : Value} (hM : GrowsM M M2) (h : HoldR M e sz n f v) : HoldR M2 e sz n f v := by
 rcases h with h | ⟨b,c,cap,f',h1,h2,h3,h4⟩
 ·exact .inl h
 ·exact .inr ⟨b,c,cap,f',h1,h2,hM b _ h3,h4⟩
theorem HoldR.rd {M : Nat → Option Ent} {e : TypeId} {sz n : Nat} {f : Nat → List Dat} {v : Value} (h : HoldR M e sz n f v) : RdD M (.v v) (.sl sz n f) := by
 rcases h with ⟨rfl,a,c,rfl⟩ | ⟨b,c,cap,f',rfl,h2,h3,h4⟩
 ·exact .nil _ _ _ _
 ·refine .row b n c ⟨e,sz,cap,n,f'⟩ f h3 (Nat.le_refl _) h2 (fun i hi => by show (f i).length = (f' i).length;rw [h4 i hi]) fun i j x y hi hx hy => ?_
  simp only [] at hx
  rw [h4 i hi,hy] at hx
  cases hx
  exact .refl _
theorem HoldR.slice {M : Nat → Option Ent} {e : TypeId} {sz n : Nat} {f : Nat → List Dat} {v : Value} (h : HoldR M e sz n f v) : ∃ a c,v = .slice a n c := by
 rcases h with ⟨rfl,a,c,rfl⟩ | ⟨b,c,cap,f',rfl,_⟩
 ·exact ⟨_,_,rfl⟩
 ·exact ⟨_,_,rfl⟩
def rowVal (s : Nat → Value) : Nat → List Dat := fun i => [.v (s i)]
def RowsM (M : Nat → Option Ent) (e : TypeId) (sz : Nat) (len : Nat → Nat) (f : Nat → Nat → List Dat) (s : Nat → Value) (n : Nat) : Prop := ∀ i,i < n → HoldR M e sz (len i) (f i) (s i)
theorem RowsM.mono {M M2 : Nat → Option Ent} {e : TypeId} {sz : Nat} {len : Nat → Nat} {f : Nat → Nat → List Dat} {s : Nat → Value} {n : Nat} (hM : GrowsM M M2) (h : RowsM M e sz len f s n) : RowsM M2 e sz len f s n := fun i hi => (h i hi).mono hM
theorem RowsM.rd {M : Nat → Option Ent} {e : TypeId} {sz : Nat} {len : Nat → Nat} {f : Nat → Nat → List Dat} {s : Nat → Value} {n : Nat} (h : RowsM M e sz len f s n) {F : Nat → List Dat} (hF : ∀ i,i < n → F i = [.sl sz (len i) (f i)]) : RdD M (.sl 1 n (rowVal s)) (.sl 1 n F) := by
 refine .sl _ _ _ _ (fun i hi => by rw [hF i hi];rfl) fun i j x y hi hx hy => ?_
 rw [hF i hi] at hy
 unfold rowVal at hx
 cases j with
 | zero => simp at hx hy;subst hx;subst hy;exact (h i hi).rd
 | succ j => simp at hx
def Shape (sz : Nat) (js : List Nat) (ds : List Dat) : Prop := ds.length = sz ∧ ∀ j,j ∈ js → ∃ x,ds[j]? = some (.v (.int .i64 x))
def HoldS (M : Nat → Option Ent) (e : TypeId) (sz : Nat) (js : List Nat) (n : Nat) (v : Value) : Prop :=
 (n = 0 ∧ ∃ a c,v = .slice a 0 c) ∨ ∃ b c cap f',v = .slice (some ⟨b,0,none⟩) n c ∧ n ≤ c ∧ M b = some ⟨e,sz,cap,n,f'⟩ ∧ ∀ k,k < n → Shape sz js (f' k)
theorem Shape.put {sz : Nat} {js : List Nat} {ds : List Dat} (h : Shape sz js ds) (j : Nat) (hj : j < sz) (x : Int) : Shape sz js (ds.take j ++ [.v (.int .i64 x)] ++ ds.drop (j + [Dat.v (.int .i64 x)].length)) := by
 have hl := h.1
 have hg := x20 ds [.v (.int .i64 x)] j (by simp;omega)
 refine ⟨by simp;omega,fun q hq => ?_⟩
 rw [hg q]
 split
 ·rename_i hh
  have : q = j := by simp at hh;omega
  subst this
  exact ⟨x,by simp⟩
 ·exact h.2 q hq
theorem HoldS.store {M : Nat → Option Ent} {e : TypeId} {sz n : Nat} {js : List Nat} {v : Value} (h : HoldS M e sz js n v) {b0 : Nat} {E : Ent} (hE : M b0 = some E) (i j : Nat) (x : Int) (hj : j < E.sz) : HoldS (setM M b0 (some { E with f := putEl E.f i j [.v (.int .i64 x)] })) e sz js n v := by
 rcases h with h | ⟨b,c,cap,f',h1,h2,h3,h4⟩
 ·exact .inl h
 ·by_cases hb : b = b0
  ·subst hb
   rw [h3] at hE
   cases hE
   refine .inr ⟨b,c,cap,_,h1,h2,q13 _ _ _,fun k hk => ?_⟩
   unfold putEl
   split
   ·rename_i e;subst e;exact (h4 k hk).put j hj x
   ·exact h4 k hk
  ·exact .inr ⟨b,c,cap,f',h1,h2,by rw [j12 _ _ hb];exact h3,h4⟩
def BorrowOK (lo : Option Nat) (E : Eff) : Prop := E.val.flat ∧ E.fresh = false ∧ lo ≠ some 1999 ∧ ∀ l L,E.upd = some (l,L) → L.flat ∧ lo = some l
theorem BorrowOK.own {l : Nat} {v : AV} {obl : Prop} {e : TypeId} {sz n g : Nat} {f : Nat → List Dat} (hv : v.flat) (hl : l ≠ 1999) (hf : ∀ i,i < n → ∀ d ∈ f i,d.flat) : BorrowOK (some l) ⟨v,obl,some (l,.own e sz n g f),false⟩ := by
 refine ⟨hv,rfl,fun e => hl (by cases e;rfl),fun l' L hu => ?_⟩
 cases hu
 exact ⟨hf,rfl⟩
section
variable (P : Program) (o : Oper) (A : ASt)
def stepB (ys : List AV) (K : Eff → Prop) : Prop :=
 match opEff P [] o ys (A.locAt (locNeed o ys)) with
 | some E => E.obl ∧ BorrowOK (locNeed o ys) E ∧ K E
 | none => False
end
attribute [go_sem] stepB
end Go.Proofs.Ytbamjcnhmmgnlaa.AL
namespace Go.Proofs.Ytbamjcnhmmgnlaa.AL
open Go.RowKit
variable {P : Program}
theorem Weak.ownBlk (A : ASt) (t l l2 gen sz n : Nat) (e : TypeId) (f : Nat → List Dat) (ht : look A.fr t = some (.ow l gen sz n)) (hl : look A.locs l = some (.own e sz n gen f)) (hn : 0 < n) (hu : unusedB A l2 = true) (hno : look A.locs l2 = none) :
  Weak A ⟨(t,.row l2 sz 0 n) :: A.fr,(l2,.blk e sz n f) :: dropL l A.locs⟩ := by
 intro w0 g0 nt h a w r
 have hL := r.locs l _ hl
 obtain ⟨q1,⟨va,vc,q2,q2'⟩,q3⟩ := r.fr t _ ht
 have hv := q3 hL.1
 obtain ⟨b,rfl⟩ := q2' hn
 have hb : (h.κ l).ownBlock = some b := by rw [← hv,q2];rfl
 obtain ⟨cap,cur,c1,c2,c3,c4,c5,c6,c7,c8⟩ := q27 hL hb
 let h' : Gh := { h with ρ := setG h.ρ l2 b }
 have un := z25 hu
 have tr : Trans w0.O w h w h' (fun _ => False) (some l2) true := by
  refine ⟨BelowS.refl _ _,fun b _ _ => ⟨rfl,rfl⟩,⟨fun b => Nat.le_refl _,fun b o _ => rfl⟩,r.gz,fun b _ => rfl,fun k hk => ?_,fun k hk => ⟨rfl,rfl⟩,fun k _ hf => by cases hf⟩
  have : k ≠ l2 := fun e => hk rfl (by rw [e])
  simp [h',setG,this]
 have nl : h'.ρ l2 = b := by simp [h',setG]
 have oldk : ∀ k L,k ≠ l2 → look A.locs k = some L → LocOK w0.O w h' k L ∧ inB h' k L = inB h k L := fun k L hne hk =>
  LocOK.trans tr (fun e => hne (by cases e;rfl)) (fun _ l' hl' hm => by cases hl';exact un.2.1 k L hk hm) (fun b _ => by simp) (r.locs k L hk)
 have old : ∀ k L,look ((l2,LV.blk e sz n f) :: dropL l A.locs) k = some L → (k = l2 ∧ L = .blk e sz n f) ∨ (k ≠ l2 ∧ k ≠ l ∧ look A.locs k = some L) := by
  intro k L hk
  simp only [look] at hk
  split at hk
  ·rename_i e;cases hk;exact .inl ⟨e.symm,rfl⟩
  ·rename_i e1
   obtain ⟨k1,k2⟩ := z44 hk
   exact .inr ⟨fun e => e1 e.symm,k1,k2⟩
 have hin2 : ∀ b',inB h' l2 (.blk e sz n f) b' → inB h l (.own e sz n gen f) b' := by
  intro b' hb'
  simp only [inB,nl] at hb' ⊢
  rw [hb,hb']
 refine ⟨h',r.size,r.defers,fun u y hy => ?_,fun k L hk => ?_,fun k k' L L' b' hkk hk hk' hb1 hb2 => ?_,r.ext,fun k hk => ?_⟩
 ·simp only [look] at hy
  split at hy
  ·rename_i e;subst e;cases hy
   exact ⟨cap,by rw [hv,c1,nl,Nat.zero_mul],c3⟩
  ·exact RelA.trans tr (fun _ l' hl' hm => by cases hl';exact un.1 u y hy hm) (r.fr u y hy)
 ·rcases old k L hk with ⟨rfl,rfl⟩ | ⟨n1,n2,h3⟩
  ·exact ⟨cap,by rw [nl];exact c7,by rw [nl];exact ⟨cur,c2,c5,c3,c4,c8⟩,by rw [nl];exact c6⟩
  ·exact (oldk k L n1 h3).1
 ·rcases old k L hk with ⟨rfl,rfl⟩ | ⟨n1,n2,h3⟩ <;> rcases old k' L' hk' with ⟨e',rfl⟩ | ⟨n1',n2',h3'⟩
  ·exact hkk e'.symm
  ·rw [(oldk k' L' n1' h3').2] at hb2
   exact r.sep l k' _ L' b' (fun e => n2' e.symm) hl h3' (hin2 b' hb1) hb2
  ·subst e'
   rw [(oldk k L n1 h3).2] at hb1
   exact r.sep l k _ L b' (fun e => n2 e.symm) hl h3 (hin2 b' hb2) hb1
  ·rw [(oldk k L n1 h3).2] at hb1
   rw [(oldk k' L' n1' h3').2] at hb2
   exact r.sep k k' L L' b' hkk h3 h3' hb1 hb2
 ·have : k ≠ l2 := by have := un.2.2;omega
  have e : h'.ρ k = h.ρ k := by simp [h',setG,this]
  rw [e]
  exact r.pin k hk
theorem q132 {o : Oper} {c : Call} {f : Operand} (ho : o.op = .call c) (hc : c.callee = .value f) {x0 x : AV} {g : FuncId} {pre post : List CV} (hx : calleeC x0 = some (g,pre,post)) {zs xs : List AV} (hargs : pre.map CV.av ++ zs ++ post.map CV.av = xs)
  {l0 d : Nat} {X : LV} (hcall : MCalls P g xs [] (fun r L => r = [x] ∧ L = [(l0,X)])) (hX : X.mentions = []) (hXr : X.ren (fun _ => d) = X) (hm : ∀ l ∈ x.mentions,l = l0) :
  OpT P o (x0 :: zs) none { val := x.ren (fun _ => d),upd := some (d,X),fresh := true } := by
 intro B w h a next Q hB hz hr hL hn
 have hops : o.op.operands.toList.map a.eval = a.eval f :: c.args.toList.map a.eval := by simp [ho,Op.operands,Call.operands,hc]
 rw [hops] at hr
 have hf := hr.2 0 (a.eval f) x0 rfl rfl
 have hev : RelAs w h (c.args.toList.map a.eval) zs := hr.tail
 obtain ⟨vs,hvs,hrun⟩ := q57 (P := P) ho hc hx hf hev
 rw [hargs] at hvs
 have key := hcall w h vs hz hvs ⟨fun l X hX => (by cases hX),fun l l' X X' b _ hX => (by cases hX)⟩
 have none0 : ∀ b,¬ ownB h [] b := fun b ⟨l,X,hX,_⟩ => by cases hX
 have fin : ∀ v w',(∃ h1 rs L',(rs = [x] ∧ L' = [(l0,X)]) ∧ RelRA w' h1 v rs ∧ LocsOK (fun _ => True) w' h1 L' ∧ Chg [] L' w h w' h1) → next (a.put o.dst v) w' := by
  rintro v w' ⟨h1,_,_,⟨rfl,rfl⟩,hR,hLoc,hC⟩
  let h' : Gh := ⟨h1.g,fun l => if l = d then h1.ρ l0 else h.ρ l,fun l => if l = d then h1.κ l0 else h.κ l,fun l => if l = d then h1.μ l0 else h.μ l⟩
  have hd0 : h'.ρ d = h1.ρ l0 ∧ h'.κ d = h1.κ l0 ∧ h'.μ d = h1.μ l0 := by simp [h']
  have hX0 : LocOK (fun _ => True) w' h1 l0 X := hLoc.1 l0 X (by simp [look])
  have hXd : LocOK (fun _ => True) w' h' d X := by
   have k : LocOK (fun _ => True) w' (h'.ren fun _ => d) l0 X := z56 (h := h1) rfl ⟨hd0.1.symm,hd0.2.1.symm,hd0.2.2.symm⟩ (fun l hl => by rw [hX] at hl;cases hl) hX0
   have k2 := (q43 (s := fun _ => d) (l := l0) (X := X)).2 k
   rwa [hXr] at k2
  have hin : inB h' d X = inB h1 l0 X := by
   have k : inB h' d (X.ren fun _ => d) = inB (h'.ren fun _ => d) l0 X := x29 (s := fun _ => d)
   rw [hXr] at k
   rw [k]
   exact (x56 ⟨hd0.1.symm,hd0.2.1.symm,hd0.2.2.symm⟩).symm
  have hnew : ∀ b,inB h' d X b → w.heap.size ≤ b := by
   intro b hb
   rw [hin] at hb
   rcases hC.own b ⟨l0,X,by simp [look],hb⟩ with h | h
   ·exact h
   ·exact absurd h (none0 b)
  refine hn v w' h' ?_ ?_ (fun l L' hl => ?_)
  ·exact q22.2 (j29 (h := h1) rfl (fun l hl => by rw [hm l hl];exact ⟨hd0.1.symm,hd0.2.1.symm,hd0.2.2.symm⟩) hR)
  ·refine ⟨⟨hC.below.os,hC.below.tape,hC.below.output,hC.below.size,fun k hk _ => hC.below.block k hk (none0 k)⟩,fun b hb _ => ⟨hC.below.block b hb (none0 b),hC.gam b hb (none0 b)⟩,hC.keep,hC.gz,fun b hb => hC.gam b (hB.lt hb) (none0 b),fun l hl => ?_,fun l hl => ?_,fun l _ hf => by cases hf⟩
   ·have : l ≠ d := fun e => hl rfl (by rw [e];rfl)
    simp [h',this]
   ·have : l ≠ d := fun e => hl (by rw [e];rfl)
    simp [h',this]
  ·cases hl
   exact ⟨z29 hXd fun b hb => hB b (hnew b hb),fun b hb => .inl (hnew b hb)⟩
 unfold Oper.wp
 rw [hrun]
 unfold CallRes at key
 split at key
 ·rename_i f' args w1 hrr
  rw [hrr]
  show Calls P f' args w1 _
  refine key.mono fun e w' ⟨v,he,hR⟩ => ?_
  subst he
  exact fin v w' hR
 ·rename_i v w1 hrr
  rw [hrr]
  exact fin v w1 key
 ·exact key.elim
end Go.Proofs.Ytbamjcnhmmgnlaa.AL
namespace Go.Proofs.Ytbamjcnhmmgnlaa
open Go Go.Proofs.Ytbamjcnhmmgnlaa.AL
def treeD (pres : List Nat → Bool) (I : List Nat → List Int) : Nat → List Nat → Dat
 | 0,_ => .v (.pointer none)
 | f + 1,p => if pres p then .bx [treeD pres I f (p ++ [0]),treeD pres I f (p ++ [1]),treeD pres I f (p ++ [2]),.sl 1 (I p).length (rowZ (I p))] else .v (.pointer none)
def gathT (pres : List Nat → Bool) (I : List Nat → List Int) (c : Cube) : Nat → List Nat → List Int
 | 0,p => if pres p then I p else []
 | f + 1,p => if pres p then I p ++ (waysC c f).flatMap fun k => gathT pres I c f (p ++ [k]) else []
def gathN (pres : List Nat → Bool) (c : Cube) : Nat → List Nat → Nat
 | 0,p => if pres p then 1 else 0
 | f + 1,p => if pres p then 1 + ((waysC c f).map fun k => gathN pres c f (p ++ [k])).sum else 0
theorem x81 (pres : List Nat → Bool) (I : List Nat → List Int) (c : Cube) (f : Nat) (p : List Nat) (h : pres p = true) : gathT pres I c (f + 1) p = I p ++ (waysC c f).flatMap fun k => gathT pres I c f (p ++ [k]) := by
 have : gathT pres I c (f + 1) p = if pres p then I p ++ (waysC c f).flatMap fun k => gathT pres I c f (p ++ [k]) else [] := rfl
 rw [this,if_pos h]
theorem gathN_s (pres : List Nat → Bool) (c : Cube) (f : Nat) (p : List Nat) (h : pres p = true) : gathN pres c (f + 1) p = 1 + ((waysC c f).map fun k => gathN pres c f (p ++ [k])).sum := by
 have : gathN pres c (f + 1) p = if pres p then 1 + ((waysC c f).map fun k => gathN pres c f (p ++ [k])).sum else 0 := rfl
 rw [this,if_pos h]
theorem j81 (pres : List Nat → Bool) (I : List Nat → List Int) (c : Cube) (f : Nat) (p : List Nat) (h : pres p = false) : gathT pres I c f p = [] := by
 cases f <;> simp [gathT,h]
theorem z132 (pres : List Nat → Bool) (c : Cube) (f : Nat) (p : List Nat) (h : pres p = false) : gathN pres c f p = 0 := by
 cases f <;> simp [gathN,h]
def lookD (c : Cube) : PV := .fn (.func 39) [.agg (cb c)] []
def gaO (pres : List Nat → Bool) (I : List Nat → List Int) (c : Cube) (f : Nat) (p : List Nat) (i : Nat) : List Int := I p ++ ((waysZ c f).take i).flatMap fun k => gathT pres I c (f - 1) (p ++ [k.toNat])
def gaN (pres : List Nat → Bool) (c : Cube) (f : Nat) (p : List Nat) (i : Nat) : Nat := 1 + (((waysZ c f).take i).map fun k => gathN pres c (f - 1) (p ++ [k.toNat])).sum
theorem q82 {pres : List Nat → Bool} {I : List Nat → List Int} {c : Cube} {f : Nat} {p : List Nat} (h : pres p = true) : gaO pres I c f p (waysZ c f).length = gathT pres I c f p := by
 unfold gaO
 rw [List.take_length]
 unfold waysZ
 cases f with
 | zero => simp [gathT,h]
 |succ f =>
  rw [if_neg (by omega),Nat.add_sub_cancel]
  rw [x81 _ _ _ _ _ h,List.flatMap_map]
  simp
theorem gaN_end {pres : List Nat → Bool} {c : Cube} {f : Nat} {p : List Nat} (h : pres p = true) : gaN pres c f p (waysZ c f).length = gathN pres c f p := by
 unfold gaN
 rw [List.take_length]
 unfold waysZ
 cases f with
 | zero => simp [gathN,h]
 |succ f =>
  rw [if_neg (by omega),Nat.add_sub_cancel]
  rw [gathN_s _ _ _ _ h,List.map_map]
  rfl
theorem z82 {l : List Int} {i : Nat} (h : i < l.length) : l.take (i + 1) = l.take i ++ [l.getD i 0] := by
 rw [List.take_add_one,List.getElem?_eq_getElem h,List.getD_eq_getElem?_getD,List.getElem?_eq_getElem h];rfl
theorem x132 {pres : List Nat → Bool} {I : List Nat → List Int} {c : Cube} {f : Nat} {p : List Nat} {i : Nat} (h : i < (waysZ c f).length) : gaO pres I c f p (i + 1) = gaO pres I c f p i ++ gathT pres I c (f - 1) (p ++ [((waysZ c f).getD i 0).toNat]) := by
 unfold gaO
 rw [z82 h,List.flatMap_append,List.append_assoc];simp
theorem j132 {pres : List Nat → Bool} {c : Cube} {f : Nat} {p : List Nat} {i : Nat} (h : i < (waysZ c f).length) : gaN pres c f p (i + 1) = gaN pres c f p i + gathN pres c (f - 1) (p ++ [((waysZ c f).getD i 0).toNat]) := by
 unfold gaN
 rw [z82 h,List.map_append,List.sum_append];simp;omega
theorem x82 {pres : List Nat → Bool} {I : List Nat → List Int} {c : Cube} {f : Nat} {p : List Nat} {i : Nat} (h : pres p = true) (hi : i ≤ (waysZ c f).length) : (gaO pres I c f p i).length ≤ (gathT pres I c f p).length := by
 rw [← q82 h]
 unfold gaO
 rw [List.take_length,List.length_append,List.length_append]
 have e : (waysZ c f) = (waysZ c f).take i ++ (waysZ c f).drop i := (List.take_append_drop _ _).symm
 rw [congrArg (fun l : List Int => (l.flatMap fun k => gathT pres I c (f - 1) (p ++ [k.toNat])).length) e,List.flatMap_append,List.length_append]
 omega
theorem q133 {c : Cube} {f i : Nat} (h : i < (waysZ c f).length) : 0 < f ∧ ((waysZ c f).getD i 0 = 0 ∨ (waysZ c f).getD i 0 = 1 ∨ (waysZ c f).getD i 0 = 2) := by
 unfold waysZ at *
 by_cases hf : f = 0
 ·rw [if_pos hf] at h;simp at h
 ·rw [if_neg hf] at h ⊢
  have hb := j57 c (f - 1)
  unfold waysC at *
  split at h
  ·rw [if_pos ‹_›]
   have : i = 0 ∨ i = 1 ∨ i = 2 := by simp at h;omega
   rcases this with rfl | rfl | rfl <;> simp <;> omega
  ·rw [if_neg ‹_›]
   have : i = 0 ∨ i = 1 := by simp at h;omega
   rcases this with rfl | rfl <;> simp <;> omega
structure GaS (pres : List Nat → Bool) (I : List Nat → List Int) (c : Cube) (f : Nat) (p : List Nat) (out : List Int) (gen : Nat) where
 i : Nat
 o : List Int
 n : Nat
 g : Nat
 hi : i ≤ (waysZ c f).length
 ho : o = out ++ gaO pres I c f p i
 hn : n = o.length
 hg : g = gen + gaN pres c f p i
def gaI (pres : List Nat → Bool) (I : List Nat → List Int) (c : Cube) (f : Nat) (p : List Nat) (out : List Int) (gen : Nat) (s : GaS pres I c f p out gen) : ASt :=
 ⟨[(24,.p (.d (.v (.int .i64 (s.i : Int))))),(23,.p (.d (.v (.int .i64 ((waysZ c f).length : Int))))),(22,.p (.d (.sl 1 (waysZ c f).length (rowZ (waysZ c f))))),
  (3,.ow 1000 s.g 1 s.n),(2,.p (lookD c)),(1,.p (.d (.v (.int .i64 ((f : Int) - 1))))),
  (0,.p (.d (.bx [treeD pres I f (p ++ [0]),treeD pres I f (p ++ [1]),treeD pres I f (p ++ [2]),.sl 1 (I p).length (rowZ (I p))])))],[(1000,.own 3 1 s.n s.g (rowZ s.o))]⟩
set_option maxRecDepth 100000 in
theorem z133 (pres : List Nat → Bool) (I : List Nat → List Int) (c : Cube) : ∀ (f : Nat),f ≤ 128 → ∀ (p : List Nat) (out : List Int) (gen : Nat),out.length + (gathT pres I c f p).length ≤ 1099511627776 →
  MCalls Try.prog 38 [.p (.d (treeD pres I (f + 1) p)),.p (.d (.v (.int .i64 ((f : Int) - 1)))),.p (lookD c),.ow 1000 gen 1 out.length] [(1000,.own 3 1 out.length gen (rowZ out))]
   (fun rs L => rs = [.ow 1000 (gen + gathN pres c f p) 1 (out ++ gathT pres I c f p).length] ∧ L = [(1000,.own 3 1 (out ++ gathT pres I c f p).length (gen + gathN pres c f p) (rowZ (out ++ gathT pres I c f p)))]) := by
 intro f
 induction f using Nat.strongRecOn with
 | _ f ih =>
 intro hf p out gen hB
 by_cases hp : pres p = true
 ·have hw := ways_c c f hf
  have e0 : treeD pres I (f + 1) p = .bx [treeD pres I f (p ++ [0]),treeD pres I f (p ++ [1]),treeD pres I f (p ++ [2]),.sl 1 (I p).length (rowZ (I p))] := by
   rw [treeD,if_pos hp]
  have hI : (I p).length ≤ (gathT pres I c f p).length := by have := x82 (pres := pres) (I := I) (c := c) (f := f) (p := p) (i := 0) hp (by omega);simpa [gaO] using this
  rw [e0]
  unfold lookD
  refine j15 Try.func38 rfl (by decide +kernel) (by rw [Try.ntmps38];simp) (fun l X h => by simp only [AL.look] at h;(repeat' split at h);all_goals first | omega | cases h) ?_;rw [Try.ntmps38];simp only [frA]
  (repeat (first | apply j4 | refine q8 rfl ?_ | refine z8 rfl ?_ | apply j7 | (refine j0 fun K hK => ?_) | (refine x5 fun K hK => ?_) | ((first | apply j6 | apply z7 | ((first | refine z6 (hK _ ?_) | refine x6 (hK _ _ j5 ?_));clear hK K));(first | show AWP _ _ _ _ _ | ((try simp only [x7]);first | show loopQ _ _ _ _ _ _ | show cutQ _ _ _ _ | show AWP _ _ _ _ _))) | ((first | refine x10 rfl rfl rfl ?_ | refine j10 rfl rfl rfl ?_);simp (disch:=omega) only [go_sem,seval,hd,cb];(first | refine ⟨_,hw,?_⟩)) | ((first | refine x8 [] rfl ?_ | refine j8 [] rfl ?_);simp (disch:=omega) only [go_sem,seval,hd,cb];(repeat (first | refine ⟨by omega,?_⟩ | refine ⟨True.intro,?_⟩)))))
  refine z23 (gaI pres I c f p out gen) (fun s => (waysZ c f).length - s.i) ⟨0,out ++ I p,out.length + (I p).length,gen + 1,by omega,by simp [gaO],by simp,by simp [gaN]⟩ ?_ (fun s => ?_)
  ·unfold gaI lookD
   refine Weak.list ?_ ?_;(all_goals simp (disch:=omega) only [AllF,AllL,j13,q14,x13,exists_eq_left',go_sem,seval,hd,cb]);(all_goals (repeat' (with_reducible apply And.intro)));(all_goals try (first | exact z10 rfl | (refine z14 ?_;omega) | (refine z10 ?_;simp;done)))
   ·exact lle_own rfl rfl (fun k hk => x128 out (I p) k)
  obtain ⟨i,o,n,g,hi,ho,hn,hg⟩ := s
  unfold gaI lookD
  simp only []
  by_cases hlt : i < (waysZ c f).length
  ·obtain ⟨hf0,hk⟩ := q133 hlt
   have r1 := q44 (waysZ c f) i
   have hw3 := q129 c f
   have so := x132 (pres := pres) (I := I) (p := p) hlt
   have sn := j132 (pres := pres) (p := p) hlt
   have sl := x82 (pres := pres) (I := I) (c := c) (f := f) (p := p) (i := i + 1) hp (by omega)
   obtain ⟨f,rfl⟩ : ∃ f',f = f' + 1 := ⟨f - 1,by omega⟩
   rw [Nat.add_sub_cancel] at so sn
   generalize (waysZ c (f + 1)).getD i 0 = k at r1 hk so sn
   have hBo : ∀ q,gaO pres I c (f + 1) p (i + 1) = gaO pres I c (f + 1) p i ++ gathT pres I c f q → o.length + (gathT pres I c f q).length ≤ 1099511627776 := by
    intro q hq
    rw [hq,List.length_append] at sl
    rw [ho,List.length_append]
    omega
   have efn : ((f + 1 : Nat) : Int) - 1 - 1 = (f : Int) - 1 := by omega
   have go : ∀ j : Nat,k = (j : Int) → gaO pres I c (f + 1) p (i + 1) = gaO pres I c (f + 1) p i ++ gathT pres I c f (p ++ [j]) ∧ gaN pres c (f + 1) p (i + 1) = gaN pres c (f + 1) p i + gathN pres c f (p ++ [j]) := by
    intro j hj
    subst hj
    exact ⟨so,sn⟩
   subst hn
   rcases hk with rfl | rfl | rfl
   ·obtain ⟨so,sn⟩ := go 0 rfl
    have kk := ih f (by omega) (by omega) (p ++ [0]) o g (hBo _ so)
    unfold lookD at kk
    (repeat (first | apply j4 | refine q8 rfl ?_ | refine z8 rfl ?_ | apply j7 | (refine j0 fun K hK => ?_) | (refine x5 fun K hK => ?_) | ((first | apply j6 | apply z7 | ((first | refine z6 (hK _ ?_) | refine x6 (hK _ _ j5 ?_));clear hK K));(first | show AWP _ _ _ _ _ | ((try simp only [x7]);first | show loopQ _ _ _ _ _ _ | show cutQ _ _ _ _ | show AWP _ _ _ _ _))) | ((first | refine x8 [] rfl ?_ | refine j8 [] rfl ?_);simp (disch:=omega) only [go_sem,seval,hd,cb,r1];(repeat (first | refine ⟨by omega,?_⟩ | refine ⟨True.intro,?_⟩)))))
    (refine z17 _ (q18 [(1000,1000)] rfl rfl rfl rfl rfl rfl (kk) rfl (q11 (by repeat (first | exact trivial | refine ⟨rfl,?_⟩)) (by kernel_rfl))) ?_);simp (disch:=omega) only [go_sem,seval,hd,cb,r1]
    (repeat (first | apply j4 | refine q8 rfl ?_ | refine z8 rfl ?_ | apply j7 | (refine j0 fun K hK => ?_) | (refine x5 fun K hK => ?_) | ((first | apply j6 | apply z7 | ((first | refine z6 (hK _ ?_) | refine x6 (hK _ _ j5 ?_));clear hK K));(first | show AWP _ _ _ _ _ | ((try simp only [x7]);first | show loopQ _ _ _ _ _ _ | show cutQ _ _ _ _ | show AWP _ _ _ _ _))) | ((first | refine x8 [] rfl ?_ | refine j8 [] rfl ?_);simp (disch:=omega) only [go_sem,seval,hd,cb,r1];(repeat (first | refine ⟨by omega,?_⟩ | refine ⟨True.intro,?_⟩)))))
    refine ⟨⟨i + 1,o ++ gathT pres I c f (p ++ [0]),_,g + gathN pres c f (p ++ [0]),by omega,by rw [so,ho,List.append_assoc],rfl,by omega⟩,by simp only [];omega,?_⟩
    refine Weak.list ?_ ?_;(all_goals simp (disch:=omega) only [AllF,AllL,j13,q14,x13,exists_eq_left',go_sem,seval,hd,cb,r1]);(all_goals (repeat' (with_reducible apply And.intro)));(all_goals try (first | exact z10 rfl | (refine z14 ?_;omega) | (refine z10 ?_;simp;done)))
   ·obtain ⟨so,sn⟩ := go 1 rfl
    have kk := ih f (by omega) (by omega) (p ++ [1]) o g (hBo _ so)
    unfold lookD at kk
    (repeat (first | apply j4 | refine q8 rfl ?_ | refine z8 rfl ?_ | apply j7 | (refine j0 fun K hK => ?_) | (refine x5 fun K hK => ?_) | ((first | apply j6 | apply z7 | ((first | refine z6 (hK _ ?_) | refine x6 (hK _ _ j5 ?_));clear hK K));(first | show AWP _ _ _ _ _ | ((try simp only [x7]);first | show loopQ _ _ _ _ _ _ | show cutQ _ _ _ _ | show AWP _ _ _ _ _))) | ((first | refine x8 [] rfl ?_ | refine j8 [] rfl ?_);simp (disch:=omega) only [go_sem,seval,hd,cb,r1];(repeat (first | refine ⟨by omega,?_⟩ | refine ⟨True.intro,?_⟩)))))
    (refine z17 _ (q18 [(1000,1000)] rfl rfl rfl rfl rfl rfl (kk) rfl (q11 (by repeat (first | exact trivial | refine ⟨rfl,?_⟩)) (by kernel_rfl))) ?_);simp (disch:=omega) only [go_sem,seval,hd,cb,r1]
    (repeat (first | apply j4 | refine q8 rfl ?_ | refine z8 rfl ?_ | apply j7 | (refine j0 fun K hK => ?_) | (refine x5 fun K hK => ?_) | ((first | apply j6 | apply z7 | ((first | refine z6 (hK _ ?_) | refine x6 (hK _ _ j5 ?_));clear hK K));(first | show AWP _ _ _ _ _ | ((try simp only [x7]);first | show loopQ _ _ _ _ _ _ | show cutQ _ _ _ _ | show AWP _ _ _ _ _))) | ((first | refine x8 [] rfl ?_ | refine j8 [] rfl ?_);simp (disch:=omega) only [go_sem,seval,hd,cb,r1];(repeat (first | refine ⟨by omega,?_⟩ | refine ⟨True.intro,?_⟩)))))
    refine ⟨⟨i + 1,o ++ gathT pres I c f (p ++ [1]),_,g + gathN pres c f (p ++ [1]),by omega,by rw [so,ho,List.append_assoc],rfl,by omega⟩,by simp only [];omega,?_⟩
    refine Weak.list ?_ ?_;(all_goals simp (disch:=omega) only [AllF,AllL,j13,q14,x13,exists_eq_left',go_sem,seval,hd,cb,r1]);(all_goals (repeat' (with_reducible apply And.intro)));(all_goals try (first | exact z10 rfl | (refine z14 ?_;omega) | (refine z10 ?_;simp;done)))
   ·obtain ⟨so,sn⟩ := go 2 rfl
    have kk := ih f (by omega) (by omega) (p ++ [2]) o g (hBo _ so)
    unfold lookD at kk
    (repeat (first | apply j4 | refine q8 rfl ?_ | refine z8 rfl ?_ | apply j7 | (refine j0 fun K hK => ?_) | (refine x5 fun K hK => ?_) | ((first | apply j6 | apply z7 | ((first | refine z6 (hK _ ?_) | refine x6 (hK _ _ j5 ?_));clear hK K));(first | show AWP _ _ _ _ _ | ((try simp only [x7]);first | show loopQ _ _ _ _ _ _ | show cutQ _ _ _ _ | show AWP _ _ _ _ _))) | ((first | refine x8 [] rfl ?_ | refine j8 [] rfl ?_);simp (disch:=omega) only [go_sem,seval,hd,cb,r1];(repeat (first | refine ⟨by omega,?_⟩ | refine ⟨True.intro,?_⟩)))))
    (refine z17 _ (q18 [(1000,1000)] rfl rfl rfl rfl rfl rfl (kk) rfl (q11 (by repeat (first | exact trivial | refine ⟨rfl,?_⟩)) (by kernel_rfl))) ?_);simp (disch:=omega) only [go_sem,seval,hd,cb,r1]
    (repeat (first | apply j4 | refine q8 rfl ?_ | refine z8 rfl ?_ | apply j7 | (refine j0 fun K hK => ?_) | (refine x5 fun K hK => ?_) | ((first | apply j6 | apply z7 | ((first | refine z6 (hK _ ?_) | refine x6 (hK _ _ j5 ?_));clear hK K));(first | show AWP _ _ _ _ _ | ((try simp only [x7]);first | show loopQ _ _ _ _ _ _ | show cutQ _ _ _ _ | show AWP _ _ _ _ _))) | ((first | refine x8 [] rfl ?_ | refine j8 [] rfl ?_);simp (disch:=omega) only [go_sem,seval,hd,cb,r1];(repeat (first | refine ⟨by omega,?_⟩ | refine ⟨True.intro,?_⟩)))))
    refine ⟨⟨i + 1,o ++ gathT pres I c f (p ++ [2]),_,g + gathN pres c f (p ++ [2]),by omega,by rw [so,ho,List.append_assoc],rfl,by omega⟩,by simp only [];omega,?_⟩
    refine Weak.list ?_ ?_;(all_goals simp (disch:=omega) only [AllF,AllL,j13,q14,x13,exists_eq_left',go_sem,seval,hd,cb,r1]);(all_goals (repeat' (with_reducible apply And.intro)));(all_goals try (first | exact z10 rfl | (refine z14 ?_;omega) | (refine z10 ?_;simp;done)))
  ·have : i = (waysZ c f).length := by omega
   subst this
   rw [q82 hp] at ho
   rw [gaN_end hp] at hg
   subst ho hg hn
   (repeat (first | apply j4 | refine q8 rfl ?_ | refine z8 rfl ?_ | apply j7 | (refine j0 fun K hK => ?_) | (refine x5 fun K hK => ?_) | ((first | apply j6 | apply z7 | ((first | refine z6 (hK _ ?_) | refine x6 (hK _ _ j5 ?_));clear hK K));(first | show AWP _ _ _ _ _ | ((try simp only [x7]);first | show loopQ _ _ _ _ _ _ | show cutQ _ _ _ _ | show AWP _ _ _ _ _))) | ((first | refine x8 [] rfl ?_ | refine j8 [] rfl ?_);simp (disch:=omega) only [go_sem,seval,hd,cb];(repeat (first | refine ⟨by omega,?_⟩ | refine ⟨True.intro,?_⟩)))))
   refine q10 ?_
   exact x57 rfl rfl rfl ⟨rfl,rfl⟩
 ·have hp : pres p = false := by simpa using hp
  have e0 : treeD pres I (f + 1) p = .v (.pointer none) := by rw [treeD,if_neg (by simp [hp])]
  rw [e0,j81 _ _ _ _ _ hp,z132 _ _ _ _ hp,List.append_nil,Nat.add_zero]
  refine j15 Try.func38 rfl (by decide +kernel) (by rw [Try.ntmps38];simp) (fun l X h => by simp only [AL.look] at h;(repeat' split at h);all_goals first | omega | cases h) ?_;rw [Try.ntmps38];simp only [frA]
  (repeat (first | apply j4 | refine q8 rfl ?_ | refine z8 rfl ?_ | apply j7 | (refine j0 fun K hK => ?_) | (refine x5 fun K hK => ?_) | ((first | apply j6 | apply z7 | ((first | refine z6 (hK _ ?_) | refine x6 (hK _ _ j5 ?_));clear hK K));(first | show AWP _ _ _ _ _ | ((try simp only [x7]);first | show loopQ _ _ _ _ _ _ | show cutQ _ _ _ _ | show AWP _ _ _ _ _))) | ((first | refine x8 [] rfl ?_ | refine j8 [] rfl ?_);simp (disch:=omega) only [go_sem,seval,hd,cb];(repeat (first | refine ⟨by omega,?_⟩ | refine ⟨True.intro,?_⟩)))))
  refine q10 ?_
  exact x57 rfl rfl rfl ⟨rfl,rfl⟩
end Go.Proofs.Ytbamjcnhmmgnlaa
namespace Go.Proofs.Ytbamjcnhmmgnlaa.AL
open Go.RowKit
theorem q16 {P : Program} {fn : Func} {Q : List AV → List (Nat × LV) → Prop} {A : ASt} {rs : List AV} {L : List (Nat × LV)} (hq : Q rs L) (hr : ResVarsA P A fn.results.toList rs) (hl : ∀ p ∈ L,look A.locs p.1 = some p.2) : retM P fn Q .ret A ∧ retM P fn Q .normal A :=
 ⟨retM_of rs L hr hl hq,z129 rs L hr hl hq⟩
theorem j34 (M : Nat → Option Ent) (b : Nat) (E E' : Option Ent) : setM (setM M b E) b E' = setM M b E' := by
 funext k;unfold setM;split <;> rfl
theorem Weak.shrink (A : ASt) (M : Nat → Option Ent) (b n : Nat) (E : Ent) (hM : look A.locs 1999 = some (.raw M)) (hb : M b = some E) (hn : n ≤ E.n) : Weak A ⟨A.fr,(1999,.raw (setM M b (some { E with n := n }))) :: A.locs⟩ := by
 intro w0 g0 nt h a w r
 have old : ∀ k L,look ((1999,LV.raw (setM M b (some { E with n := n }))) :: A.locs) k = some L → (k = 1999 ∧ L = .raw (setM M b (some { E with n := n }))) ∨ (k ≠ 1999 ∧ look A.locs k = some L) := by
  intro k L hk
  simp only [look] at hk
  split at hk
  ·rename_i e;cases hk;exact .inl ⟨e.symm,rfl⟩
  ·rename_i e;exact .inr ⟨fun e' => e e'.symm,hk⟩
 have hin : ∀ b',inB h 1999 (.raw (setM M b (some { E with n := n }))) b' → inB h 1999 (.raw M) b' := by
  intro b' hb'
  simp only [inB,setM] at hb' ⊢
  split at hb'
  ·rename_i e;subst e;simp [hb]
  ·exact hb'
 refine ⟨h,r.size,r.defers,r.fr,fun k L hk => ?_,fun k k' L L' b' hkk hk hk' hb1 hb2 => ?_,r.ext,r.pin⟩
 ·rcases old k L hk with ⟨rfl,rfl⟩ | ⟨_,h3⟩
  ·intro b' E' hE'
   simp only [setM] at hE'
   split at hE'
   ·rename_i e;subst e;cases hE'
    obtain ⟨c1,⟨cur,c2,c3,c4,c5,c6⟩,c7⟩ := r.locs 1999 _ hM b' E hb
    refine ⟨c1,⟨cur,c2,c3,Nat.le_trans hn c4,c5,fun i hi => c6.1 i (Nat.lt_of_lt_of_le hi hn),fun i j d hi hj hd => ?_⟩,c7⟩
    obtain ⟨u,h1,h2⟩ := c6.cell (Nat.lt_of_lt_of_le hi hn) hj hd
    refine ⟨u,?_,h2⟩
    have hi : i < n := hi
    rw [List.getElem?_take_of_lt (j19 hi hj)]
    simpa using h1
   ·exact r.locs 1999 _ hM b' E' hE'
  ·exact r.locs k L h3
 ·rcases old k L hk with ⟨rfl,rfl⟩ | ⟨n1,h3⟩ <;> rcases old k' L' hk' with ⟨e',rfl⟩ | ⟨n1',h3'⟩
  ·exact hkk e'.symm
  ·exact r.sep 1999 k' _ L' b' hkk hM h3' (hin b' hb1) hb2
  ·subst e';exact r.sep k 1999 L _ b' hkk h3 hM hb1 (hin b' hb2)
  ·exact r.sep k k' L L' b' hkk h3 h3' hb1 hb2
variable {P : Program}
theorem MCalls.nilOwn {f : FuncId} {xs : List PV} {e : TypeId} {sz : Nat} {F : Nat → List Dat} {Q : List AV → List (Nat × LV) → Prop} (hc : MCalls P f (xs.map .p ++ [.ow 1000 0 sz 0]) [(1000,.own e sz 0 0 F)] Q) :
  MCalls P f (xs.map .p ++ [.p (.d (.v (.slice none 0 0)))]) [] Q := by
 intro w h vs hz hr hl
 let h2 : Gh := { h with κ := fun k => if k = 1000 then .slice none 0 0 else h.κ k,μ := fun k => if k = 1000 then 0 else h.μ k }
 have hκ : h2.κ 1000 = .slice none 0 0 := by simp [h2]
 have hμ : h2.μ 1000 = 0 := by simp [h2]
 have hno : ∀ b,¬ ownB h2 [(1000,LV.own e sz 0 0 F)] b := by
  rintro b ⟨l,X,hX,hb⟩
  simp only [look] at hX
  split at hX
  ·rename_i e;subst e;cases hX
   simp only [inB,hκ,Value.ownBlock] at hb
   cases hb
  ·cases hX
 have hr2 : RelAs w h2 vs (xs.map .p ++ [.ow 1000 0 sz 0]) := by
  refine ⟨by have := hr.1;simpa using this,fun j v x hv hx => ?_⟩
  by_cases hj : j < xs.length
  ·have hx' := hx
   rw [List.getElem?_append_left (by simpa using hj)] at hx hx'
   have := hr.2 j v x hv (by rw [List.getElem?_append_left (by simpa using hj)];exact hx)
   rw [List.getElem?_map] at hx
   cases hk : xs[j]? with
   | none => rw [hk] at hx;cases hx
   | some y => rw [hk] at hx;cases hx;exact this
  ·have hj' : j = xs.length := by
    have := (List.getElem?_eq_some_iff.1 hx).1
    simp at this;omega
   subst hj'
   have hv0 := hr.2 xs.length v _ hv (by rw [List.getElem?_append_right (by simp)];simp;rfl)
   rw [List.getElem?_append_right (by simp)] at hx
   simp at hx
   subst hx
   have : v = .slice none 0 0 := z11 hv0
   subst this
   exact ⟨by omega,⟨_,_,rfl,fun h => by omega⟩,fun _ => hκ.symm⟩
 have hl2 : LocsOK (fun _ => True) w h2 [(1000,LV.own e sz 0 0 F)] := by
  refine ⟨fun l X hX => ?_,fun l l' X X' b hne h1 h2' hb => absurd ⟨l,X,h1,hb⟩ (hno b)⟩
  simp only [look] at hX
  split at hX
  ·rename_i e;subst e;cases hX
   refine ⟨hμ,⟨[],?_,fun i hi => by omega,fun i j d hi => by omega⟩,fun b hb => ?_⟩
   ·rw [hκ];exact World.ownsRow_nil w 0 _ _
   ·rw [hκ] at hb;cases hb
  ·cases hX
 have key := hc w h2 vs hz hr2 hl2
 have fin : ∀ v w',(∃ h' rs L',Q rs L' ∧ RelRA w' h' v rs ∧ LocsOK (fun _ => True) w' h' L' ∧ Chg [(1000,LV.own e sz 0 0 F)] L' w h2 w' h') → ∃ h' rs L',Q rs L' ∧ RelRA w' h' v rs ∧ LocsOK (fun _ => True) w' h' L' ∧ Chg [] L' w h w' h' := by
  rintro v w' ⟨h',rs,L',hq,h1,h3,h4⟩
  have none0 : ∀ b,¬ ownB h [] b := fun b ⟨l,X,hX,_⟩ => by cases hX
  refine ⟨h',rs,L',hq,h1,h3,⟨⟨h4.below.os,h4.below.tape,h4.below.output,h4.below.size,fun k hk _ => h4.below.block k hk (hno k)⟩,fun b hb _ => h4.gam b hb (hno b),h4.gz,h4.keep,fun l X hX => (by cases hX),fun l X hX => (by cases hX),fun b hb => ?_⟩⟩
  rcases h4.own b hb with h | h
  ·exact .inl h
  ·exact absurd h (hno b)
 unfold CallRes at *
 split at key
 ·exact key.mono fun e w' ⟨v,he,hh⟩ => ⟨v,he,fin v w' hh⟩
 ·exact fin _ _ key
 ·exact key.elim
theorem MCalls.args {f : FuncId} {xs ys : List AV} {L : List (Nat × LV)} {Q : List AV → List (Nat × LV) → Prop} (hc : MCalls P f ys L Q) (hx : ∀ (w : World) (h : Gh) (vs : List Value),RelAs w h vs xs → RelAs w h vs ys) : MCalls P f xs L Q :=
 fun w h vs hz hr hl => hc w h vs hz (hx w h vs hr) hl
theorem x133 {w : World} {g : Nat → Nat} {v : Value} {cs ds : List Dat} (h : RelD w g v (.bx (cs ++ ds))) : RelD w g v (.bx cs) := by
 cases h with
 |bx b off _ u hc hg hr =>
  rw [List.length_append] at hg
  refine .bx b off cs u (fun j hj => hc j (by simp;omega)) (by omega) fun j x hx => hr j x ?_
  rw [List.getElem?_append_left (List.getElem?_eq_some_iff.1 hx).1];exact hx
theorem j133 {w : World} {h : Gh} {vs : List Value} {x y : AV} {xs : List AV} (hr : RelAs w h vs (x :: xs)) (hxy : ∀ v,RelA w h v x → RelA w h v y) : RelAs w h vs (y :: xs) := by
 refine ⟨by have := hr.1;simpa using this,fun j v z hv hz => ?_⟩
 cases j with
 |zero =>
  simp at hz;subst hz
  exact hxy v (hr.2 0 v x hv rfl)
 | succ j => exact hr.2 (j + 1) v z hv (by simpa using hz)
theorem q134 {nt : Nat} {ops : Array Oper} {K : ASt → List Done → Prop} {o : Oper} {rest : List Oper} {A : ASt} {tr : List Done} {c : Call} {f : Operand} {g : FuncId} {pre post : List CV} {xs : List AV} {x : AV} {l0 : Nat} {X : LV}
  (d : Nat) (hd : dstOK nt o = true) (hw : wantedA ops o A = some true) (ho : o.op = .call c) (hc : c.callee = .value f) (hx : calleeC (A.eval f) = some (g,pre,post))
  (hargs : pre.map CV.av ++ c.args.toList.map A.eval ++ post.map CV.av = xs) (hcall : MCalls P g xs [] (fun r L => r = [x] ∧ L = [(l0,X)])) (hX : X.mentions = []) (hXr : X.ren (fun _ => d) = X) (hm : ∀ l ∈ x.mentions,l = l0) (hu : unusedB A d = true)
  (hk : walkD P nt ops K rest (A.apply o.dst { val := x.ren (fun _ => d),upd := some (d,X),fresh := true }) (⟨o,none,{ val := x.ren (fun _ => d),upd := some (d,X),fresh := true },[]⟩ :: tr)) : walkD P nt ops K (o :: rest) A tr := by
 refine j116 (lo := none) (.inl ⟨⟨j27 hd,.inr ⟨hw,?_⟩,fun _ l L hL => ?_,fun l L hL hf => (by cases hf)⟩,rfl⟩) hk
 ·have hops : o.op.operands.toList.map A.eval = A.eval f :: c.args.toList.map A.eval := by simp [ho,Op.operands,Call.operands,hc]
  rw [hops]
  exact q132 ho hc hx hargs hcall hX hXr hm
 ·cases hL
  exact z25 hu
def FreshR (l : Nat) (e : TypeId) (sz n : Nat) (F : Nat → List Dat) (rs : List AV) (L : List (Nat × LV)) : Prop :=
 (n = 0 ∧ rs = [.p (.d (.sl sz 0 F))] ∧ L = []) ∨ (0 < n ∧ rs = [.row l sz 0 n] ∧ L = [(l,.blk e sz n F)])
structure Raised (w : World) (h : Gh) (L : List (Nat × LV)) (g2 : Nat → Nat) : Prop where
 gz : GZ w g2
 old : ∀ b,g2 b ≠ h.g b → ownB h L b ∧ b < w.heap.size
theorem j82 {f : FuncId} {xs : List AV} {L : List (Nat × LV)} {l0 : Nat} {e : TypeId} {sz n : Nat} {F : Nat → List Dat} (hF : ∀ i,i < n → ∀ d ∈ F i,d.flat)
  (hc : ∀ (w : World) (h : Gh) (vs : List Value),GZ w h.g → RelAs w h vs xs → LocsOK (fun _ => True) w h L →
   ∃ g2 ys,Raised w h L g2 ∧ RelAs w { h with g := g2 } vs ys ∧ MCalls P f ys [] (FreshR l0 e sz n F)) :
  RCalls P f xs L (.p (.d (.sl sz n F))) := by
 intro w h vs hz hr hl
 obtain ⟨g2,ys,hR,hr2,hm⟩ := hc w h vs hz hr hl
 have key := hm w { h with g := g2 } vs hR.gz hr2 ⟨fun l X hX => (by cases hX),fun l l' X X' b _ hX => (by cases hX)⟩
 have none0 : ∀ b,¬ ownB { h with g := g2 } [] b := fun b ⟨l,X,hX,_⟩ => by cases hX
 have fin : ∀ v w',(∃ h' rs L',FreshR l0 e sz n F rs L' ∧ RelRA w' h' v rs ∧ LocsOK (fun _ => True) w' h' L' ∧ Chg [] L' w { h with g := g2 } w' h') → ∃ g',Ext w h.g w' g' ∧ RelA w' { h with g := g' } v (.p (.d (.sl sz n F))) := by
  rintro v w' ⟨h',rs,L',hq,h1,h3,h4⟩
  have hbel : Below w.heap.size w w' := ⟨h4.below.os,h4.below.tape,h4.below.output,h4.below.size,fun k hk => h4.below.block k hk (none0 k)⟩
  rcases hq with ⟨rfl,rfl,rfl⟩ | ⟨hn,rfl,rfl⟩
  ·refine ⟨fun b => if b < w.heap.size then h.g b else h'.g b,⟨hbel,fun b hb => if_pos hb,fun b hb => ?_⟩,?_⟩
   ·have := hbel.size
    rw [if_neg (by omega)]
    exact h4.gz b hb
   ·have h1 : RelP w' h'.g v (.d (.sl sz 0 F)) := h1
    cases h1 with
    |d _ _ h1 =>
     cases h1 with
     | sl0 a c => exact .d _ _ (.sl0 _ _ _ _)
     | sl b off _ c _ _ u => exact .d _ _ (.sl0 _ _ _ _)
  ·obtain ⟨cap,c1,⟨cur,c2,c3,c4,c5,c6⟩,c7⟩ := h3.1 l0 _ (by simp [look];rfl)
   obtain ⟨c,hv,hcn⟩ : ∃ c,v = .slice (some ⟨h'.ρ l0,0 * sz,none⟩) n c ∧ n ≤ c := h1
   have hlt : h'.ρ l0 < w'.heap.size := (Array.getElem?_eq_some_iff.1 c2).1
   have hnew : w.heap.size ≤ h'.ρ l0 := by
    rcases h4.own (h'.ρ l0) ⟨l0,_,by simp [look];rfl,by simp [inB]⟩ with h | h
    ·exact h
    ·exact absurd h (none0 _)
   refine ⟨fun b => if b < w.heap.size then h.g b else if b = h'.ρ l0 then n * sz else h'.g b,⟨hbel,fun b hb => if_pos hb,fun b hb => ?_⟩,?_⟩
   ·have := hbel.size
    rw [if_neg (by omega),if_neg (by omega)]
    exact h4.gz b hb
   ·subst hv
    simp only [] at c3 c4 c5 c6
    rw [Nat.zero_mul]
    refine .d _ _ (.sl (h'.ρ l0) 0 n c sz F (fun i j => (cur[i * sz + j]?).getD undef) hcn (fun i hi => c6.1 i hi) (fun i j hi hj => ?_) ?_ (fun i j y hi hy => ?_))
    ·obtain ⟨u,d,k1,k2,k3⟩ := c6.at (i := i) (j := j) hi hj
     rw [Nat.zero_add,z15 c2,k2];rfl
    ·show 0 + n * sz ≤ if h'.ρ l0 < w.heap.size then h.g (h'.ρ l0) else if h'.ρ l0 = h'.ρ l0 then n * sz else h'.g (h'.ρ l0)
     rw [if_neg (by omega),if_pos rfl];omega
    ·have hj : j < (F i).length := (List.getElem?_eq_some_iff.1 hy).1
     obtain ⟨u,k1,k2⟩ := c6.cell (i := i) (j := j) hi (by rw [← c6.1 i hi];exact hj) hy
     rw [k1]
     exact z45 (hF i hi y (List.mem_of_getElem? hy)) k2
 unfold CallRes at *
 split at key
 ·exact key.mono fun e w' ⟨v,he,hh⟩ => ⟨v,he,fin v w' hh⟩
 ·exact fin _ _ key
 ·exact key.elim
end Go.Proofs.Ytbamjcnhmmgnlaa.AL
namespace Go.Proofs.Ytbamjcnhmmgnlaa
open Go.Shelf Go.Proofs
def sortZ_ren : Go.Shelf.Ren := ⟨fun | 125 => 73 | 128 => 104 | 129 => 105 | 189 => 40 | 215 => 126 | 216 => 101 | 257 => 72 | 294 => 95 | 295 => 96 | 296 => 97 | 297 => 98 | 298 => 99 | 299 => 100 | 300 => 102 | 301 => 103 | 328 => 121 | 329 => 122 | 330 => 123 | 331 => 124 | 332 => 125 | 343 => 130 | n => n,fun | 0 => 0 | 3 => 3 | 4 => 4 | 5 => 5 | 9 => 9 | 28 => 35 | 46 => 146 | 51 => 176 | 53 => 23 | 131 => 140 | 182 => 168 | 183 => 169 | 218 => 189 | 222 => 193 | 228 => 197 | 229 => 198 | n => n,fun n => n⟩
theorem q83 : Lays.n189 Try.prog sortZ_ren where
 mixed := by kernel_rfl
 f125 := Try.func73.trans (congrArg some (by kernel_rfl))
 f128 := Try.func104.trans (congrArg some (by kernel_rfl))
 f129 := Try.func105.trans (congrArg some (by kernel_rfl))
 f189 := Try.func40.trans (congrArg some (by kernel_rfl))
 f215 := Try.func126.trans (congrArg some (by kernel_rfl))
 f216 := Try.func101.trans (congrArg some (by kernel_rfl))
 f257 := Try.func72.trans (congrArg some (by kernel_rfl))
 f294 := Try.func95.trans (congrArg some (by kernel_rfl))
 f295 := Try.func96.trans (congrArg some (by kernel_rfl))
 f296 := Try.func97.trans (congrArg some (by kernel_rfl))
 f297 := Try.func98.trans (congrArg some (by kernel_rfl))
 f298 := Try.func99.trans (congrArg some (by kernel_rfl))
 f299 := Try.func100.trans (congrArg some (by kernel_rfl))
 f300 := Try.func102.trans (congrArg some (by kernel_rfl))
 f301 := Try.func103.trans (congrArg some (by kernel_rfl))
 f328 := Try.func121.trans (congrArg some (by kernel_rfl))
 f329 := Try.func122.trans (congrArg some (by kernel_rfl))
 f330 := Try.func123.trans (congrArg some (by kernel_rfl))
 f331 := Try.func124.trans (congrArg some (by kernel_rfl))
 f332 := Try.func125.trans (congrArg some (by kernel_rfl))
 f343 := Try.func130.trans (congrArg some (by kernel_rfl))
 t0 := Try.underlying0
 a0 := Try.isAgg0
 z0 := Try.sizeOf0
 v0 := Try.zeroValue0
 t3 := Try.underlying3
 a3 := Try.isAgg3
 z3 := Try.sizeOf3
 v3 := Try.zeroValue3
 t4 := Try.underlying4
 a4 := Try.isAgg4
 z4 := Try.sizeOf4
 v4 := Try.zeroValue4
 t5 := Try.underlying5
 a5 := Try.isAgg5
 z5 := Try.sizeOf5
 v5 := Try.zeroValue5
 t9 := Try.underlying9
 a9 := Try.isAgg9
 z9 := Try.sizeOf9
 v9 := Try.zeroValue9
 t28 := Try.underlying35
 a28 := Try.isAgg35
 z28 := Try.sizeOf35
 v28 := Try.zeroValue35
 t46 := Try.underlying146
 a46 := Try.isAgg146
 z46 := Try.sizeOf146
 v46 := Try.zeroValue146
 t51 := Try.underlying176
 a51 := Try.isAgg176
 z51 := Try.sizeOf176
 v51 := Try.zeroValue176
 t53 := Try.underlying23
 a53 := Try.isAgg23
 z53 := Try.sizeOf23
 v53 := Try.zeroValue23
 t131 := Try.underlying140
 a131 := Try.isAgg140
 z131 := Try.sizeOf140
 v131 := Try.zeroValue140
 t182 := Try.underlying168
 a182 := Try.isAgg168
 z182 := Try.sizeOf168
 v182 := Try.zeroValue168
 t183 := Try.underlying169
 a183 := Try.isAgg169
 z183 := Try.sizeOf169
 v183 := Try.zeroValue169
 t218 := Try.underlying189
 a218 := Try.isAgg189
 z218 := Try.sizeOf189
 v218 := Try.zeroValue189
 t222 := Try.underlying193
 a222 := Try.isAgg193
 z222 := Try.sizeOf193
 v222 := Try.zeroValue193
 t228 := Try.underlying197
 a228 := Try.isAgg197
 z228 := Try.sizeOf197
 v228 := Try.zeroValue197
 t229 := Try.underlying198
 a229 := Try.isAgg198
 z229 := Try.sizeOf198
 v229 := Try.zeroValue198
end Go.Proofs.Ytbamjcnhmmgnlaa
namespace Go.Proofs.Ytbamjcnhmmgnlaa
open Go.Proofs.Ytbamjcnhmmgnlaa.AL Go.RowKit Go.Sort
theorem z134 {O : Nat → Prop} {w : World} {h : Gh} {l gen : Nat} {e : TypeId} {zs : List Int} (hL : LocOK O w h l (.own e 1 zs.length gen (rowZ zs))) {b : Nat} (hb : (h.κ l).ownBlock = some b) :
  ∃ cap cur,h.κ l = .slice (some ⟨b,0,none⟩) zs.length cap ∧ w.heap[b]? = some (.cells cur e (0,0)) ∧ zs.length ≤ cap ∧ cap ≤ maxLen ∧ cur.size = cap ∧ h.g b = 0 ∧ Holds (Value.int .i64) w b 0 zs.toArray ∧ b < w.heap.size := by
 obtain ⟨cap,cur,c1,c2,c3,c4,c5,c6,c7,c8⟩ := q27 hL hb
 refine ⟨cap,cur,c1,c2,c3,c4,by omega,c6,fun j hj => ?_,(Array.getElem?_eq_some_iff.1 c2).1⟩
 have hj : j < zs.length := by simpa using hj
 obtain ⟨u,k1,k2⟩ := c8.cell hj (show 0 < 1 by omega) (d := .v (.int .i64 (zs.getD j 0))) rfl
 have hu : u = .int .i64 (zs.getD j 0) := j53 k2
 constructor
 ·rw [Nat.zero_add,z15 c2]
  simp only [Nat.mul_one,Nat.add_zero] at k1
  rw [k1,hu]
  simp [hj]
 ·simp [World.frozen?,c2]
theorem x134 {w : World} {b n cap : Nat} {cur : Array Value} {e : TypeId} (hb : w.heap[b]? = some (.cells cur e (0,0))) (zs : List Int) (hz : zs.length ≤ cur.size) (q : Nat) (os : Array Obj) :
  (Go.Sort.grow (putRow (Value.int .i64) (Go.Sort.ahead w q) b 0 zs.toArray) os).heap[b]? = some (.cells (putCells (Value.int .i64) 0 zs.toArray cur) e (0,0)) ∧
   (∀ k,k < w.heap.size → k ≠ b → (Go.Sort.grow (putRow (Value.int .i64) (Go.Sort.ahead w q) b 0 zs.toArray) os).heap[k]? = w.heap[k]?) := by
 have hlt : b < w.heap.size := (Array.getElem?_eq_some_iff.1 hb).1
 constructor
 ·rw [heap_grow_old _ _ (by simpa using hlt)]
  show (w.heap.modify b (onCells _))[b]? = _
  rw [Array.getElem?_modify,if_pos rfl,hb]
  simp [onCells]
 ·intro k hk hne
  rw [heap_grow_old _ _ (by simpa using hk)]
  simp [putRow,mapBlock,Array.getElem?_modify,Ne.symm hne]
theorem j134 (zs : List Int) (cur : Array Value) (hz : zs.length ≤ cur.size) (n : Nat) (hn : n ≤ zs.length) : (putCells (Value.int .i64) 0 zs.toArray cur).toList.take n = (zs.take n).map (Value.int .i64) := by
 apply List.ext_getElem?
 intro k
 by_cases hk : k < n
 ·rw [List.getElem?_take_of_lt hk,List.getElem?_map,List.getElem?_take_of_lt hk,Array.getElem?_toList]
  simp only [putCells,Array.getElem?_mapIdx]
  rw [Array.getElem?_eq_getElem (by omega),Option.map_some,if_pos ⟨by omega,by simp;omega⟩]
  simp [show k < zs.length by omega]
 ·rw [List.getElem?_eq_none (by simp;omega),List.getElem?_eq_none (by simp;omega)]
theorem q135 {w : World} {g : Nat → Nat} (zs : List Int) : RowIs w g 1 zs.length (zs.map (Value.int .i64)) (rowZ zs) := by
 refine ⟨fun i hi => rfl,fun i j d hi hj hd => ?_⟩
 have : j = 0 := by omega
 subst this
 simp [rowZ] at hd
 subst hd
 exact ⟨.int .i64 (zs.getD i 0),by simp [hi],.v _ rfl⟩
theorem z135 {P : Program} {f : FuncId} {xs : List AV} {e : TypeId} {n gen n' gen' : Nat} {zs zs' : List Int} {rs : List AV} (hf : ∀ (args : Array Value) (w : World),(callFunc f args).run P w = .ok (.enter f args) w)
  (hn : n = zs.length) (hn' : n' = zs'.length) (hle : zs'.length ≤ zs.length) (hgen : (gen' = gen ∧ n' = n) ∨ gen < gen') (hpos : 0 < zs.length)
  (hargs : ∀ (w : World) (h : Gh) (vs : List Value) (b cap : Nat),RelAs w h vs xs → h.μ 1000 = gen → h.κ 1000 = .slice (some ⟨b,0,none⟩) n cap → Holds (Value.int .i64) w b 0 zs.toArray → b < w.heap.size → zs.length ≤ cap → cap ≤ maxLen →
   Calls P f vs.toArray w fun r w' => ∃ v,r = .returned v ∧ (∀ h' : Gh,h'.κ 1000 = .slice (some ⟨b,0,none⟩) n' cap → h'.μ 1000 = gen' → RelRA w' h' v rs) ∧ ∃ q os tail,w' = Go.Sort.grow (putRow (Value.int .i64) (Go.Sort.ahead w q) b 0 (zs' ++ tail).toArray) os ∧ (zs' ++ tail).length = zs.length) :
  MCalls P f xs [(1000,.own e 1 n gen (rowZ zs))] (fun r M => r = rs ∧ M = [(1000,.own e 1 n' gen' (rowZ zs'))]) := by
 subst hn hn'
 intro w h vs hz hr hl
 have hL := hl.1 1000 _ rfl
 have hμ : h.μ 1000 = gen := hL.1
 have hb0 : ∃ b,(h.κ 1000).ownBlock = some b := by
  obtain ⟨_,⟨ys,⟨h1,⟨h2,h3⟩ | ⟨gb,cap,cur,h2,_⟩⟩,_⟩,_⟩ := hL
  ·omega
  ·exact ⟨gb,by rw [h2];rfl⟩
 obtain ⟨b,hb⟩ := hb0
 obtain ⟨cap,cur,c1,c2,c3,c4,c5,c6,c7,c8⟩ := z134 hL hb
 rw [hf]
 show Calls P f vs.toArray w _
 refine (hargs w h vs b cap hr hμ c1 c7 c8 c3 c4).mono fun r w' ⟨v,hr',hrel,q,os,tail,hw,htl⟩ => ?_
 subst hr' hw
 obtain ⟨e1,e2⟩ := x134 (n := 0) (cap := 0) c2 (zs' ++ tail) (by omega) q os
 generalize hW : Go.Sort.grow (putRow (Value.int .i64) (Go.Sort.ahead w q) b 0 (zs' ++ tail).toArray) os = W at e1 e2 hrel
 have hsz : w.heap.size ≤ W.heap.size := by rw [← hW];simp
 have hos : W.os = w.os ∧ W.tape = w.tape ∧ W.output = w.output := by rw [← hW];exact ⟨rfl,rfl,rfl⟩
 let h' : Gh := { h with κ := fun k => if k = 1000 then .slice (some ⟨b,0,none⟩) zs'.length cap else h.κ k,μ := fun k => if k = 1000 then gen' else h.μ k }
 have hκ : h'.κ 1000 = .slice (some ⟨b,0,none⟩) zs'.length cap := by simp [h']
 have hμ' : h'.μ 1000 = gen' := by simp [h']
 have hbl : b < w.heap.size := c8
 have hown : ∀ k,¬ ownB h [(1000,LV.own e 1 zs.length gen (rowZ zs))] k → k ≠ b := fun k hk e => hk ⟨1000,_,rfl,by simp [inB,hb,e]⟩
 refine ⟨v,rfl,h',_,_,⟨rfl,rfl⟩,hrel h' hκ hμ',⟨fun l X hX => ?_,fun l l' X X' b' hne h1 h2 => ?_⟩,?_⟩
 ·simp only [AL.look] at hX
  split at hX
  ·rename_i e;subst e;cases hX
   refine ⟨hμ',⟨zs'.map (Value.int .i64),?_,q135 zs'⟩,fun b' hb' => ?_⟩
   ·rw [hκ]
    refine ⟨by simp,.inr ⟨b,cap,_,rfl,Nat.zero_le _,e1,by omega,c4,by simp [putCells,c5],?_⟩⟩
    rw [Nat.mul_one,j134 _ _ (by omega) _ (by simp)]
    simp
   ·rw [hκ] at hb'
    simp only [Value.ownBlock,Option.some.injEq] at hb'
    subst hb'
    exact ⟨c6,trivial⟩
  ·cases hX
 ·simp only [AL.look] at h1 h2
  split at h1
  ·rename_i e
   split at h2
   ·rename_i e2;exact absurd (e.symm.trans e2) hne
   ·cases h2
  ·cases h1
 ·refine ⟨⟨hos.1,hos.2.1,hos.2.2,hsz,fun k hk hno => e2 k hk (hown k hno)⟩,fun _ _ _ => rfl,fun k hk => hz k (by omega),⟨fun _ => Nat.le_refl _,fun k o ho => ?_⟩,fun _ _ _ => rfl,fun l X hX => ?_,fun b' ⟨l,X,h1,h2⟩ => .inr ?_⟩
  ·have hkb : k ≠ b := fun e => by subst e;rw [c6] at ho;omega
   have hk : k < w.heap.size := by
    refine Nat.lt_of_not_le fun hle => ?_
    rw [hz k hle] at ho;omega
   exact World.cell?_of_block (w := w) (e2 k hk hkb)
  ·simp only [AL.look] at hX
   split at hX
   ·rename_i e;subst e
    rw [hμ',hμ,hκ,c1]
    rcases hgen with ⟨g1,g2⟩ | g1
    ·right;rw [g1,g2];exact ⟨rfl,rfl⟩
    ·exact .inl g1
   ·cases hX
  ·simp only [AL.look] at h1
   split at h1
   ·rename_i e;subst e;cases h1
    simp only [inB,hκ,Value.ownBlock,Option.some.injEq] at h2
    subst h2
    exact ⟨1000,_,rfl,by simp [inB,hb]⟩
   ·cases h1
theorem x135 {w : World} {h : Gh} {vs : List Value} {gen n : Nat} {v0 : Value} (hr : RelAs w h vs [.ow 1000 gen 1 n]) (hμ : h.μ 1000 = gen) (hκ : h.κ 1000 = v0) : vs = [v0] := by
 match vs,hr with
 | [a],hr => have := (hr.2 0 a _ rfl rfl).2.2 hμ;rw [this,hκ]
 | [],hr => simp [RelAs] at hr
 | _ :: _ :: _,hr => simp [RelAs] at hr
def srtZ (l : List Int) : List Int := l.mergeSort fun x y => decide (x ≤ y)
set_option maxRecDepth 100000 in
theorem SortZ_c (zs : List Int) (gen : Nat) (h0 : 0 < zs.length) (hl : zs.length ≤ 1099511627776) : MCalls Try.prog 40 [.ow 1000 gen 1 zs.length] [(1000,.own 3 1 zs.length gen (rowZ zs))] (fun rs M => rs = [] ∧ M = [(1000,.own 3 1 zs.length gen (rowZ (srtZ zs)))]) := by
 have hlen : (srtZ zs).length = zs.length := by unfold srtZ;simp
 refine z135 (fun args w => j78 args w Try.func40 rfl (by kernel_rfl)) rfl hlen.symm (by omega) (.inl ⟨rfl,rfl⟩) h0 fun w h vs b cap hr hμ hκ hH hb _ _ => ?_
 rw [x135 hr hμ hκ]
 refine Calls.mono (Go.Proofs.Any.slices_Sort_int q83 b 0 cap zs w hH hb (by omega)) fun r w' ⟨h1,n,os,h2⟩ => ?_
 subst h1
 exact ⟨_,rfl,fun h' _ _ => ⟨[],rfl,rfl,fun j v x hv => by simp at hv⟩,n,os,[],by rw [List.append_nil];exact h2,by rw [List.append_nil];exact hlen⟩
end Go.Proofs.Ytbamjcnhmmgnlaa
namespace Go.Proofs.Ytbamjcnhmmgnlaa
open Go Go.Proofs.Ytbamjcnhmmgnlaa.AL
set_option maxRecDepth 100000 in
theorem j135 (pres : List Nat → Bool) (I : List Nat → List Int) (c : Cube) (f : Nat) (hf : f ≤ 128) (p : List Nat) (hB : (gathT pres I c f p).length ≤ 1099511627776) :
  MCalls Try.prog 38 [.p (.d (treeD pres I (f + 1) p)),.p (.d (.v (.int .i64 ((f : Int) - 1)))),.p (lookD c),.p (.d (.v (.slice none 0 0)))] []
   (fun rs L => rs = [.ow 1000 (gathN pres c f p) 1 (gathT pres I c f p).length] ∧ L = [(1000,.own 3 1 (gathT pres I c f p).length (gathN pres c f p) (rowZ (gathT pres I c f p)))]) := by
 have k := z133 pres I c f hf p [] 0 (by simpa using hB)
 rw [Nat.zero_add,List.nil_append] at k
 exact MCalls.nilOwn (xs := [.d (treeD pres I (f + 1) p),.d (.v (.int .i64 ((f : Int) - 1))),lookD c]) k
set_option maxRecDepth 100000 in
theorem SortE_c (f : Nat → List Dat) : ACalls Try.prog 40 [.d (.sl 1 0 f)] (· = []) := by
 refine q34.2 fun w g vs hz hr => ?_
 obtain ⟨v,vs',rfl,hv,hn⟩ := hr.cons_inv
 have := hn.nil_inv
 subst this
 obtain ⟨a,c,rfl⟩ : ∃ a c,v = .slice a 0 c := by
  cases hv with
  |d _ _ h =>
   cases h with
   | sl0 a c => exact ⟨_,_,rfl⟩
   | sl b off _ c => exact ⟨_,_,rfl⟩
 rw [j78 _ w Try.func40 rfl (by kernel_rfl)]
 show Calls Try.prog 40 _ w _
 refine Calls.mono (Any.slices_Sort_int_none q83 a c w) fun e w' ⟨he,hw⟩ => ?_
 subst hw
 exact ⟨_,he,g,_,Ext.refl hz,rfl,[],rfl,RelPs.nil _ _⟩
set_option maxRecDepth 100000 in
theorem ClipZ_r (n : Nat) (f : Nat → List Dat) (h0 : 0 < n) (hn : n ≤ 1099511627776) : MCalls Try.prog 41 [.row 1000 1 0 n] [(1000,.blk 3 1 n f)] (fun rs L => rs = [.row 1000 1 0 n] ∧ L = [(1000,.blk 3 1 n f)]) := by
 refine j15 Try.func41 rfl (by decide +kernel) (by rw [Try.ntmps41];simp) (fun l X h => by simp only [AL.look] at h;(repeat' split at h);all_goals first | omega | cases h) ?_;rw [Try.ntmps41];simp only [frA]
 (repeat (first | apply j4 | refine q8 rfl ?_ | refine z8 rfl ?_ | apply j7 | (refine j0 fun K hK => ?_) | (refine x5 fun K hK => ?_) | ((first | apply j6 | apply z7 | ((first | refine z6 (hK _ ?_) | refine x6 (hK _ _ j5 ?_));clear hK K));(first | show AWP _ _ _ _ _ | ((try simp only [x7]);first | show loopQ _ _ _ _ _ _ | show cutQ _ _ _ _ | show AWP _ _ _ _ _))) | ((first | refine x8 [] rfl ?_ | refine j8 [] rfl ?_);simp (disch:=omega) only [go_sem,seval,hd,cb];(repeat (first | refine ⟨by omega,?_⟩ | refine ⟨True.intro,?_⟩)))))
 refine q10 ?_
 exact x57 rfl rfl rfl ⟨rfl,rfl⟩
def ovZ (pres : List Nat → Bool) (I : List Nat → List Int) (c : Cube) : List Int := if c.sound then srtZ (gathT pres I c 128 []) else []
def rootD (pres : List Nat → Bool) (I : List Nat → List Int) (X : Dat) : PV := .d (.bx [treeD pres I 128 [0],treeD pres I 128 [1],treeD pres I 128 [2],.sl 1 (I []).length (rowZ (I [])),X])
set_option maxRecDepth 100000 in
theorem z83 (pres : List Nat → Bool) (I : List Nat → List Int) (c : Cube) (X : Dat) (hp : pres [] = true) (hB : (gathT pres I c 128 []).length ≤ 1099511627776) :
  MCalls Try.prog 15 [.p (rootD pres I X),.p (.agg (cb c))] [] (FreshR 501 3 1 (ovZ pres I c).length (rowZ (ovZ pres I c))) := by
 have hs := x43 c
 have kg := j135 pres I c 128 (by omega) [] hB
 have e0 : treeD pres I (128 + 1) [] = .bx [treeD pres I 128 [0],treeD pres I 128 [1],treeD pres I 128 [2],.sl 1 (I []).length (rowZ (I []))] := by
  rw [treeD,if_pos hp];rfl
 rw [e0] at kg
 replace kg := kg.args (xs := [.p (rootD pres I X),.p (.d (.v (.int .i64 127))),.p (lookD c),.p (.d (.v (.slice none 0 0)))]) fun w h vs hr => j133 hr fun v hv => by
  cases hv with
  | d _ _ hv => exact .d _ _ (x133 (ds := [X]) hv)
 have hsl : (srtZ (gathT pres I c 128 [])).length = (gathT pres I c 128 []).length := by unfold srtZ;simp
 have hpm : (gathT pres I c 128 []).length = 0 → srtZ (gathT pres I c 128 []) = [] := fun h => List.eq_nil_of_length_eq_zero (by omega)
 unfold ovZ
 unfold rootD at kg ⊢
 unfold lookD at kg
 generalize treeD pres I 128 [0] = t0 at *
 generalize treeD pres I 128 [1] = t1 at *
 generalize treeD pres I 128 [2] = t2 at *
 generalize gathN pres c 128 [] = gen at *
 generalize gathT pres I c 128 [] = zs at *
 generalize c.sound = s at *
 cases s with
 |false =>
  refine j15 Try.func15 rfl (by decide +kernel) (by rw [Try.ntmps15];simp) (fun l X h => by simp only [AL.look] at h;(repeat' split at h);all_goals first | omega | cases h) ?_;rw [Try.ntmps15];simp only [frA]
  (repeat (first | apply j4 | refine q8 rfl ?_ | refine z8 rfl ?_ | apply j7 | (refine j0 fun K hK => ?_) | (refine x5 fun K hK => ?_) | ((first | apply j6 | apply z7 | ((first | refine z6 (hK _ ?_) | refine x6 (hK _ _ j5 ?_));clear hK K));(first | show AWP _ _ _ _ _ | ((try simp only [x7]);first | show loopQ _ _ _ _ _ _ | show cutQ _ _ _ _ | show AWP _ _ _ _ _))) | ((first | refine x10 rfl rfl rfl ?_ | refine j10 rfl rfl rfl ?_);simp (disch:=omega) only [go_sem,seval,hd,cb];(first | refine ⟨_,hs,?_⟩)) | ((first | refine x8 [] rfl ?_ | refine j8 [] rfl ?_);simp (disch:=omega) only [go_sem,seval,hd,cb];(repeat (first | refine ⟨by omega,?_⟩ | refine ⟨True.intro,?_⟩)))))
  refine q42 4 _ (.p (.d (.sl 1 0 (rowZ [])))) rfl z78 ?_
  refine q10 ?_
  refine (q16 (rs := [.p (.d (.sl 1 0 (rowZ [])))]) (L := []) (.inl ⟨rfl,rfl,rfl⟩) ?_ ?_).1
  ·exact ⟨rfl,trivial⟩
  ·exact fun p hp => by cases hp
 |true =>
  simp only [if_true]
  rw [hsl]
  refine j15 Try.func15 rfl (by decide +kernel) (by rw [Try.ntmps15];simp) (fun l X h => by simp only [AL.look] at h;(repeat' split at h);all_goals first | omega | cases h) ?_;rw [Try.ntmps15];simp only [frA]
  (repeat (first | apply j4 | refine q8 rfl ?_ | refine z8 rfl ?_ | apply j7 | (refine j0 fun K hK => ?_) | (refine x5 fun K hK => ?_) | ((first | apply j6 | apply z7 | ((first | refine z6 (hK _ ?_) | refine x6 (hK _ _ j5 ?_));clear hK K));(first | show AWP _ _ _ _ _ | ((try simp only [x7]);first | show loopQ _ _ _ _ _ _ | show cutQ _ _ _ _ | show AWP _ _ _ _ _))) | ((first | refine x10 rfl rfl rfl ?_ | refine j10 rfl rfl rfl ?_);simp (disch:=omega) only [go_sem,seval,hd,cb];(first | refine ⟨_,hs,?_⟩)) | ((first | refine x8 [] rfl ?_ | refine j8 [] rfl ?_);simp (disch:=omega) only [go_sem,seval,hd,cb];(repeat (first | refine ⟨by omega,?_⟩ | refine ⟨True.intro,?_⟩)))))
  (refine q134 500 rfl rfl rfl rfl rfl rfl (kg) rfl rfl (fun l hl => by simpa [AV.mentions] using hl) (by kernel_rfl) ?_);simp (disch:=omega) only [go_sem,seval,hd,cb]
  (repeat ((fail_if_success (show AWP _ _ (.region 4 _ _) _ _));first | apply j4 | refine q8 rfl ?_ | refine z8 rfl ?_ | apply j7 | (refine j0 fun K hK => ?_) | (refine x5 fun K hK => ?_) | ((first | apply j6 | apply z7 | ((first | refine z6 (hK _ ?_) | refine x6 (hK _ _ j5 ?_));clear hK K));(first | show AWP _ _ _ _ _ | ((try simp only [x7]);first | show loopQ _ _ _ _ _ _ | show cutQ _ _ _ _ | show AWP _ _ _ _ _))) | ((first | refine x8 [] rfl ?_ | refine j8 [] rfl ?_);simp (disch:=omega) only [go_sem,seval,hd,cb];(repeat (first | refine ⟨by omega,?_⟩ | refine ⟨True.intro,?_⟩)))))
  by_cases h0 : 0 < zs.length
  ·have k2 := SortZ_c zs gen h0 hB
   have k3 := ClipZ_r zs.length (rowZ (srtZ zs)) h0 hB
   (repeat (first | apply j4 | refine q8 rfl ?_ | refine z8 rfl ?_ | apply j7 | (refine j0 fun K hK => ?_) | (refine x5 fun K hK => ?_) | ((first | apply j6 | apply z7 | ((first | refine z6 (hK _ ?_) | refine x6 (hK _ _ j5 ?_));clear hK K));(first | show AWP _ _ _ _ _ | ((try simp only [x7]);first | show loopQ _ _ _ _ _ _ | show cutQ _ _ _ _ | show AWP _ _ _ _ _))) | ((first | refine x8 [] rfl ?_ | refine j8 [] rfl ?_);simp (disch:=omega) only [go_sem,seval,hd,cb];(repeat (first | refine ⟨by omega,?_⟩ | refine ⟨True.intro,?_⟩)))))
   (refine z17 _ (q18 [(1000,500)] rfl rfl rfl rfl rfl rfl (k2) rfl (q11 (by repeat (first | exact trivial | refine ⟨rfl,?_⟩)) (by kernel_rfl))) ?_);simp (disch:=omega) only [go_sem,seval,hd,cb]
   (repeat ((fail_if_success (show AWP _ _ (.region 5 _ _) _ _));first | apply j4 | refine q8 rfl ?_ | refine z8 rfl ?_ | apply j7 | (refine j0 fun K hK => ?_) | (refine x5 fun K hK => ?_) | ((first | apply j6 | apply z7 | ((first | refine z6 (hK _ ?_) | refine x6 (hK _ _ j5 ?_));clear hK K));(first | show AWP _ _ _ _ _ | ((try simp only [x7]);first | show loopQ _ _ _ _ _ _ | show cutQ _ _ _ _ | show AWP _ _ _ _ _))) | ((first | refine x8 [] rfl ?_ | refine j8 [] rfl ?_);simp (disch:=omega) only [go_sem,seval,hd,cb];(repeat (first | refine ⟨by omega,?_⟩ | refine ⟨True.intro,?_⟩)))))
   refine x27 (Weak.ownBlk _ 5 500 501 gen 1 zs.length 3 (rowZ (srtZ zs)) rfl rfl h0 (by kernel_rfl) rfl) ?_
   (repeat (first | apply j4 | refine q8 rfl ?_ | refine z8 rfl ?_ | apply j7 | (refine j0 fun K hK => ?_) | (refine x5 fun K hK => ?_) | ((first | apply j6 | apply z7 | ((first | refine z6 (hK _ ?_) | refine x6 (hK _ _ j5 ?_));clear hK K));(first | show AWP _ _ _ _ _ | ((try simp only [x7]);first | show loopQ _ _ _ _ _ _ | show cutQ _ _ _ _ | show AWP _ _ _ _ _))) | ((first | refine x8 [] rfl ?_ | refine j8 [] rfl ?_);simp (disch:=omega) only [go_sem,seval,hd,cb];(repeat (first | refine ⟨by omega,?_⟩ | refine ⟨True.intro,?_⟩)))))
   (refine z17 _ (q18 [(1000,501)] rfl rfl rfl rfl rfl rfl (k3) rfl (q11 (by repeat (first | exact trivial | refine ⟨rfl,?_⟩)) (by kernel_rfl))) ?_);simp (disch:=omega) only [go_sem,seval,hd,cb]
   (repeat (first | apply j4 | refine q8 rfl ?_ | refine z8 rfl ?_ | apply j7 | (refine j0 fun K hK => ?_) | (refine x5 fun K hK => ?_) | ((first | apply j6 | apply z7 | ((first | refine z6 (hK _ ?_) | refine x6 (hK _ _ j5 ?_));clear hK K));(first | show AWP _ _ _ _ _ | ((try simp only [x7]);first | show loopQ _ _ _ _ _ _ | show cutQ _ _ _ _ | show AWP _ _ _ _ _))) | ((first | refine x8 [] rfl ?_ | refine j8 [] rfl ?_);simp (disch:=omega) only [go_sem,seval,hd,cb];(repeat (first | refine ⟨by omega,?_⟩ | refine ⟨True.intro,?_⟩)))))
   refine q10 ?_
   refine (q16 (rs := [.row 501 1 0 zs.length]) (L := [(501,.blk 3 1 zs.length (rowZ (srtZ zs)))]) (.inr ⟨h0,rfl,rfl⟩) ?_ ?_).1
   ·exact ⟨rfl,trivial⟩
   ·intro p hp
    simp at hp
    subst hp
    rfl
  ·have hz : zs = [] := List.eq_nil_of_length_eq_zero (by omega)
   subst hz
   have k2 := SortE_c (rowZ [])
   have k3 := ClipZ_c 0 (rowZ []) (by omega)
   have e : srtZ [] = [] := hpm rfl
   rw [e]
   refine z117 5 500 gen 1 0 3 (rowZ []) rfl rfl ?_
   (repeat (first | apply j4 | refine q8 rfl ?_ | refine z8 rfl ?_ | apply j7 | (refine j0 fun K hK => ?_) | (refine x5 fun K hK => ?_) | ((first | apply j6 | apply z7 | ((first | refine z6 (hK _ ?_) | refine x6 (hK _ _ j5 ?_));clear hK K));(first | show AWP _ _ _ _ _ | ((try simp only [x7]);first | show loopQ _ _ _ _ _ _ | show cutQ _ _ _ _ | show AWP _ _ _ _ _))) | ((first | refine x10 rfl rfl rfl ?_ | refine j10 rfl rfl rfl ?_);simp (disch:=omega) only [go_sem,seval,hd,cb];(first | refine ⟨_,k2,?_⟩ | refine ⟨_,k3,?_⟩)) | ((first | refine x8 [] rfl ?_ | refine j8 [] rfl ?_);simp (disch:=omega) only [go_sem,seval,hd,cb];(repeat (first | refine ⟨by omega,?_⟩ | refine ⟨True.intro,?_⟩)))))
   refine q10 ?_
   refine (q16 (rs := [.p (.d (.sl 1 0 (rowZ [])))]) (L := []) (.inl ⟨rfl,rfl,rfl⟩) ?_ ?_).1
   ·exact ⟨rfl,trivial⟩
   ·exact fun p hp => by cases hp
def headC (h : BitVec 128) : Cube := mkC h (ones 128 <<< 0)
theorem q136 : ACalls Try.prog 42 [.d (.v (.int .i64 0)),.d (.v (.int .i64 128))] (· = [.agg (hd (ones 128 <<< 0)),.d (.v (.int .i64 0))]) := by
 have := Mask_c 0 128 (by omega)
 have e : fieldB 0 128 128 = true := by decide
 rw [e] at this
 exact this
set_option maxRecDepth 100000 in
theorem z136 (pres : List Nat → Bool) (I : List Nat → List Int) (h : BitVec 128) (X : Dat) (hp : pres [] = true) (hB : (gathT pres I (headC h) 128 []).length ≤ 1099511627776) :
  MCalls Try.prog 16 [.p (rootD pres I X),.p (.agg (hd h))] [] (FreshR 701 3 1 (ovZ pres I (headC h)).length (rowZ (ovZ pres I (headC h)))) := by
 have ko := z83 pres I (headC h) X hp hB
 have km := q136
 have kk := Make_c h (ones 128 <<< 0)
 unfold headC at *
 generalize ovZ pres I (mkC h (ones 128 <<< 0)) = zs at *
 generalize mkC h (ones 128 <<< 0) = c at *
 generalize (ones 128 <<< 0 : BitVec 128) = m at *
 unfold rootD at *
 by_cases h0 : 0 < zs.length
 ·have ko2 := ko.mono (Q' := fun rs L => rs = [.row 501 1 0 zs.length] ∧ L = [(501,.blk 3 1 zs.length (rowZ zs))]) fun rs L hq => by
   rcases hq with ⟨h,_⟩ | ⟨_,h1,h2⟩
   ·omega
   ·exact ⟨h1,h2⟩
  refine j15 Try.func16 rfl (by decide +kernel) (by rw [Try.ntmps16];simp) (fun l X h => by simp only [AL.look] at h;(repeat' split at h);all_goals first | omega | cases h) ?_;rw [Try.ntmps16];simp only [frA]
  (repeat (first | apply j4 | refine q8 rfl ?_ | refine z8 rfl ?_ | apply j7 | (refine j0 fun K hK => ?_) | (refine x5 fun K hK => ?_) | ((first | apply j6 | apply z7 | ((first | refine z6 (hK _ ?_) | refine x6 (hK _ _ j5 ?_));clear hK K));(first | show AWP _ _ _ _ _ | ((try simp only [x7]);first | show loopQ _ _ _ _ _ _ | show cutQ _ _ _ _ | show AWP _ _ _ _ _))) | ((first | refine x10 rfl rfl rfl ?_ | refine j10 rfl rfl rfl ?_);simp (disch:=omega) only [go_sem,seval,hd,cb];(first | refine ⟨_,km,?_⟩ | refine ⟨_,kk,?_⟩)) | ((first | refine x8 [] rfl ?_ | refine j8 [] rfl ?_);simp (disch:=omega) only [go_sem,seval,hd,cb];(repeat (first | refine ⟨by omega,?_⟩ | refine ⟨True.intro,?_⟩)))))
  (refine z17 _ (q18 [(501,701)] rfl rfl rfl rfl rfl rfl (ko2) rfl (q11 (by repeat (first | exact trivial | refine ⟨rfl,?_⟩)) (by kernel_rfl))) ?_);simp (disch:=omega) only [go_sem,seval,hd,cb]
  (repeat (first | apply j4 | refine q8 rfl ?_ | refine z8 rfl ?_ | apply j7 | (refine j0 fun K hK => ?_) | (refine x5 fun K hK => ?_) | ((first | apply j6 | apply z7 | ((first | refine z6 (hK _ ?_) | refine x6 (hK _ _ j5 ?_));clear hK K));(first | show AWP _ _ _ _ _ | ((try simp only [x7]);first | show loopQ _ _ _ _ _ _ | show cutQ _ _ _ _ | show AWP _ _ _ _ _))) | ((first | refine x8 [] rfl ?_ | refine j8 [] rfl ?_);simp (disch:=omega) only [go_sem,seval,hd,cb];(repeat (first | refine ⟨by omega,?_⟩ | refine ⟨True.intro,?_⟩)))))
  refine q10 ?_
  refine (q16 (rs := [.row 701 1 0 zs.length]) (L := [(701,.blk 3 1 zs.length (rowZ zs))]) (.inr ⟨h0,rfl,rfl⟩) ?_ ?_).1
  ·exact ⟨rfl,trivial⟩
  ·intro p hp
   simp at hp
   subst hp
   rfl
 ·have hz : zs = [] := List.eq_nil_of_length_eq_zero (by omega)
  subst hz
  have ko2 := ko.mono (Q' := fun rs L => rs = [.p (.d (.sl 1 0 (rowZ [])))] ∧ L = []) fun rs L hq => by
   rcases hq with ⟨_,h1,h2⟩ | ⟨h,_⟩
   ·exact ⟨h1,h2⟩
   ·omega
  refine j15 Try.func16 rfl (by decide +kernel) (by rw [Try.ntmps16];simp) (fun l X h => by simp only [AL.look] at h;(repeat' split at h);all_goals first | omega | cases h) ?_;rw [Try.ntmps16];simp only [frA]
  (repeat (first | apply j4 | refine q8 rfl ?_ | refine z8 rfl ?_ | apply j7 | (refine j0 fun K hK => ?_) | (refine x5 fun K hK => ?_) | ((first | apply j6 | apply z7 | ((first | refine z6 (hK _ ?_) | refine x6 (hK _ _ j5 ?_));clear hK K));(first | show AWP _ _ _ _ _ | ((try simp only [x7]);first | show loopQ _ _ _ _ _ _ | show cutQ _ _ _ _ | show AWP _ _ _ _ _))) | ((first | refine x10 rfl rfl rfl ?_ | refine j10 rfl rfl rfl ?_);simp (disch:=omega) only [go_sem,seval,hd,cb];(first | refine ⟨_,km,?_⟩ | refine ⟨_,kk,?_⟩)) | ((first | refine x8 [] rfl ?_ | refine j8 [] rfl ?_);simp (disch:=omega) only [go_sem,seval,hd,cb];(repeat (first | refine ⟨by omega,?_⟩ | refine ⟨True.intro,?_⟩)))))
  (refine z17 _ (q18 [(501,701)] rfl rfl rfl rfl rfl rfl (ko2) rfl (q11 (by repeat (first | exact trivial | refine ⟨rfl,?_⟩)) (by kernel_rfl))) ?_);simp (disch:=omega) only [go_sem,seval,hd,cb]
  (repeat (first | apply j4 | refine q8 rfl ?_ | refine z8 rfl ?_ | apply j7 | (refine j0 fun K hK => ?_) | (refine x5 fun K hK => ?_) | ((first | apply j6 | apply z7 | ((first | refine z6 (hK _ ?_) | refine x6 (hK _ _ j5 ?_));clear hK K));(first | show AWP _ _ _ _ _ | ((try simp only [x7]);first | show loopQ _ _ _ _ _ _ | show cutQ _ _ _ _ | show AWP _ _ _ _ _))) | ((first | refine x8 [] rfl ?_ | refine j8 [] rfl ?_);simp (disch:=omega) only [go_sem,seval,hd,cb];(repeat (first | refine ⟨by omega,?_⟩ | refine ⟨True.intro,?_⟩)))))
  refine q10 ?_
  refine (q16 (rs := [.p (.d (.sl 1 0 (rowZ [])))]) (L := []) (.inl ⟨rfl,rfl,rfl⟩) ?_ ?_).1
  ·exact ⟨rfl,trivial⟩
  ·exact fun p hp => by cases hp
end Go.Proofs.Ytbamjcnhmmgnlaa
namespace Go.Proofs.Ytbamjcnhmmgnlaa
open Go Go.Proofs.Ytbamjcnhmmgnlaa.AL Go.RowKit
def kidV (A : List Nat → Option Nat) (p : List Nat) : Value := .pointer ((A p).map fun b => ⟨b,0,none⟩)
def nodeC (A : List Nat → Option Nat) (V : List Nat → Value) (p : List Nat) : List Dat := [.v (kidV A (p ++ [0])),.v (kidV A (p ++ [1])),.v (kidV A (p ++ [2])),.v (V p)]
def NodeAt (M : Nat → Option Ent) (A : List Nat → Option Nat) (V : List Nat → Value) (p : List Nat) (b : Nat) : Prop := ∃ f,M b = some ⟨94,4,1,1,f⟩ ∧ f 0 = nodeC A V p
def hasP (A : List Nat → Option Nat) (p : List Nat) : Bool := p.isEmpty || (A p).isSome
theorem x83 (A : List Nat → Option Nat) : hasP A [] = true := rfl
theorem z18 {A : List Nat → Option Nat} {p : List Nat} {b : Nat} (h : A p = some b) : hasP A p = true := by unfold hasP;rw [h];simp
theorem j45 {A : List Nat → Option Nat} {p : List Nat} (h : hasP A p = true) (hp : p ≠ []) : ∃ b,A p = some b := by
 unfold hasP at h
 cases p with
 | nil => exact absurd rfl hp
 | cons x p => simp at h;exact Option.isSome_iff_exists.1 h
def IdsV (M : Nat → Option Ent) (v : Value) (l : List Int) : Prop :=
 (l = [] ∧ v = .slice none 0 0) ∨ ∃ b c f,v = .slice (some ⟨b,0,none⟩) l.length c ∧ l.length ≤ c ∧ M b = some ⟨3,1,c,l.length,f⟩ ∧ ∀ k,k < l.length → f k = rowZ l k
structure TrM (I : List Nat → List Int) (M : Nat → Option Ent) (A : List Nat → Option Nat) (V : List Nat → Value) : Prop where
 root : A [] = none
 node : ∀ p b,A p = some b → NodeAt M A V p b
 inj : ∀ p q b,A p = some b → A q = some b → p = q
 pre : ∀ p k b,A (p ++ [k]) = some b → hasP A p = true
 deep : ∀ p b,A p = some b → p.length ≤ 128
 ids : ∀ p,hasP A p = true → IdsV M (V p) (I p)
 injV : ∀ p q b n c n' c',hasP A p = true → hasP A q = true → V p = .slice (some ⟨b,0,none⟩) n c → V q = .slice (some ⟨b,0,none⟩) n' c' → p = q
 gone : ∀ p,hasP A p = false → I p = []
def trC (A : List Nat → Option Nat) (V : List Nat → Value) : List AV := [.p (.d (.v (kidV A [0]))),.p (.d (.v (kidV A [1]))),.p (.d (.v (kidV A [2]))),.p (.d (.v (V []))),.mp 1001]
def trL (A : List Nat → Option Nat) (V : List Nat → Value) (M : Nat → Option Ent) (es : List (List Int × PV)) : List (Nat × LV) :=
 [(1000,.cells 96 (trC A V)),(1001,.map [.i64] es),(1999,.raw M)]
theorem IdsV.rd {M : Nat → Option Ent} {v : Value} {l : List Int} (h : IdsV M v l) : RdD M (.v v) (.sl 1 l.length (rowZ l)) := by
 rcases h with ⟨rfl,rfl⟩ | ⟨b,c,f,rfl,h2,h3,h4⟩
 ·exact .nil _ _ _ _
 ·refine .row b l.length c _ (rowZ l) h3 (Nat.le_refl _) h2 (fun i hi => by show (rowZ l i).length = (f i).length;rw [h4 i hi]) fun i j x y hi hx hy => ?_
  have hx : (f i)[j]? = some x := hx
  rw [h4 i hi,hy] at hx
  cases hx
  exact .refl _
theorem q46 {I : List Nat → List Int} {M : Nat → Option Ent} {A : List Nat → Option Nat} {V : List Nat → Value} (T : TrM I M A V) : ∀ f p,p.length + f = 129 → p ≠ [] → RdD M (.v (kidV A p)) (treeD (hasP A) I f p)
 |0,p,hf,hp => by
  have : A p = none := by
   cases h : A p with
   | none => rfl
   | some b => have := T.deep p b h;omega
  unfold kidV treeD
  rw [this]
  exact .refl _
 |f + 1,p,hf,hp => by
  have e : treeD (hasP A) I (f + 1) p = if hasP A p then .bx [treeD (hasP A) I f (p ++ [0]),treeD (hasP A) I f (p ++ [1]),treeD (hasP A) I f (p ++ [2]),.sl 1 (I p).length (rowZ (I p))] else .v (.pointer none) := rfl
  rw [e]
  cases h : A p with
  |none =>
   have hn : hasP A p = false := by
    unfold hasP;rw [h];cases p with
    | nil => exact absurd rfl hp
    | cons x p => rfl
   rw [hn]
   unfold kidV
   rw [h]
   exact .refl _
  |some b =>
   rw [z18 h]
   unfold kidV
   rw [h]
   obtain ⟨f0,n1,n2⟩ := T.node p b h
   refine .box b _ _ n1 (by show 0 < 1;omega) rfl fun j x y hx hy => ?_
   have hx : (f0 0)[j]? = some x := hx
   rw [n2] at hx
   have k := fun q hq => q46 T f (p ++ [q]) (by simp;omega) hq
   unfold nodeC at hx
   match j,hx,hy with
   | 0,hx,hy => simp at hx hy;subst hx hy;exact k 0 (by simp)
   | 1,hx,hy => simp at hx hy;subst hx hy;exact k 1 (by simp)
   | 2,hx,hy => simp at hx hy;subst hx hy;exact k 2 (by simp)
   | 3,hx,hy => simp at hx hy;subst hx hy;exact (T.ids p (z18 h)).rd
   | j + 4,hx,hy => simp at hx
theorem j83 {A : List Nat → Option Nat} {V : List Nat → Value} {M : Nat → Option Ent} {es : List (List Int × PV)} : AL.look (trL A V M es) 1000 = some (.cells 96 (trC A V)) ∧ AL.look (trL A V M es) 1001 = some (.map [.i64] es) ∧ AL.look (trL A V M es) 1999 = some (.raw M) := ⟨rfl,rfl,rfl⟩
theorem q84 {I : List Nat → List Int} {M : Nat → Option Ent} {A : List Nat → Option Nat} {V : List Nat → Value} (T : TrM I M A V) {es : List (List Int × PV)} {w : World} {h : Gh} {vs : List Value} {rest : List PV} (hz : GZ w h.g)
  (hr : RelAs w h vs (.loc 1000 0 :: rest.map .p)) (hl : LocsOK (fun _ => True) w h (trL A V M es)) :
  ∃ g2 X,Raised w h (trL A V M es) g2 ∧ RelAs w { h with g := g2 } vs (.p (rootD (hasP A) I X) :: rest.map .p) := by
 obtain ⟨l0,l1,l9⟩ := j83 (A := A) (V := V) (M := M) (es := es)
 obtain ⟨arr,_,h2,h3,h4,h5⟩ := hl.1 1000 _ l0
 have hA := j59 (hl.1 1999 _ l9)
 have hMr : M (h.ρ 1000) = none := by
  have := hl.2 1000 1999 _ _ (h.ρ 1000) (by decide) l0 l9 (by simp [inB])
  simp only [inB] at this
  exact Classical.byContradiction fun e => this e
 have hlt : h.ρ 1000 < w.heap.size := (Array.getElem?_eq_some_iff.1 h2).1
 let g2 : Nat → Nat := fun b => if b = h.ρ 1000 then 5 else iced h.g M b
 have ke : Keep w (iced h.g M) w g2 := by
  refine ⟨fun b => ?_,fun b o _ => rfl⟩
  show iced h.g M b ≤ if b = h.ρ 1000 then 5 else iced h.g M b
  split
  ·rename_i e
   subst e
   unfold iced
   rw [hMr]
   show h.g (h.ρ 1000) ≤ 5
   omega
  ·exact Nat.le_refl _
 have kh : Keep w h.g w g2 := (q30 hA).trans ke
 have hs : arr.size = 5 := h3
 have cell : ∀ (j : Nat) (x : Value),(trC A V)[j]? = some (.p (.d (.v x))) → ∀ d,RdD M (.v x) d → RelD w g2 ((arr[j]?).getD undef) d := by
  intro j x hj d hd
  have hjl : j < arr.size := by rw [h3];exact (List.getElem?_eq_some_iff.1 hj).1
  have r := (h5 j arr[j] _ (by simp [hjl]) hj).1
  rw [Array.getElem?_eq_getElem hjl]
  have r : RelP w h.g arr[j] (.d (.v x)) := r
  show RelD w g2 arr[j] d
  generalize arr[j] = u at r
  cases r with
  | d _ _ r => exact (z59 hA hd r).keep ke
 refine ⟨g2,.v (.map (some (h.ρ 1001))),⟨fun b hb => ?_,fun b hb => ?_⟩,?_⟩
 ·show (if b = h.ρ 1000 then 5 else iced h.g M b) = 0
  rw [if_neg (by omega)]
  exact q45 hA hz b hb
 ·by_cases e : b = h.ρ 1000
  ·subst e;exact ⟨⟨1000,_,l0,by simp [inB]⟩,hlt⟩
  ·have hb : iced h.g M b ≠ h.g b := by
    have : g2 b = iced h.g M b := if_neg e
    rw [← this];exact hb
   have hMb : M b ≠ none := by
    intro hn;unfold iced at hb;rw [hn] at hb;exact hb rfl
   refine ⟨⟨1999,_,l9,hMb⟩,?_⟩
   cases hE : M b with
   | none => exact absurd hE hMb
   | some E => exact hA.lt hE
 ·have hv0 := hr
  refine ⟨by have := hr.1;simpa using this,fun j v x hv hx => ?_⟩
  cases j with
  |zero =>
   simp at hx
   subst hx
   have e : v = .pointer (some ⟨h.ρ 1000,0,none⟩) := hr.2 0 v _ hv rfl
   subst e
   refine RelP.d _ _ (.bx (h.ρ 1000) 0 _ (fun j => (arr[j]?).getD undef) (fun j hj => ?_) ?_ (fun j y hy => ?_))
   ·have hj : j < arr.size := by rw [hs];simpa using hj
    rw [Nat.zero_add,z15 h2,Array.getElem?_eq_getElem hj];rfl
   ·show 0 + 5 ≤ if h.ρ 1000 = h.ρ 1000 then 5 else iced h.g M (h.ρ 1000)
    rw [if_pos rfl];omega
   ·match j,hy with
    | 0,hy => simp at hy;subst hy;exact cell 0 _ rfl _ (q46 T 128 [0] rfl (by simp))
    | 1,hy => simp at hy;subst hy;exact cell 1 _ rfl _ (q46 T 128 [1] rfl (by simp))
    | 2,hy => simp at hy;subst hy;exact cell 2 _ rfl _ (q46 T 128 [2] rfl (by simp))
    | 3,hy => simp at hy;subst hy;exact cell 3 _ rfl _ (T.ids [] rfl).rd
    |4,hy =>
     simp at hy;subst hy
     have hj : 4 < arr.size := by omega
     have r : arr[4] = .map (some (h.ρ 1001)) := (h5 4 arr[4] _ (by simp [hj]) rfl).1
     rw [Array.getElem?_eq_getElem hj]
     show RelD w g2 arr[4] _
     rw [r]
     exact .v _ rfl
    | j + 5,hy => simp at hy
  |succ j =>
   have hx' := hx
   simp only [List.getElem?_cons_succ,List.getElem?_map] at hx
   cases hk : rest[j]? with
   | none => rw [hk] at hx;cases hx
   |some y =>
    rw [hk] at hx
    cases hx
    have := hr.2 (j + 1) v (.p y) hv hx'
    exact RelP.keep kh this
theorem z84 (l : List Int) : ∀ i,i < l.length → ∀ d ∈ rowZ l i,d.flat := by
 intro i _ d hd
 simp only [rowZ,List.mem_singleton] at hd
 subst hd;trivial
set_option maxRecDepth 100000 in
theorem x136 {I : List Nat → List Int} {M : Nat → Option Ent} {A : List Nat → Option Nat} {V : List Nat → Value} (T : TrM I M A V) (es : List (List Int × PV)) (c : Cube) (hB : (gathT (hasP A) I c 128 []).length ≤ 1099511627776) :
  RCalls Try.prog 15 [.loc 1000 0,.p (.agg (cb c))] (trL A V M es) (.p (.d (.sl 1 (ovZ (hasP A) I c).length (rowZ (ovZ (hasP A) I c))))) := by
 refine j82 (l0 := 501) (e := 3) (z84 _) fun w h vs hz hr hl => ?_
 obtain ⟨g2,X,k1,k2⟩ := q84 T (rest := [.agg (cb c)]) hz hr hl
 exact ⟨g2,_,k1,k2,z83 (hasP A) I c X rfl hB⟩
set_option maxRecDepth 100000 in
theorem j136 {I : List Nat → List Int} {M : Nat → Option Ent} {A : List Nat → Option Nat} {V : List Nat → Value} (T : TrM I M A V) (es : List (List Int × PV)) (h : BitVec 128) (hB : (gathT (hasP A) I (headC h) 128 []).length ≤ 1099511627776) :
  RCalls Try.prog 16 [.loc 1000 0,.p (.agg (hd h))] (trL A V M es) (.p (.d (.sl 1 (ovZ (hasP A) I (headC h)).length (rowZ (ovZ (hasP A) I (headC h)))))) := by
 refine j82 (l0 := 701) (e := 3) (z84 _) fun w h' vs hz hr hl => ?_
 obtain ⟨g2,X,k1,k2⟩ := q84 T (rest := [.agg (hd h)]) hz hr hl
 exact ⟨g2,_,k1,k2,z136 (hasP A) I h X rfl hB⟩
def updA (A : List Nat → Option Nat) (q : List Nat) (b : Nat) : List Nat → Option Nat := fun x => if x = q then some b else A x
def updV (V : List Nat → Value) (q : List Nat) (v : Value) : List Nat → Value := fun x => if x = q then v else V x
theorem q20 (A : List Nat → Option Nat) (q : List Nat) (b : Nat) : updA A q b q = some b := by simp [updA]
theorem q60 (A : List Nat → Option Nat) {q x : List Nat} (b : Nat) (h : x ≠ q) : updA A q b x = A x := by simp [updA,h]
theorem z20 (V : List Nat → Value) (q : List Nat) (v : Value) : updV V q v q = v := by simp [updV]
theorem x15 (V : List Nat → Value) {q x : List Nat} (v : Value) (h : x ≠ q) : updV V q v x = V x := by simp [updV,h]
theorem z60 {A : List Nat → Option Nat} {q p : List Nat} {b : Nat} (h : hasP A p = true) : hasP (updA A q b) p = true := by
 unfold hasP at *
 unfold updA
 split
 ·simp
 ·exact h
theorem x60 {A : List Nat → Option Nat} {q p : List Nat} {b : Nat} (h : hasP (updA A q b) p = true) : p = q ∨ hasP A p = true := by
 by_cases e : p = q
 ·exact .inl e
 ·right
  unfold hasP at *
  rw [q60 _ _ e] at h
  exact h
theorem j23 {A : List Nat → Option Nat} {p : List Nat} {b : Nat} (h : A p = some b) : kidV A p = .pointer (some ⟨b,0,none⟩) := by unfold kidV;rw [h];rfl
theorem z22 {A : List Nat → Option Nat} {p : List Nat} (h : A p = none) : kidV A p = .pointer none := by unfold kidV;rw [h];rfl
theorem z30 (A : List Nat → Option Nat) (q : List Nat) (b : Nat) : kidV (updA A q b) q = .pointer (some ⟨b,0,none⟩) := j23 (q20 _ _ _)
theorem j14 (A : List Nat → Option Nat) {q x : List Nat} (b : Nat) (h : x ≠ q) : kidV (updA A q b) x = kidV A x := by unfold kidV;rw [q60 _ _ h]
theorem z16 {p q : List Nat} {i j : Nat} (h : q ≠ p ∨ i ≠ j) : q ++ [i] ≠ p ++ [j] := by
 intro e
 have := List.append_inj' e rfl
 rcases h with h | h
 ·exact h this.1
 ·apply h;simpa using this.2
theorem x30 (p : List Nat) (j : Nat) : p ≠ p ++ [j] := fun e => by have := congrArg List.length e;simp at this
theorem x84 : (94 : TypeId) ≠ 3 := by decide
theorem IdsV.keep {M M' : Nat → Option Ent} {v : Value} {l : List Int} (h : IdsV M v l) (hM : ∀ b c f,M b = some ⟨3,1,c,l.length,f⟩ → v = .slice (some ⟨b,0,none⟩) l.length c → M' b = M b) : IdsV M' v l := by
 rcases h with h | ⟨b,c,f,h1,h2,h3,h4⟩
 ·exact .inl h
 ·exact .inr ⟨b,c,f,h1,h2,by rw [hM b c f h3 h1];exact h3,h4⟩
section
variable {I : List Nat → List Int} {M M' : Nat → Option Ent} {A : List Nat → Option Nat} {V : List Nat → Value}
theorem TrM.add (T : TrM I M A V) {p : List Nat} {j b' : Nat} (hp : hasP A p = true) (hn : A (p ++ [j]) = none) (hM : M b' = none) (hlen : p.length < 128)
  (h1 : NodeAt M' (updA A (p ++ [j]) b') (updV V (p ++ [j]) (.slice none 0 0)) (p ++ [j]) b')
  (h2 : ∀ b,A p = some b → NodeAt M' (updA A (p ++ [j]) b') (updV V (p ++ [j]) (.slice none 0 0)) p b)
  (h3 : ∀ c,c ≠ b' → A p ≠ some c → M' c = M c) : TrM I M' (updA A (p ++ [j]) b') (updV V (p ++ [j]) (.slice none 0 0)) := by
 have hnn : hasP A (p ++ [j]) = false := by
  unfold hasP;rw [hn];simp
 have hnew : ∀ q c,A q = some c → c ≠ b' := fun q c hq e => by
  obtain ⟨f,this,_⟩ := T.node q c hq
  rw [e,hM] at this;cases this
 have old : ∀ q c,updA A (p ++ [j]) b' q = some c → (q = p ++ [j] ∧ c = b') ∨ (q ≠ p ++ [j] ∧ A q = some c) := by
  intro q c hq
  unfold updA at hq
  split at hq
  ·cases hq;exact .inl ⟨‹_›,rfl⟩
  ·exact .inr ⟨‹_›,hq⟩
 refine ⟨?_,fun q c hq => ?_,fun q q' c h h' => ?_,fun q k c hq => ?_,fun q c hq => ?_,fun q hq => ?_,fun q q' b n c n' c' hq hq' e e' => ?_,fun q hq => ?_⟩
 ·rw [q60 _ _ (by simp)];exact T.root
 ·rcases old q c hq with ⟨rfl,rfl⟩ | ⟨hne,hq0⟩
  ·exact h1
  ·by_cases hqp : q = p
   ·rw [hqp] at hq0 ⊢;exact h2 c hq0
   ·have hpc : A p ≠ some c := fun e => hqp (T.inj _ _ _ hq0 e)
    obtain ⟨f,n1,n2⟩ := T.node q c hq0
    refine ⟨f,by rw [h3 c (hnew q c hq0) hpc];exact n1,?_⟩
    rw [n2]
    unfold nodeC
    rw [j14 _ _ (z16 (.inl hqp)),j14 _ _ (z16 (.inl hqp)),j14 _ _ (z16 (.inl hqp)),x15 _ _ hne]
 ·rcases old q c h with ⟨rfl,rfl⟩ | ⟨hne,h⟩ <;> rcases old q' c h' with ⟨rfl,e⟩ | ⟨hne',h'⟩
  ·rfl
  ·exact absurd rfl (hnew _ _ h')
  ·exact absurd e (hnew _ _ h)
  ·exact T.inj _ _ _ h h'
 ·rcases old _ c hq with ⟨e,_⟩ | ⟨_,hq⟩
  ·have := (List.append_inj' e rfl).1
   subst this;exact z60 hp
  ·exact z60 (T.pre _ _ _ hq)
 ·rcases old q c hq with ⟨rfl,rfl⟩ | ⟨_,hq⟩
  ·simp;omega
  ·exact T.deep q c hq
 ·rcases x60 hq with rfl | hq
  ·rw [z20,T.gone _ hnn];exact .inl ⟨rfl,rfl⟩
  ·have hne : q ≠ p ++ [j] := fun e => by rw [e,hnn] at hq;cases hq
   rw [x15 _ _ hne]
   refine (T.ids q hq).keep fun b c f hb _ => h3 b (fun e => by rw [e,hM] at hb;cases hb) fun e => ?_
   obtain ⟨f',n1,_⟩ := T.node p b e
   rw [n1] at hb
   simp only [Option.some.injEq,Ent.mk.injEq] at hb
   exact x84 hb.1
 ·by_cases hne : q = p ++ [j]
  ·rw [hne,z20] at e;cases e
  ·by_cases hne' : q' = p ++ [j]
   ·rw [hne',z20] at e';cases e'
   ·rw [x15 _ _ hne] at e
    rw [x15 _ _ hne'] at e'
    refine T.injV _ _ _ _ _ _ _ ?_ ?_ e e'
    ·rcases x60 hq with h | h
     ·exact absurd h hne
     ·exact h
    ·rcases x60 hq' with h | h
     ·exact absurd h hne'
     ·exact h
 ·refine T.gone q ?_
  cases h : hasP A q with
  | false => rfl
  | true => rw [z60 h] at hq;cases hq
def updI (I : List Nat → List Int) (q : List Nat) (l : List Int) : List Nat → List Int := fun x => if x = q then l else I x
theorem q137 (I : List Nat → List Int) (q : List Nat) (l : List Int) : updI I q l q = l := by simp [updI]
theorem j84 (I : List Nat → List Int) {q x : List Nat} (l : List Int) (h : x ≠ q) : updI I q l x = I x := by simp [updI,h]
theorem TrM.set (T : TrM I M A V) {p : List Nat} {v : Value} {l : List Int} (hp : hasP A p = true)
  (hv : IdsV M' v l)
  (h2 : ∀ b,A p = some b → NodeAt M' A (updV V p v) p b)
  (hsep : ∀ b n c,v = .slice (some ⟨b,0,none⟩) n c → (∀ q,A q ≠ some b) ∧ ∀ q n' c',q ≠ p → hasP A q = true → V q ≠ .slice (some ⟨b,0,none⟩) n' c')
  (h3 : ∀ c,(∃ q,q ≠ p ∧ A q = some c) ∨ (∃ q n k,q ≠ p ∧ hasP A q = true ∧ V q = .slice (some ⟨c,0,none⟩) n k) → M' c = M c) : TrM (updI I p l) M' A (updV V p v) := by
 refine ⟨T.root,fun q c hq => ?_,T.inj,T.pre,T.deep,fun q hq => ?_,fun q q' b n c n' c' hq hq' e e' => ?_,fun q hq => ?_⟩
 ·by_cases hqp : q = p
  ·subst hqp;exact h2 c hq
  ·obtain ⟨f,n1,n2⟩ := T.node q c hq
   refine ⟨f,by rw [h3 c (.inl ⟨q,hqp,hq⟩)];exact n1,?_⟩
   rw [n2]
   unfold nodeC
   rw [x15 _ _ hqp]
 ·by_cases hqp : q = p
  ·subst hqp;rw [z20,q137];exact hv
  ·rw [x15 _ _ hqp,j84 _ _ hqp]
   exact (T.ids q hq).keep fun b c f hb hv => h3 b (.inr ⟨q,_,_,hqp,hq,hv⟩)
 ·by_cases hqp : q = p
  ·subst hqp
   by_cases hqp' : q' = q
   ·exact hqp'.symm
   ·rw [z20] at e
    rw [x15 _ _ hqp'] at e'
    exact absurd e' ((hsep b n c e).2 q' n' c' hqp' hq')
  ·by_cases hqp' : q' = p
   ·subst hqp'
    rw [z20] at e'
    rw [x15 _ _ hqp] at e
    exact absurd e ((hsep b n' c' e').2 q n c hqp hq)
   ·rw [x15 _ _ hqp] at e
    rw [x15 _ _ hqp'] at e'
    exact T.injV _ _ _ _ _ _ _ hq hq' e e'
 ·by_cases hqp : q = p
  ·subst hqp;rw [hp] at hq;cases hq
  ·rw [j84 _ _ hqp];exact T.gone q hq
end
def atAV (A : List Nat → Option Nat) (p : List Nat) : AV := match p with
 | [] => .loc 1000 0
 | _ => .p (.d (.v (kidV A p)))
theorem z137 (A : List Nat → Option Nat) : atAV A [] = .loc 1000 0 := rfl
theorem z19 {A : List Nat → Option Nat} {p : List Nat} {b : Nat} (h : A p = some b) (hp : p ≠ []) : atAV A p = .p (.d (.v (.pointer (some ⟨b,0,none⟩)))) := by
 cases p with
 | nil => exact absurd rfl hp
 | cons x p => unfold atAV;rw [j23 h]
end Go.Proofs.Ytbamjcnhmmgnlaa
