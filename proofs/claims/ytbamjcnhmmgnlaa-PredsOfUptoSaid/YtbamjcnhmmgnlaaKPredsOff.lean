/- Part 6 of a proof: lemmas beneath the theorem that the last text bears. Conditions: none. -/
import Derived.Test.YtbamjcnhmmgnlaaKPredsOfe
set_option maxHeartbeats 64000000
set_option linter.unusedSimpArgs false
set_option linter.unusedVariables false
namespace Go.Proofs.Ytbamjcnhmmgnlaa.AL
open Go.RowKit
variable {P : Program}
inductive RdD (M : Nat → Option Ent) : Dat → Dat → Prop
 | refl (d : Dat) : RdD M d d
 | sl (sz n : Nat) (f f' : Nat → List Dat) (hl : ∀ i,i < n → (f' i).length = (f i).length) (hr : ∀ (i j : Nat) (x y : Dat),i < n → (f i)[j]? = some x → (f' i)[j]? = some y → RdD M x y) : RdD M (.sl sz n f) (.sl sz n f')
 | row (b n c : Nat) (E : Ent) (f' : Nat → List Dat) (hM : M b = some E) (hn : n ≤ E.n) (hc : n ≤ c) (hl : ∀ i,i < n → (f' i).length = (E.f i).length)
   (hr : ∀ (i j : Nat) (x y : Dat),i < n → (E.f i)[j]? = some x → (f' i)[j]? = some y → RdD M x y) : RdD M (.v (.slice (some ⟨b,0,none⟩) n c)) (.sl E.sz n f')
 | nil (a : Option Addr) (c sz : Nat) (f : Nat → List Dat) : RdD M (.v (.slice a 0 c)) (.sl sz 0 f)
 | box (b : Nat) (E : Ent) (ds : List Dat) (hM : M b = some E) (hn : 0 < E.n) (hl : ds.length = E.sz)
   (hr : ∀ (j : Nat) (x y : Dat),(E.f 0)[j]? = some x → ds[j]? = some y → RdD M x y) : RdD M (.v (.pointer (some ⟨b,0,none⟩))) (.bx ds)
inductive RdP (M : Nat → Option Ent) : PV → PV → Prop
 | refl (x : PV) : RdP M x x
 | d {x y : Dat} (h : RdD M x y) : RdP M (.d x) (.d y)
 | agg (cs ds : List Dat) (hl : cs.length = ds.length) (hr : ∀ (j : Nat) x y,cs[j]? = some x → ds[j]? = some y → RdD M x y) : RdP M (.agg cs) (.agg ds)
def iced (g : Nat → Nat) (M : Nat → Option Ent) (b : Nat) : Nat := match M b with
 | some E => E.cap * E.sz
 | none => g b
def lowered (g : Nat → Nat) (M : Nat → Option Ent) (b : Nat) : Nat := match M b with
 | some _ => 0
 | none => g b
structure Arena (w : World) (g : Nat → Nat) (M : Nat → Option Ent) : Prop where
 ok : ∀ b E,M b = some E → EntOK w g b E
 g0 : ∀ b E,M b = some E → g b = 0
section
variable {w : World} {g : Nat → Nat} {M : Nat → Option Ent}
theorem z42 (hA : Arena w g M) : Keep w g w (iced g M) := by
 refine ⟨fun b => ?_,fun b o _ => rfl⟩
 unfold iced
 split
 ·rename_i E hE;rw [hA.g0 b E hE];exact Nat.zero_le _
 ·exact Nat.le_refl _
theorem Arena.lt (hA : Arena w g M) {b : Nat} {E : Ent} (h : M b = some E) : b < w.heap.size := by
 obtain ⟨cur,hh,_⟩ := hA.ok b E h;exact (Array.getElem?_eq_some_iff.1 hh).1
theorem q117 (hA : Arena w g M) (hz : GZ w g) : GZ w (iced g M) := by
 intro b hb
 unfold iced
 split
 ·rename_i E hE;have := hA.lt hE;omega
 ·exact hz b hb
theorem z117 (hA : Arena w g M) {x y : Dat} (h : RdD M x y) : ∀ {v : Value},RelD w g v x → RelD w (iced g M) v y := by
 induction h with
 | refl d => intro v r;exact r.keep (z42 hA)
 |sl sz n f f' hl hr ih =>
  intro v r
  cases r with
  | sl0 a c => exact .sl0 _ _ _ _
  |sl b off _ c _ _ u hn hl2 hc hg hr2 =>
   refine .sl b off n c sz f' u hn (fun i hi => (hl i hi).trans (hl2 i hi)) hc (Nat.le_trans hg ((z42 hA).gam b)) (fun i j y hi hy => ?_)
   have hj : j < (f i).length := by rw [← hl i hi];exact (List.getElem?_eq_some_iff.1 hy).1
   exact ih i j _ y hi (List.getElem?_eq_getElem hj) hy (hr2 i j _ hi (List.getElem?_eq_getElem hj))
 |row b n c E f' hM hn hc hl hr ih =>
  intro v r
  cases r
  obtain ⟨cur,q1,q2,q3,q4,q5⟩ := hA.ok b E hM
  have hnE : n * E.sz ≤ E.n * E.sz := Nat.mul_le_mul_right _ hn
  have hcE : E.n * E.sz ≤ E.cap * E.sz := Nat.mul_le_mul_right _ q3
  refine .sl b 0 n c E.sz f' (fun i j => (cur[i * E.sz + j]?).getD undef) hc (fun i hi => (hl i hi).trans (q5.1 i (by omega))) (fun i j hi hj => ?_) ?_ (fun i j y hi hy => ?_)
  ·obtain ⟨u,d,k1,k2,k3⟩ := q5.at (i := i) (j := j) (by omega) hj
   rw [Nat.zero_add,z16 q1,k2];rfl
  ·simp only [iced,hM];omega
  ·have hj : j < (E.f i).length := by rw [← hl i hi];exact (List.getElem?_eq_some_iff.1 hy).1
   obtain ⟨u,k1,k2⟩ := q5.cell (i := i) (j := j) (by omega) (by rw [← q5.1 i (by omega)];exact hj) (List.getElem?_eq_getElem hj)
   rw [k1]
   exact ih i j _ y hi (List.getElem?_eq_getElem hj) hy k2
 | nil a c sz f => intro v r;cases r;exact .sl0 _ _ _ _
 |box b E ds hM hn hl hr ih =>
  intro v r
  cases r
  obtain ⟨cur,q1,q2,q3,q4,q5⟩ := hA.ok b E hM
  have hcE : 1 * E.sz ≤ E.cap * E.sz := Nat.mul_le_mul_right _ (by omega)
  have hf := q5.1 0 hn
  refine .bx b 0 ds (fun j => (cur[j]?).getD undef) (fun j hj => ?_) ?_ (fun j y hy => ?_)
  ·obtain ⟨u,d,k1,k2,k3⟩ := q5.at (i := 0) (j := j) hn (by omega)
   rw [Nat.zero_mul,Nat.zero_add] at k2
   rw [Nat.zero_add,z16 q1,k2];rfl
  ·simp only [iced,hM];omega
  ·have hj : j < (E.f 0).length := by rw [hf,← hl];exact (List.getElem?_eq_some_iff.1 hy).1
   obtain ⟨u,k1,k2⟩ := q5.cell (i := 0) (j := j) hn (by rw [← hf];exact hj) (List.getElem?_eq_getElem hj)
   rw [Nat.zero_mul,Nat.zero_add] at k1
   rw [k1]
   exact ih j _ y (List.getElem?_eq_getElem hj) hy k2
theorem j175 (hA : Arena w g M) {x y : PV} (h : RdP M x y) {v : Value} (r : RelP w g v x) : RelP w (iced g M) v y := by
 cases h with
 | refl x => exact r.keep (z42 hA)
 | d h => cases r with | d _ _ r => exact .d _ _ (z117 hA h r)
 |agg cs ds hl hr =>
  cases r with
  |agg vs _ hl2 hr2 =>
   refine .agg vs ds (hl2.trans hl) fun j v y hv hy => ?_
   have hj : j < cs.length := by rw [hl];exact (List.getElem?_eq_some_iff.1 hy).1
   exact z117 hA (hr j _ y (List.getElem?_eq_getElem hj) hy) (hr2 j v _ hv (List.getElem?_eq_getElem hj))
end
def Dat.flat : Dat → Prop
 | .v _ => True
 | _ => False
def PV.flat : PV → Prop
 | .d x => x.flat
 | .agg cs => ∀ c ∈ cs,c.flat
 | _ => False
def AV.flat : AV → Prop
 | .p x => x.flat
 | .gr .. => False
 | .tup xs => ∀ x ∈ xs,x.flat
 | .cl .. => False
 | .ag _ => False
 | _ => True
def LV.flat : LV → Prop
 | .cells _ cs => ∀ c ∈ cs,c.flat
 | .own _ _ n _ f => ∀ i,i < n → ∀ d ∈ f i,d.flat
 | _ => False
theorem q74 {w w' : World} {g g' : Nat → Nat} {v : Value} {d : Dat} (hd : d.flat) (r : RelD w g v d) : RelD w' g' v d := by
 cases r with
 | v _ h => exact .v _ h
 | _ => exact hd.elim
theorem x117 {w w' : World} {g g' : Nat → Nat} {v : Value} {x : PV} (hx : x.flat) (r : RelP w g v x) : RelP w' g' v x := by
 cases r with
 | d _ _ r => exact .d _ _ (q74 hx r)
 | agg vs cs hl hr => exact .agg vs cs hl fun j v x hv hc => q74 ((show ∀ c ∈ cs,c.flat from hx) x (List.mem_of_getElem? hc)) (hr j v x hv hc)
 | _ => exact hx.elim
theorem j117 {w w' : World} {h h' : Gh} {v : Value} {x : AV} (hx : x.flat) (e1 : h'.ρ = h.ρ) (e2 : h'.κ = h.κ) (e3 : h'.μ = h.μ) (r : RelA w h v x) : RelA w' h' v x := by
 cases x with
 | p x => exact x117 hx r
 | gr => exact hx.elim
 | cl => exact hx.elim
 | ag => exact hx.elim
 |tup xs =>
  obtain ⟨vs,hv,hl,hr⟩ := r
  exact ⟨vs,hv,hl,fun j v x hv hc => x117 ((show ∀ x ∈ xs,x.flat from hx) x (List.mem_of_getElem? hc)) (hr j v x hv hc)⟩
 | _ => first | exact r | (simp only [RelA,RelOw,e1,e2,e3] at *;exact r)
theorem q176 {O : Nat → Prop} {w : World} {h h' : Gh} {l : Nat} {X : LV} (hX : X.flat) (e1 : h'.ρ = h.ρ) (e2 : h'.κ = h.κ) (e3 : h'.μ = h.μ) (hg : ∀ b,inB h l X b → h'.g b = h.g b) (r : LocOK O w h l X) : LocOK O w h' l X := by
 cases X with
 |cells e cs =>
  obtain ⟨arr,h1,h2,h3,h4,h5⟩ := r
  refine ⟨arr,by rw [e1];exact h1,by rw [e1];exact h2,h3,by rw [e1,hg _ rfl];exact h4,fun i v x hv hx => ⟨j117 ((show ∀ c ∈ cs,c.flat from hX) x (List.mem_of_getElem? hx)) e1 e2 e3 (h5 i v x hv hx).1,(h5 i v x hv hx).2⟩⟩
 |own e sz n gen f =>
  obtain ⟨h1,⟨xs,h2,h3⟩,h4⟩ := r
  refine ⟨by rw [e3];exact h1,⟨xs,by rw [e2];exact h2,h3.1,fun i j d hi hj hd => ?_⟩,fun b hb => ?_⟩
  ·obtain ⟨u,k1,k2⟩ := h3.2 i j d hi hj hd
   exact ⟨u,k1,q74 ((show ∀ i,i < n → ∀ d ∈ f i,d.flat from hX) i hi d (List.mem_of_getElem? hd)) k2⟩
  ·rw [e2] at hb
   rw [hg b (by simpa [inB] using hb)]
   exact h4 b hb
 | _ => exact hX.elim
def RdA (M : Nat → Option Ent) : AV → AV → Prop
 | .p x,.p y => RdP M x y
 | x,y => x = y
theorem RdA.refl (M : Nat → Option Ent) (x : AV) : RdA M x x := by cases x <;> first | rfl | exact RdP.refl _
theorem RdA.p {M : Nat → Option Ent} {x y : PV} (h : RdP M x y) : RdA M (.p x) (.p y) := h
inductive RdAs (M : Nat → Option Ent) : List AV → List AV → Prop
 | nil : RdAs M [] []
 | cons {x y : AV} {xs ys : List AV} (h : RdA M x y) (t : RdAs M xs ys) : RdAs M (x :: xs) (y :: ys)
theorem RdAs.refl (M : Nat → Option Ent) : ∀ xs,RdAs M xs xs
 | [] => .nil
 | x :: xs => .cons (RdA.refl M x) (RdAs.refl M xs)
theorem z176 {w : World} {h : Gh} {M : Nat → Option Ent} (hA : Arena w h.g M) {v : Value} {x : AV} (r : RelA w h v x) : RelA w { h with g := iced h.g M } v x := by
 have k := z42 hA
 have kc : ∀ (vs : List Value) (cs : List CV),RelCs w h vs cs → RelCs w { h with g := iced h.g M } vs cs := by
  intro vs cs r
  refine ⟨r.1,fun j v c hv hc => ?_⟩
  have r := r.2 j v c hv hc
  cases c with
  | p x => exact RelP.keep k r
  | _ => exact r
 cases x with
 | p x => exact RelP.keep k r
 | gr l gen sz n f => exact ⟨r.1.keep k,r.2⟩
 | cl f a b => obtain ⟨vs,us,e,h1,h2⟩ := r;exact ⟨vs,us,e,kc _ _ h1,kc _ _ h2⟩
 | ag cs => obtain ⟨vs,h1,h2,h3⟩ := r;exact ⟨vs,h1,kc _ _ h2,h3⟩
 | tup xs => obtain ⟨vs,hv,hr⟩ := r;exact ⟨vs,hv,hr.keep k⟩
 | _ => exact r
theorem x176 {w : World} {h : Gh} {M : Nat → Option Ent} (hA : Arena w h.g M) {x y : AV} (hx : RdA M x y) {v : Value} (r : RelA w h v x) : RelA w { h with g := iced h.g M } v y := by
 cases x with
 |p x =>
  cases y with
  | p y => exact j175 hA hx r
  | _ => cases hx
 |_ =>
  unfold RdA at hx
  subst hx
  exact z176 hA r
theorem j176 {w : World} {h : Gh} {M : Nat → Option Ent} (hA : Arena w h.g M) {xs ys : List AV} (hx : RdAs M xs ys) : ∀ {vs : List Value},RelAs w h vs xs → RelAs w { h with g := iced h.g M } vs ys := by
 induction hx with
 | nil => intro vs r;exact ⟨r.1,fun j v x hv hx => by simp at hx⟩
 |cons hx t ih =>
  intro vs r
  cases vs with
  | nil => simp [RelAs] at r
  |cons v vs =>
   have r2 := ih r.tail
   refine ⟨by simpa using r2.1,fun j u z hu hz => ?_⟩
   cases j with
   | zero => simp at hu hz;subst hu;subst hz;exact x176 hA hx (r.2 0 v _ rfl rfl)
   | succ j => exact r2.2 j u z (by simpa using hu) (by simpa using hz)
theorem q177 {O : Nat → Prop} {w : World} {h : Gh} {l : Nat} {M : Nat → Option Ent} (k : LocOK O w h l (.raw M)) : Arena w h.g M := ⟨fun b E hb => (k b E hb).2.1,fun b E hb => (k b E hb).2.2⟩
theorem z177 {B : Nat → Prop} {w : World} {h : Gh} {M : Nat → Option Ent} (hA : Arena w h.g M) (hz : GZ w h.g) (hO : ∀ b E,M b = some E → B b) : Trans B w h w { h with g := iced h.g M } (fun b => M b ≠ none) none false := by
 refine ⟨BelowS.refl _ _,fun b _ hb => ⟨rfl,?_⟩,z42 hA,q117 hA hz,fun b hb => ?_,fun _ _ => rfl,fun _ _ => ⟨rfl,rfl⟩,fun l hl => by cases hl⟩
 ·have : M b = none := Classical.byContradiction hb
  simp [iced,this]
 ·have : M b = none := by
   cases hM : M b with
   | none => rfl
   | some E => exact absurd (hO b E hM) hb
  simp [iced,this]
theorem LocOK.iced {B : Nat → Prop} {w : World} {h : Gh} {M : Nat → Option Ent} (hA : Arena w h.g M) (hz : GZ w h.g) (hO : ∀ b E,M b = some E → B b) {l : Nat} {X : LV} (hX : ∀ b,inB h l X b → M b = none) (k : LocOK B w h l X) : LocOK B w { h with g := iced h.g M } l X :=
 (LocOK.trans (z177 hA hz hO) (by simp) (fun hf => by cases hf) (fun b hb => by simp [hX b hb]) k).1
theorem x42 {g : Nat → Nat} {M : Nat → Option Ent} {b : Nat} (h : M b = none) : lowered g M b = g b := by simp [lowered,h]
theorem j57 {h : Gh} {g : Nat → Nat} {l : Nat} {X : LV} : inB { h with g := g } l X = inB h l X := by cases X <;> rfl
theorem x177 {h : Gh} {q : Option (Nat × LV)} {E : Eff} {b : Nat} (hb : ownOf h q E b) : ∃ l L,q = some (l,L) ∧ inB h l L b := by
 obtain ⟨v,o,u,f⟩ := E
 cases f with
 | true => exact hb.elim
 |false =>
  cases u with
  | none => exact hb.elim
  |some u =>
   cases q with
   | none => exact hb.elim
   | some q => exact ⟨q.1,q.2,rfl,hb⟩
theorem j177 {nt : Nat} {ops : Array Oper} {o : Oper} {A : ASt} {lo : Option Nat} {E : Eff} {M : Nat → Option Ent} {ys : List AV} (hd : dstOK nt o = true) (hw : wantedA ops o A = some true) (hM : look A.locs 1999 = some (.raw M)) (hlo : lo ≠ some 1999)
  (hx : RdAs M (o.op.operands.toList.map A.eval) ys) (hs : OpSem P o ys (A.locAt lo) E) (hE : E.val.flat) (hf : E.fresh = false) (hU : ∀ l L,E.upd = some (l,L) → L.flat ∧ lo = some l) : StepS P nt ops o A (A.apply o.dst E) := by
 intro w0 g0 h a w r K Q hn
 rw [z37 r hw]
 simp only [if_true]
 have hA := q177 (r.locs 1999 _ hM)
 have hO : ∀ b E,M b = some E → w0.O b := fun b E hb => (r.locs 1999 _ hM b E hb).1
 have hlo2 : ∀ l L,A.locAt lo = some (l,L) → lo = some l ∧ look A.locs l = some L := by
  intro l L he
  cases lo with
  | none => simp [ASt.locAt] at he
  |some l' =>
   simp only [ASt.locAt] at he
   cases hk : look A.locs l' with
   | none => simp [hk] at he
   | some L' => simp [hk] at he;obtain ⟨rfl,rfl⟩ := he;exact ⟨rfl,hk⟩
 have hfree : ∀ l L,A.locAt lo = some (l,L) → ∀ b,inB h l L b → M b = none := by
  intro l L he b hb
  obtain ⟨k1,k2⟩ := hlo2 l L he
  have := r.sep l 1999 L (.raw M) b (fun e => hlo (by rw [k1,e])) k2 hM hb
  simp only [inB] at this
  exact Classical.byContradiction fun e => this e
 refine .inl (hs.toT w0.O w { h with g := iced h.g M } a K Q r.base (q117 hA r.gz) (j176 hA hx (r.evals _)) (fun l L he => LocOK.iced hA r.gz hO (hfree l L he) (r.locs l L (hlo2 l L he).2)) fun v w' h' h3 t h5 => ?_)
 have hMlt : ∀ b E,M b = some E → b < w.heap.size := fun b E hb => hA.lt hb
 have hown : ownOf { h with g := iced h.g M } (A.locAt lo) E = ownOf h (A.locAt lo) E := by
  unfold ownOf
  split <;> first | rfl | exact j57
 have hownM : ∀ b,ownOf h (A.locAt lo) E b → M b = none := by
  intro b hb
  obtain ⟨l,L,h1,h2⟩ := x177 hb
  exact hfree l L h1 b h2
 refine hn _ _ { h' with g := lowered h'.g M } (r.carry (o := o) (lo := lo) (fun d hdd => z31 hd d hdd) (fun hff => by rw [hf] at hff;cases hff) (fun l L hu _ => (hU l L hu).2) (j117 (h := h') hE rfl rfl rfl h3) ?_ (fun l L' hu => ?_))
 ·rw [hown] at t
  refine ⟨t.below,fun b hb hno => ?_,⟨fun b => ?_,fun b q hq => ?_⟩,fun b hb => ?_,fun b hb => ?_,t.ρ,t.κ,t.up⟩
  ·obtain ⟨e1,e2⟩ := t.blocks b hb hno
   refine ⟨e1,?_⟩
   show lowered h'.g M b = h.g b
   cases hE : M b with
   | none => rw [x42 hE,e2];simp [iced,hE]
   | some E => simp [lowered,hE,hA.g0 b E hE]
  ·show h.g b ≤ lowered h'.g M b
   cases hE : M b with
   | none => rw [x42 hE];have := t.keep.gam b;simpa [iced,hE] using this
   | some E => simp [hA.g0 b E hE]
  ·cases hE : M b with
   | none => exact t.keep.cell b q (by simpa [iced,hE] using hq)
   | some E => rw [hA.g0 b E hE] at hq;omega
  ·show lowered h'.g M b = 0
   cases hE : M b with
   | none => rw [x42 hE];exact t.gz b hb
   | some E => simp [lowered,hE]
  ·have hMb : M b = none := by
    cases hE : M b with
    | none => rfl
    | some E => exact absurd (hO b E hE) hb
   show lowered h'.g M b = h.g b
   rw [x42 hMb,t.gB b hb]
   simp [iced,hMb]
 ·obtain ⟨k1,k2⟩ := h5 l L' hu
  obtain ⟨u1,u2⟩ := hU l L' hu
  have hin : ∀ b,inB h' l L' b → M b = none := by
   intro b hb
   rcases k2 b hb with hge | ⟨_,L,e1,e2⟩
   ·cases hE : M b with
    | none => rfl
    | some E => have := hMlt b E hE;omega
   ·rw [j57] at e2
    exact hfree l L e1 b e2
  refine ⟨q176 (h := h') u1 rfl rfl rfl (fun b hb => x42 (hin b hb)) k1,fun b hb => ?_⟩
  rw [j57] at hb
  rcases k2 b hb with hge | ⟨e0,L,e1,e2⟩
  ·exact .inl hge
  ·rw [j57] at e2
   exact .inr ⟨e0,L,e1,e2⟩
end Go.Proofs.Ytbamjcnhmmgnlaa.AL
namespace Go.Proofs.Ytbamjcnhmmgnlaa.AL
open Go.RowKit
def GrowsM (M M2 : Nat → Option Ent) : Prop := ∀ b E,M b = some E → M2 b = some E
theorem GrowsM.refl (M : Nat → Option Ent) : GrowsM M M := fun _ _ h => h
theorem GrowsM.trans {M M2 M3 : Nat → Option Ent} (h : GrowsM M M2) (k : GrowsM M2 M3) : GrowsM M M3 := fun b E e => k b E (h b E e)
def HoldR (M : Nat → Option Ent) (e : TypeId) (sz n : Nat) (f : Nat → List Dat) (v : Value) : Prop :=
 (n = 0 ∧ ∃ a c,v = .slice a 0 c) ∨ ∃ b c cap f',v = .slice (some ⟨b,0,none⟩) n c ∧ n ≤ c ∧ M b = some ⟨e,sz,cap,n,f'⟩ ∧ ∀ k,k < n → f' k = f k
theorem HoldR.mono {M M2 : Nat → Option Ent} {e : TypeId} {sz n : Nat} {f : Nat → List Dat} {v : Value} (hM : GrowsM M M2) (h : HoldR M e sz n f v) : HoldR M2 e sz n f v := by
 rcases h with h | ⟨b,c,cap,f',h1,h2,h3,h4⟩
 ·exact .inl h
 ·exact .inr ⟨b,c,cap,f',h1,h2,hM b _ h3,h4⟩
theorem PackR.grows {M M2 : Nat → Option Ent} {e : TypeId} {sz n : Nat} {f : Nat → List Dat} {v : Value} (h : PackR M e sz n f v M2) : GrowsM M M2 := by
 rcases h with ⟨_,_,rfl⟩ | ⟨b,c,_,h2,_,rfl⟩
 ·exact .refl _
 ·intro b' E hb'
  have : b' ≠ b := fun e => by rw [e,h2] at hb';cases hb'
  rw [j46 _ _ this];exact hb'
theorem PackR.holds {M M2 : Nat → Option Ent} {e : TypeId} {sz n : Nat} {f f0 : Nat → List Dat} {v : Value} (h : PackR M e sz n f0 v M2) (hf : ∀ k,k < n → f0 k = f k) : HoldR M2 e sz n f v := by
 rcases h with ⟨h1,h2,rfl⟩ | ⟨b,c,h1,h2,h3,rfl⟩
 ·exact .inl ⟨h1,_,_,h2⟩
 ·exact .inr ⟨b,c,c,f0,h3,h1,z28 _ _ _,hf⟩
theorem HoldR.rd {M : Nat → Option Ent} {e : TypeId} {sz n : Nat} {f : Nat → List Dat} {v : Value} (h : HoldR M e sz n f v) : RdD M (.v v) (.sl sz n f) := by
 rcases h with ⟨rfl,a,c,rfl⟩ | ⟨b,c,cap,f',rfl,h2,h3,h4⟩
 ·exact .nil _ _ _ _
 ·refine .row b n c ⟨e,sz,cap,n,f'⟩ f h3 (Nat.le_refl _) h2 (fun i hi => by show (f i).length = (f' i).length;rw [h4 i hi]) fun i j x y hi hx hy => ?_
  simp only [] at hx
  rw [h4 i hi,hy] at hx
  cases hx
  exact .refl _
theorem HoldR.slice {M : Nat → Option Ent} {e : TypeId} {sz n : Nat} {f : Nat → List Dat} {v : Value} (h : HoldR M e sz n f v) : ∃ a c,v = .slice a n c := by
 rcases h with ⟨rfl,a,c,rfl⟩ | ⟨b,c,cap,f',rfl,_⟩
 ·exact ⟨_,_,rfl⟩
 ·exact ⟨_,_,rfl⟩
def rowVal (s : Nat → Value) : Nat → List Dat := fun i => [.v (s i)]
def updS (s : Nat → Value) (n : Nat) (v : Value) : Nat → Value := fun i => if i = n then v else s i
theorem q58 (s : Nat → Value) (n : Nat) (v : Value) : updS s n v n = v := by simp [updS]
theorem x34 (s : Nat → Value) {n i : Nat} (v : Value) (h : i ≠ n) : updS s n v i = s i := by simp [updS,h]
def RowsM (M : Nat → Option Ent) (e : TypeId) (sz : Nat) (len : Nat → Nat) (f : Nat → Nat → List Dat) (s : Nat → Value) (n : Nat) : Prop := ∀ i,i < n → HoldR M e sz (len i) (f i) (s i)
theorem RowsM.mono {M M2 : Nat → Option Ent} {e : TypeId} {sz : Nat} {len : Nat → Nat} {f : Nat → Nat → List Dat} {s : Nat → Value} {n : Nat} (hM : GrowsM M M2) (h : RowsM M e sz len f s n) : RowsM M2 e sz len f s n := fun i hi => (h i hi).mono hM
theorem RowsM.rd {M : Nat → Option Ent} {e : TypeId} {sz : Nat} {len : Nat → Nat} {f : Nat → Nat → List Dat} {s : Nat → Value} {n : Nat} (h : RowsM M e sz len f s n) {F : Nat → List Dat} (hF : ∀ i,i < n → F i = [.sl sz (len i) (f i)]) : RdD M (.sl 1 n (rowVal s)) (.sl 1 n F) := by
 refine .sl _ _ _ _ (fun i hi => by rw [hF i hi];rfl) fun i j x y hi hx hy => ?_
 rw [hF i hi] at hy
 unfold rowVal at hx
 cases j with
 | zero => simp at hx hy;subst hx;subst hy;exact (h i hi).rd
 | succ j => simp at hx
def Shape (sz : Nat) (js : List Nat) (ds : List Dat) : Prop := ds.length = sz ∧ ∀ j,j ∈ js → ∃ x,ds[j]? = some (.v (.int .i64 x))
def HoldS (M : Nat → Option Ent) (e : TypeId) (sz : Nat) (js : List Nat) (n : Nat) (v : Value) : Prop :=
 (n = 0 ∧ ∃ a c,v = .slice a 0 c) ∨ ∃ b c cap f',v = .slice (some ⟨b,0,none⟩) n c ∧ n ≤ c ∧ M b = some ⟨e,sz,cap,n,f'⟩ ∧ ∀ k,k < n → Shape sz js (f' k)
theorem Shape.put {sz : Nat} {js : List Nat} {ds : List Dat} (h : Shape sz js ds) (j : Nat) (hj : j < sz) (x : Int) : Shape sz js (ds.take j ++ [.v (.int .i64 x)] ++ ds.drop (j + [Dat.v (.int .i64 x)].length)) := by
 have hl := h.1
 have hg := x21 ds [.v (.int .i64 x)] j (by simp;omega)
 refine ⟨by simp;omega,fun q hq => ?_⟩
 rw [hg q]
 split
 ·rename_i hh
  have : q = j := by simp at hh;omega
  subst this
  exact ⟨x,by simp⟩
 ·exact h.2 q hq
theorem HoldS.store {M : Nat → Option Ent} {e : TypeId} {sz n : Nat} {js : List Nat} {v : Value} (h : HoldS M e sz js n v) {b0 : Nat} {E : Ent} (hE : M b0 = some E) (i j : Nat) (x : Int) (hj : j < E.sz) : HoldS (setM M b0 (some { E with f := putEl E.f i j [.v (.int .i64 x)] })) e sz js n v := by
 rcases h with h | ⟨b,c,cap,f',h1,h2,h3,h4⟩
 ·exact .inl h
 ·by_cases hb : b = b0
  ·subst hb
   rw [h3] at hE
   cases hE
   refine .inr ⟨b,c,cap,_,h1,h2,z28 _ _ _,fun k hk => ?_⟩
   unfold putEl
   split
   ·rename_i e;subst e;exact (h4 k hk).put j hj x
   ·exact h4 k hk
  ·exact .inr ⟨b,c,cap,f',h1,h2,by rw [j46 _ _ hb];exact h3,h4⟩
def BorrowOK (lo : Option Nat) (E : Eff) : Prop := E.val.flat ∧ E.fresh = false ∧ lo ≠ some 1999 ∧ ∀ l L,E.upd = some (l,L) → L.flat ∧ lo = some l
theorem BorrowOK.own {l : Nat} {v : AV} {obl : Prop} {e : TypeId} {sz n g : Nat} {f : Nat → List Dat} (hv : v.flat) (hl : l ≠ 1999) (hf : ∀ i,i < n → ∀ d ∈ f i,d.flat) : BorrowOK (some l) ⟨v,obl,some (l,.own e sz n g f),false⟩ := by
 refine ⟨hv,rfl,fun e => hl (by cases e;rfl),fun l' L hu => ?_⟩
 cases hu
 exact ⟨hf,rfl⟩
section
variable (P : Program) (o : Oper) (A : ASt)
def stepB (ys : List AV) (K : Eff → Prop) : Prop :=
 match opEff P [] o ys (A.locAt (locNeed o ys)) with
 | some E => E.obl ∧ BorrowOK (locNeed o ys) E ∧ K E
 | none => False
end
theorem q178 {P : Program} {nt : Nat} {ops : Array Oper} {o : Oper} {rest : List Oper} {A : ASt} {K : ASt → Prop} (M : Nat → Option Ent) (ys : List AV) (hd : dstOK nt o = true) (hw : wantedA ops o A = some true) (hM : look A.locs 1999 = some (.raw M))
  (hx : RdAs M (o.op.operands.toList.map A.eval) ys) (h : stepB P o A ys fun E => walkS P nt ops rest (A.apply o.dst E) K) : walkS P nt ops (o :: rest) A K := by
 unfold stepB at h
 split at h
 ·rename_i E hE
  obtain ⟨h1,⟨h2,h3,h4,h5⟩,h6⟩ := h
  exact q16 _ (j177 hd hw hM h4 hx (x83 hE h1) h2 h3 h5) h6
 ·exact h.elim
attribute [go_sem] stepB
end Go.Proofs.Ytbamjcnhmmgnlaa.AL
namespace Go.Proofs.Ytbamjcnhmmgnlaa.AL
open Go.RowKit
variable {P : Program}
end Go.Proofs.Ytbamjcnhmmgnlaa.AL
namespace Go.Proofs.Ytbamjcnhmmgnlaa.AL
open Go.RowKit
def arrV (n : Nat) (s : Nat → Value) : List AV := (List.range n).map fun j => .p (.d (.v (s j)))
theorem j34 (n : Nat) (s : Nat → Value) : (arrV n s).length = n := by simp [arrV]
theorem j42 {n : Nat} {s : Nat → Value} {j : Nat} (h : j < n) : (arrV n s)[j]? = some (.p (.d (.v (s j)))) := by simp [arrV,h]
theorem z178 (n : Nat) (s : Nat → Value) (k : Nat) (v : Value) : (arrV n s).set k (.p (.d (.v v))) = arrV n (updS s k v) := by
 apply List.ext_getElem?
 intro j
 rw [List.getElem?_set]
 simp only [j34]
 by_cases hj : j < n
 ·by_cases hk : k = j
  ·subst hk;rw [if_pos rfl,if_pos hj,j42 hj,q58]
  ·rw [if_neg hk,j42 hj,j42 hj,x34 _ _ fun e => hk e.symm]
 ·have h1 : ∀ t,(arrV n t)[j]? = none := fun t => List.getElem?_eq_none (by rw [j34];omega)
  rw [h1,h1]
  split
  ·split <;> first | rfl | omega
  ·rfl
theorem q118 (n : Nat) (s : Nat → Value) : rowAr n (fun j => .v (s j)) = arrV n s := rfl
theorem z118 (n : Nat) (s : Nat → Value) : List.flatMap AV.mentions (arrV n s) = [] := by
 unfold arrV
 rw [List.flatMap_eq_nil_iff]
 intro x hx
 obtain ⟨j,_,rfl⟩ := List.mem_map.1 hx
 rfl
attribute [irreducible] arrV
theorem x178 {α : Type} (l : List α) (k : Nat) (x : α) (h : k < l.length) : l.take k ++ [x] ++ l.drop (k + 1) = l.set k x := by
 rw [List.set_eq_take_append_cons_drop,if_pos h,List.append_assoc];rfl
theorem x118 {α : Type} {l : List α} {k : Nat} {x : α} (h : k < l.length) : (l.set k x)[k]? = some x := by
 rw [List.getElem?_set_self h]
def RowA (M : Nat → Option Ent) (e : TypeId) (sz n : Nat) (f : Nat → List Dat) (v : Value) : Prop :=
 (n = 0 ∧ v = .slice none 0 0) ∨ ∃ b c f',v = .slice (some ⟨b,0,none⟩) n c ∧ n ≤ c ∧ M b = some ⟨e,sz,c,n,f'⟩ ∧ ∀ k,k < n → f' k = f k
theorem RowA.holds {M : Nat → Option Ent} {e : TypeId} {sz n : Nat} {f : Nat → List Dat} {v : Value} (h : RowA M e sz n f v) : HoldR M e sz n f v := by
 rcases h with ⟨h1,h2⟩ | ⟨b,c,f',h1,h2,h3,h4⟩
 ·exact .inl ⟨h1,_,_,h2⟩
 ·exact .inr ⟨b,c,c,f',h1,h2,h3,h4⟩
def takeM (M : Nat → Option Ent) : Value → Nat → Option Ent
 | .slice (some p) _ _ => setM M p.block none
 | _ => M
theorem j178 (M : Nat → Option Ent) (b n c : Nat) : takeM M (.slice (some ⟨b,0,none⟩) n c) = setM M b none := rfl
theorem z74 {M : Nat → Option Ent} {v : Value} {b : Nat} {E : Ent} (h : takeM M v b = some E) : M b = some E := by
 unfold takeM at h
 split at h
 ·unfold setM at h
  split at h
  ·cases h
  ·exact h
 ·exact h
theorem q179 {M : Nat → Option Ent} {v : Value} {b : Nat} (h : takeM M v b = none) (hb : M b ≠ none) : ∃ p n c,v = .slice (some p) n c ∧ p.block = b := by
 unfold takeM at h
 split at h
 ·unfold setM at h
  split at h
  ·rename_i p n c e
   exact ⟨p,n,c,rfl,e.symm⟩
  ·exact absurd h hb
 ·exact absurd h hb
structure RowsA (M : Nat → Option Ent) (e : TypeId) (sz : Nat) (len : Nat → Nat) (f : Nat → Nat → List Dat) (s : Nat → Value) (n : Nat) : Prop where
 at' : ∀ i,i < n → RowA M e sz (len i) (f i) (s i)
 sep : ∀ i j b m c m' c',i < n → j < n → s i = .slice (some ⟨b,0,none⟩) m c → s j = .slice (some ⟨b,0,none⟩) m' c' → i = j
theorem RowsA.nil (M : Nat → Option Ent) (e : TypeId) (sz : Nat) (f : Nat → Nat → List Dat) (n : Nat) : RowsA M e sz (fun _ => 0) f (fun _ => .slice none 0 0) n :=
 ⟨fun i hi => .inl ⟨rfl,rfl⟩,fun i j b m c m' c' _ _ h => by cases h⟩
theorem RowsA.put {M M2 : Nat → Option Ent} {e : TypeId} {sz : Nat} {len len' : Nat → Nat} {f f' : Nat → Nat → List Dat} {s : Nat → Value} {n k : Nat} {f0 : Nat → List Dat} {v : Value} (h : RowsA M e sz len f s n) (hk : k < n)
  (hp : PackR (takeM M (s k)) e sz (len' k) f0 v M2) (hf : ∀ j,j < len' k → f0 j = f' k j) (ho : ∀ i,i < n → i ≠ k → len' i = len i ∧ f' i = f i) : RowsA M2 e sz len' f' (updS s k v) n := by
 have grow : GrowsM (takeM M (s k)) M2 := hp.grows
 have keepM : ∀ i,i < n → i ≠ k → ∀ b m c,s i = .slice (some ⟨b,0,none⟩) m c → M b ≠ none → takeM M (s k) b = M b := by
  intro i hi hik b m c hs hb
  cases ht : takeM M (s k) b with
  | some E => exact (z74 ht).symm
  |none =>
   exfalso
   obtain ⟨p,m',c',hv,hp⟩ := q179 ht hb
   rcases h.at' k hk with ⟨_,h2⟩ | ⟨b2,c2,f2,h1,_⟩
   ·rw [h2] at hv;cases hv
   ·rw [h1] at hv;cases hv
    simp only [] at hp
    subst hp
    exact hik (h.sep i k _ _ _ _ _ hi hk hs h1)
 have other : ∀ i,i < n → i ≠ k → RowA (takeM M (s k)) e sz (len' i) (f' i) (s i) := by
  intro i hi hik
  obtain ⟨e1,e2⟩ := ho i hi hik
  rw [e1,e2]
  rcases h.at' i hi with h1 | ⟨b,c,f2,h1,h2,h3,h4⟩
  ·exact .inl h1
  ·exact .inr ⟨b,c,f2,h1,h2,by rw [keepM i hi hik b _ _ h1 (by rw [h3];simp)];exact h3,h4⟩
 constructor
 ·intro i hi
  by_cases hik : i = k
  ·subst hik
   rw [q58]
   rcases hp with ⟨h1,h2,rfl⟩ | ⟨b,c,h1,h2,h3,rfl⟩
   ·exact .inl ⟨h1,h2⟩
   ·exact .inr ⟨b,c,f0,h3,h1,z28 _ _ _,hf⟩
  ·rw [x34 _ _ hik]
   rcases other i hi hik with h1 | ⟨b,c,f2,h1,h2,h3,h4⟩
   ·exact .inl h1
   ·exact .inr ⟨b,c,f2,h1,h2,grow b _ h3,h4⟩
 ·have one : ∀ i,i < n → i ≠ k → ∀ b m c m' c',s i = .slice (some ⟨b,0,none⟩) m c → v = .slice (some ⟨b,0,none⟩) m' c' → False := by
   intro i hi hik b m c m' c' h1 h2
   rcases hp with ⟨_,h3,_⟩ | ⟨b2,c2,_,h3,h4,_⟩
   ·rw [h3] at h2;cases h2
   ·rw [h4] at h2;cases h2
    rcases other i hi hik with ⟨_,h5⟩ | ⟨b3,c3,f3,h5,_,h6,_⟩
    ·rw [h5] at h1;cases h1
    ·rw [h5] at h1;cases h1
     rw [h3] at h6;cases h6
  intro i j b m c m' c' hi hj h1 h2
  by_cases hik : i = k
  ·by_cases hjk : j = k
   ·rw [hik,hjk]
   ·subst hik
    rw [q58] at h1
    rw [x34 _ _ hjk] at h2
    exact (one j hj hjk b _ _ _ _ h2 h1).elim
  ·by_cases hjk : j = k
   ·subst hjk
    rw [q58] at h2
    rw [x34 _ _ hik] at h1
    exact (one i hi hik b _ _ _ _ h1 h2).elim
   ·rw [x34 _ _ hik] at h1
    rw [x34 _ _ hjk] at h2
    exact h.sep i j b m c m' c' hi hj h1 h2
theorem Weak.focusCell (A : ASt) (l0 l k sz n : Nat) (e e' : TypeId) (cs : List AV) (f : Nat → List Dat) (v : Value) (M : Nat → Option Ent) (hl0 : look A.locs l0 = some (.cells e cs)) (hk : cs[k]? = some (.p (.d (.v v)))) (hM : look A.locs 1999 = some (.raw M)) (hr : RowA M e' sz n f v)
  (hne : l0 ≠ l) (hu : unusedB A l = true) (hno : look A.locs l = none) : Weak A ⟨A.fr,(l,.own e' sz n 0 f) :: (1999,.raw (takeM M v)) :: (l0,.cells e (cs.set k (.ow l 0 sz n))) :: A.locs⟩ := by
 intro w0 g0 nt h a w r
 let h' : Gh := { h with κ := fun k => if k = l then v else h.κ k,μ := fun k => if k = l then 0 else h.μ k }
 have un := q31 hu
 have tr : Trans w0.O w h w h' (fun _ => False) (some l) true := by
  refine ⟨BelowS.refl _ _,fun b _ _ => ⟨rfl,rfl⟩,⟨fun b => Nat.le_refl _,fun b o _ => rfl⟩,r.gz,fun b _ => rfl,fun _ _ => rfl,fun k hk => ?_,fun k _ hf => by cases hf⟩
  have : k ≠ l := fun e => hk (by rw [e])
  simp [h',this]
 have nl : h'.κ l = v := by simp [h']
 have nm : h'.μ l = 0 := by simp [h']
 have hl9 : l ≠ 1999 := by have := un.2.2;omega
 have h09 : l0 ≠ 1999 := fun e => by rw [e,hM] at hl0;cases hl0
 have oldk : ∀ k L,k ≠ l → look A.locs k = some L → LocOK w0.O w h' k L ∧ inB h' k L = inB h k L := fun k L hne hk =>
  LocOK.trans tr (fun e => hne (by cases e;rfl)) (fun _ l' hl' hm => by cases hl';exact un.2.1 k L hk hm) (fun b _ => by simp) (r.locs k L hk)
 have hML := r.locs 1999 _ hM
 have ownl : LocOK w0.O w h' l (.own e' sz n 0 f) := by
  rcases hr with ⟨rfl,rfl⟩ | ⟨b,c,f',rfl,hc,hE,hf⟩
  ·exact ⟨nm,⟨[],by rw [nl];exact World.ownsRow_nil _ _ _ _,fun i hi => by omega,fun i j d hi => by omega⟩,fun b hb => by rw [nl] at hb;simp [Value.ownBlock] at hb⟩
  ·obtain ⟨b1,⟨cur,b2,b3,b4,b5,b6⟩,b7⟩ := hML b _ hE
   refine ⟨nm,⟨_,?_,⟨fun i hi => hf i hi ▸ b6.1 i hi,fun i j d hi hj hd => b6.2 i j d hi hj (by show (f' i)[j]? = some d;rw [hf i hi];exact hd)⟩⟩,fun b' hb' => ?_⟩
   ·rw [nl]
    refine ⟨?_,.inr ⟨b,c,cur,rfl,Nat.zero_le _,b2,b4,b5,b3,rfl⟩⟩
    have : n * sz ≤ c * sz := Nat.mul_le_mul_right _ b4
    simp only [] at b3
    simp;omega
   ·rw [nl] at hb'
    simp only [Value.ownBlock,Option.some.injEq] at hb'
    subst hb'
    exact ⟨b7,b1⟩
 have inl : ∀ b,inB h' l (.own e' sz n 0 f) b → M b ≠ none ∧ takeM M v b = none := by
  intro b hb
  simp only [inB,nl] at hb
  rcases hr with ⟨rfl,rfl⟩ | ⟨b2,c,f',rfl,hc,hE,hf⟩
  ·simp [Value.ownBlock] at hb
  ·simp only [Value.ownBlock,Option.some.injEq] at hb
   subst hb
   exact ⟨by rw [hE];simp,by rw [j178,z28]⟩
 have inM : ∀ b,inB h' 1999 (.raw (takeM M v)) b → M b ≠ none ∧ takeM M v b ≠ none := by
  intro b hb
  simp only [inB] at hb
  refine ⟨fun e => ?_,hb⟩
  cases ht : takeM M v b with
  | none => exact hb ht
  | some E => rw [z74 ht] at e;cases e
 have cell0 : LocOK w0.O w h' l0 (.cells e (cs.set k (.ow l 0 sz n))) := by
  obtain ⟨arr,c1,c2,c3,c4,c5⟩ := (oldk l0 _ hne hl0).1
  refine ⟨arr,c1,c2,by simpa using c3,c4,fun i u x hv hx => ?_⟩
  by_cases hi : i = k
  ·subst hi
   have hlt := (List.getElem?_eq_some_iff.1 hk).1
   rw [List.getElem?_set_self hlt] at hx
   cases hx
   obtain ⟨k1,k2⟩ := c5 i u _ hv hk
   have hv0 := x14 k1
   refine ⟨?_,k2⟩
   rw [hv0]
   refine ⟨by omega,?_,fun _ => nl.symm⟩
   rcases hr with ⟨rfl,rfl⟩ | ⟨b2,c,f',rfl,hc,hE,hf⟩
   ·exact ⟨_,_,rfl,fun hh => by omega⟩
   ·exact ⟨_,_,rfl,fun _ => ⟨_,rfl⟩⟩
  ·rw [List.getElem?_set_ne (fun e => hi e.symm)] at hx
   exact c5 i u x hv hx
 have old : ∀ j L,look ((l,LV.own e' sz n 0 f) :: (1999,LV.raw (takeM M v)) :: (l0,LV.cells e (cs.set k (.ow l 0 sz n))) :: A.locs) j = some L →
   (j = l ∧ L = .own e' sz n 0 f) ∨ (j = 1999 ∧ L = .raw (takeM M v)) ∨ (j = l0 ∧ L = .cells e (cs.set k (.ow l 0 sz n))) ∨ (j ≠ 1999 ∧ j ≠ l ∧ look A.locs j = some L) := by
  intro j L hj
  simp only [look] at hj
  split at hj
  ·rename_i e;cases hj;exact .inl ⟨e.symm,rfl⟩
  ·rename_i e1
   split at hj
   ·rename_i e;cases hj;exact .inr (.inl ⟨e.symm,rfl⟩)
   ·rename_i e2
    split at hj
    ·rename_i e;cases hj;exact .inr (.inr (.inl ⟨e.symm,rfl⟩))
    ·exact .inr (.inr (.inr ⟨fun e => e2 e.symm,fun e => e1 e.symm,hj⟩))
 have was : ∀ j L,look ((l,LV.own e' sz n 0 f) :: (1999,LV.raw (takeM M v)) :: (l0,LV.cells e (cs.set k (.ow l 0 sz n))) :: A.locs) j = some L → ∀ b,inB h' j L b →
   (j = l ∧ M b ≠ none ∧ takeM M v b = none) ∨ (j = 1999 ∧ M b ≠ none ∧ takeM M v b ≠ none) ∨ (j ≠ l ∧ j ≠ 1999 ∧ ∃ L0,look A.locs j = some L0 ∧ inB h j L0 b) := by
  intro j L hj b hb
  rcases old j L hj with ⟨rfl,rfl⟩ | ⟨rfl,rfl⟩ | ⟨rfl,rfl⟩ | ⟨n1,n2,h3⟩
  ·exact .inl ⟨rfl,inl b hb⟩
  ·exact .inr (.inl ⟨rfl,inM b hb⟩)
  ·exact .inr (.inr ⟨hne,h09,_,hl0,hb⟩)
  ·exact .inr (.inr ⟨n2,n1,L,h3,by rw [← (oldk j L n2 h3).2];exact hb⟩)
 refine ⟨h',r.size,r.defers,fun u y hy => ?_,fun j L hj => ?_,fun j j' L L' b hjj hj hj' hb1 hb2 => ?_,r.ext,fun j hj => ?_⟩
 ·exact RelA.trans tr (fun _ l' hl' hm => by cases hl';exact un.1 u y hy hm) (r.fr u y hy)
 ·rcases old j L hj with ⟨rfl,rfl⟩ | ⟨rfl,rfl⟩ | ⟨rfl,rfl⟩ | ⟨n1,n2,h3⟩
  ·exact ownl
  ·intro b E hE
   exact hML b E (z74 hE)
  ·exact cell0
  ·exact (oldk j L n2 h3).1
 ·rcases was j L hj b hb1 with ⟨rfl,m1,m2⟩ | ⟨rfl,m1,m2⟩ | ⟨n1,n2,L0,m1,m2⟩ <;> rcases was j' L' hj' b hb2 with ⟨e',m1',m2'⟩ | ⟨e',m1',m2'⟩ | ⟨n1',n2',L0',m1',m2'⟩
  ·exact hjj e'.symm
  ·exact m2' m2
  ·exact r.sep 1999 j' _ L0' b (fun e => n2' e.symm) hM m1' m1 m2'
  ·exact m2 m2'
  ·exact hjj e'.symm
  ·exact r.sep 1999 j' _ L0' b (fun e => n2' e.symm) hM m1' m1 m2'
  ·exact r.sep 1999 j _ L0 b (fun e => n2 e.symm) hM m1 m1' m2
  ·exact r.sep 1999 j _ L0 b (fun e => n2 e.symm) hM m1 m1' m2
  ·exact r.sep j j' L0 L0' b hjj m1 m1' m2 m2'
 ·have : j ≠ l := by have := un.2.2;omega
  simp only [h',if_neg this]
  exact r.pin j hj
theorem z58 {L : List (Nat × LV)} {l0 : Nat} {X : LV} {j : Nat} {Y : LV} (h : look ((l0,X) :: L) j = some Y) : (j = l0 ∧ Y = X) ∨ (j ≠ l0 ∧ look L j = some Y) := by
 simp only [look] at h
 split at h
 ·rename_i e;cases h;exact .inl ⟨e.symm,rfl⟩
 ·rename_i e;exact .inr ⟨fun e' => e e'.symm,h⟩
theorem WeakX.packCell (A : ASt) (l0 l k gen sz n : Nat) (e e' : TypeId) (cs : List AV) (f : Nat → List Dat) (M : Nat → Option Ent) (hl0 : look A.locs l0 = some (.cells e cs)) (hk : cs[k]? = some (.ow l gen sz n)) (hl : look A.locs l = some (.own e' sz n gen f)) (hM : look A.locs 1999 = some (.raw M))
  (hne : l0 ≠ l) : WeakX A (fun A' => ∃ v M',PackR M e' sz n f v M' ∧ A' = ⟨A.fr,(l0,.cells e (cs.set k (.p (.d (.v v))))) :: (1999,.raw M') :: dropL l A.locs⟩) := by
 intro w0 g0 nt h a w r
 have hL := r.locs l _ hl
 have hl9 : l ≠ 1999 := fun e => by rw [e,hM] at hl;cases hl
 have h09 : l0 ≠ 1999 := fun e => by rw [e,hM] at hl0;cases hl0
 have hlt := (List.getElem?_eq_some_iff.1 hk).1
 have hv : ∀ u,(∃ arr : Array Value,w.heap[h.ρ l0]? = some (.cells arr e (0,0)) ∧ arr[k]? = some u) → u = h.κ l := by
  rintro u ⟨arr,h1,h2⟩
  obtain ⟨arr',c1,c2,c3,c4,c5⟩ := r.locs l0 _ hl0
  rw [h1] at c2;cases c2
  exact (c5 k u _ h2 hk).1.2.2 hL.1
 have h1c : (h.κ l).oneCell' = true := by
  obtain ⟨arr,c1,c2,c3,c4,c5⟩ := r.locs l0 _ hl0
  have hlt' : k < arr.size := by omega
  have := hv arr[k] ⟨arr,c2,by simp [hlt']⟩
  rw [← this]
  exact (c5 k arr[k] _ (by simp [hlt']) hk).2
 have cell : LocOK w0.O w h l0 (.cells e (cs.set k (.p (.d (.v (h.κ l)))))) := by
  obtain ⟨arr,c1,c2,c3,c4,c5⟩ := r.locs l0 _ hl0
  refine ⟨arr,c1,c2,by simpa using c3,c4,fun i u x hu hx => ?_⟩
  by_cases hi : i = k
  ·subst hi
   rw [List.getElem?_set_self hlt] at hx
   cases hx
   have := hv u ⟨arr,c2,hu⟩
   subst this
   exact ⟨j15 h1c,h1c⟩
  ·rw [List.getElem?_set_ne (fun e => hi e.symm)] at hx
   exact c5 i u x hu hx
 have fin : ∀ M' : Nat → Option Ent,Rel w0 g0 nt ⟨A.fr,(1999,.raw M') :: dropL l A.locs⟩ h a w → Rel w0 g0 nt ⟨A.fr,(l0,.cells e (cs.set k (.p (.d (.v (h.κ l)))))) :: (1999,.raw M') :: dropL l A.locs⟩ h a w := by
  intro M' r'
  have hl0' : look ((1999,LV.raw M') :: dropL l A.locs) l0 = some (.cells e cs) := by
   simp only [look]
   rw [if_neg (fun e => h09 e.symm),j17,if_neg hne]
   exact hl0
  refine ⟨r'.size,r'.defers,r'.fr,fun j L hj => ?_,fun j j' L L' b hjj hj hj' hb hb' => ?_,r'.ext,r'.pin⟩
  ·rcases z58 hj with ⟨rfl,rfl⟩ | ⟨_,hj⟩
   ·exact cell
   ·exact r'.locs j L hj
  ·have old : ∀ {i : Nat} {Y : LV},look ((l0,LV.cells e (cs.set k (.p (.d (.v (h.κ l)))))) :: (1999,LV.raw M') :: dropL l A.locs) i = some Y → inB h i Y b → ∃ Y0,look ((1999,LV.raw M') :: dropL l A.locs) i = some Y0 ∧ inB h i Y0 b := by
    intro i Y hi hb
    rcases z58 hi with ⟨rfl,rfl⟩ | ⟨_,hi⟩
    ·exact ⟨_,hl0',hb⟩
    ·exact ⟨Y,hi,hb⟩
   obtain ⟨Y1,a1,a2⟩ := old hj hb
   obtain ⟨Y2,b1,b2⟩ := old hj' hb'
   exact r'.sep j j' Y1 Y2 b hjj a1 b1 a2 b2
 by_cases hn : (h.κ l).ownBlock = none
 ·obtain ⟨n0,hk0⟩ : n = 0 ∧ h.κ l = .slice none 0 0 := by
   obtain ⟨_,⟨xs,⟨_,⟨h0,h1⟩ | ⟨gb,cap,cur,h0,_⟩⟩,_⟩,_⟩ := hL
   ·exact ⟨h1,h0⟩
   ·rw [h0] at hn;simp [Value.ownBlock] at hn
  subst n0
  refine ⟨_,h,⟨h.κ l,M,.inl ⟨rfl,hk0,rfl⟩,rfl⟩,fin M ⟨r.size,r.defers,r.fr,fun j L hj => ?_,fun j j' L L' b hjj hj hj' => ?_,r.ext,r.pin⟩⟩
  ·rcases z58 hj with ⟨rfl,rfl⟩ | ⟨_,hj⟩
   ·exact r.locs 1999 _ hM
   ·exact r.locs j L (j73 hj).2
  ·have old : ∀ j L,look ((1999,LV.raw M) :: dropL l A.locs) j = some L → look A.locs j = some L := by
    intro j L hj
    rcases z58 hj with ⟨rfl,rfl⟩ | ⟨_,hj⟩
    ·exact hM
    ·exact (j73 hj).2
   exact r.sep j j' L L' b hjj (old j L hj) (old j' L' hj')
 ·obtain ⟨b,hb⟩ := Option.ne_none_iff_exists'.1 hn
  obtain ⟨cap,cur,c1,c2,c3,c4,c5,c6,c7,c8⟩ := x46 hL hb
  obtain ⟨m1,m2⟩ := r.into (fr := A.fr) hl hM hl9 (E := ⟨e',sz,cap,n,f⟩) (b := b) (by simp [inB,hb]) c7 ⟨cur,c2,c5,c3,c4,c8⟩ c6 r.fr
  exact ⟨_,h,⟨h.κ l,_,.inr ⟨b,cap,c3,m1,c1,rfl⟩,rfl⟩,fin _ m2⟩
end Go.Proofs.Ytbamjcnhmmgnlaa.AL
namespace Go.Proofs.Ytbamjcnhmmgnlaa
open Go Go.Proofs.Ytbamjcnhmmgnlaa.AL
def onesF (k : Cube) (i : Nat) : Bool := k.c.getLsbD (127 - i)
def onesSt (k : Cube) (s : {p : Nat × Nat // p.1 ≤ 128 ∧ p.2 = sumB (onesF k) p.1 ∧ p.2 ≤ p.1}) : ASt := ⟨[(6,.p (.d (.v (.int .i64 (s.val.1 : Int))))),(5,.p (.d (.v (.int .i64 (s.val.2 : Int))))),(3,.p (.d (.v (.string (txt k)))))],[]⟩
theorem onesR_c (k : Cube) (hk : k.sound = true) : ACalls Try.prog 64 [.agg (cb k)] (· = [.d (.v (.int .i64 (onesN k : Int)))]) := by
 have ta := q40 k
 rw [hk,if_pos rfl] at ta
 have sz := x52 k
 have fin : sumB (onesF k) 128 = onesN k := x115 128 k.c.getLsbD
 generalize onesN k = N at fin
 refine q11 Try.func64 rfl (by decide +kernel) (by rw [Try.ntmps64];simp) ?_;rw [Try.ntmps64];simp only [frOf]
 (repeat (first | apply j0 | refine j6 rfl ?_ | refine z7 rfl ?_ | apply z6 | (refine j4 fun K hK => ?_) | (refine z5 fun K hK => ?_) | ((first | apply x5 | apply j5 | ((first | refine z3 (hK _ ?_) | refine x4 (hK _ _ z4 ?_));clear hK K));(first | show AWP _ _ _ _ _ | ((try simp only [x6]);first | show loopQ _ _ _ _ _ _ | show cutQ _ _ _ _ | show AWP _ _ _ _ _))) | ((first | refine j8 rfl rfl rfl ?_ | refine q9 rfl rfl rfl ?_);simp (disch:=omega) only [go_sem,seval,hd,cb,sz];(first | refine ⟨_,ta,?_⟩)) | ((first | refine x7 [] rfl ?_ | refine j7 [] rfl ?_);simp (disch:=omega) only [go_sem,seval,hd,cb,sz];(repeat (first | refine ⟨by omega,?_⟩ | refine ⟨True.intro,?_⟩)))))
 refine x12 (onesSt k) (fun s => 128 - s.val.1) ⟨(0,0),by simp only [];omega,rfl,by simp only [];omega⟩ ?_ (fun s => ?_)
 ·unfold onesSt
  refine Weak.list ?_ ?_;(all_goals simp (disch:=omega) only [AllF,AllL,q10,z10,j9,exists_eq_left',go_sem,seval,hd,cb,sz]);(all_goals (repeat' (with_reducible apply And.intro)));(all_goals try (first | exact q8 rfl | (refine x10 ?_;omega) | (refine q8 ?_;simp;done)))
 obtain ⟨⟨i,n⟩,hi9,hs,hn9⟩ := s
 simp only [] at hi9 hs hn9
 unfold onesSt
 simp only []
 by_cases hn : i < 128
 ·have ai := z40 k i hn
  have st : sumB (onesF k) (i + 1) = sumB (onesF k) i + (k.c.getLsbD (127 - i)).toNat := rfl
  rw [← hs] at st
  cases hc : k.c.getLsbD (127 - i)
  ·rw [show chI k (127 - i) = 120 from by simp [chI,hc]] at ai
   rw [hc] at st
   (repeat (first | apply j0 | refine j6 rfl ?_ | refine z7 rfl ?_ | apply z6 | (refine j4 fun K hK => ?_) | (refine z5 fun K hK => ?_) | ((first | apply x5 | apply j5 | ((first | refine z3 (hK _ ?_) | refine x4 (hK _ _ z4 ?_));clear hK K));(first | show AWP _ _ _ _ _ | ((try simp only [x6]);first | show loopQ _ _ _ _ _ _ | show cutQ _ _ _ _ | show AWP _ _ _ _ _))) | ((first | refine x7 [] rfl ?_ | refine j7 [] rfl ?_);simp (disch:=omega) only [go_sem,seval,hd,cb,sz,ai];(repeat (first | refine ⟨by omega,?_⟩ | refine ⟨True.intro,?_⟩)))))
   refine ⟨⟨(i + 1,n),by simp only [];omega,by simp only [];rw [st];rfl,by simp only [];omega⟩,by simp only [];omega,?_⟩
   refine Weak.list ?_ ?_;(all_goals simp (disch:=omega) only [AllF,AllL,q10,z10,j9,exists_eq_left',go_sem,seval,hd,cb,sz,ai]);(all_goals (repeat' (with_reducible apply And.intro)));(all_goals try (first | exact q8 rfl | (refine x10 ?_;omega) | (refine q8 ?_;simp;done)))
  ·rw [hc] at st
   cases hv : k.v.getLsbD (127 - i)
   all_goals
    simp only [chI,hc,hv,if_true,if_false,Bool.false_eq_true] at ai
    (repeat (first | apply j0 | refine j6 rfl ?_ | refine z7 rfl ?_ | apply z6 | (refine j4 fun K hK => ?_) | (refine z5 fun K hK => ?_) | ((first | apply x5 | apply j5 | ((first | refine z3 (hK _ ?_) | refine x4 (hK _ _ z4 ?_));clear hK K));(first | show AWP _ _ _ _ _ | ((try simp only [x6]);first | show loopQ _ _ _ _ _ _ | show cutQ _ _ _ _ | show AWP _ _ _ _ _))) | ((first | refine x7 [] rfl ?_ | refine j7 [] rfl ?_);simp (disch:=omega) only [go_sem,seval,hd,cb,sz,ai];(repeat (first | refine ⟨by omega,?_⟩ | refine ⟨True.intro,?_⟩)))))
    refine ⟨⟨(i + 1,n + 1),by simp only [];omega,by simp only [];rw [st];rfl,by simp only [];omega⟩,by simp only [];omega,?_⟩
    refine Weak.list ?_ ?_;(all_goals simp (disch:=omega) only [AllF,AllL,q10,z10,j9,exists_eq_left',go_sem,seval,hd,cb,sz,ai]);(all_goals (repeat' (with_reducible apply And.intro)));(all_goals try (first | exact q8 rfl | (refine x10 ?_;omega) | (refine q8 ?_;simp;done)))
 ·have : i = 128 := by omega
  subst this
  rw [fin] at hs
  subst hs
  (repeat (first | apply j0 | refine j6 rfl ?_ | refine z7 rfl ?_ | apply z6 | (refine j4 fun K hK => ?_) | (refine z5 fun K hK => ?_) | ((first | apply x5 | apply j5 | ((first | refine z3 (hK _ ?_) | refine x4 (hK _ _ z4 ?_));clear hK K));(first | show AWP _ _ _ _ _ | ((try simp only [x6]);first | show loopQ _ _ _ _ _ _ | show cutQ _ _ _ _ | show AWP _ _ _ _ _))) | ((first | refine x7 [] rfl ?_ | refine j7 [] rfl ?_);simp (disch:=omega) only [go_sem,seval,hd,cb,sz];(repeat (first | refine ⟨by omega,?_⟩ | refine ⟨True.intro,?_⟩)))))
  refine x8 ⟨_,?_,rfl⟩;rw [Try.results64];simp (disch:=omega) only [ResVars,ResVar,ptrLoc,go_sem,seval,hd,cb,sz]
def rowOn (L : List Cube) (j : Nat) : List Cube := L.filter (fun x => onesN x == j)
theorem j118 (L : List Cube) (x : Cube) (j : Nat) : rowOn (L ++ [x]) j = if onesN x = j then rowOn L j ++ [x] else rowOn L j := by
 unfold rowOn
 rw [List.filter_append]
 by_cases h : onesN x = j
 ·rw [if_pos h];simp [h]
 ·rw [if_neg h];simp [h]
theorem x74 (L : List Cube) (j : Nat) : (rowOn L j).length ≤ L.length := List.length_filter_le _ _
theorem cb_flat (k : Cube) : ∀ d ∈ cb k,d.flat := by
 intro d hd
 unfold cb at hd
 simp only [List.mem_cons,List.not_mem_nil,or_false] at hd
 rcases hd with rfl | rfl | rfl | rfl <;> exact trivial
theorem z179 (a b : List Cube) (j : Nat) : catF a.length (rowC a) (rowC b) j = rowC (a ++ b) j := by
 unfold catF
 rw [z23,z23,z23,List.getD_eq_getElem?_getD,List.getD_eq_getElem?_getD,List.getD_eq_getElem?_getD]
 split
 ·rename_i h
  rw [List.getElem?_append_left h]
 ·rename_i h
  rw [List.getElem?_append_right (by omega)]
theorem toldT_s (L : List Cube) (n : Nat) : toldT L (n + 1) = toldT L n ++ rowOn L n := rfl
theorem q119 (L : List Cube) : ∀ n,(toldT L n).length ≤ n * L.length
 | 0 => by simp [toldT]
 |n + 1 => by
  have := q119 L n
  have := x74 L n
  rw [toldT_s,List.length_append,Nat.add_mul]
  omega
abbrev Rows9 := Nat × (Nat → Option Ent) × (Nat → Value)
def TolOK (L : List Cube) (p : Rows9) : Prop := p.1 ≤ L.length ∧ RowsA p.2.1 27 4 (fun j => (rowOn (L.take p.1) j).length) (fun j => rowC (rowOn (L.take p.1) j)) p.2.2 129
def tolA (L : List Cube) (s : {p : Rows9 // TolOK L p}) : ASt :=
 ⟨[(4,.p (.d (.v (.int .i64 (s.val.1 : Int))))),(3,.loc 3 0),(0,.p (.d (.sl 4 L.length (rowC L))))],[(3,.cells 134 (arrV 129 s.val.2.2)),(1999,.raw s.val.2.1)]⟩
def tolB (L : List Cube) (M : Nat → Option Ent) (s : Nat → Value) (n : Fin 130) : ASt :=
 ⟨[(7,.p (.d (.v (.int .i64 (n.val : Int))))),(6,.ow 31 n.val 4 (toldT L n.val).length),(3,.loc 3 0)],[(31,.own 27 4 (toldT L n.val).length n.val (rowC (toldT L n.val))),(3,.cells 134 (arrV 129 s)),(1999,.raw M)]⟩
theorem tol_put {L : List Cube} {i k : Nat} {x : Cube} {M M2 : Nat → Option Ent} {s : Nat → Value} {f0 : Nat → List Dat} {v : Value} (h : TolOK L (i,M,s)) (hi : i < L.length) (hx : L.getD i ⟨0,0⟩ = x) (hk : onesN x = k)
  (hp : PackR (takeM M (s k)) 27 4 ((rowOn (L.take i) k).length + 1) f0 v M2) (hf : ∀ j,j < (rowOn (L.take i) k).length + 1 → f0 j = rowC (rowOn (L.take i) k ++ [x]) j) : TolOK L (i + 1,M2,updS s k v) := by
 have e : L.take (i + 1) = L.take i ++ [x] := by rw [z93 L i ⟨0,0⟩ hi,hx]
 have hk9 : k < 129 := by have := x73 x.c;unfold onesN at hk;omega
 refine ⟨hi,?_⟩
 show RowsA M2 _ 4 (fun j => (rowOn (L.take (i + 1)) j).length) (fun j => rowC (rowOn (L.take (i + 1)) j)) (updS s k v) 129
 rw [e]
 have e1 : rowOn (L.take i ++ [x]) k = rowOn (L.take i) k ++ [x] := by rw [j118,if_pos hk]
 refine h.2.put hk9 (f0 := f0) (len' := fun j => (rowOn (L.take i ++ [x]) j).length) (f' := fun j => rowC (rowOn (L.take i ++ [x]) j)) ?_ (fun j hj => ?_) (fun j hj hjk => ?_)
 ·show PackR _ _ _ (rowOn (L.take i ++ [x]) k).length _ _ _
  rw [e1,List.length_append]
  exact hp
 ·rw [e1] at hj ⊢
  exact hf j (by simpa using hj)
 ·rw [j118,if_neg (fun h => hjk (by omega))]
  exact ⟨rfl,rfl⟩
set_option maxRecDepth 100000 in
theorem told_c (L : List Cube) (hs : ∀ x ∈ L,x.sound = true) (hl : L.length ≤ 100000) : ACalls Try.prog 32 [.d (.sl 4 L.length (rowC L))] (· = [.d (.sl 4 (toldT L 129).length (rowC (toldT L 129)))]) := by
 obtain ⟨T,hT⟩ : ∃ T,toldT L 129 = T := ⟨_,rfl⟩
 rw [hT]
 refine q11 Try.func32 rfl (by decide +kernel) (by rw [Try.ntmps32];simp) ?_;rw [Try.ntmps32];simp only [frOf]
 refine x175 rfl ?_
 (repeat (first | apply j0 | refine j6 rfl ?_ | refine z7 rfl ?_ | apply z6 | (refine j4 fun K hK => ?_) | (refine z5 fun K hK => ?_) | ((first | apply x5 | apply j5 | ((first | refine z3 (hK _ ?_) | refine x4 (hK _ _ z4 ?_));clear hK K));(first | show AWP _ _ _ _ _ | ((try simp only [x6]);first | show loopQ _ _ _ _ _ _ | show cutQ _ _ _ _ | show AWP _ _ _ _ _))) | ((first | refine x7 [10031] rfl ?_ | refine j7 [10031] rfl ?_);simp (disch:=omega) only [go_sem,seval,hd,cb,q118];(repeat (first | refine ⟨by omega,?_⟩ | refine ⟨True.intro,?_⟩)))))
 refine x12 (tolA L) (fun s => L.length - s.val.1) ⟨(0,noM,fun _ => .slice none 0 0),Nat.zero_le _,RowsA.nil _ _ _ _ _⟩ ?_ (fun s => ?_)
 ·unfold tolA
  refine Weak.list ?_ ?_;(all_goals simp (disch:=omega) only [AllF,AllL,q10,z10,j9,exists_eq_left',go_sem,seval,hd,cb,q118]);(all_goals (repeat' (with_reducible apply And.intro)));(all_goals try (first | exact q8 rfl | (refine x10 ?_;omega) | (refine q8 ?_;simp;done)))
 obtain ⟨⟨i,M,s⟩,hR⟩ := s
 unfold tolA
 simp only []
 by_cases hn : i < L.length
 ·have r1 := z23 L i
  have sx := hs _ (q23 hn ⟨0,0⟩)
  obtain ⟨x,hx⟩ : ∃ x,L.getD i ⟨0,0⟩ = x := ⟨_,rfl⟩
  rw [hx] at r1 sx
  have on := onesR_c x sx
  have hk9 := x73 x.c
  obtain ⟨k,hk⟩ : ∃ k,onesN x = k := ⟨_,rfl⟩
  have hk9 : k ≤ 128 := by unfold onesN at hk;omega
  rw [hk] at on
  have hv := hR.2.at' k (by omega)
  simp only [] at hv
  have hput := fun M2 f0 v hp hf => tol_put (M2 := M2) (f0 := f0) (v := v) hR hn hx hk hp hf
  have hlen := x74 (L.take i) k
  have hlen2 : (L.take i).length ≤ 100000 := by simp;omega
  generalize rowOn (L.take i) k = R at hv hput hlen
  have c0 : (arrV 129 s)[k]? = some (.p (.d (.v (s k)))) := j42 (by omega)
  (repeat ((fail_if_success (show AWP _ _ (.region 6 _ _) _ _));first | apply j0 | refine j6 rfl ?_ | refine z7 rfl ?_ | apply z6 | (refine j4 fun K hK => ?_) | (refine z5 fun K hK => ?_) | ((first | apply x5 | apply j5 | ((first | refine z3 (hK _ ?_) | refine x4 (hK _ _ z4 ?_));clear hK K));(first | show AWP _ _ _ _ _ | ((try simp only [x6]);first | show loopQ _ _ _ _ _ _ | show cutQ _ _ _ _ | show AWP _ _ _ _ _))) | ((first | refine j8 rfl rfl rfl ?_ | refine q9 rfl rfl rfl ?_);simp (disch:=omega) only [go_sem,seval,hd,cb,r1];(first | refine ⟨_,on,?_⟩)) | ((first | refine x7 [10031] rfl ?_ | refine j7 [10031] rfl ?_);simp (disch:=omega) only [go_sem,seval,hd,cb,r1];(repeat (first | refine ⟨by omega,?_⟩ | refine ⟨True.intro,?_⟩)))))
  refine q24 (Weak.focusCell _ 3 40 k 4 R.length 134 27 (arrV 129 s) (rowC R) (s k) M rfl c0 rfl hv (by decide) (by kernel_rfl) rfl) ?_
  (refine z24 [0,3,4,5] [3,40,1999] ?_);simp only [AL.keep,AL.look,↓reduceIte,Nat.reduceEqDiff,reduceCtorEq]
  have c1 : ((arrV 129 s).set k (.ow 40 0 4 R.length))[k]? = some (.ow 40 0 4 R.length) := x118 (by rw [j34];omega)
  have c2 : ((arrV 129 s).set k (.ow 40 0 4 R.length)).length = 129 := by rw [List.length_set,j34]
  have c3 : ∀ y,((arrV 129 s).set k (.ow 40 0 4 R.length)).take k ++ [y] ++ ((arrV 129 s).set k (.ow 40 0 4 R.length)).drop (k + 1) = (arrV 129 s).set k y := fun y => by
   rw [x178 _ _ _ (by rw [List.length_set,j34];omega),List.set_set]
  generalize (arrV 129 s).set k (.ow 40 0 4 R.length) = cs at c1 c2 c3
  (repeat ((fail_if_success (show AWP _ _ (.region 4 _ _) _ _));first | apply j0 | refine j6 rfl ?_ | refine z7 rfl ?_ | apply z6 | (refine j4 fun K hK => ?_) | (refine z5 fun K hK => ?_) | ((first | apply x5 | apply j5 | ((first | refine z3 (hK _ ?_) | refine x4 (hK _ _ z4 ?_));clear hK K));(first | show AWP _ _ _ _ _ | ((try simp only [x6]);first | show loopQ _ _ _ _ _ _ | show cutQ _ _ _ _ | show AWP _ _ _ _ _))) | ((first | refine x7 [10031] rfl ?_ | refine j7 [10031] rfl ?_);simp (disch:=omega) only [go_sem,seval,hd,cb,r1,c1,c2,c3];(repeat (first | refine ⟨by omega,?_⟩ | refine ⟨True.intro,?_⟩)))))
  have d1 : ((arrV 129 s).set k (.ow 40 1 4 (R.length + 1)))[k]? = some (.ow 40 1 4 (R.length + 1)) := x118 (by rw [j34];omega)
  refine z175 (WeakX.packCell _ 3 40 k 1 4 (R.length + 1) 134 27 _ _ _ rfl d1 rfl rfl (by decide)) ?_
  rintro A' ⟨v,M2,hp,rfl⟩
  have hp2 := hput M2 _ v hp (fun j hj => z163 R x j hj)
  rw [List.set_set,z178]
  (refine z24 [0,3,4] [3,1999] ?_);simp only [AL.keep,AL.look,↓reduceIte,Nat.reduceEqDiff,reduceCtorEq]
  (repeat (first | apply j0 | refine j6 rfl ?_ | refine z7 rfl ?_ | apply z6 | (refine j4 fun K hK => ?_) | (refine z5 fun K hK => ?_) | ((first | apply x5 | apply j5 | ((first | refine z3 (hK _ ?_) | refine x4 (hK _ _ z4 ?_));clear hK K));(first | show AWP _ _ _ _ _ | ((try simp only [x6]);first | show loopQ _ _ _ _ _ _ | show cutQ _ _ _ _ | show AWP _ _ _ _ _))) | ((first | refine x7 [10031] rfl ?_ | refine j7 [10031] rfl ?_);simp (disch:=omega) only [go_sem,seval,hd,cb];(repeat (first | refine ⟨by omega,?_⟩ | refine ⟨True.intro,?_⟩)))))
  refine ⟨⟨(i + 1,M2,updS s k v),hp2⟩,by simp only [];omega,?_⟩
  refine Weak.list ?_ ?_;(all_goals simp (disch:=omega) only [AllF,AllL,q10,z10,j9,exists_eq_left',go_sem,seval,hd,cb]);(all_goals (repeat' (with_reducible apply And.intro)));(all_goals try (first | exact q8 rfl | (refine x10 ?_;omega) | (refine q8 ?_;simp;done)))
 ·have hi : i = L.length := by have := hR.1;simp only [] at this;omega
  subst hi
  have hv := hR.2
  simp only [List.take_length] at hv
  (repeat (first | apply j0 | refine j6 rfl ?_ | refine z7 rfl ?_ | apply z6 | (refine j4 fun K hK => ?_) | (refine z5 fun K hK => ?_) | ((first | apply x5 | apply j5 | ((first | refine z3 (hK _ ?_) | refine x4 (hK _ _ z4 ?_));clear hK K));(first | show AWP _ _ _ _ _ | ((try simp only [x6]);first | show loopQ _ _ _ _ _ _ | show cutQ _ _ _ _ | show AWP _ _ _ _ _))) | ((first | refine x7 [10031] rfl ?_ | refine j7 [10031] rfl ?_);simp (disch:=omega) only [go_sem,seval,hd,cb,z118,List.contains_nil];(repeat (first | refine ⟨by omega,?_⟩ | refine ⟨True.intro,?_⟩)))))
  refine x12 (tolB L M s) (fun n => 129 - n.val) ⟨0,by omega⟩ ?_ (fun n => ?_)
  ·unfold tolB
   refine Weak.list ?_ ?_;(all_goals simp (disch:=omega) only [AllF,AllL,q10,z10,j9,exists_eq_left',go_sem,seval,hd,cb,z118,List.contains_nil]);(all_goals (repeat' (with_reducible apply And.intro)));(all_goals try (first | exact q8 rfl | (refine x10 ?_;omega) | (refine q8 ?_;simp;done)))
   exact j28 rfl rfl (fun i hi => absurd hi (by omega))
  obtain ⟨n,hn9⟩ := n
  unfold tolB
  by_cases hm : n < 129
  ·have hvn := (hv.at' n hm).holds
   have e : toldT L (n + 1) = toldT L n ++ rowOn L n := rfl
   have l1 := q119 L n
   have l2 := x74 L n
   have c0 : (arrV 129 s)[n]? = some (.p (.d (.v (s n)))) := j42 hm
   have l3 : n * L.length ≤ 129 * 100000 := Nat.mul_le_mul (by omega) hl
   have hrd := hvn.rd
   obtain ⟨a,c,hsl⟩ := hvn.slice
   rw [hsl] at hrd c0
   generalize toldT L n = T1 at e l1
   generalize rowOn L n = R at e l2 hrd hsl c0
   (repeat ((fail_if_success (show AWP _ _ (.region 11 _ _) _ _));first | apply j0 | refine j6 rfl ?_ | refine z7 rfl ?_ | apply z6 | (refine j4 fun K hK => ?_) | (refine z5 fun K hK => ?_) | ((first | apply x5 | apply j5 | ((first | refine z3 (hK _ ?_) | refine x4 (hK _ _ z4 ?_));clear hK K));(first | show AWP _ _ _ _ _ | ((try simp only [x6]);first | show loopQ _ _ _ _ _ _ | show cutQ _ _ _ _ | show AWP _ _ _ _ _))) | ((first | refine x7 [10031] rfl ?_ | refine j7 [10031] rfl ?_);simp (disch:=omega) only [go_sem,seval,hd,cb,c0];(repeat (first | refine ⟨by omega,?_⟩ | refine ⟨True.intro,?_⟩)))))
   refine j4 fun K hK => ?_
   iterate 4 ((first | refine q64 [10031] rfl rfl ?_ | refine z64 [10031] rfl rfl ?_ | refine x48 rfl rfl ?_ | refine j48 rfl rfl ?_);simp (disch:=omega) only [go_sem,seval,hd,cb,c0];(repeat (first | refine ⟨by omega,?_⟩ | refine ⟨True.intro,?_⟩)))
   refine q178 M [.ow 31 n 4 T1.length,.p (.d (.sl 4 R.length (rowC R)))] rfl rfl rfl (.cons (RdA.refl _ _) (.cons (RdA.p (.d hrd)) .nil)) ?_
   simp (disch:=omega) only [go_sem,seval,hd,cb,c0]
   refine ⟨by omega,.own trivial (by decide) (fun i hi => by unfold catF;split <;> exact cb_flat _),?_⟩
   (repeat ((fail_if_success (show AWP _ _ (.region 10 _ _) _ _));first | apply j0 | refine j6 rfl ?_ | refine z7 rfl ?_ | apply z6 | (refine j4 fun K hK => ?_) | (refine z5 fun K hK => ?_) | ((first | apply x5 | apply j5 | ((first | refine z3 (hK _ ?_) | refine x4 (hK _ _ z4 ?_));clear hK K));(first | show AWP _ _ _ _ _ | ((try simp only [x6]);first | show loopQ _ _ _ _ _ _ | show cutQ _ _ _ _ | show AWP _ _ _ _ _))) | ((first | refine x7 [10031] rfl ?_ | refine j7 [10031] rfl ?_);simp (disch:=omega) only [go_sem,seval,hd,cb,c0];(repeat (first | refine ⟨by omega,?_⟩ | refine ⟨True.intro,?_⟩)))))
   refine x93 31 (rowC (T1 ++ R)) rfl (fun j hj => z179 T1 R j) ?_
   (repeat (first | apply j0 | refine j6 rfl ?_ | refine z7 rfl ?_ | apply z6 | (refine j4 fun K hK => ?_) | (refine z5 fun K hK => ?_) | ((first | apply x5 | apply j5 | ((first | refine z3 (hK _ ?_) | refine x4 (hK _ _ z4 ?_));clear hK K));(first | show AWP _ _ _ _ _ | ((try simp only [x6]);first | show loopQ _ _ _ _ _ _ | show cutQ _ _ _ _ | show AWP _ _ _ _ _))) | ((first | refine x7 [10031] rfl ?_ | refine j7 [10031] rfl ?_);simp (disch:=omega) only [go_sem,seval,hd,cb,c0];(repeat (first | refine ⟨by omega,?_⟩ | refine ⟨True.intro,?_⟩)))))
   refine ⟨⟨n + 1,by omega⟩,by simp only [];omega,?_⟩
   simp only [e,List.length_append]
   refine Weak.list ?_ ?_;(all_goals simp (disch:=omega) only [AllF,AllL,q10,z10,j9,exists_eq_left',go_sem,seval,hd,cb,c0]);(all_goals (repeat' (with_reducible apply And.intro)));(all_goals try (first | exact q8 rfl | (refine x10 ?_;omega) | (refine q8 ?_;simp;done)))
  ·have : n = 129 := by omega
   subst this
   rw [hT]
   (repeat ((fail_if_success (show AWP _ _ (.region 12 _ _) _ _));first | apply j0 | refine j6 rfl ?_ | refine z7 rfl ?_ | apply z6 | (refine j4 fun K hK => ?_) | (refine z5 fun K hK => ?_) | ((first | apply x5 | apply j5 | ((first | refine z3 (hK _ ?_) | refine x4 (hK _ _ z4 ?_));clear hK K));(first | show AWP _ _ _ _ _ | ((try simp only [x6]);first | show loopQ _ _ _ _ _ _ | show cutQ _ _ _ _ | show AWP _ _ _ _ _))) | ((first | refine x7 [10031] rfl ?_ | refine j7 [10031] rfl ?_);simp (disch:=omega) only [go_sem,seval,hd,cb];(repeat (first | refine ⟨by omega,?_⟩ | refine ⟨True.intro,?_⟩)))))
   refine x143 6 31 129 4 T.length 27 (rowC T) rfl rfl ?_
   (repeat (first | apply j0 | refine j6 rfl ?_ | refine z7 rfl ?_ | apply z6 | (refine j4 fun K hK => ?_) | (refine z5 fun K hK => ?_) | ((first | apply x5 | apply j5 | ((first | refine z3 (hK _ ?_) | refine x4 (hK _ _ z4 ?_));clear hK K));(first | show AWP _ _ _ _ _ | ((try simp only [x6]);first | show loopQ _ _ _ _ _ _ | show cutQ _ _ _ _ | show AWP _ _ _ _ _))) | ((first | refine x7 [10031] rfl ?_ | refine j7 [10031] rfl ?_);simp (disch:=omega) only [go_sem,seval,hd,cb,j17];(repeat (first | refine ⟨by omega,?_⟩ | refine ⟨True.intro,?_⟩)))))
   refine x8 ⟨_,?_,rfl⟩;rw [Try.results32];simp (disch:=omega) only [ResVars,ResVar,ptrLoc,go_sem,seval,hd,cb,j17]
def poA (c : Config) (v : Nat) (W : List Cube) (E9 : Int) (rs : List Rule) (L0 : List Cube) (s : {p : Nat × List Cube // p.1 ≤ rs.length ∧ (rs.drop p.1).foldl matchF p.2 = L0 ∧ p.2.length ≤ p.1}) : ASt :=
 ⟨[(10,.p (.d (.v (.int .i64 (s.val.1 : Int))))),(9,.p (.d (.sl 12 rs.length (rowR rs)))),(8,.p (.d (.sl 4 s.val.2.length (rowC s.val.2)))),(6,.p (.d (.v (.int .i64 E9)))),(5,.p (.d (.sl 4 W.length (rowC W)))),(2,.p (.d (.bx (configD c)))),(1,.p (.d (.v (.int .i64 (v : Int)))))],[]⟩
def poB (W : List Cube) (E9 : Int) (S R : List Cube) (s : {p : Nat × List Cube // closeF S (501 - p.1) p.1 p.2 = R ∧ p.2.length ≤ 100000 ∧ p.1 ≤ 501 ∧ ∀ x ∈ p.2,x.sound = true}) : ASt :=
 ⟨[(12,.p (.d (.v (.int .i64 (s.val.1 : Int))))),(11,.p (.d (.sl 4 S.length (rowC S)))),(8,.p (.d (.sl 4 s.val.2.length (rowC s.val.2)))),(6,.p (.d (.v (.int .i64 E9)))),(5,.p (.d (.sl 4 W.length (rowC W))))],[]⟩
def poC (W : List Cube) (E9 : Int) (S R : List Cube) (n : Nat) (x : Cube) (s : {p : Nat × List Cube // p.1 ≤ S.length ∧ (S.drop p.1).foldl (befF x) p.2 = R ∧ p.2.length ≤ 500 + p.1 ∧ n < p.2.length ∧ p.2.getD n ⟨0,0⟩ = x ∧ ∀ x ∈ p.2,x.sound = true}) : ASt :=
 ⟨[(13,.p (.d (.v (.int .i64 (s.val.1 : Int))))),(12,.p (.d (.v (.int .i64 (n : Int))))),(11,.p (.d (.sl 4 S.length (rowC S)))),(8,.p (.d (.sl 4 s.val.2.length (rowC s.val.2)))),(6,.p (.d (.v (.int .i64 E9)))),(5,.p (.d (.sl 4 W.length (rowC W))))],[]⟩
def poD (W : List Cube) (i : Fin (W.length + 1)) : ASt :=
 ⟨[(16,.p (.d (.v (.int .i64 (i.val : Int))))),(8,.p (.d (.sl 4 W.length (rowC W)))),(5,.p (.d (.sl 4 W.length (rowC W))))],[]⟩
theorem z119 {L : List Cube} {k : Cube} (h : ∀ x ∈ L,x.sound = true) (hk : k.sound = true) : ∀ x ∈ addC L k,x.sound = true := fun x hx => by
 rcases x72.1 hx with hx | rfl
 ·exact h x hx
 ·exact hk
set_option maxRecDepth 100000 in
theorem x179 (c : Config) (v : Int) (hc : c.small) (hv : -9223372036854775808 ≤ v ∧ v < 9223372036854775808) : ACalls Try.prog 8 [.agg (configD c),.d (.v (.int .i64 v))] (· = [.d (.v (.bool true))]) := by
 have wr := wrong_c c v hc
 by_cases h : predE c v = 0
 ·obtain ⟨h0,h1,h2⟩ := x56 h
  obtain ⟨n,rfl⟩ : ∃ n : Nat,v = n := ⟨v.toNat,by omega⟩
  have ol := Of_c c n hc hv
  have sr := setsR_c c n hc h
  have hb := j55 h0
  have ru := q110 c hc (by omega)
  have rl := q72 c.tb
  have sS := z174 h
  rw [h] at wr
  have hSl : (setsL c n).length ≤ 1000 := by
   have h1 := z25 (stampF c n) (fun L a => j20 L _) (edgesT c.tp) []
   have h2 := j40 setF z55 c.tb (setsE c n)
   unfold setsL
   unfold setsE at h2 ⊢
   simp at h1;omega
  have rS : ∀ r ∈ rulesA c.tb,r.mt.sound = true := fun r hr => (x113 h0 hr).1
  obtain ⟨R,hR⟩ : ∃ x,asksL c n = x := ⟨_,rfl⟩
  have e1 : ofE c n = if 500 < R.length then 10 else 0 := by unfold ofE;rw [hR,if_neg (by simpa using h)]
  have e2 : ofV c n = if 500 < R.length then [] else isort onesK R := by
   unfold ofV;rw [e1,hR]
   split
   ·rw [if_neg (by decide)]
   ·rw [if_pos rfl]
  have l0S : ∀ x ∈ (rulesA c.tb).foldl matchF [],x.sound = true := z57 matchF (fun s => s.sound = true) _ (fun r hr L hL x hx => by
   unfold matchF at hx
   exact z119 hL (rS r hr) x hx) _ (by simp)
  have l0l : ((rulesA c.tb).foldl matchF []).length ≤ 1000 := by
   have := z25 matchF (fun L r => x71 L r) (rulesA c.tb) []
   simp at this;omega
  unfold asksL at hR
  rw [z56] at hR
  generalize setsL c n = S at sr sS hSl hR
  generalize rulesA c.tb = rs at ru rl rS hR l0S l0l
  obtain ⟨L0,hL0⟩ : ∃ x,rs.foldl matchF [] = x := ⟨_,rfl⟩
  rw [hL0] at hR l0S l0l
  generalize ofV c n = W at ol e2
  generalize ofE c n = E9 at ol e1
  refine q11 Try.func8 rfl (by decide +kernel) (by rw [Try.ntmps8];simp) ?_;rw [Try.ntmps8];simp only [frOf]
  (repeat (first | apply j0 | refine j6 rfl ?_ | refine z7 rfl ?_ | apply z6 | (refine j4 fun K hK => ?_) | (refine z5 fun K hK => ?_) | ((first | apply x5 | apply j5 | ((first | refine z3 (hK _ ?_) | refine x4 (hK _ _ z4 ?_));clear hK K));(first | show AWP _ _ _ _ _ | ((try simp only [x6]);first | show loopQ _ _ _ _ _ _ | show cutQ _ _ _ _ | show AWP _ _ _ _ _))) | ((first | refine j8 rfl rfl rfl ?_ | refine q9 rfl rfl rfl ?_);simp (disch:=omega) only [go_sem,seval,hd,cb,ruleD,configD,z8];(first | refine ⟨_,ol,?_⟩ | refine ⟨_,wr,?_⟩ | refine ⟨_,ru,?_⟩)) | ((first | refine x7 [] rfl ?_ | refine j7 [] rfl ?_);simp (disch:=omega) only [go_sem,seval,hd,cb,ruleD,configD,z8];(repeat (first | refine ⟨by omega,?_⟩ | refine ⟨True.intro,?_⟩)))))
  refine x12 (poA c n W E9 rs L0) (fun s => rs.length - s.val.1) ⟨(0,[]),by simp only [];omega,by rw [List.drop_zero];exact hL0,by simp⟩ ?_ (fun s => ?_)
  ·unfold poA
   refine Weak.list ?_ ?_;(all_goals simp (disch:=omega) only [AllF,AllL,q10,z10,j9,exists_eq_left',go_sem,seval,hd,cb,ruleD,configD,z8]);(all_goals (repeat' (with_reducible apply And.intro)));(all_goals try (first | exact q8 rfl | (refine x10 ?_;omega) | (refine q8 ?_;simp;done)))
   all_goals exact le_sl rfl (fun i hi => by omega)
  obtain ⟨⟨i,L⟩,hi,k1,k2⟩ := s
  simp only [] at hi k1 k2
  unfold poA
  simp only []
  by_cases hn : i < rs.length
  ·have r1 := j38 rs i
   rw [j19 rs i r0 hn] at k1
   simp only [List.foldl_cons] at k1
   generalize rs.getD i r0 = r at r1 k1
   unfold matchF at k1
   have ad := q56 L r.mt (by omega)
   have al := j20 L r.mt
   generalize addC L r.mt = L2 at ad al k1
   (repeat (first | apply j0 | refine j6 rfl ?_ | refine z7 rfl ?_ | apply z6 | (refine j4 fun K hK => ?_) | (refine z5 fun K hK => ?_) | ((first | apply x5 | apply j5 | ((first | refine z3 (hK _ ?_) | refine x4 (hK _ _ z4 ?_));clear hK K));(first | show AWP _ _ _ _ _ | ((try simp only [x6]);first | show loopQ _ _ _ _ _ _ | show cutQ _ _ _ _ | show AWP _ _ _ _ _))) | ((first | refine j8 rfl rfl rfl ?_ | refine q9 rfl rfl rfl ?_);simp (disch:=omega) only [go_sem,seval,hd,cb,ruleD,configD,z8,r1];(first | refine ⟨_,ad,?_⟩)) | ((first | refine x7 [] rfl ?_ | refine j7 [] rfl ?_);simp (disch:=omega) only [go_sem,seval,hd,cb,ruleD,configD,z8,r1];(repeat (first | refine ⟨by omega,?_⟩ | refine ⟨True.intro,?_⟩)))))
   refine ⟨⟨(i + 1,L2),by simp only [];omega,k1,by simp only [];omega⟩,by simp only [];omega,?_⟩
   refine Weak.list ?_ ?_;(all_goals simp (disch:=omega) only [AllF,AllL,q10,z10,j9,exists_eq_left',go_sem,seval,hd,cb,ruleD,configD,z8,r1]);(all_goals (repeat' (with_reducible apply And.intro)));(all_goals try (first | exact q8 rfl | (refine x10 ?_;omega) | (refine q8 ?_;simp;done)))
  ·have : i = rs.length := by omega
   subst this
   rw [List.drop_length] at k1
   obtain rfl : L = L0 := k1
   (repeat (first | apply j0 | refine j6 rfl ?_ | refine z7 rfl ?_ | apply z6 | (refine j4 fun K hK => ?_) | (refine z5 fun K hK => ?_) | ((first | apply x5 | apply j5 | ((first | refine z3 (hK _ ?_) | refine x4 (hK _ _ z4 ?_));clear hK K));(first | show AWP _ _ _ _ _ | ((try simp only [x6]);first | show loopQ _ _ _ _ _ _ | show cutQ _ _ _ _ | show AWP _ _ _ _ _))) | ((first | refine j8 rfl rfl rfl ?_ | refine q9 rfl rfl rfl ?_);simp (disch:=omega) only [go_sem,seval,hd,cb,ruleD,configD,z8];(first | refine ⟨_,sr,?_⟩)) | ((first | refine x7 [] rfl ?_ | refine j7 [] rfl ?_);simp (disch:=omega) only [go_sem,seval,hd,cb,ruleD,configD,z8];(repeat (first | refine ⟨by omega,?_⟩ | refine ⟨True.intro,?_⟩)))))
   refine x12 (poB W E9 S R) (fun s => 501 - s.val.1) ⟨(0,L),hR,by simp only [];omega,by simp only [];omega,l0S⟩ ?_ (fun s => ?_)
   ·unfold poB
    refine Weak.list ?_ ?_;(all_goals simp (disch:=omega) only [AllF,AllL,q10,z10,j9,exists_eq_left',go_sem,seval,hd,cb,ruleD,configD,z8]);(all_goals (repeat' (with_reducible apply And.intro)));(all_goals try (first | exact q8 rfl | (refine x10 ?_;omega) | (refine q8 ?_;simp;done)))
   clear hR hL0 l0S l0l k2 hi hn
   obtain ⟨⟨m,L1⟩,g1,g2,g3,g4⟩ := s
   simp only [] at g1 g2 g3 g4
   unfold poB
   simp only []
   have stop : ¬ (m < L1.length ∧ L1.length ≤ 500) → L1 = R := fun hno => by
    rw [← g1]
    cases hf : 501 - m with
    | zero => rfl
    | succ f => unfold closeF;rw [if_neg hno]
   by_cases hm : m < L1.length
   ·by_cases h5 : L1.length ≤ 500
    ·clear stop
     obtain ⟨f,hf⟩ : ∃ f,501 - m = f + 1 := ⟨500 - m,by omega⟩
     have hf2 : 501 - (m + 1) = f := by omega
     rw [hf] at g1
     unfold closeF at g1
     rw [if_pos ⟨hm,h5⟩] at g1
     obtain ⟨x,hx⟩ : ∃ x,L1.getD m ⟨0,0⟩ = x := ⟨_,rfl⟩
     have sx : x.sound = true := by rw [← hx];exact g4 _ (q23 hm ⟨0,0⟩)
     rw [hx] at g1
     obtain ⟨L9,hL9⟩ : ∃ y,S.foldl (befF x) L1 = y := ⟨_,rfl⟩
     rw [hL9] at g1
     have hl9 : L9.length ≤ 1500 := by
      have := z25 (befF x) (x107 x) S L1
      rw [hL9] at this;omega
     (repeat (first | apply j0 | refine j6 rfl ?_ | refine z7 rfl ?_ | apply z6 | (refine j4 fun K hK => ?_) | (refine z5 fun K hK => ?_) | ((first | apply x5 | apply j5 | ((first | refine z3 (hK _ ?_) | refine x4 (hK _ _ z4 ?_));clear hK K));(first | show AWP _ _ _ _ _ | ((try simp only [x6]);first | show loopQ _ _ _ _ _ _ | show cutQ _ _ _ _ | show AWP _ _ _ _ _))) | ((first | refine x7 [] rfl ?_ | refine j7 [] rfl ?_);simp (disch:=omega) only [go_sem,seval,hd,cb,ruleD,configD,z8];(repeat (first | refine ⟨by omega,?_⟩ | refine ⟨True.intro,?_⟩)))))
     refine x12 (poC W E9 S L9 m x) (fun s => S.length - s.val.1) ⟨(0,L1),by omega,by rw [List.drop_zero];exact hL9,by simp only [];omega,hm,hx,g4⟩ ?_ (fun s => ?_)
     ·unfold poC
      refine Weak.list ?_ ?_;(all_goals simp (disch:=omega) only [AllF,AllL,q10,z10,j9,exists_eq_left',go_sem,seval,hd,cb,ruleD,configD,z8]);(all_goals (repeat' (with_reducible apply And.intro)));(all_goals try (first | exact q8 rfl | (refine x10 ?_;omega) | (refine q8 ?_;simp;done)))
     obtain ⟨⟨j,L2⟩,hj,k1,k2,k3,k4,k5⟩ := s
     simp only [] at hj k1 k2 k3 k4 k5
     unfold poC
     simp only []
     by_cases hjn : j < S.length
     ·have r1 := z23 S j
      have r2 := z23 L2 m
      rw [k4] at r2
      rw [j19 S j ⟨0,0⟩ hjn] at k1
      simp only [List.foldl_cons] at k1
      have ss := sS _ (q23 hjn ⟨0,0⟩)
      generalize S.getD j ⟨0,0⟩ = s at r1 k1 ss
      have bf := x172 x s sx ss
      have by_ := q174 x s
      unfold befF at k1
      have ad := q56 L2 (beforeV x s) (by omega)
      have al := j20 L2 (beforeV x s)
      have ay := z119 k5 by_
      obtain ⟨at1,at2⟩ := j107 L2 (beforeV x s) k3
      generalize addC L2 (beforeV x s) = L3 at ad al k1 at1 at2 ay
      generalize beforeV x s = y at bf ad by_
      cases hbo : beforeO x s
      ·rw [hbo] at bf k1
       simp only [Bool.false_eq_true,if_false] at k1
       (repeat (first | apply j0 | refine j6 rfl ?_ | refine z7 rfl ?_ | apply z6 | (refine j4 fun K hK => ?_) | (refine z5 fun K hK => ?_) | ((first | apply x5 | apply j5 | ((first | refine z3 (hK _ ?_) | refine x4 (hK _ _ z4 ?_));clear hK K));(first | show AWP _ _ _ _ _ | ((try simp only [x6]);first | show loopQ _ _ _ _ _ _ | show cutQ _ _ _ _ | show AWP _ _ _ _ _))) | ((first | refine j8 rfl rfl rfl ?_ | refine q9 rfl rfl rfl ?_);simp (disch:=omega) only [go_sem,seval,hd,cb,ruleD,configD,z8,r1,r2];(first | refine ⟨_,bf,?_⟩)) | ((first | refine x7 [] rfl ?_ | refine j7 [] rfl ?_);simp (disch:=omega) only [go_sem,seval,hd,cb,ruleD,configD,z8,r1,r2];(repeat (first | refine ⟨by omega,?_⟩ | refine ⟨True.intro,?_⟩)))))
       refine ⟨⟨(j + 1,L2),by simp only [];omega,k1,by simp only [];omega,k3,k4,k5⟩,by simp only [];omega,?_⟩
       refine Weak.list ?_ ?_;(all_goals simp (disch:=omega) only [AllF,AllL,q10,z10,j9,exists_eq_left',go_sem,seval,hd,cb,ruleD,configD,z8,r1,r2]);(all_goals (repeat' (with_reducible apply And.intro)));(all_goals try (first | exact q8 rfl | (refine x10 ?_;omega) | (refine q8 ?_;simp;done)))
      ·rw [hbo] at bf k1
       simp only [if_true] at k1
       (repeat (first | apply j0 | refine j6 rfl ?_ | refine z7 rfl ?_ | apply z6 | (refine j4 fun K hK => ?_) | (refine z5 fun K hK => ?_) | ((first | apply x5 | apply j5 | ((first | refine z3 (hK _ ?_) | refine x4 (hK _ _ z4 ?_));clear hK K));(first | show AWP _ _ _ _ _ | ((try simp only [x6]);first | show loopQ _ _ _ _ _ _ | show cutQ _ _ _ _ | show AWP _ _ _ _ _))) | ((first | refine j8 rfl rfl rfl ?_ | refine q9 rfl rfl rfl ?_);simp (disch:=omega) only [go_sem,seval,hd,cb,ruleD,configD,z8,r1,r2];(first | refine ⟨_,bf,?_⟩ | refine ⟨_,ad,?_⟩)) | ((first | refine x7 [] rfl ?_ | refine j7 [] rfl ?_);simp (disch:=omega) only [go_sem,seval,hd,cb,ruleD,configD,z8,r1,r2];(repeat (first | refine ⟨by omega,?_⟩ | refine ⟨True.intro,?_⟩)))))
       refine ⟨⟨(j + 1,L3),by simp only [];omega,k1,by simp only [];omega,at1,at2.trans k4,ay⟩,by simp only [];omega,?_⟩
       refine Weak.list ?_ ?_;(all_goals simp (disch:=omega) only [AllF,AllL,q10,z10,j9,exists_eq_left',go_sem,seval,hd,cb,ruleD,configD,z8,r1,r2]);(all_goals (repeat' (with_reducible apply And.intro)));(all_goals try (first | exact q8 rfl | (refine x10 ?_;omega) | (refine q8 ?_;simp;done)))
     ·have : j = S.length := by omega
      subst this
      rw [List.drop_length] at k1
      obtain rfl : L2 = L9 := k1
      (repeat (first | apply j0 | refine j6 rfl ?_ | refine z7 rfl ?_ | apply z6 | (refine j4 fun K hK => ?_) | (refine z5 fun K hK => ?_) | ((first | apply x5 | apply j5 | ((first | refine z3 (hK _ ?_) | refine x4 (hK _ _ z4 ?_));clear hK K));(first | show AWP _ _ _ _ _ | ((try simp only [x6]);first | show loopQ _ _ _ _ _ _ | show cutQ _ _ _ _ | show AWP _ _ _ _ _))) | ((first | refine x7 [] rfl ?_ | refine j7 [] rfl ?_);simp (disch:=omega) only [go_sem,seval,hd,cb,ruleD,configD,z8];(repeat (first | refine ⟨by omega,?_⟩ | refine ⟨True.intro,?_⟩)))))
      refine ⟨⟨(m + 1,L2),by simp only [];rw [hf2];exact g1,by simp only [];omega,by simp only [];omega,k5⟩,by simp only [];omega,?_⟩
      refine Weak.list ?_ ?_;(all_goals simp (disch:=omega) only [AllF,AllL,q10,z10,j9,exists_eq_left',go_sem,seval,hd,cb,ruleD,configD,z8]);(all_goals (repeat' (with_reducible apply And.intro)));(all_goals try (first | exact q8 rfl | (refine x10 ?_;omega) | (refine q8 ?_;simp;done)))
    ·obtain rfl := stop (by omega)
     rw [if_pos (by omega)] at e1 e2
     subst e1 e2
     (repeat (first | apply j0 | refine j6 rfl ?_ | refine z7 rfl ?_ | apply z6 | (refine j4 fun K hK => ?_) | (refine z5 fun K hK => ?_) | ((first | apply x5 | apply j5 | ((first | refine z3 (hK _ ?_) | refine x4 (hK _ _ z4 ?_));clear hK K));(first | show AWP _ _ _ _ _ | ((try simp only [x6]);first | show loopQ _ _ _ _ _ _ | show cutQ _ _ _ _ | show AWP _ _ _ _ _))) | ((first | refine j8 rfl rfl rfl ?_ | refine q9 rfl rfl rfl ?_);simp (disch:=omega) only [go_sem,seval,hd,cb,ruleD,configD,z8];(first | refine ⟨_,j56,?_⟩)) | ((first | refine x7 [] rfl ?_ | refine j7 [] rfl ?_);simp (disch:=omega) only [go_sem,seval,hd,cb,ruleD,configD,z8];(repeat (first | refine ⟨by omega,?_⟩ | refine ⟨True.intro,?_⟩)))))
     refine x8 ⟨_,?_,rfl⟩;rw [Try.results8];simp (disch:=omega) only [ResVars,ResVar,ptrLoc,go_sem,seval,hd,cb,ruleD,configD,z8]
   ·obtain rfl := stop (by omega)
    by_cases h5 : 500 < L1.length
    ·rw [if_pos (by omega)] at e1 e2
     subst e1 e2
     (repeat (first | apply j0 | refine j6 rfl ?_ | refine z7 rfl ?_ | apply z6 | (refine j4 fun K hK => ?_) | (refine z5 fun K hK => ?_) | ((first | apply x5 | apply j5 | ((first | refine z3 (hK _ ?_) | refine x4 (hK _ _ z4 ?_));clear hK K));(first | show AWP _ _ _ _ _ | ((try simp only [x6]);first | show loopQ _ _ _ _ _ _ | show cutQ _ _ _ _ | show AWP _ _ _ _ _))) | ((first | refine j8 rfl rfl rfl ?_ | refine q9 rfl rfl rfl ?_);simp (disch:=omega) only [go_sem,seval,hd,cb,ruleD,configD,z8];(first | refine ⟨_,j56,?_⟩)) | ((first | refine x7 [] rfl ?_ | refine j7 [] rfl ?_);simp (disch:=omega) only [go_sem,seval,hd,cb,ruleD,configD,z8];(repeat (first | refine ⟨by omega,?_⟩ | refine ⟨True.intro,?_⟩)))))
     refine x8 ⟨_,?_,rfl⟩;rw [Try.results8];simp (disch:=omega) only [ResVars,ResVar,ptrLoc,go_sem,seval,hd,cb,ruleD,configD,z8]
    ·rw [if_neg (by omega)] at e1 e2
     subst e1
     have to := told_c L1 g4 g2
     rw [q175,← e2] at to
     have wl : W.length ≤ 100000 := by rw [e2,x40];exact g2
     have q : ((W.length : Int) != (W.length : Int)) = false := by simp
     (repeat (first | apply j0 | refine j6 rfl ?_ | refine z7 rfl ?_ | apply z6 | (refine j4 fun K hK => ?_) | (refine z5 fun K hK => ?_) | ((first | apply x5 | apply j5 | ((first | refine z3 (hK _ ?_) | refine x4 (hK _ _ z4 ?_));clear hK K));(first | show AWP _ _ _ _ _ | ((try simp only [x6]);first | show loopQ _ _ _ _ _ _ | show cutQ _ _ _ _ | show AWP _ _ _ _ _))) | ((first | refine j8 rfl rfl rfl ?_ | refine q9 rfl rfl rfl ?_);simp (disch:=omega) only [go_sem,seval,hd,cb,ruleD,configD,z8,q];(first | refine ⟨_,to,?_⟩)) | ((first | refine x7 [] rfl ?_ | refine j7 [] rfl ?_);simp (disch:=omega) only [go_sem,seval,hd,cb,ruleD,configD,z8,q];(repeat (first | refine ⟨by omega,?_⟩ | refine ⟨True.intro,?_⟩)))))
     refine x12 (poD W) (fun s => W.length - s.val) ⟨0,by omega⟩ ?_ (fun s => ?_)
     ·unfold poD
      refine Weak.list ?_ ?_;(all_goals simp (disch:=omega) only [AllF,AllL,q10,z10,j9,exists_eq_left',go_sem,seval,hd,cb,ruleD,configD,z8,q]);(all_goals (repeat' (with_reducible apply And.intro)));(all_goals try (first | exact q8 rfl | (refine x10 ?_;omega) | (refine q8 ?_;simp;done)))
     obtain ⟨t,ht⟩ := s
     unfold poD
     simp only []
     by_cases hl : t < W.length
     ·have r1 := z23 W t
      generalize W.getD t ⟨0,0⟩ = k at r1
      have q2 : eqI [hi k.v,lo k.v,hi k.c,lo k.c] [hi k.v,lo k.v,hi k.c,lo k.c] = true := j70 _
      (repeat (first | apply j0 | refine j6 rfl ?_ | refine z7 rfl ?_ | apply z6 | (refine j4 fun K hK => ?_) | (refine z5 fun K hK => ?_) | ((first | apply x5 | apply j5 | ((first | refine z3 (hK _ ?_) | refine x4 (hK _ _ z4 ?_));clear hK K));(first | show AWP _ _ _ _ _ | ((try simp only [x6]);first | show loopQ _ _ _ _ _ _ | show cutQ _ _ _ _ | show AWP _ _ _ _ _))) | ((first | refine x7 [] rfl ?_ | refine j7 [] rfl ?_);simp (disch:=omega) only [go_sem,seval,hd,cb,ruleD,configD,z8,r1,q2];(repeat (first | refine ⟨by omega,?_⟩ | refine ⟨True.intro,?_⟩)))))
      refine ⟨⟨t + 1,by omega⟩,by simp only [];omega,?_⟩
      refine Weak.list ?_ ?_;(all_goals simp (disch:=omega) only [AllF,AllL,q10,z10,j9,exists_eq_left',go_sem,seval,hd,cb,ruleD,configD,z8,r1,q2]);(all_goals (repeat' (with_reducible apply And.intro)));(all_goals try (first | exact q8 rfl | (refine x10 ?_;omega) | (refine q8 ?_;simp;done)))
     ·have : t = W.length := by omega
      subst this
      (repeat (first | apply j0 | refine j6 rfl ?_ | refine z7 rfl ?_ | apply z6 | (refine j4 fun K hK => ?_) | (refine z5 fun K hK => ?_) | ((first | apply x5 | apply j5 | ((first | refine z3 (hK _ ?_) | refine x4 (hK _ _ z4 ?_));clear hK K));(first | show AWP _ _ _ _ _ | ((try simp only [x6]);first | show loopQ _ _ _ _ _ _ | show cutQ _ _ _ _ | show AWP _ _ _ _ _))) | ((first | refine j8 rfl rfl rfl ?_ | refine q9 rfl rfl rfl ?_);simp (disch:=omega) only [go_sem,seval,hd,cb,ruleD,configD,z8];(first | refine ⟨_,j56,?_⟩)) | ((first | refine x7 [] rfl ?_ | refine j7 [] rfl ?_);simp (disch:=omega) only [go_sem,seval,hd,cb,ruleD,configD,z8];(repeat (first | refine ⟨by omega,?_⟩ | refine ⟨True.intro,?_⟩)))))
      refine x8 ⟨_,?_,rfl⟩;rw [Try.results8];simp (disch:=omega) only [ResVars,ResVar,ptrLoc,go_sem,seval,hd,cb,ruleD,configD,z8]
 ·have q : (predE c v != 0) = true := z12 h
  have q2 : (predE c v == predE c v) = true := beq_self_eq_true _
  have ob := q108 c v hc hv h
  generalize predE c v = e at *
  refine q11 Try.func8 rfl (by decide +kernel) (by rw [Try.ntmps8];simp) ?_;rw [Try.ntmps8];simp only [frOf]
  (repeat (first | apply j0 | refine j6 rfl ?_ | refine z7 rfl ?_ | apply z6 | (refine j4 fun K hK => ?_) | (refine z5 fun K hK => ?_) | ((first | apply x5 | apply j5 | ((first | refine z3 (hK _ ?_) | refine x4 (hK _ _ z4 ?_));clear hK K));(first | show AWP _ _ _ _ _ | ((try simp only [x6]);first | show loopQ _ _ _ _ _ _ | show cutQ _ _ _ _ | show AWP _ _ _ _ _))) | ((first | refine j8 rfl rfl rfl ?_ | refine q9 rfl rfl rfl ?_);simp (disch:=omega) only [go_sem,seval,hd,cb,ruleD,configD,z8,q,q2];(first | refine ⟨_,ob,?_⟩ | refine ⟨_,wr,?_⟩ | refine ⟨_,j56,?_⟩)) | ((first | refine x7 [] rfl ?_ | refine j7 [] rfl ?_);simp (disch:=omega) only [go_sem,seval,hd,cb,ruleD,configD,z8,q,q2];(repeat (first | refine ⟨by omega,?_⟩ | refine ⟨True.intro,?_⟩)))))
  refine x8 ⟨_,?_,rfl⟩;rw [Try.results8];simp (disch:=omega) only [ResVars,ResVar,ptrLoc,go_sem,seval,hd,cb,ruleD,configD,z8,q,q2]
end Go.Proofs.Ytbamjcnhmmgnlaa
