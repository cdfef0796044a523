/- Saying less of a frame; a row that is to grow, from nil. Conditions: none. -/
import Derived.Test.YtfcfhlfehomhpaaAl
set_option linter.unusedSimpArgs false
set_option linter.unusedVariables false
namespace Go.Proofs.Ytfcfhlfehomhpaa.AL
open Go.RowKit

def Le (x y : AV) : Prop := ∀ (w : World) (h : Gh) (v : Value), RelA w h v x → RelA w h v y
theorem Le.refl (x : AV) : Le x x := fun _ _ _ r => r
theorem Le.trans {x y z : AV} (h : Le x y) (k : Le y z) : Le x z := fun w h' v r => k w h' v (h w h' v r)
theorem le_self (x : AV) : Le x x = True := eq_true (Le.refl x)
theorem le_top (x : AV) : Le x .top = True := eq_true fun _ _ _ _ => trivial
theorem le_gr {l gen sz n n' : Nat} {f f' : Nat → List Dat} (hn : n = n') (hf : ∀ i, i < n → f i = f' i) : Le (.gr l gen sz n f) (.p (.d (.sl sz n' f'))) := by
  subst hn
  intro w h v r
  exact .d _ _ (r.1.sl_congr hf)
theorem le_nil (sz n : Nat) (f : Nat → List Dat) (hn : n = 0) : Le (.p (.d (.v (.slice none 0 0)))) (.p (.d (.sl sz n f))) := by
  subst hn
  intro w h v r
  cases r with
  | d _ _ r => exact .d _ _ (r.nil sz f)
theorem le_sl {sz n n' : Nat} {f f' : Nat → List Dat} (hn : n = n') (hf : ∀ i, i < n → f i = f' i) : Le (.p (.d (.sl sz n f))) (.p (.d (.sl sz n' f'))) := by
  subst hn
  intro w h v r
  cases r with
  | d _ _ r => exact .d _ _ (r.sl_congr hf)
theorem le_grgr {l gen gen' sz n n' : Nat} {f f' : Nat → List Dat} (hg : gen = gen') (hn : n = n') (hf : ∀ i, i < n → f i = f' i) : Le (.gr l gen sz n f) (.gr l gen' sz n' f') := by
  subst hg; subst hn
  intro w h v r
  exact ⟨r.1.sl_congr hf, r.2⟩
theorem le_eq {x y : AV} (h : x = y) : Le x y := h ▸ Le.refl x

def AllF (A : ASt) : List (Nat × AV) → Prop
  | [] => True
  | p :: r => (∃ x, look A.fr p.1 = some x ∧ Le x p.2) ∧ AllF A r
def LLe : LV → LV → Prop
  | .cells e cs, .cells e' cs' => e = e' ∧ cs.length = cs'.length ∧ ∀ (i : Nat) x y, cs[i]? = some x → cs'[i]? = some y → Le x y
  | .arr e n f, .arr e' n' f' => e = e' ∧ n = n' ∧ ∀ i, i < n → f i = f' i
  | .grow e sz n gen, .grow e' sz' n' gen' => e = e' ∧ sz = sz' ∧ n = n' ∧ gen = gen'
  | _, _ => False
def AllL (A : ASt) : List (Nat × LV) → Prop
  | [] => True
  | p :: r => (∃ x, look A.locs p.1 = some x ∧ LLe x p.2) ∧ AllL A r
theorem allF_mem {A : ASt} : ∀ {l : List (Nat × AV)} {t : Nat} {y : AV}, AllF A l → (t, y) ∈ l → ∃ x, look A.fr t = some x ∧ Le x y
  | p :: r, t, y, h, hm => by
    cases hm with
    | head => exact h.1
    | tail _ hm => exact allF_mem h.2 hm
theorem allL_mem {A : ASt} : ∀ {l : List (Nat × LV)} {t : Nat} {y : LV}, AllL A l → (t, y) ∈ l → ∃ x, look A.locs t = some x ∧ LLe x y
  | p :: r, t, y, h, hm => by
    cases hm with
    | head => exact h.1
    | tail _ hm => exact allL_mem h.2 hm
theorem lle_ok {B : Nat → Prop} {w : World} {h : Gh} {l : Nat} {L L' : LV} (hl : LLe L L') (k : LocOK B w h l L) : LocOK B w h l L' ∧ blockOf h l L' = blockOf h l L := by
  cases L with
  | cells e cs =>
    cases L' with
    | cells e' cs' =>
      obtain ⟨h1, h2, h3⟩ := hl
      subst h1
      obtain ⟨arr, a1, a2, a3, a4, a5⟩ := k
      refine ⟨⟨arr, a1, a2, by omega, a4, fun i v x hv hx => ?_⟩, rfl⟩
      have hi : i < cs.length := by have := (List.getElem?_eq_some_iff.1 hx).1; omega
      exact ⟨h3 i cs[i] x (List.getElem?_eq_getElem hi) hx w h v (a5 i v cs[i] hv (List.getElem?_eq_getElem hi)).1, (a5 i v cs[i] hv (List.getElem?_eq_getElem hi)).2⟩
    | arr e' n f => exact hl.elim
    | grow e' sz n gen => exact hl.elim
  | arr e n f =>
    cases L' with
    | arr e' n' f' =>
      obtain ⟨h1, h2, h3⟩ := hl
      subst h1; subst h2
      obtain ⟨arr, fz, a1, a2, az, a3, a4, a5⟩ := k
      refine ⟨⟨arr, fz, a1, a2, az, a3, a4, fun i v hi hv => ?_⟩, rfl⟩
      rw [← h3 i hi]; exact a5 i v hi hv
    | cells e' cs' => exact hl.elim
    | grow e' sz n gen => exact hl.elim
  | grow e sz n gen =>
    cases L' with
    | grow e' sz' n' gen' =>
      obtain ⟨h1, h2, h3, h4⟩ := hl
      subst h1; subst h2; subst h3; subst h4
      exact ⟨k, rfl⟩
    | cells e' cs' => exact hl.elim
    | arr e' n f => exact hl.elim
theorem Weak.list {A B : ASt} (hf : AllF A B.fr) (hl : AllL A B.locs) : Weak A B := by
  intro w0 g0 nt h a w r
  have key : ∀ l L, look B.locs l = some L → ∃ L0, look A.locs l = some L0 ∧ LocOK w0.O w h l L ∧ blockOf h l L = blockOf h l L0 := by
    intro l L hL
    obtain ⟨L0, h1, h2⟩ := allL_mem hl (look_mem hL)
    exact ⟨L0, h1, lle_ok h2 (r.locs l L0 h1)⟩
  refine ⟨h, r.size, r.defers, fun t y hy => ?_, fun l L hL => ?_, fun l l' L L' b hne hL hL' hb => ?_, r.ext, r.pin⟩
  · obtain ⟨x, h1, h2⟩ := allF_mem hf (look_mem hy)
    exact h2 _ _ _ (r.fr t x h1)
  · exact (key l L hL).choose_spec.2.1
  · obtain ⟨L0, a1, a2, a3⟩ := key l L hL
    obtain ⟨L0', b1, b2, b3⟩ := key l' L' hL'
    rw [b3]
    exact r.sep l l' L0 L0' b hne a1 b1 (by rw [← a3]; exact hb)
theorem lle_self (L : LV) : LLe L L = True := by
  refine eq_true ?_
  cases L with
  | cells e cs => exact ⟨rfl, rfl, fun i x y h1 h2 => by rw [h1] at h2; cases h2; exact Le.refl _⟩
  | arr e n f => exact ⟨rfl, rfl, fun _ _ => rfl⟩
  | grow e sz n gen => exact ⟨rfl, rfl, rfl, rfl⟩

theorem relA_nil {w : World} {h : Gh} {v u : Value} (r : RelA w h v (.p (.d (.v u)))) : v = u := by
  cases r with
  | d _ _ r => cases r; rfl
/-- A nil slice, from now on a row of its own that grows. -/
theorem Weak.grow (A : ASt) (t l sz : Nat) (e : TypeId) (f : Nat → List Dat) (ht : look A.fr t = some (.p (.d (.v (.slice none 0 0))))) (hu : unusedB A l = true) (hn : look A.locs l = none) :
    Weak A ⟨(t, .gr l 0 sz 0 f) :: A.fr, (l, .grow e sz 0 0) :: A.locs⟩ := by
  intro w0 g0 nt h a w r
  let h' : Gh := { h with κ := fun k => if k = l then .slice none 0 0 else h.κ k, μ := fun k => if k = l then 0 else h.μ k }
  have un := unusedB_spec hu
  have tr : Trans w0.O w h w h' none (some l) true := by
    refine ⟨BelowS.refl _ _, fun b _ _ => ⟨rfl, rfl⟩, ⟨fun b => Nat.le_refl _, fun b o _ => rfl⟩, r.gz, fun b _ => rfl, fun _ _ => rfl, fun k hk => ?_, fun k _ hf => by cases hf⟩
    have : k ≠ l := fun e => hk (by rw [e])
    simp [h', this]
  have nl : h'.κ l = .slice none 0 0 := by simp [h']
  have hloc : LocOK w0.O w h' l (.grow e sz 0 0) := by
    refine ⟨by simp [h'], ⟨[], ?_⟩, fun b c hb => ?_, fun b hb => ?_⟩
    · rw [nl]; exact World.ownsRow_nil _ _ _ _
    · rw [nl] at hb; simp at hb
    · rw [nl] at hb; simp [Value.ownBlock] at hb
  refine ⟨h', r.size, r.defers, fun u y hy => ?_, fun k L hL => ?_, fun k k' L L' b hne hL hL' hb => ?_, r.ext, r.pin⟩
  · simp only [look] at hy
    split at hy
    · rename_i e; subst e; cases hy
      have he := relA_nil (r.fr t _ ht)
      rw [he]
      refine ⟨.sl0 _ _ _ _, ?_, fun _ => nl.symm⟩
      simp [h']
    · exact RelA.trans tr (fun _ l' hl' hm => by cases hl'; exact un.1 u y hy hm) (r.fr u y hy)
  · simp only [look] at hL
    split at hL
    · rename_i e; subst e; cases hL; exact hloc
    · rename_i hne
      exact (LocOK.trans tr (fun e => hne (by cases e; rfl)) (fun _ l' hl' hm => by cases hl'; exact un.2.1 k L hL hm) (fun b _ => by simp) (r.locs k L hL)).1
  · have other : ∀ k L, k ≠ l → look A.locs k = some L → blockOf h' k L = blockOf h k L := fun k L hne hL =>
      (LocOK.trans tr (fun e => hne (by cases e; rfl)) (fun _ l' hl' hm => by cases hl'; exact un.2.1 k L hL hm) (fun b _ => by simp) (r.locs k L hL)).2
    have none_l : ∀ L, look ((l, LV.grow e sz 0 0) :: A.locs) l = some L → blockOf h' l L = none := by
      intro L hL
      simp only [look, if_true] at hL
      cases hL
      simp [blockOf, nl, Value.ownBlock]
    by_cases hk : k = l
    · subst hk; rw [none_l L hL] at hb; cases hb
    · by_cases hk' : k' = l
      · subst hk'; rw [none_l L' hL']; simp
      · have e1 : look A.locs k = some L := by simpa [look, Ne.symm hk] using hL
        have e2 : look A.locs k' = some L' := by simpa [look, Ne.symm hk'] using hL'
        rw [other k L hk e1] at hb
        rw [other k' L' hk' e2]
        exact r.sep k k' L L' b hne e1 e2 hb
theorem awp_grow {P : Program} {nt : Nat} {c : Code} {Q : Exit → ASt → Prop} {A : ASt} (t l sz : Nat) (e : TypeId) (f : Nat → List Dat) (ht : look A.fr t = some (.p (.d (.v (.slice none 0 0))))) (hu : unusedB A l = true) (hn : look A.locs l = none)
    (h : AWP P nt c Q ⟨(t, .gr l 0 sz 0 f) :: A.fr, (l, .grow e sz 0 0) :: A.locs⟩) : AWP P nt c Q A := awp_weak (Weak.grow A t l sz e f ht hu hn) h
theorem look_put (A : ASt) (t : Nat) (y : AV) : look ((t, y) :: A.fr) t = some y := by simp [look]
/-- One slot said otherwise. -/
theorem awp_slot {P : Program} {nt : Nat} {c : Code} {Q : Exit → ASt → Prop} {A : ASt} (t : Nat) (x y : AV) (ht : look A.fr t = some x) (hle : Le x y)
    (h : AWP P nt c Q ⟨(t, y) :: A.fr, A.locs⟩) : AWP P nt c Q A := by
  refine awp_weak ?_ h
  intro w0 g0 nt h a w r
  refine ⟨h, r.size, r.defers, fun u z hz => ?_, r.locs, r.sep, r.ext, r.pin⟩
  simp only [look] at hz
  split at hz
  · rename_i e; subst e; cases hz; exact hle _ _ _ (r.fr t x ht)
  · exact r.fr u z hz
/-- A test that is decided. -/
theorem awp_yes {P : Program} {nt : Nat} {Q : Exit → ASt → Prop} {A : ASt} {c : Operand} {x y : Code} (hc : A.eval c = .p (.d (.v (.bool true)))) (h : AWP P nt x Q A) : AWP P nt (.cond c x y) Q A :=
  awp_cond hc (fun _ => h) (fun e => Bool.noConfusion e)
theorem awp_no {P : Program} {nt : Nat} {Q : Exit → ASt → Prop} {A : ASt} {c : Operand} {x y : Code} (hc : A.eval c = .p (.d (.v (.bool false)))) (h : AWP P nt y Q A) : AWP P nt (.cond c x y) Q A :=
  awp_cond hc (fun e => Bool.noConfusion e) (fun _ => h)
/-- One array said otherwise. -/
theorem awp_arr {P : Program} {nt : Nat} {c : Code} {Q : Exit → ASt → Prop} {A : ASt} (l : Nat) {e : TypeId} {n : Nat} {f : Nat → Dat} (f' : Nat → Dat) (ht : look A.locs l = some (.arr e n f)) (hf : ∀ i, i < n → f i = f' i)
    (h : AWP P nt c Q ⟨A.fr, (l, .arr e n f') :: A.locs⟩) : AWP P nt c Q A := by
  refine awp_weak ?_ h
  intro w0 g0 nt h a w r
  have hl : LLe (.arr e n f) (.arr e n f') := ⟨rfl, rfl, hf⟩
  refine ⟨h, r.size, r.defers, r.fr, fun k L hL => ?_, fun k k' L L' b hne hL hL' hb => ?_, r.ext, r.pin⟩
  · simp only [look] at hL
    split at hL
    · rename_i e; subst e; cases hL; exact (lle_ok hl (r.locs l _ ht)).1
    · exact r.locs k L hL
  · simp only [look] at hL hL'
    split at hL
    · rename_i e; subst e; cases hL
      rw [if_neg hne] at hL'
      exact r.sep l k' _ L' b hne ht hL' hb
    · split at hL'
      · rename_i e; subst e; cases hL'
        have := r.sep k l L _ b hne hL ht hb
        exact this
      · exact r.sep k k' L L' b hne hL hL' hb
theorem walkS_run1 (M : List Nat) {P : Program} {nt : Nat} {ops : Array Oper} {K : ASt → Prop} {o : Oper} {l : List Oper} {A : ASt} (_hc : isCall o = false) (h : runS P M nt ops (o :: l) A (fun A' l' => walkS P nt ops l' A' K)) : walkS P nt ops (o :: l) A K := walkS_run M _ _ h
theorem walkD_run1 (M : List Nat) {P : Program} {nt : Nat} {ops : Array Oper} {K : ASt → List Done → Prop} {o : Oper} {l : List Oper} {A : ASt} {tr : List Done} (_hc : isCall o = false) (h : runD P M nt ops (o :: l) A tr (fun A' l' tr' => walkD P nt ops K l' A' tr')) : walkD P nt ops K (o :: l) A tr := walkD_run M _ _ _ h
theorem le_int {k : IntKind} {a b : Int} (h : a = b) : Le (.p (.d (.v (.int k a)))) (.p (.d (.v (.int k b)))) := le_eq (by rw [h])
theorem lle_arr {e : TypeId} {n : Nat} {f f' : Nat → Dat} (h : ∀ i, i < n → f i = f' i) : LLe (.arr e n f) (.arr e n f') := ⟨rfl, rfl, h⟩
theorem lle_grow {e : TypeId} {sz n n' g g' : Nat} (h : n = n') (h2 : g = g') : LLe (.grow e sz n g) (.grow e sz n' g') := ⟨rfl, rfl, h, h2⟩
end Go.Proofs.Ytfcfhlfehomhpaa.AL
