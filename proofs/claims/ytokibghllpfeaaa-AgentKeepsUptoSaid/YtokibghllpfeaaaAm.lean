/- Saying less of a frame; a row that is to grow, from nil. Conditions: none. -/
import Derived.Test.YtokibghllpfeaaaAl
set_option linter.unusedSimpArgs false
set_option linter.unusedVariables false
namespace Go.Proofs.Ytokibghllpfeaaa.AL
open Go.RowKit

def Le (x y : AV) : Prop := ∀ (w : World) (h : Gh) (v : Value), RelA w h v x → RelA w h v y
theorem Le.refl (x : AV) : Le x x := fun _ _ _ r => r
theorem Le.trans {x y z : AV} (h : Le x y) (k : Le y z) : Le x z := fun w h' v r => k w h' v (h w h' v r)
theorem le_self (x : AV) : Le x x = True := eq_true (Le.refl x)
theorem le_top (x : AV) : Le x .top = True := eq_true fun _ _ _ _ => trivial
theorem le_gr {l gen sz n n' : Nat} {f f' : Nat → List Dat} (hn : n = n') (hf : ∀ i, i < n → f i = f' i) : Le (.gr l gen sz n f) (.p (.d (.sl sz n' f'))) := by
  subst hn
  intro w h v r
  exact .d _ _ (r.1.sl_congr hf)
theorem le_nil (sz n : Nat) (f : Nat → List Dat) (hn : n = 0) : Le (.p (.d (.v (.slice none 0 0)))) (.p (.d (.sl sz n f))) := by
  subst hn
  intro w h v r
  cases r with
  | d _ _ r => exact .d _ _ (r.nil sz f)
theorem le_sl {sz n n' : Nat} {f f' : Nat → List Dat} (hn : n = n') (hf : ∀ i, i < n → f i = f' i) : Le (.p (.d (.sl sz n f))) (.p (.d (.sl sz n' f'))) := by
  subst hn
  intro w h v r
  cases r with
  | d _ _ r => exact .d _ _ (r.sl_congr hf)
theorem le_grgr {l gen gen' sz n n' : Nat} {f f' : Nat → List Dat} (hg : gen = gen') (hn : n = n') (hf : ∀ i, i < n → f i = f' i) : Le (.gr l gen sz n f) (.gr l gen' sz n' f') := by
  subst hg; subst hn
  intro w h v r
  exact ⟨r.1.sl_congr hf, r.2⟩
theorem le_eq {x y : AV} (h : x = y) : Le x y := h ▸ Le.refl x

def AllF (A : ASt) : List (Nat × AV) → Prop
  | [] => True
  | p :: r => (∃ x, look A.fr p.1 = some x ∧ Le x p.2) ∧ AllF A r
def LLe : LV → LV → Prop
  | .cells e cs, .cells e' cs' => e = e' ∧ cs.length = cs'.length ∧ ∀ (i : Nat) x y, cs[i]? = some x → cs'[i]? = some y → Le x y
  | .arr e n f, .arr e' n' f' => e = e' ∧ n = n' ∧ ∀ i, i < n → f i = f' i
  | .grow e sz n gen, .grow e' sz' n' gen' => e = e' ∧ sz = sz' ∧ n = n' ∧ gen = gen'
  | .own e sz n gen f, .own e' sz' n' gen' f' => e = e' ∧ sz = sz' ∧ n = n' ∧ gen = gen' ∧ ∀ i, i < n → f i = f' i
  | .fz e cs, .fz e' cs' => e = e' ∧ cs.length = cs'.length ∧ ∀ (i : Nat) x y, cs[i]? = some x → cs'[i]? = some y → Le x y
  | .map ks es, .map ks' es' => ks = ks' ∧ es = es'
  | .raw M, .raw M' => M = M'
  | .obj o, .obj o' => o = o'
  | _, _ => False
def AllL (A : ASt) : List (Nat × LV) → Prop
  | [] => True
  | p :: r => (∃ x, look A.locs p.1 = some x ∧ LLe x p.2) ∧ AllL A r
theorem allF_mem {A : ASt} : ∀ {l : List (Nat × AV)} {t : Nat} {y : AV}, AllF A l → (t, y) ∈ l → ∃ x, look A.fr t = some x ∧ Le x y
  | p :: r, t, y, h, hm => by
    cases hm with
    | head => exact h.1
    | tail _ hm => exact allF_mem h.2 hm
theorem allL_mem {A : ASt} : ∀ {l : List (Nat × LV)} {t : Nat} {y : LV}, AllL A l → (t, y) ∈ l → ∃ x, look A.locs t = some x ∧ LLe x y
  | p :: r, t, y, h, hm => by
    cases hm with
    | head => exact h.1
    | tail _ hm => exact allL_mem h.2 hm
theorem lle_ok {B : Nat → Prop} {w : World} {h : Gh} {l : Nat} {L L' : LV} (hl : LLe L L') (k : LocOK B w h l L) : LocOK B w h l L' ∧ inB h l L' = inB h l L := by
  cases L with
  | cells e cs =>
    cases L' with
    | cells e' cs' =>
      obtain ⟨h1, h2, h3⟩ := hl
      subst h1
      obtain ⟨arr, a1, a2, a3, a4, a5⟩ := k
      refine ⟨⟨arr, a1, a2, by omega, a4, fun i v x hv hx => ?_⟩, rfl⟩
      have hi : i < cs.length := by have := (List.getElem?_eq_some_iff.1 hx).1; omega
      exact ⟨h3 i cs[i] x (List.getElem?_eq_getElem hi) hx w h v (a5 i v cs[i] hv (List.getElem?_eq_getElem hi)).1, (a5 i v cs[i] hv (List.getElem?_eq_getElem hi)).2⟩
    | _ => exact hl.elim
  | arr e n f =>
    cases L' with
    | arr e' n' f' =>
      obtain ⟨h1, h2, h3⟩ := hl
      subst h1; subst h2
      obtain ⟨arr, fz, a1, a2, az, a3, a4, a5⟩ := k
      refine ⟨⟨arr, fz, a1, a2, az, a3, a4, fun i v hi hv => ?_⟩, rfl⟩
      rw [← h3 i hi]; exact a5 i v hi hv
    | _ => exact hl.elim
  | grow e sz n gen =>
    cases L' with
    | grow e' sz' n' gen' =>
      obtain ⟨h1, h2, h3, h4⟩ := hl
      subst h1; subst h2; subst h3; subst h4
      exact ⟨k, rfl⟩
    | _ => exact hl.elim
  | own e sz n gen f =>
    cases L' with
    | own e' sz' n' gen' f' =>
      obtain ⟨h1, h2, h3, h4, h5⟩ := hl
      subst h1; subst h2; subst h3; subst h4
      obtain ⟨k1, ⟨xs, k2, k3⟩, k4⟩ := k
      exact ⟨⟨k1, ⟨xs, k2, fun i hi => by rw [← h5 i hi]; exact k3.1 i hi, fun i j d hi hj hd => k3.2 i j d hi hj (by rw [h5 i hi]; exact hd)⟩, k4⟩, rfl⟩
    | _ => exact hl.elim
  | fz e cs =>
    cases L' with
    | fz e' cs' =>
      obtain ⟨h1, h2, h3⟩ := hl
      subst h1
      obtain ⟨arr, a1, a2, a3, a4, a5⟩ := k
      refine ⟨⟨arr, a1, a2, by omega, a4, fun i v x hv hx => ?_⟩, rfl⟩
      have hi : i < cs.length := by have := (List.getElem?_eq_some_iff.1 hx).1; omega
      exact ⟨h3 i cs[i] x (List.getElem?_eq_getElem hi) hx w h v (a5 i v cs[i] hv (List.getElem?_eq_getElem hi)).1, (a5 i v cs[i] hv (List.getElem?_eq_getElem hi)).2⟩
    | _ => exact hl.elim
  | map ks es =>
    cases L' with
    | map ks' es' => obtain ⟨h1, h2⟩ := hl; subst h1; subst h2; exact ⟨k, rfl⟩
    | _ => exact hl.elim
  | raw M =>
    cases L' with
    | raw M' => cases hl; exact ⟨k, rfl⟩
    | _ => exact hl.elim
  | obj o =>
    cases L' with
    | obj o' => cases hl; exact ⟨k, rfl⟩
    | _ => exact hl.elim
theorem Weak.list {A B : ASt} (hf : AllF A B.fr) (hl : AllL A B.locs) : Weak A B := by
  intro w0 g0 nt h a w r
  have key : ∀ l L, look B.locs l = some L → ∃ L0, look A.locs l = some L0 ∧ LocOK w0.O w h l L ∧ inB h l L = inB h l L0 := by
    intro l L hL
    obtain ⟨L0, h1, h2⟩ := allL_mem hl (look_mem hL)
    exact ⟨L0, h1, lle_ok h2 (r.locs l L0 h1)⟩
  refine ⟨h, r.size, r.defers, fun t y hy => ?_, fun l L hL => ?_, fun l l' L L' b hne hL hL' hb => ?_, r.ext, r.pin⟩
  · obtain ⟨x, h1, h2⟩ := allF_mem hf (look_mem hy)
    exact h2 _ _ _ (r.fr t x h1)
  · exact (key l L hL).choose_spec.2.1
  · obtain ⟨L0, a1, a2, a3⟩ := key l L hL
    obtain ⟨L0', b1, b2, b3⟩ := key l' L' hL'
    rw [b3]
    exact r.sep l l' L0 L0' b hne a1 b1 (by rw [← a3]; exact hb)
theorem lle_self (L : LV) : LLe L L = True := by
  refine eq_true ?_
  cases L with
  | cells e cs => exact ⟨rfl, rfl, fun i x y h1 h2 => by rw [h1] at h2; cases h2; exact Le.refl _⟩
  | arr e n f => exact ⟨rfl, rfl, fun _ _ => rfl⟩
  | grow e sz n gen => exact ⟨rfl, rfl, rfl, rfl⟩
  | own e sz n gen f => exact ⟨rfl, rfl, rfl, rfl, fun _ _ => rfl⟩
  | fz e cs => exact ⟨rfl, rfl, fun i x y h1 h2 => by rw [h1] at h2; cases h2; exact Le.refl _⟩
  | map ks es => exact ⟨rfl, rfl⟩
  | raw M => exact rfl
  | obj o => exact rfl

theorem relA_nil {w : World} {h : Gh} {v u : Value} (r : RelA w h v (.p (.d (.v u)))) : v = u := by
  cases r with
  | d _ _ r => cases r; rfl
/-- A nil slice, from now on a row of its own. -/
theorem Weak.nilNew (A : ASt) (t l : Nat) (x : AV) (X : LV) (ht : look A.fr t = some (.p (.d (.v (.slice none 0 0))))) (hu : unusedB A l = true) (hn : look A.locs l = none)
    (hx : ∀ (w : World) (h : Gh), h.κ l = .slice none 0 0 → h.μ l = 0 → RelA w h (.slice none 0 0) x) (hX : ∀ (O : Nat → Prop) (w : World) (h : Gh), h.κ l = .slice none 0 0 → h.μ l = 0 → LocOK O w h l X)
    (hb : ∀ h : Gh, h.κ l = .slice none 0 0 → ∀ b, ¬ inB h l X b) :
    Weak A ⟨(t, x) :: A.fr, (l, X) :: A.locs⟩ := by
  intro w0 g0 nt h a w r
  let h' : Gh := { h with κ := fun k => if k = l then .slice none 0 0 else h.κ k, μ := fun k => if k = l then 0 else h.μ k }
  have un := unusedB_spec hu
  have tr : Trans w0.O w h w h' (fun _ => False) (some l) true := by
    refine ⟨BelowS.refl _ _, fun b _ _ => ⟨rfl, rfl⟩, ⟨fun b => Nat.le_refl _, fun b o _ => rfl⟩, r.gz, fun b _ => rfl, fun _ _ => rfl, fun k hk => ?_, fun k _ hf => by cases hf⟩
    have : k ≠ l := fun e => hk (by rw [e])
    simp [h', this]
  have nl : h'.κ l = .slice none 0 0 := by simp [h']
  have nm : h'.μ l = 0 := by simp [h']
  refine ⟨h', r.size, r.defers, fun u y hy => ?_, fun k L hL => ?_, fun k k' L L' b hne hL hL' hbk => ?_, r.ext, fun k hk => ?_⟩
  · simp only [look] at hy
    split at hy
    · rename_i e; subst e; cases hy
      have he := relA_nil (r.fr t _ ht)
      rw [he]
      exact hx w h' nl nm
    · exact RelA.trans tr (fun _ l' hl' hm => by cases hl'; exact un.1 u y hy hm) (r.fr u y hy)
  · simp only [look] at hL
    split at hL
    · rename_i e; subst e; cases hL; exact hX _ w h' nl nm
    · rename_i hne
      exact (LocOK.trans tr (fun e => hne (by cases e; rfl)) (fun _ l' hl' hm => by cases hl'; exact un.2.1 k L hL hm) (fun b _ => by simp) (r.locs k L hL)).1
  · have other : ∀ k L, k ≠ l → look A.locs k = some L → inB h' k L = inB h k L := fun k L hne hL =>
      (LocOK.trans tr (fun e => hne (by cases e; rfl)) (fun _ l' hl' hm => by cases hl'; exact un.2.1 k L hL hm) (fun b _ => by simp) (r.locs k L hL)).2
    have none_l : ∀ L, look ((l, X) :: A.locs) l = some L → ∀ b, ¬ inB h' l L b := by
      intro L hL
      simp only [look, if_true] at hL
      cases hL
      exact hb h' nl
    by_cases hk : k = l
    · subst hk; exact absurd hbk (none_l L hL b)
    · by_cases hk' : k' = l
      · subst hk'; exact none_l L' hL' b
      · have e1 : look A.locs k = some L := by simpa [look, Ne.symm hk] using hL
        have e2 : look A.locs k' = some L' := by simpa [look, Ne.symm hk'] using hL'
        rw [other k L hk e1] at hbk
        rw [other k' L' hk' e2]
        exact r.sep k k' L L' b hne e1 e2 hbk
  · have : k ≠ l := by have := un.2.2; omega
    simp only [h', if_neg this]
    exact r.pin k hk
theorem Weak.grow (A : ASt) (t l sz : Nat) (e : TypeId) (f : Nat → List Dat) (ht : look A.fr t = some (.p (.d (.v (.slice none 0 0))))) (hu : unusedB A l = true) (hn : look A.locs l = none) :
    Weak A ⟨(t, .gr l 0 sz 0 f) :: A.fr, (l, .grow e sz 0 0) :: A.locs⟩ :=
  Weak.nilNew A t l _ _ ht hu hn (fun w h k m => ⟨.sl0 _ _ _ _, by omega, fun _ => k.symm⟩)
    (fun O w h k m => ⟨m, ⟨[], by rw [k]; exact World.ownsRow_nil _ _ _ _⟩, fun b c hb => by rw [k] at hb; simp at hb, fun b hb => by rw [k] at hb; simp [Value.ownBlock] at hb⟩)
    (fun h k => by simp [inB, k, Value.ownBlock])
theorem Weak.own (A : ASt) (t l sz : Nat) (e : TypeId) (f : Nat → List Dat) (ht : look A.fr t = some (.p (.d (.v (.slice none 0 0))))) (hu : unusedB A l = true) (hn : look A.locs l = none) :
    Weak A ⟨(t, .ow l 0 sz 0) :: A.fr, (l, .own e sz 0 0 f) :: A.locs⟩ :=
  Weak.nilNew A t l _ _ ht hu hn (fun w h k m => ⟨by omega, ⟨_, _, rfl, fun hh => by omega⟩, fun _ => k.symm⟩)
    (fun O w h k m => ⟨m, ⟨[], by rw [k]; exact World.ownsRow_nil _ _ _ _, fun i hi => by omega, fun i j d hi => by omega⟩, fun b hb => by rw [k] at hb; simp [Value.ownBlock] at hb⟩)
    (fun h k => by simp [inB, k, Value.ownBlock])
theorem awp_own {P : Program} {nt : Nat} {c : Code} {Q : Exit → ASt → Prop} {A : ASt} (t l sz : Nat) (e : TypeId) (f : Nat → List Dat) (ht : look A.fr t = some (.p (.d (.v (.slice none 0 0))))) (hu : unusedB A l = true) (hn : look A.locs l = none)
    (h : AWP P nt c Q ⟨(t, .ow l 0 sz 0) :: A.fr, (l, .own e sz 0 0 f) :: A.locs⟩) : AWP P nt c Q A := awp_weak (Weak.own A t l sz e f ht hu hn) h
def dropL (l : Nat) (L : List (Nat × LV)) : List (Nat × LV) := L.filter fun p => p.1 != l
theorem look_dropL (l : Nat) (L : List (Nat × LV)) (k : Nat) : look (dropL l L) k = if k = l then none else look L k := by
  unfold dropL
  induction L with
  | nil => simp [look]
  | cons p L ih =>
    obtain ⟨t, x⟩ := p
    simp only [List.filter_cons]
    by_cases ht : t = l
    · subst ht
      simp only [bne_self_eq_false, Bool.false_eq_true, if_false, look]
      rw [ih]
      by_cases hk : k = t
      · subst hk; simp
      · rw [if_neg hk, if_neg hk, if_neg (Ne.symm hk)]
    · have : (t != l) = true := by simpa using ht
      simp only [this, if_true, look]
      by_cases hk : t = k
      · subst hk; rw [if_pos rfl, if_neg ht, if_pos rfl]
      · rw [if_neg hk, if_neg hk]; exact ih
/-- An own row is never written again: it reads as data. -/
theorem Weak.freeze (A : ASt) (t l gen sz n : Nat) (e : TypeId) (f : Nat → List Dat) (ht : look A.fr t = some (.ow l gen sz n)) (hl : look A.locs l = some (.own e sz n gen f)) :
    Weak A ⟨(t, .p (.d (.sl sz n f))) :: A.fr, dropL l A.locs⟩ := by
  intro w0 g0 nt h a w r
  have hL := r.locs l _ hl
  obtain ⟨q1, ⟨va, vc, q2, q2'⟩, q3⟩ := r.fr t _ ht
  have hv := q3 hL.1
  have hne : ∀ k L, look (dropL l A.locs) k = some L → k ≠ l ∧ look A.locs k = some L := by
    intro k L hk
    rw [look_dropL] at hk
    split at hk
    · cases hk
    · exact ⟨‹_›, hk⟩
  by_cases hn : (h.κ l).ownBlock = none
  · have n0 : n = 0 := by
      obtain ⟨_, ⟨xs, ⟨_, ⟨_, h0⟩ | ⟨gb, cap, cur, h0, _⟩⟩, _⟩, _⟩ := hL
      · exact h0
      · rw [h0] at hn; simp [Value.ownBlock] at hn
    subst n0
    refine ⟨h, r.size, r.defers, fun u y hy => ?_, fun k L hk => r.locs k L (hne k L hk).2, fun k k' L L' b h1 h2 h3 => r.sep k k' L L' b h1 (hne k L h2).2 (hne k' L' h3).2, r.ext, r.pin⟩
    simp only [look] at hy
    split at hy
    · rename_i e; subst e; cases hy
      rw [q2]; exact .d _ _ (.sl0 _ _ _ _)
    · exact r.fr u y hy
  · obtain ⟨b, hb⟩ := Option.ne_none_iff_exists'.1 hn
    obtain ⟨cap, cur, c1, c2, c3, c4, c5, c6, c7, c8⟩ := own_block hL hb
    have hbl : b < w.heap.size := (Array.getElem?_eq_some_iff.1 c2).1
    let h' : Gh := { h with g := setG h.g b (n * sz) }
    have hkeep : Keep w h.g w h'.g := by
      refine ⟨fun k => ?_, fun k q hq => rfl⟩
      simp only [h', setG]; split
      · rename_i e; rw [e, c6]; exact Nat.zero_le _
      · exact Nat.le_refl _
    have gz' : GZ w h'.g := fun k hk => by
      have : k ≠ b := by omega
      simp only [h', setG, if_neg this]; exact r.gz k hk
    have tr : Trans w0.O w h w h' (fun k => b = k) none false := by
      refine ⟨BelowS.refl _ _, fun k _ hk => ⟨rfl, ?_⟩, hkeep, gz', fun k hk => ?_, fun _ _ => rfl, fun k _ => ⟨rfl, rfl⟩, fun k hk => by cases hk⟩
      · have : k ≠ b := fun e => hk e.symm
        simp [h', setG, this]
      · have : k ≠ b := fun e => hk (e ▸ c7)
        simp [h', setG, this]
    have ho : ∀ k L, look (dropL l A.locs) k = some L → LocOK w0.O w h' k L ∧ inB h' k L = inB h k L := by
      intro k L hk
      obtain ⟨k1, k2⟩ := hne k L hk
      refine LocOK.trans tr (by simp) (fun hf => by cases hf) (fun b' hb' e => ?_) (r.locs k L k2)
      cases e
      exact r.sep k l L _ b k1 k2 hl hb' (by simp [inB, hb])
    refine ⟨h', r.size, r.defers, fun u y hy => ?_, fun k L hk => (ho k L hk).1, fun k k' L L' b' h1 h2 h3 h4 => ?_, ⟨r.ext.below, fun k hk => (tr.gB k hk).trans (r.ext.gam k hk), gz', r.ext.keep.trans hkeep⟩, r.pin⟩
    · simp only [look] at hy
      split at hy
      · rename_i e; subst e; cases hy
        rw [hv, c1]
        refine .d _ _ (.sl b 0 n cap sz f (fun i j => (cur[i * sz + j]?).getD undef) c3 c8.1 (fun i j hi hj => ?_) (by simp [h', setG]) (fun i j d hi hd => ?_))
        · obtain ⟨u, d, k1, k2, k3⟩ := c8.at hi hj
          rw [Nat.zero_add, heap_cell c2, k2]; rfl
        · have hj : j < sz := by have := (List.getElem?_eq_some_iff.1 hd).1; rw [c8.1 i hi] at this; exact this
          obtain ⟨u, k2, k3⟩ := c8.cell hi hj hd
          rw [k2]; exact k3.keep hkeep
      · exact RelA.trans tr (fun hf => by cases hf) (r.fr u y hy)
    · rw [(ho k L h2).2] at h4
      rw [(ho k' L' h3).2]
      exact r.sep k k' L L' b' h1 (hne k L h2).2 (hne k' L' h3).2 h4
theorem awp_freeze {P : Program} {nt : Nat} {c : Code} {Q : Exit → ASt → Prop} {A : ASt} (t l gen sz n : Nat) (e : TypeId) (f : Nat → List Dat) (ht : look A.fr t = some (.ow l gen sz n)) (hl : look A.locs l = some (.own e sz n gen f))
    (h : AWP P nt c Q ⟨(t, .p (.d (.sl sz n f))) :: A.fr, dropL l A.locs⟩) : AWP P nt c Q A := awp_weak (Weak.freeze A t l gen sz n e f ht hl) h
theorem le_ow {l gen gen' sz n n' : Nat} (hg : gen = gen') (hn : n = n') : Le (.ow l gen sz n) (.ow l gen' sz n') := by subst hg; subst hn; exact Le.refl _
theorem lle_own {e : TypeId} {sz n n' g g' : Nat} {f f' : Nat → List Dat} (h : n = n') (h2 : g = g') (hf : ∀ i, i < n → f i = f' i) : LLe (.own e sz n g f) (.own e sz n' g' f') := ⟨rfl, rfl, h, h2, hf⟩
theorem awp_grow {P : Program} {nt : Nat} {c : Code} {Q : Exit → ASt → Prop} {A : ASt} (t l sz : Nat) (e : TypeId) (f : Nat → List Dat) (ht : look A.fr t = some (.p (.d (.v (.slice none 0 0))))) (hu : unusedB A l = true) (hn : look A.locs l = none)
    (h : AWP P nt c Q ⟨(t, .gr l 0 sz 0 f) :: A.fr, (l, .grow e sz 0 0) :: A.locs⟩) : AWP P nt c Q A := awp_weak (Weak.grow A t l sz e f ht hu hn) h
theorem look_put (A : ASt) (t : Nat) (y : AV) : look ((t, y) :: A.fr) t = some y := by simp [look]
/-- One slot said otherwise. -/
theorem awp_slot {P : Program} {nt : Nat} {c : Code} {Q : Exit → ASt → Prop} {A : ASt} (t : Nat) (x y : AV) (ht : look A.fr t = some x) (hle : Le x y)
    (h : AWP P nt c Q ⟨(t, y) :: A.fr, A.locs⟩) : AWP P nt c Q A := by
  refine awp_weak ?_ h
  intro w0 g0 nt h a w r
  refine ⟨h, r.size, r.defers, fun u z hz => ?_, r.locs, r.sep, r.ext, r.pin⟩
  simp only [look] at hz
  split at hz
  · rename_i e; subst e; cases hz; exact hle _ _ _ (r.fr t x ht)
  · exact r.fr u z hz
/-- A test that is decided. -/
theorem awp_yes {P : Program} {nt : Nat} {Q : Exit → ASt → Prop} {A : ASt} {c : Operand} {x y : Code} (hc : A.eval c = .p (.d (.v (.bool true)))) (h : AWP P nt x Q A) : AWP P nt (.cond c x y) Q A :=
  awp_cond hc (fun _ => h) (fun e => Bool.noConfusion e)
theorem awp_no {P : Program} {nt : Nat} {Q : Exit → ASt → Prop} {A : ASt} {c : Operand} {x y : Code} (hc : A.eval c = .p (.d (.v (.bool false)))) (h : AWP P nt y Q A) : AWP P nt (.cond c x y) Q A :=
  awp_cond hc (fun e => Bool.noConfusion e) (fun _ => h)
/-- One array said otherwise. -/
theorem awp_arr {P : Program} {nt : Nat} {c : Code} {Q : Exit → ASt → Prop} {A : ASt} (l : Nat) {e : TypeId} {n : Nat} {f : Nat → Dat} (f' : Nat → Dat) (ht : look A.locs l = some (.arr e n f)) (hf : ∀ i, i < n → f i = f' i)
    (h : AWP P nt c Q ⟨A.fr, (l, .arr e n f') :: A.locs⟩) : AWP P nt c Q A := by
  refine awp_weak ?_ h
  intro w0 g0 nt h a w r
  have hl : LLe (.arr e n f) (.arr e n f') := ⟨rfl, rfl, hf⟩
  refine ⟨h, r.size, r.defers, r.fr, fun k L hL => ?_, fun k k' L L' b hne hL hL' hb => ?_, r.ext, r.pin⟩
  · simp only [look] at hL
    split at hL
    · rename_i e; subst e; cases hL; exact (lle_ok hl (r.locs l _ ht)).1
    · exact r.locs k L hL
  · simp only [look] at hL hL'
    split at hL
    · rename_i e; subst e; cases hL
      rw [if_neg hne] at hL'
      exact r.sep l k' _ L' b hne ht hL' hb
    · split at hL'
      · rename_i e; subst e; cases hL'
        have := r.sep k l L _ b hne hL ht hb
        exact this
      · exact r.sep k k' L L' b hne hL hL' hb
theorem walkS_run1 (M : List Nat) {P : Program} {nt : Nat} {ops : Array Oper} {K : ASt → Prop} {o : Oper} {l : List Oper} {A : ASt} (_hc : isCall o = false) (h : runS P M nt ops (o :: l) A (fun A' l' => walkS P nt ops l' A' K)) : walkS P nt ops (o :: l) A K := walkS_run M _ _ h
theorem walkD_run1 (M : List Nat) {P : Program} {nt : Nat} {ops : Array Oper} {K : ASt → List Done → Prop} {o : Oper} {l : List Oper} {A : ASt} {tr : List Done} (_hc : isCall o = false) (h : runD P M nt ops (o :: l) A tr (fun A' l' tr' => walkD P nt ops K l' A' tr')) : walkD P nt ops K (o :: l) A tr := walkD_run M _ _ _ h
theorem le_int {k : IntKind} {a b : Int} (h : a = b) : Le (.p (.d (.v (.int k a)))) (.p (.d (.v (.int k b)))) := le_eq (by rw [h])
theorem lle_arr {e : TypeId} {n : Nat} {f f' : Nat → Dat} (h : ∀ i, i < n → f i = f' i) : LLe (.arr e n f) (.arr e n f') := ⟨rfl, rfl, h⟩
theorem lle_grow {e : TypeId} {sz n n' g g' : Nat} (h : n = n') (h2 : g = g') : LLe (.grow e sz n g) (.grow e sz n' g') := ⟨rfl, rfl, h, h2⟩
end Go.Proofs.Ytokibghllpfeaaa.AL
