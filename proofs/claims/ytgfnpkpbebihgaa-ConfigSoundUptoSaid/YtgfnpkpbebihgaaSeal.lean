/- Own cells that are never written again read as data. Conditions: none. -/
import Derived.Test.YtgfnpkpbebihgaaGen
set_option linter.unusedSimpArgs false
set_option linter.unusedVariables false
namespace Go.Proofs.Ytgfnpkpbebihgaa.AL
open Go
theorem Weak.seal (A : ASt) (t l : Nat) (e : TypeId) (ds : List Dat) (ht : look A.fr t = some (.loc l 0)) (hl : look A.locs l = some (.cells e (ds.map fun d => .p (.d d)))) :
    Weak A ⟨(t, .p (.d (.bx ds))) :: A.fr, dropL l A.locs⟩ := by
  intro w0 g0 nt h a w r
  obtain ⟨arr, c7, c2, c5, c6, c8⟩ := r.locs l _ hl
  have hv : a.tmps.getD t _root_.Go.undef = .pointer (some ⟨h.ρ l, 0, none⟩) := r.fr t _ ht
  have hne : ∀ k L, look (dropL l A.locs) k = some L → k ≠ l ∧ look A.locs k = some L := by
    intro k L hk
    rw [look_dropL] at hk
    split at hk
    · cases hk
    · exact ⟨‹_›, hk⟩
  have hbl : h.ρ l < w.heap.size := (Array.getElem?_eq_some_iff.1 c2).1
  generalize hb : h.ρ l = b at *
  let h' : Gh := { h with g := setG h.g b ds.length }
  have hkeep : Keep w h.g w h'.g := by
    refine ⟨fun k => ?_, fun k q hq => rfl⟩
    simp only [h', setG]; split
    · rename_i e; rw [e, c6]; exact Nat.zero_le _
    · exact Nat.le_refl _
  have gz' : GZ w h'.g := fun k hk => by
    have : k ≠ b := by omega
    simp only [h', setG, if_neg this]; exact r.gz k hk
  have tr : Trans w0.O w h w h' (some b) none false := by
    refine ⟨BelowS.refl _ _, fun k _ hk => ⟨rfl, ?_⟩, hkeep, gz', fun k hk => ?_, fun _ _ => rfl, fun k _ => ⟨rfl, rfl⟩, fun k hk => by cases hk⟩
    · have : k ≠ b := fun e => hk (by rw [e])
      simp [h', setG, this]
    · have : k ≠ b := fun e => hk (e ▸ c7)
      simp [h', setG, this]
  have ho : ∀ k L, look (dropL l A.locs) k = some L → LocOK w0.O w h' k L ∧ blockOf h' k L = blockOf h k L := by
    intro k L hk
    obtain ⟨k1, k2⟩ := hne k L hk
    refine LocOK.trans tr (by simp) (fun hf => by cases hf) (fun b' hb' e => ?_) (r.locs k L k2)
    cases e
    exact r.sep k l L _ b k1 k2 hl hb' (by simp [blockOf, hb])
  refine ⟨h', r.size, r.defers, fun u y hy => ?_, fun k L hk => (ho k L hk).1, fun k k' L L' b' h1 h2 h3 h4 => ?_, ⟨r.ext.below, fun k hk => (tr.gB k hk).trans (r.ext.gam k hk), gz', r.ext.keep.trans hkeep⟩, r.pin⟩
  · simp only [look] at hy
    split at hy
    · rename_i e; subst e; cases hy
      rw [hv]
      have hsz : arr.size = ds.length := by rw [c5, List.length_map]
      refine .d _ _ (.bx b 0 ds (fun j => (arr[j]?).getD _root_.Go.undef) (fun j hj => ?_) (by simp [h', setG]) (fun j x hx => ?_))
      · rw [Nat.zero_add, heap_cell c2]
        simp [show j < arr.size by omega]
      · have hj := (List.getElem?_eq_some_iff.1 hx).1
        have hja : arr[j]? = some arr[j] := by simp [show j < arr.size by omega]
        have h3 := (c8 j _ _ hja (by rw [List.getElem?_map, hx]; rfl)).1
        rw [hja]
        show RelD w h'.g arr[j] x
        revert h3
        generalize arr[j] = v
        intro h3
        cases h3 with
        | d _ _ h3 => exact h3.keep hkeep
    · exact RelA.trans tr (fun hf => by cases hf) (r.fr u y hy)
  · rw [(ho k L h2).2] at h4
    rw [(ho k' L' h3).2]
    exact r.sep k k' L L' b' h1 (hne k L h2).2 (hne k' L' h3).2 h4
theorem awp_seal {P : Program} {nt : Nat} {c : Code} {Q : Exit → ASt → Prop} {A : ASt} (t l : Nat) (e : TypeId) (ds : List Dat) (ht : look A.fr t = some (.loc l 0)) (hl : look A.locs l = some (.cells e (ds.map fun d => .p (.d d))))
    (h : AWP P nt c Q ⟨(t, .p (.d (.bx ds))) :: A.fr, dropL l A.locs⟩) : AWP P nt c Q A := awp_weak (Weak.seal A t l e ds ht hl) h
end Go.Proofs.Ytgfnpkpbebihgaa.AL
