/- Package agent: Versions; Go's slices.Sorted(maps.Keys(m)). Conditions: none, but that no row is greater than memory bears. -/
import Derived.Test.YtokibghllpfeaaaAgS
import Derived.Test.YtokibghllpfeaaaAgB
import Derived.Test.YtokibghllpfeaaaMd
import Derived.Test.YtokibghllpfeaaaIdsB
import Derived.Shelf.Slices.In.SortNone
set_option linter.unusedSimpArgs false
set_option linter.unusedVariables false
namespace Go.Proofs.Ytokibghllpfeaaa
open Go Go.Proofs.Ytokibghllpfeaaa.AL Go.RowKit Go.Sort Go.Maps Go.Shelf
theorem insert_perm {H : Type} (x : Lit × DataW H) : ∀ l : List (Lit × DataW H), (DataW.insert x l).Perm (x :: l)
  | [] => List.Perm.refl _
  | y :: r => by
    unfold DataW.insert
    split
    · exact List.Perm.refl _
    · exact ((insert_perm x r).cons y).trans (List.Perm.swap x y r)
theorem sorted_perm {H : Type} : ∀ l : List (Lit × DataW H), (l.foldr DataW.insert []).Perm l
  | [] => List.Perm.refl _
  | x :: r => (insert_perm x _).trans ((sorted_perm r).cons x)
def inI64 (z : Int) : Prop := -9223372036854775808 ≤ z ∧ z ≤ 9223372036854775807
def keyR' : Value → Option (DataW Unit × List MemPlace) := fun _ => some (.nil, [])
theorem keyOf_z {z : Int} (hz : inI64 z) : keyOf Try.prog 3 (.int .i64 z) = some (.int .i64 z) := by
  have hu : Try.prog.underlying 3 = some (.int .i64) := Try.underlying3
  unfold keyOf
  rw [hu]
  unfold mapKey
  rw [hu]
  have hw : (Lit.int .i64 z).wf = true := by
    obtain ⟨h1, h2⟩ := hz
    simp [Lit.wf, IntKind.min, IntKind.max, IntKind.signed, IntKind.bits]
    omega
  simp [hw]
/-- a map block of which the keys are known -/
structure KeysIs (arr : Array MapEntry) (clock : Nat) (zs : List Int) : Prop where
  size : arr.size = zs.length
  key : ∀ (i : Nat) e, arr[i]? = some e → ∃ z, zs[i]? = some z ∧ e.key = .int .i64 z
  born : ∀ (i : Nat) e, arr[i]? = some e → e.born < clock
  inj : ∀ (i j : Nat) e e', arr[i]? = some e → arr[j]? = some e' → e.born = e'.born → i = j
theorem mapIs_keys {w : World} {g : Nat → Nat} {arr : Array MapEntry} {clock : Nat} {es : List (List Int × PV)} {zs : List Int} (hM : MapIs w g [.i64] arr clock es) (hes : es.map (·.1) = zs.map fun z => [z]) : KeysIs arr clock zs := by
  refine ⟨by rw [hM.size]; have := congrArg List.length hes; simpa using this, fun i e he => ?_, hM.born, hM.inj⟩
  have hi : i < es.length := by rw [← hM.size]; exact (Array.getElem?_eq_some_iff.1 he).1
  obtain ⟨h1, _, _⟩ := hM.at' i e es[i] he (List.getElem?_eq_getElem hi)
  have h2 : (es.map (·.1))[i]? = some es[i].1 := by rw [List.getElem?_map, List.getElem?_eq_getElem hi]; rfl
  rw [hes, List.getElem?_map] at h2
  cases hz : zs[i]? with
  | none => rw [hz] at h2; cases h2
  | some z =>
    rw [hz] at h2
    simp only [Option.map_some, Option.some.injEq] at h2
    rw [← h2] at h1
    exact ⟨z, rfl, h1⟩
theorem owns_keys {w : World} {b : Nat} {arr : Array MapEntry} {clock : Nat} {zs : List Int} (hb : w.heap[b]? = some (.map arr clock)) (hM : KeysIs arr clock zs)
    (hnd : zs.Nodup) (hwf : ∀ z ∈ zs, inI64 z) (hl : zs.length ≤ 1099511627776) :
    ∃ D0 : DataW Unit, w.ownsMap Try.prog 3 keyR' b arr.size D0 ∧ (intKeys D0).Perm zs ∧ Maps.size D0 = zs.length := by
  have hlen : arr.size = zs.length := hM.size
  have hkey := hM.key
  have hrd : ∀ x ∈ arr.toList, ∃ z, z ∈ zs ∧ x.key = .int .i64 z ∧ WideElems.rd Try.prog 3 keyR' x = some (.int .i64 z, .nil) := by
    intro x hx
    obtain ⟨i, hi⟩ := List.getElem?_of_mem hx
    obtain ⟨z, h1, h2⟩ := hkey i x (by simpa using hi)
    have hzm := List.mem_of_getElem? h1
    refine ⟨z, hzm, h2, ?_⟩
    unfold WideElems.rd
    rw [h2, keyOf_z (hwf z hzm)]
    rfl
  have hmap : arr.toList.map (WideElems.rg Try.prog 3 keyR') = zs.map fun z => (Lit.int .i64 z, DataW.nil) := by
    apply List.ext_getElem?
    intro i
    simp only [List.getElem?_map, Array.getElem?_toList]
    cases he : arr[i]? with
    | none =>
      have : arr.size ≤ i := by
        rw [Array.getElem?_eq_none_iff] at he; exact he
      rw [List.getElem?_eq_none (by omega)]; rfl
    | some e =>
      obtain ⟨z, h1, h2⟩ := hkey i e he
      rw [h1]
      simp only [Option.map_some, Option.some.injEq]
      unfold WideElems.rg WideElems.rd
      rw [h2, keyOf_z (hwf z (List.mem_of_getElem? h1))]
      rfl
  refine ⟨_, ⟨arr, clock, hb, ⟨by rw [hlen]; unfold maxLen; omega, ⟨fun x hx => ?_, ?_, ?_⟩, fun x hx => ?_⟩, Nat.le_refl _, rfl⟩, ?_, ?_⟩
  · obtain ⟨i, hi⟩ := List.getElem?_of_mem hx
    exact hM.born i x (by simpa using hi)
  · rw [List.Nodup, List.pairwise_iff_getElem]
    intro i j hi hj hij he
    simp only [List.length_map, Array.length_toList] at hi hj
    simp only [List.getElem_map, Array.getElem_toList] at he
    have := hM.inj i j _ _ (by simp [hi]) (by simp [hj]) he
    omega
  · have : arr.toList.map (·.key) = zs.map (Value.int .i64) := by
      apply List.ext_getElem?
      intro i
      simp only [List.getElem?_map, Array.getElem?_toList]
      cases he : arr[i]? with
      | none =>
        have : arr.size ≤ i := by rw [Array.getElem?_eq_none_iff] at he; exact he
        rw [List.getElem?_eq_none (by omega)]; rfl
      | some e =>
        obtain ⟨z, h1, h2⟩ := hkey i e he
        rw [h1]; simp [h2]
    rw [this]
    exact List.Pairwise.map _ (fun a b hab e => hab (by cases e; rfl)) hnd
  · obtain ⟨z, _, _, h⟩ := hrd x hx
    exact ⟨_, h⟩
  · rw [hmap]
    show ((List.foldr DataW.insert [] (zs.map fun z => (Lit.int .i64 z, (DataW.nil : DataW Unit)))).map fun p => _root_.Go.intOf p.1).Perm zs
    have := (sorted_perm (zs.map fun z => (Lit.int .i64 z, (DataW.nil : DataW Unit)))).map fun p => _root_.Go.intOf p.1
    rw [List.map_map] at this
    have e : (fun p : Lit × DataW Unit => _root_.Go.intOf p.1) ∘ (fun z => (Lit.int .i64 z, DataW.nil)) = id := by funext z; rfl
    rw [e, List.map_id] at this
    exact this
  · rw [hmap]
    show (List.foldr DataW.insert [] _).length = _
    rw [(sorted_perm _).length_eq, List.length_map]
theorem mergeSort_srtZ {ss zs : List Int} (h : ss.Perm zs) : (ss.mergeSort fun x y => decide (x ≤ y)) = srtZ zs := mergeSort_of_perm_i h
theorem sortsZ (m : Nat) : AnyZI.SortsIn Try.prog keysZ_ren Fence.wide m :=
  ⟨fun blk off cap ss W hH hblk hsz => callsIn_wide.2 (Any.slices_Sort_int sortZ_lay blk off cap ss W hH hblk hsz),
   fun p cap W => callsIn_wide.2 (Any.slices_Sort_int_none sortZ_lay p cap W)⟩
theorem sorted_core {zs : List Int} (hnd : zs.Nodup) (hwf : ∀ z ∈ zs, inI64 z) (hl : zs.length ≤ 1099511627776) {w : World} {g : Nat → Nat} (hz : GZ w g) {bc bm : Nat} {carr : Array Value} {e : TypeId} {marr : Array MapEntry} {clock : Nat}
    (hh : w.heap[bc]? = some (.cells carr e (0, 0))) (hc0 : carr[0]? = some (.map (some bm))) (m2 : w.heap[bm]? = some (.map marr clock)) (hK : KeysIs marr clock zs) :
    CallRes Try.prog (fun v w' => ∃ g', Ext w g w' g' ∧ RelD w' g' v (.sl 1 zs.length (rowZ (srtZ zs)))) ((callFunc 36 #[.func (.func 51) #[] #[.pointer (some ⟨bc, 0, none⟩)]]).run Try.prog w) := by
  have hm : w.cell? ⟨bc, 0, none⟩ = some (.map (some bm)) := by rw [heap_cell hh]; exact hc0
  obtain ⟨D0, hown, hperm, hsize⟩ := owns_keys m2 hK hnd hwf hl
  have hbl : bc < w.heap.size := (Array.getElem?_eq_some_iff.1 hh).1
  have hseq : SeqGives Fence.wide 2 Try.prog 51 #[.pointer (some ⟨bc, 0, none⟩)] encZ (fun ss => ss.Perm (intKeys D0)) (Maps.size D0) w :=
    AnyZI.keys_gives (ρ := keysZ_ren) { keysZ_lay with } Fence.wide _ trivial rfl (by omega) bc bm _ D0 w hbl hm hown
  have cS := AnyZI.sorted_in sortedZ_lay Fence.wide 5 trivial trivial trivial trivial rfl (by omega) (sortsZ _) (enters_of Try.func39 (by kernel_rfl) rfl) 51 #[.pointer (some ⟨bc, 0, none⟩)] trivial (enters_of Try.func51 (by kernel_rfl) rfl) _ _ (by rw [hsize]; unfold maxLen; omega) (by rw [hsize]; omega) w hseq
  change CallsIn _ _ Try.prog 36 _ _ _ at cS
  have cS' := (callsIn_wide (n := 5)).1 cS
  rw [callFunc_enter _ w Try.func36 rfl (by kernel_rfl)]
  show Calls Try.prog 36 _ w _
  refine cS'.mono fun e w' ⟨v, ss, he, hS, hrow, hnil, hb⟩ => ⟨v, he, ?_⟩
  have hsrt : (ss.mergeSort fun x y => decide (x ≤ y)) = srtZ zs := mergeSort_srtZ (hS.trans hperm)
  have hlen : ss.length = zs.length := (hS.trans hperm).length_eq
  rw [hsrt, hlen] at hrow
  have hsl : (srtZ zs).length = zs.length := by unfold srtZ; simp
  rcases hrow with ⟨hlx, ⟨hvn, hn0⟩ | ⟨gb, cap, cur, hvs, hgb, hheap, hnc, hcm, hcs, htake⟩⟩
  · refine ⟨g, ⟨hb, fun _ _ => rfl, fun b hb' => hz b (Nat.le_trans hb.size hb')⟩, ?_⟩
    rw [hvn, hn0]
    exact .sl0 _ _ _ _
  · have hlt : gb < w'.heap.size := (Array.getElem?_eq_some_iff.1 hheap).1
    refine ⟨setG g gb zs.length, ⟨hb, fun b hb' => ?_, fun b hb' => ?_⟩, ?_⟩
    · simp only [setG]; rw [if_neg (by omega)]
    · simp only [setG]; rw [if_neg (by omega)]; exact hz b (Nat.le_trans hb.size hb')
    · rw [hvs]
      refine .sl gb 0 zs.length cap 1 _ (fun i j => (cur[i + j]?).getD _root_.Go.undef) hnc (fun i hi => rfl) (fun i j hi hj => ?_) (by simp [setG]) (fun i j d hi hd => ?_)
      · have hj0 : j = 0 := by omega
        subst hj0
        rw [heap_cell hheap]
        have : i < cur.size := by rw [hcs]; omega
        simp [this]
      · have hj0 : j = 0 := by
          have := (List.getElem?_eq_some_iff.1 hd).1
          simp [rowZ] at this; omega
        subst hj0
        simp only [rowZ, List.getElem?_cons_zero, Option.some.injEq] at hd
        subst hd
        have hi2 : i < (srtZ zs).length := by omega
        have h1 : (cur.toList.take (zs.length * 1))[i]? = ((srtZ zs).map encZ)[i]? := by rw [htake]
        rw [List.getElem?_take_of_lt (by omega), List.getElem?_map, List.getElem?_eq_getElem hi2] at h1
        have h2 : cur[i]? = some (.int .i64 (srtZ zs)[i]) := by simpa using h1
        simp only [Nat.add_zero, h2]
        rw [List.getD_eq_getElem?_getD, List.getElem?_eq_getElem hi2]
        exact .v _ rfl
def keyL (X : LV) : List (Nat × LV) := [(1002, .cells 70 [.mp 1001]), (1001, X)]
/-- a location that holds a map with these keys -/
def HasKeys (X : LV) (zs : List Int) : Prop := ∀ (w : World) (h : Gh), LocOK (fun _ => True) w h 1001 X → ∃ arr clock, w.heap[h.ρ 1001]? = some (.map arr clock) ∧ KeysIs arr clock zs
theorem Sorted_r (X : LV) (zs : List Int) (hX : HasKeys X zs) (hnd : zs.Nodup) (hwf : ∀ z ∈ zs, inI64 z) (hl : zs.length ≤ 1099511627776) :
    RCalls Try.prog 36 [.cl (.func 51) [] [.loc 1002 0]] (keyL X) (.p (.d (.sl 1 zs.length (rowZ (srtZ zs))))) := by
  intro w h vs hz hr hL
  obtain ⟨carr, b1, hh, hs, hg, hcell⟩ := hL.1 1002 _ rfl
  obtain ⟨marr, clock, m2, m4⟩ := hX w h (hL.1 1001 X rfl)
  have hv : vs = [.func (.func 51) #[] #[.pointer (some ⟨h.ρ 1002, 0, none⟩)]] := by
    match vs, hr with
    | [v], hr =>
      obtain ⟨us, cs, hv, h1, h2⟩ := hr.2 0 v _ rfl rfl
      have e1 : us = [] := List.eq_nil_of_length_eq_zero h1.1
      match cs, h2 with
      | [c], h2 =>
        have : c = .pointer (some ⟨h.ρ 1002, 0, none⟩) := h2.2 0 c _ rfl rfl
        rw [hv, e1, this]
      | [], h2 => exact absurd h2.1 (by simp)
      | _ :: _ :: _, h2 => exact absurd h2.1 (by simp)
    | [], hr => exact absurd hr.1 (by simp)
    | _ :: _ :: _, hr => exact absurd hr.1 (by simp)
  subst hv
  have hlt0 : 0 < carr.size := by rw [hs]; simp
  have h0 : carr[0]? = some (carr[0]'hlt0) := by simp [hlt0]
  have hc : carr[0]? = some (.map (some (h.ρ 1001))) := by
    have := (hcell 0 (carr[0]'hlt0) (.mp 1001) h0 rfl).1
    rw [h0]
    exact congrArg some this
  have := sorted_core hnd hwf hl hz hh hc m2 m4
  unfold CallRes at *
  split at this
  · exact this.mono fun e w' ⟨v, he, g', h1, h2⟩ => ⟨v, he, g', h1, .d _ _ h2⟩
  · obtain ⟨g', h1, h2⟩ := this; exact ⟨g', h1, .d _ _ h2⟩
  · exact this.elim
theorem Sorted_c (X : LV) (zs : List Int) (hX : HasKeys X zs) (hnd : zs.Nodup) (hwf : ∀ z ∈ zs, inI64 z) (hl : zs.length ≤ 1099511627776) :
    MCalls Try.prog 36 [.cl (.func 51) [] [.loc 1002 0]] (keyL X) (fun rs M => rs = [.p (.d (.sl 1 zs.length (rowZ (srtZ zs))))] ∧ M = keyL X) :=
  mcalls_of_rcalls (Sorted_r X zs hX hnd hwf hl)
theorem hasKeys_map {es : List (List Int × PV)} {zs : List Int} (hes : es.map (·.1) = zs.map fun z => [z]) : HasKeys (.map [.i64] es) zs := by
  rintro w h ⟨marr, clock, m1, m2, m3, m4⟩
  exact ⟨marr, clock, m2, mapIs_keys m4 hes⟩
theorem hasKeys_obj {arr : Array MapEntry} {clock : Nat} {zs : List Int} (hK : KeysIs arr clock zs) : HasKeys (.obj (.map arr clock)) zs := by
  rintro w h ⟨m1, m2, m3⟩
  exact ⟨arr, clock, m2, hK⟩
end Go.Proofs.Ytokibghllpfeaaa
