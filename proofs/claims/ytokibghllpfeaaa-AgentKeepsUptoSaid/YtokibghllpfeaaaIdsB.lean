/- Go's slices.Sort and slices.Compact on own rows of numbers; ids.Make. Conditions: none, but that no row is greater than memory bears. -/
import Derived.Test.YtokibghllpfeaaaIdsA
import Derived.Test.YtokibghllpfeaaaIdsL
set_option linter.unusedSimpArgs false
set_option linter.unusedVariables false
namespace Go.Proofs.Ytokibghllpfeaaa
open Go.Proofs.Ytokibghllpfeaaa.AL Go.RowKit Go.Sort
/-- An own row of numbers, as the kit's contracts see it. -/
theorem own_holds {O : Nat → Prop} {w : World} {h : Gh} {l gen : Nat} {e : TypeId} {zs : List Int} (hL : LocOK O w h l (.own e 1 zs.length gen (rowZ zs))) {b : Nat} (hb : (h.κ l).ownBlock = some b) :
    ∃ cap cur, h.κ l = .slice (some ⟨b, 0, none⟩) zs.length cap ∧ w.heap[b]? = some (.cells cur e (0, 0)) ∧ zs.length ≤ cap ∧ cap ≤ maxLen ∧ cur.size = cap ∧ h.g b = 0 ∧ Holds (Value.int .i64) w b 0 zs.toArray ∧ b < w.heap.size := by
  obtain ⟨cap, cur, c1, c2, c3, c4, c5, c6, c7, c8⟩ := own_block hL hb
  refine ⟨cap, cur, c1, c2, c3, c4, by omega, c6, fun j hj => ?_, (Array.getElem?_eq_some_iff.1 c2).1⟩
  have hj : j < zs.length := by simpa using hj
  obtain ⟨u, k1, k2⟩ := c8.cell hj (show 0 < 1 by omega) (d := .v (.int .i64 (zs.getD j 0))) rfl
  have hu : u = .int .i64 (zs.getD j 0) := relD_v k2
  constructor
  · rw [Nat.zero_add, heap_cell c2]
    simp only [Nat.mul_one, Nat.add_zero] at k1
    rw [k1, hu]
    simp [hj]
  · simp [World.frozen?, c2]
/-- A world whose row holds other numbers, with new blocks behind it. -/
theorem row_after {w : World} {b n cap : Nat} {cur : Array Value} {e : TypeId} (hb : w.heap[b]? = some (.cells cur e (0, 0))) (zs : List Int) (hz : zs.length ≤ cur.size) (q : Nat) (os : Array Obj) :
    (Go.Sort.grow (putRow (Value.int .i64) (Go.Sort.ahead w q) b 0 zs.toArray) os).heap[b]? = some (.cells (putCells (Value.int .i64) 0 zs.toArray cur) e (0, 0)) ∧
      (∀ k, k < w.heap.size → k ≠ b → (Go.Sort.grow (putRow (Value.int .i64) (Go.Sort.ahead w q) b 0 zs.toArray) os).heap[k]? = w.heap[k]?) := by
  have hlt : b < w.heap.size := (Array.getElem?_eq_some_iff.1 hb).1
  constructor
  · rw [heap_grow_old _ _ (by simpa using hlt)]
    show (w.heap.modify b (onCells _))[b]? = _
    rw [Array.getElem?_modify, if_pos rfl, hb]
    simp [onCells]
  · intro k hk hne
    rw [heap_grow_old _ _ (by simpa using hk)]
    simp [putRow, mapBlock, Array.getElem?_modify, Ne.symm hne]
theorem putCells_take (zs : List Int) (cur : Array Value) (hz : zs.length ≤ cur.size) (n : Nat) (hn : n ≤ zs.length) : (putCells (Value.int .i64) 0 zs.toArray cur).toList.take n = (zs.take n).map (Value.int .i64) := by
  apply List.ext_getElem?
  intro k
  by_cases hk : k < n
  · rw [List.getElem?_take_of_lt hk, List.getElem?_map, List.getElem?_take_of_lt hk, Array.getElem?_toList]
    simp only [putCells, Array.getElem?_mapIdx]
    rw [Array.getElem?_eq_getElem (by omega), Option.map_some, if_pos ⟨by omega, by simp; omega⟩]
    simp [show k < zs.length by omega]
  · rw [List.getElem?_eq_none (by simp; omega), List.getElem?_eq_none (by simp; omega)]
theorem rowIs_ints {w : World} {g : Nat → Nat} (zs : List Int) : RowIs w g 1 zs.length (zs.map (Value.int .i64)) (rowZ zs) := by
  refine ⟨fun i hi => rfl, fun i j d hi hj hd => ?_⟩
  have : j = 0 := by omega
  subst this
  simp [rowZ] at hd
  subst hd
  exact ⟨.int .i64 (zs.getD i 0), by simp [hi], .v _ rfl⟩
/-- What a call that puts numbers into an own row leaves: the row, said anew. -/
theorem mcalls_row {P : Program} {f : FuncId} {xs : List AV} {e : TypeId} {n gen n' gen' : Nat} {zs zs' : List Int} {rs : List AV} (hf : ∀ (args : Array Value) (w : World), (callFunc f args).run P w = .ok (.enter f args) w)
    (hn : n = zs.length) (hn' : n' = zs'.length) (hle : zs'.length ≤ zs.length) (hgen : (gen' = gen ∧ n' = n) ∨ gen < gen') (hpos : 0 < zs.length)
    (hargs : ∀ (w : World) (h : Gh) (vs : List Value) (b cap : Nat), RelAs w h vs xs → h.μ 1000 = gen → h.κ 1000 = .slice (some ⟨b, 0, none⟩) n cap → Holds (Value.int .i64) w b 0 zs.toArray → b < w.heap.size → zs.length ≤ cap → cap ≤ maxLen →
      Calls P f vs.toArray w fun r w' => ∃ v, r = .returned v ∧ (∀ h' : Gh, h'.κ 1000 = .slice (some ⟨b, 0, none⟩) n' cap → h'.μ 1000 = gen' → RelRA w' h' v rs) ∧ ∃ q os tail, w' = Go.Sort.grow (putRow (Value.int .i64) (Go.Sort.ahead w q) b 0 (zs' ++ tail).toArray) os ∧ (zs' ++ tail).length = zs.length) :
    MCalls P f xs [(1000, .own e 1 n gen (rowZ zs))] (fun r M => r = rs ∧ M = [(1000, .own e 1 n' gen' (rowZ zs'))]) := by
  subst hn hn'
  intro w h vs hz hr hl
  have hL := hl.1 1000 _ rfl
  have hμ : h.μ 1000 = gen := hL.1
  have hb0 : ∃ b, (h.κ 1000).ownBlock = some b := by
    obtain ⟨_, ⟨ys, ⟨h1, ⟨h2, h3⟩ | ⟨gb, cap, cur, h2, _⟩⟩, _⟩, _⟩ := hL
    · omega
    · exact ⟨gb, by rw [h2]; rfl⟩
  obtain ⟨b, hb⟩ := hb0
  obtain ⟨cap, cur, c1, c2, c3, c4, c5, c6, c7, c8⟩ := own_holds hL hb
  rw [hf]
  show Calls P f vs.toArray w _
  refine (hargs w h vs b cap hr hμ c1 c7 c8 c3 c4).mono fun r w' ⟨v, hr', hrel, q, os, tail, hw, htl⟩ => ?_
  subst hr' hw
  obtain ⟨e1, e2⟩ := row_after (n := 0) (cap := 0) c2 (zs' ++ tail) (by omega) q os
  generalize hW : Go.Sort.grow (putRow (Value.int .i64) (Go.Sort.ahead w q) b 0 (zs' ++ tail).toArray) os = W at e1 e2 hrel
  have hsz : w.heap.size ≤ W.heap.size := by rw [← hW]; simp
  have hos : W.os = w.os ∧ W.tape = w.tape ∧ W.output = w.output := by rw [← hW]; exact ⟨rfl, rfl, rfl⟩
  let h' : Gh := { h with κ := fun k => if k = 1000 then .slice (some ⟨b, 0, none⟩) zs'.length cap else h.κ k, μ := fun k => if k = 1000 then gen' else h.μ k }
  have hκ : h'.κ 1000 = .slice (some ⟨b, 0, none⟩) zs'.length cap := by simp [h']
  have hμ' : h'.μ 1000 = gen' := by simp [h']
  have hbl : b < w.heap.size := c8
  have hown : ∀ k, ¬ ownB h [(1000, LV.own e 1 zs.length gen (rowZ zs))] k → k ≠ b := fun k hk e => hk ⟨1000, _, rfl, by simp [inB, hb, e]⟩
  refine ⟨v, rfl, h', _, _, ⟨rfl, rfl⟩, hrel h' hκ hμ', ⟨fun l X hX => ?_, fun l l' X X' b' hne h1 h2 => ?_⟩, ?_⟩
  · simp only [AL.look] at hX
    split at hX
    · rename_i e; subst e; cases hX
      refine ⟨hμ', ⟨zs'.map (Value.int .i64), ?_, rowIs_ints zs'⟩, fun b' hb' => ?_⟩
      · rw [hκ]
        refine ⟨by simp, .inr ⟨b, cap, _, rfl, Nat.zero_le _, e1, by omega, c4, by simp [putCells, c5], ?_⟩⟩
        rw [Nat.mul_one, putCells_take _ _ (by omega) _ (by simp)]
        simp
      · rw [hκ] at hb'
        simp only [Value.ownBlock, Option.some.injEq] at hb'
        subst hb'
        exact ⟨c6, trivial⟩
    · cases hX
  · simp only [AL.look] at h1 h2
    split at h1
    · rename_i e
      split at h2
      · rename_i e2; exact absurd (e.symm.trans e2) hne
      · cases h2
    · cases h1
  · refine ⟨⟨hos.1, hos.2.1, hos.2.2, hsz, fun k hk hno => e2 k hk (hown k hno)⟩, fun _ _ _ => rfl, fun k hk => hz k (by omega), ⟨fun _ => Nat.le_refl _, fun k o ho => ?_⟩, fun _ _ _ => rfl, fun l X hX => ?_, fun b' ⟨l, X, h1, h2⟩ => .inr ?_⟩
    · have hkb : k ≠ b := fun e => by subst e; rw [c6] at ho; omega
      have hk : k < w.heap.size := by
        refine Nat.lt_of_not_le fun hle => ?_
        rw [hz k hle] at ho; omega
      exact World.cell?_of_block (w := w) (e2 k hk hkb)
    · simp only [AL.look] at hX
      split at hX
      · rename_i e; subst e
        rw [hμ', hμ, hκ, c1]
        rcases hgen with ⟨g1, g2⟩ | g1
        · right; rw [g1, g2]; exact ⟨rfl, rfl⟩
        · exact .inl g1
      · cases hX
    · simp only [AL.look] at h1
      split at h1
      · rename_i e; subst e; cases h1
        simp only [inB, hκ, Value.ownBlock, Option.some.injEq] at h2
        subst h2
        exact ⟨1000, _, rfl, by simp [inB, hb]⟩
      · cases h1
theorem relAs_ow {w : World} {h : Gh} {vs : List Value} {gen n : Nat} {v0 : Value} (hr : RelAs w h vs [.ow 1000 gen 1 n]) (hμ : h.μ 1000 = gen) (hκ : h.κ 1000 = v0) : vs = [v0] := by
  match vs, hr with
  | [a], hr => have := (hr.2 0 a _ rfl rfl).2.2 hμ; rw [this, hκ]
  | [], hr => simp [RelAs] at hr
  | _ :: _ :: _, hr => simp [RelAs] at hr
def srtZ (l : List Int) : List Int := l.mergeSort fun x y => decide (x ≤ y)
theorem SortZ_c (zs : List Int) (gen : Nat) (h0 : 0 < zs.length) (hl : zs.length ≤ 1099511627776) : MCalls Try.prog 39 [.ow 1000 gen 1 zs.length] [(1000, .own 3 1 zs.length gen (rowZ zs))] (fun rs M => rs = [] ∧ M = [(1000, .own 3 1 zs.length gen (rowZ (srtZ zs)))]) := by
  have hlen : (srtZ zs).length = zs.length := by unfold srtZ; simp
  refine mcalls_row (fun args w => callFunc_enter args w Try.func39 rfl (by kernel_rfl)) rfl hlen.symm (by omega) (.inl ⟨rfl, rfl⟩) h0 fun w h vs b cap hr hμ hκ hH hb _ _ => ?_
  rw [relAs_ow hr hμ hκ]
  refine Calls.mono (Go.Proofs.Any.slices_Sort_int sortZ_lay b 0 cap zs w hH hb (by omega)) fun r w' ⟨h1, n, os, h2⟩ => ?_
  subst h1
  exact ⟨_, rfl, fun h' _ _ => ⟨[], rfl, rfl, fun j v x hv => by simp at hv⟩, n, os, [], by rw [List.append_nil]; exact h2, by rw [List.append_nil]; exact hlen⟩
def compZ (l : List Int) : List Int := Go.Lib.compact l
theorem compZ_len (l : List Int) : (compZ l).length ≤ l.length := by
  unfold compZ Go.Lib.compact Go.Lib.compactUpTo
  rw [List.length_map]
  exact Nat.le_trans (List.length_filter_le _ _) (by simp)
theorem CompactZ_c (zs : List Int) (gen : Nat) (h0 : 0 < zs.length) (hl : zs.length ≤ 1099511627776) : MCalls Try.prog 40 [.ow 1000 gen 1 zs.length] [(1000, .own 3 1 zs.length gen (rowZ zs))] (fun rs M => rs = [.ow 1000 (gen + 1) 1 (compZ zs).length] ∧ M = [(1000, .own 3 1 (compZ zs).length (gen + 1) (rowZ (compZ zs)))]) := by
  have hlen := compZ_len zs
  refine mcalls_row (fun args w => callFunc_enter args w Try.func40 rfl (by kernel_rfl)) rfl rfl hlen (.inr (by omega)) h0 fun w h vs b cap hr hμ hκ hH hb hcap hcap2 => ?_
  rw [relAs_ow hr hμ hκ]
  refine Calls.mono (Go.Proofs.Any.slices_Compact_int compZ_lay b 0 cap zs w hH (by omega) hcap) fun r w' ⟨h1, q, h2⟩ => ?_
  subst h1
  refine ⟨_, rfl, fun h' hk hm => ⟨by omega, ⟨_, _, rfl, fun _ => ⟨_, rfl⟩⟩, fun _ => hk.symm⟩, q, #[], List.replicate (zs.length - (compZ zs).length) 0, by rw [grow_empty]; exact h2, by simp; omega⟩
end Go.Proofs.Ytokibghllpfeaaa
