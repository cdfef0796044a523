/- Part 4 of a proof: lemmas beneath the theorem that the last text bears. Conditions: none. -/
import Derived.Test.YtemcdefpihkfpaaKAtomsArgsc
import Derived.Shelf.Sort.Plain
import Derived.Shelf.Slices.CompactI
import Derived.Shelf.Spec.SlicesGrow
set_option linter.unusedSimpArgs false
set_option linter.unusedVariables false
namespace Go.Proofs.Ytemcdefpihkfpaa
open Go.Shelf Go.Proofs
def sortZ_ren : Go.Shelf.Ren := ⟨fun | 125 => 72 | 128 => 90 | 129 => 91 | 189 => 61 | 215 => 92 | 216 => 73 | 257 => 71 | 294 => 82 | 295 => 83 | 296 => 84 | 297 => 85 | 298 => 86 | 299 => 87 | 300 => 88 | 301 => 89 | 328 => 100 | 329 => 101 | 330 => 102 | 331 => 103 | 332 => 104 | 343 => 106 | n => n, fun | 0 => 0 | 3 => 3 | 4 => 4 | 5 => 5 | 9 => 9 | 28 => 40 | 46 => 81 | 51 => 117 | 53 => 23 | 131 => 34 | 182 => 110 | 183 => 111 | 218 => 122 | 222 => 126 | 228 => 130 | 229 => 131 | n => n, fun n => n⟩
theorem sortZ_lay : Lays.n189 Try.prog sortZ_ren where
  mixed := by kernel_rfl
  f125 := Try.func72.trans (congrArg some (by kernel_rfl))
  f128 := Try.func90.trans (congrArg some (by kernel_rfl))
  f129 := Try.func91.trans (congrArg some (by kernel_rfl))
  f189 := Try.func61.trans (congrArg some (by kernel_rfl))
  f215 := Try.func92.trans (congrArg some (by kernel_rfl))
  f216 := Try.func73.trans (congrArg some (by kernel_rfl))
  f257 := Try.func71.trans (congrArg some (by kernel_rfl))
  f294 := Try.func82.trans (congrArg some (by kernel_rfl))
  f295 := Try.func83.trans (congrArg some (by kernel_rfl))
  f296 := Try.func84.trans (congrArg some (by kernel_rfl))
  f297 := Try.func85.trans (congrArg some (by kernel_rfl))
  f298 := Try.func86.trans (congrArg some (by kernel_rfl))
  f299 := Try.func87.trans (congrArg some (by kernel_rfl))
  f300 := Try.func88.trans (congrArg some (by kernel_rfl))
  f301 := Try.func89.trans (congrArg some (by kernel_rfl))
  f328 := Try.func100.trans (congrArg some (by kernel_rfl))
  f329 := Try.func101.trans (congrArg some (by kernel_rfl))
  f330 := Try.func102.trans (congrArg some (by kernel_rfl))
  f331 := Try.func103.trans (congrArg some (by kernel_rfl))
  f332 := Try.func104.trans (congrArg some (by kernel_rfl))
  f343 := Try.func106.trans (congrArg some (by kernel_rfl))
  t0 := Try.underlying0
  a0 := Try.isAgg0
  z0 := Try.sizeOf0
  v0 := Try.zeroValue0
  t3 := Try.underlying3
  a3 := Try.isAgg3
  z3 := Try.sizeOf3
  v3 := Try.zeroValue3
  t4 := Try.underlying4
  a4 := Try.isAgg4
  z4 := Try.sizeOf4
  v4 := Try.zeroValue4
  t5 := Try.underlying5
  a5 := Try.isAgg5
  z5 := Try.sizeOf5
  v5 := Try.zeroValue5
  t9 := Try.underlying9
  a9 := Try.isAgg9
  z9 := Try.sizeOf9
  v9 := Try.zeroValue9
  t28 := Try.underlying40
  a28 := Try.isAgg40
  z28 := Try.sizeOf40
  v28 := Try.zeroValue40
  t46 := Try.underlying81
  a46 := Try.isAgg81
  z46 := Try.sizeOf81
  v46 := Try.zeroValue81
  t51 := Try.underlying117
  a51 := Try.isAgg117
  z51 := Try.sizeOf117
  v51 := Try.zeroValue117
  t53 := Try.underlying23
  a53 := Try.isAgg23
  z53 := Try.sizeOf23
  v53 := Try.zeroValue23
  t131 := Try.underlying34
  a131 := Try.isAgg34
  z131 := Try.sizeOf34
  v131 := Try.zeroValue34
  t182 := Try.underlying110
  a182 := Try.isAgg110
  z182 := Try.sizeOf110
  v182 := Try.zeroValue110
  t183 := Try.underlying111
  a183 := Try.isAgg111
  z183 := Try.sizeOf111
  v183 := Try.zeroValue111
  t218 := Try.underlying122
  a218 := Try.isAgg122
  z218 := Try.sizeOf122
  v218 := Try.zeroValue122
  t222 := Try.underlying126
  a222 := Try.isAgg126
  z222 := Try.sizeOf126
  v222 := Try.zeroValue126
  t228 := Try.underlying130
  a228 := Try.isAgg130
  z228 := Try.sizeOf130
  v228 := Try.zeroValue130
  t229 := Try.underlying131
  a229 := Try.isAgg131
  z229 := Try.sizeOf131
  v229 := Try.zeroValue131
def compZ_ren : Go.Shelf.Ren := ⟨fun | 20 => 62 | n => n, fun | 0 => 0 | 3 => 3 | 4 => 4 | 22 => 40 | n => n, fun n => n⟩
theorem compZ_lay : Lays2.n20 Try.prog compZ_ren where
  mixed := by kernel_rfl
  f20 := Try.func62.trans (congrArg some (by kernel_rfl))
  t0 := Try.underlying0
  a0 := Try.isAgg0
  z0 := Try.sizeOf0
  v0 := Try.zeroValue0
  t3 := Try.underlying3
  a3 := Try.isAgg3
  z3 := Try.sizeOf3
  v3 := Try.zeroValue3
  t4 := Try.underlying4
  a4 := Try.isAgg4
  z4 := Try.sizeOf4
  v4 := Try.zeroValue4
  t22 := Try.underlying40
  a22 := Try.isAgg40
  z22 := Try.sizeOf40
  v22 := Try.zeroValue40
  i3 := by kernel_rfl
end Go.Proofs.Ytemcdefpihkfpaa
set_option linter.unusedSimpArgs false
set_option linter.unusedVariables false
namespace Go.Proofs.Ytemcdefpihkfpaa
open Go.Proofs.Ytemcdefpihkfpaa.AL Go.RowKit Go.Sort
theorem own_holds {O : Nat → Prop} {w : World} {h : Gh} {l gen : Nat} {e : TypeId} {zs : List Int} (hL : LocOK O w h l (.own e 1 zs.length gen (rowZ zs))) {b : Nat} (hb : (h.κ l).ownBlock = some b) :
    ∃ cap cur, h.κ l = .slice (some ⟨b, 0, none⟩) zs.length cap ∧ w.heap[b]? = some (.cells cur e (0, 0)) ∧ zs.length ≤ cap ∧ cap ≤ maxLen ∧ cur.size = cap ∧ h.g b = 0 ∧ Holds (Value.int .i64) w b 0 zs.toArray ∧ b < w.heap.size := by
  obtain ⟨cap, cur, c1, c2, c3, c4, c5, c6, c7, c8⟩ := own_block hL hb
  refine ⟨cap, cur, c1, c2, c3, c4, by omega, c6, fun j hj => ?_, (Array.getElem?_eq_some_iff.1 c2).1⟩
  have hj : j < zs.length := by simpa using hj
  obtain ⟨u, k1, k2⟩ := c8.cell hj (show 0 < 1 by omega) (d := .v (.int .i64 (zs.getD j 0))) rfl
  have hu : u = .int .i64 (zs.getD j 0) := relD_v k2
  constructor
  · rw [Nat.zero_add, heap_cell c2]
    simp only [Nat.mul_one, Nat.add_zero] at k1
    rw [k1, hu]
    simp [hj]
  · simp [World.frozen?, c2]
theorem row_after {w : World} {b n cap : Nat} {cur : Array Value} {e : TypeId} (hb : w.heap[b]? = some (.cells cur e (0, 0))) (zs : List Int) (hz : zs.length ≤ cur.size) (q : Nat) (os : Array Obj) :
    (Go.Sort.grow (putRow (Value.int .i64) (Go.Sort.ahead w q) b 0 zs.toArray) os).heap[b]? = some (.cells (putCells (Value.int .i64) 0 zs.toArray cur) e (0, 0)) ∧
      (∀ k, k < w.heap.size → k ≠ b → (Go.Sort.grow (putRow (Value.int .i64) (Go.Sort.ahead w q) b 0 zs.toArray) os).heap[k]? = w.heap[k]?) := by
  have hlt : b < w.heap.size := (Array.getElem?_eq_some_iff.1 hb).1
  constructor
  · rw [heap_grow_old _ _ (by simpa using hlt)]
    show (w.heap.modify b (onCells _))[b]? = _
    rw [Array.getElem?_modify, if_pos rfl, hb]
    simp [onCells]
  · intro k hk hne
    rw [heap_grow_old _ _ (by simpa using hk)]
    simp [putRow, mapBlock, Array.getElem?_modify, Ne.symm hne]
theorem putCells_take (zs : List Int) (cur : Array Value) (hz : zs.length ≤ cur.size) (n : Nat) (hn : n ≤ zs.length) : (putCells (Value.int .i64) 0 zs.toArray cur).toList.take n = (zs.take n).map (Value.int .i64) := by
  apply List.ext_getElem?
  intro k
  by_cases hk : k < n
  · rw [List.getElem?_take_of_lt hk, List.getElem?_map, List.getElem?_take_of_lt hk, Array.getElem?_toList]
    simp only [putCells, Array.getElem?_mapIdx]
    rw [Array.getElem?_eq_getElem (by omega), Option.map_some, if_pos ⟨by omega, by simp; omega⟩]
    simp [show k < zs.length by omega]
  · rw [List.getElem?_eq_none (by simp; omega), List.getElem?_eq_none (by simp; omega)]
theorem rowIs_ints {w : World} {g : Nat → Nat} (zs : List Int) : RowIs w g 1 zs.length (zs.map (Value.int .i64)) (rowZ zs) := by
  refine ⟨fun i hi => rfl, fun i j d hi hj hd => ?_⟩
  have : j = 0 := by omega
  subst this
  simp [rowZ] at hd
  subst hd
  exact ⟨.int .i64 (zs.getD i 0), by simp [hi], .v _ rfl⟩
theorem mcalls_row {P : Program} {f : FuncId} {xs : List AV} {e : TypeId} {n gen n' gen' : Nat} {zs zs' : List Int} {rs : List AV} (hf : ∀ (args : Array Value) (w : World), (callFunc f args).run P w = .ok (.enter f args) w)
    (hn : n = zs.length) (hn' : n' = zs'.length) (hle : zs'.length ≤ zs.length) (hgen : (gen' = gen ∧ n' = n) ∨ gen < gen') (hpos : 0 < zs.length)
    (hargs : ∀ (w : World) (h : Gh) (vs : List Value) (b cap : Nat), RelAs w h vs xs → h.μ 1000 = gen → h.κ 1000 = .slice (some ⟨b, 0, none⟩) n cap → Holds (Value.int .i64) w b 0 zs.toArray → b < w.heap.size → zs.length ≤ cap → cap ≤ maxLen →
      Calls P f vs.toArray w fun r w' => ∃ v, r = .returned v ∧ (∀ h' : Gh, h'.κ 1000 = .slice (some ⟨b, 0, none⟩) n' cap → h'.μ 1000 = gen' → RelRA w' h' v rs) ∧ ∃ q os tail, w' = Go.Sort.grow (putRow (Value.int .i64) (Go.Sort.ahead w q) b 0 (zs' ++ tail).toArray) os ∧ (zs' ++ tail).length = zs.length) :
    MCalls P f xs [(1000, .own e 1 n gen (rowZ zs))] (fun r M => r = rs ∧ M = [(1000, .own e 1 n' gen' (rowZ zs'))]) := by
  subst hn hn'
  intro w h vs hz hr hl
  have hL := hl.1 1000 _ rfl
  have hμ : h.μ 1000 = gen := hL.1
  have hb0 : ∃ b, (h.κ 1000).ownBlock = some b := by
    obtain ⟨_, ⟨ys, ⟨h1, ⟨h2, h3⟩ | ⟨gb, cap, cur, h2, _⟩⟩, _⟩, _⟩ := hL
    · omega
    · exact ⟨gb, by rw [h2]; rfl⟩
  obtain ⟨b, hb⟩ := hb0
  obtain ⟨cap, cur, c1, c2, c3, c4, c5, c6, c7, c8⟩ := own_holds hL hb
  rw [hf]
  show Calls P f vs.toArray w _
  refine (hargs w h vs b cap hr hμ c1 c7 c8 c3 c4).mono fun r w' ⟨v, hr', hrel, q, os, tail, hw, htl⟩ => ?_
  subst hr' hw
  obtain ⟨e1, e2⟩ := row_after (n := 0) (cap := 0) c2 (zs' ++ tail) (by omega) q os
  generalize hW : Go.Sort.grow (putRow (Value.int .i64) (Go.Sort.ahead w q) b 0 (zs' ++ tail).toArray) os = W at e1 e2 hrel
  have hsz : w.heap.size ≤ W.heap.size := by rw [← hW]; simp
  have hos : W.os = w.os ∧ W.tape = w.tape ∧ W.output = w.output := by rw [← hW]; exact ⟨rfl, rfl, rfl⟩
  let h' : Gh := { h with κ := fun k => if k = 1000 then .slice (some ⟨b, 0, none⟩) zs'.length cap else h.κ k, μ := fun k => if k = 1000 then gen' else h.μ k }
  have hκ : h'.κ 1000 = .slice (some ⟨b, 0, none⟩) zs'.length cap := by simp [h']
  have hμ' : h'.μ 1000 = gen' := by simp [h']
  have hbl : b < w.heap.size := c8
  have hown : ∀ k, ¬ ownB h [(1000, LV.own e 1 zs.length gen (rowZ zs))] k → k ≠ b := fun k hk e => hk ⟨1000, _, rfl, by simp [inB, hb, e]⟩
  refine ⟨v, rfl, h', _, _, ⟨rfl, rfl⟩, hrel h' hκ hμ', ⟨fun l X hX => ?_, fun l l' X X' b' hne h1 h2 => ?_⟩, ?_⟩
  · simp only [AL.look] at hX
    split at hX
    · rename_i e; subst e; cases hX
      refine ⟨hμ', ⟨zs'.map (Value.int .i64), ?_, rowIs_ints zs'⟩, fun b' hb' => ?_⟩
      · rw [hκ]
        refine ⟨by simp, .inr ⟨b, cap, _, rfl, Nat.zero_le _, e1, by omega, c4, by simp [putCells, c5], ?_⟩⟩
        rw [Nat.mul_one, putCells_take _ _ (by omega) _ (by simp)]
        simp
      · rw [hκ] at hb'
        simp only [Value.ownBlock, Option.some.injEq] at hb'
        subst hb'
        exact ⟨c6, trivial⟩
    · cases hX
  · simp only [AL.look] at h1 h2
    split at h1
    · rename_i e
      split at h2
      · rename_i e2; exact absurd (e.symm.trans e2) hne
      · cases h2
    · cases h1
  · refine ⟨⟨hos.1, hos.2.1, hos.2.2, hsz, fun k hk hno => e2 k hk (hown k hno)⟩, fun _ _ _ => rfl, fun k hk => hz k (by omega), ⟨fun _ => Nat.le_refl _, fun k o ho => ?_⟩, fun _ _ _ => rfl, fun l X hX => ?_, fun b' ⟨l, X, h1, h2⟩ => .inr ?_⟩
    · have hkb : k ≠ b := fun e => by subst e; rw [c6] at ho; omega
      have hk : k < w.heap.size := by
        refine Nat.lt_of_not_le fun hle => ?_
        rw [hz k hle] at ho; omega
      exact World.cell?_of_block (w := w) (e2 k hk hkb)
    · simp only [AL.look] at hX
      split at hX
      · rename_i e; subst e
        rw [hμ', hμ, hκ, c1]
        rcases hgen with ⟨g1, g2⟩ | g1
        · right; rw [g1, g2]; exact ⟨rfl, rfl⟩
        · exact .inl g1
      · cases hX
    · simp only [AL.look] at h1
      split at h1
      · rename_i e; subst e; cases h1
        simp only [inB, hκ, Value.ownBlock, Option.some.injEq] at h2
        subst h2
        exact ⟨1000, _, rfl, by simp [inB, hb]⟩
      · cases h1
theorem relAs_ow {w : World} {h : Gh} {vs : List Value} {gen n : Nat} {v0 : Value} (hr : RelAs w h vs [.ow 1000 gen 1 n]) (hμ : h.μ 1000 = gen) (hκ : h.κ 1000 = v0) : vs = [v0] := by
  match vs, hr with
  | [a], hr => have := (hr.2 0 a _ rfl rfl).2.2 hμ; rw [this, hκ]
  | [], hr => simp [RelAs] at hr
  | _ :: _ :: _, hr => simp [RelAs] at hr
def srtZ (l : List Int) : List Int := l.mergeSort fun x y => decide (x ≤ y)
set_option maxRecDepth 100000 in
theorem SortZ_c (zs : List Int) (gen : Nat) (h0 : 0 < zs.length) (hl : zs.length ≤ 1099511627776) : MCalls Try.prog 61 [.ow 1000 gen 1 zs.length] [(1000, .own 3 1 zs.length gen (rowZ zs))] (fun rs M => rs = [] ∧ M = [(1000, .own 3 1 zs.length gen (rowZ (srtZ zs)))]) := by
  have hlen : (srtZ zs).length = zs.length := by unfold srtZ; simp
  refine mcalls_row (fun args w => callFunc_enter args w Try.func61 rfl (by kernel_rfl)) rfl hlen.symm (by omega) (.inl ⟨rfl, rfl⟩) h0 fun w h vs b cap hr hμ hκ hH hb _ _ => ?_
  rw [relAs_ow hr hμ hκ]
  refine Calls.mono (Go.Proofs.Any.slices_Sort_int sortZ_lay b 0 cap zs w hH hb (by omega)) fun r w' ⟨h1, n, os, h2⟩ => ?_
  subst h1
  exact ⟨_, rfl, fun h' _ _ => ⟨[], rfl, rfl, fun j v x hv => by simp at hv⟩, n, os, [], by rw [List.append_nil]; exact h2, by rw [List.append_nil]; exact hlen⟩
def compZ (l : List Int) : List Int := Go.Lib.compact l
theorem compZ_len (l : List Int) : (compZ l).length ≤ l.length := by
  unfold compZ Go.Lib.compact Go.Lib.compactUpTo
  rw [List.length_map]
  exact Nat.le_trans (List.length_filter_le _ _) (by simp)
set_option maxRecDepth 100000 in
theorem CompactZ_c (zs : List Int) (gen : Nat) (h0 : 0 < zs.length) (hl : zs.length ≤ 1099511627776) : MCalls Try.prog 62 [.ow 1000 gen 1 zs.length] [(1000, .own 3 1 zs.length gen (rowZ zs))] (fun rs M => rs = [.ow 1000 (gen + 1) 1 (compZ zs).length] ∧ M = [(1000, .own 3 1 (compZ zs).length (gen + 1) (rowZ (compZ zs)))]) := by
  have hlen := compZ_len zs
  refine mcalls_row (fun args w => callFunc_enter args w Try.func62 rfl (by kernel_rfl)) rfl rfl hlen (.inr (by omega)) h0 fun w h vs b cap hr hμ hκ hH hb hcap hcap2 => ?_
  rw [relAs_ow hr hμ hκ]
  refine Calls.mono (Go.Proofs.Any.slices_Compact_int compZ_lay b 0 cap zs w hH (by omega) hcap) fun r w' ⟨h1, q, h2⟩ => ?_
  subst h1
  refine ⟨_, rfl, fun h' hk hm => ⟨by omega, ⟨_, _, rfl, fun _ => ⟨_, rfl⟩⟩, fun _ => hk.symm⟩, q, #[], List.replicate (zs.length - (compZ zs).length) 0, by rw [grow_empty]; exact h2, by simp; omega⟩
end Go.Proofs.Ytemcdefpihkfpaa
set_option linter.unusedSimpArgs false
set_option linter.unusedVariables false
namespace Go.Proofs.Ytemcdefpihkfpaa
open Go.Proofs.Ytemcdefpihkfpaa.AL Go.RowKit
def growRenZ : Go.Shelf.Ren := ⟨fun | 4 => 78 | n => n, fun | 0 => 0 | 3 => 3 | 4 => 4 | 9 => 9 | 20 => 20 | 22 => 40 | 25 => 3 | n => n, fun n => n⟩
theorem growLZ : Go.Proofs.Lays8.n4 Try.prog growRenZ where
  mixed := by kernel_rfl
  f4 := ⟨Try.f78.name, by kernel_rfl, Try.func78.trans (congrArg some (by kernel_rfl))⟩
  t0 := Try.underlying0
  a0 := Try.isAgg0
  z0 := Try.sizeOf0
  v0 := Try.zeroValue0
  t3 := Try.underlying3
  a3 := Try.isAgg3
  z3 := Try.sizeOf3
  v3 := Try.zeroValue3
  t4 := Try.underlying4
  a4 := Try.isAgg4
  z4 := Try.sizeOf4
  v4 := Try.zeroValue4
  t9 := Try.underlying9
  a9 := Try.isAgg9
  z9 := Try.sizeOf9
  v9 := Try.zeroValue9
  t20 := Try.underlying20
  a20 := Try.isAgg20
  z20 := Try.sizeOf20
  v20 := Try.zeroValue20
  t22 := Try.underlying40
  a22 := Try.isAgg40
  z22 := Try.sizeOf40
  v22 := Try.zeroValue40
theorem GrowZ0_c : ACalls Try.prog 78 [.d (.v (.slice none 0 0)), .d (.v (.int .i64 0))] (· = [.d (.v (.slice none 0 0))]) := by
  refine acalls_iff.2 fun w g vs hz hr => ?_
  have hv : vs = [.slice none 0 0, .int .i64 0] := relPs_vals [.slice none 0 0, .int .i64 0] vs hr
  subst hv
  rw [callFunc_enter _ w Try.func78 rfl (by kernel_rfl)]
  show Calls Try.prog 78 _ w _
  refine Calls.mono (Go.Proofs.Any8.slices_Grow_room growLZ none 0 0 0 w (Nat.le_refl _) (by omega) (by omega) (by omega)) fun e w' ⟨he, hw⟩ => ?_
  subst hw
  exact ⟨_, he, g, _, Ext.refl hz, rfl, .d _ _ (.v _ rfl)⟩
theorem GrowZ_c (n : Nat) (h0 : 0 < n) (hn : n ≤ 1099511627776) : MCalls Try.prog 78 [.p (.d (.v (.slice none 0 0))), .p (.d (.v (.int .i64 (n : Int))))] []
    (fun rs L' => rs = [.gr 1000 0 1 0 (rowZ [])] ∧ L' = [(1000, .grow 3 1 0 0)]) := by
  intro w h vs hz hr hl
  have hv : vs = [.slice none 0 0, .int .i64 (n : Int)] := by
    match vs, hr with
    | [a, b], hr =>
      rw [relA_v (hr.2 0 a _ rfl rfl), relA_v (hr.2 1 b _ rfl rfl)]
    | [], hr => simp [RelAs] at hr
    | [_], hr => simp [RelAs] at hr
    | _ :: _ :: _ :: _, hr => simp [RelAs] at hr
  subst hv
  rw [callFunc_enter _ w Try.func78 rfl (by kernel_rfl)]
  show Calls Try.prog 78 _ w _
  obtain ⟨i0, hi0⟩ : ∃ i, Try.prog.info? 3 = some i := Option.isSome_iff_exists.1 (by kernel_rfl)
  have hs : i0.size = 1 := by
    have : (Try.prog.info? 3).map (fun i => i.size) = some 1 := by kernel_rfl
    rw [hi0] at this; simpa using this
  have hb : i0.bytes = 8 := by
    have : (Try.prog.info? 3).map (fun i => i.bytes) = some 8 := by kernel_rfl
    rw [hi0] at this; simpa using this
  obtain ⟨z, hz0⟩ : ∃ z, i0.zero = some z := by
    have : ((Try.prog.info? 3).bind (fun i => i.zero)).isSome = true := by kernel_rfl
    rw [hi0] at this
    exact Option.isSome_iff_exists.1 this
  have hzs : z.cells.size = 1 := by
    have : ((Try.prog.info? 3).bind (fun i => i.zero)).map (fun z => z.cells.size) = some 1 := by kernel_rfl
    rw [hi0] at this
    simp only [Option.bind_some, hz0, Option.map_some, Option.some.injEq] at this
    exact this
  refine Calls.mono (Go.Proofs.Any8.slices_Grow_grow growLZ i0 z hi0 hz0 (by omega) none 0 0 n [] w (Nat.le_refl _) (by omega) (by rw [hb]; omega) (by omega) (by simp) (fun _ => rfl) (fun a ha => by cases ha)) fun e w' ⟨he, hw⟩ => ?_
  have hge := grownCap_ge w (0 + n) 0 (growRenZ.t 25)
  have hcm := grownCap_le_maxLen w (0 + n) 0 (growRenZ.t 25) (by unfold maxLen; omega)
  generalize grownCap w (0 + n) 0 (growRenZ.t 25) = cap at he hw hge hcm
  subst he
  subst hw
  generalize hcur : (([] : List Value).toArray ++ Builtin.zeroCells z.cells (0 + n - 0) ++ Builtin.zeroCells z.cells (cap - (0 + n)) : Array Value) = cur
  have hcs : cur.size = cap * 1 := by
    rw [← hcur]
    simp only [Array.size_append, size_zeroCells, hzs]
    simp; omega
  let v : Value := .slice (some ⟨w.heap.size, 0, none⟩) 0 cap
  let h' : Gh := { h with κ := fun k => if k = 1000 then v else h.κ k, μ := fun k => if k = 1000 then 0 else h.μ k }
  have hold : ∀ k, k < w.heap.size → (w.drew.alloc (.cells cur 3)).heap[k]? = w.heap[k]? := fun k hk => Below.heap_alloc w.drew _ k hk
  refine ⟨v, rfl, h', _, _, ⟨rfl, rfl⟩, ⟨.sl0 _ _ _ _, by simp [h'], fun _ => by simp [h']⟩, ⟨fun l X hX => ?_, fun l l' X X' b hne h1 h2 => ?_⟩, ?_⟩
  · have hX : AL.look [(1000, LV.grow 3 1 0 0)] l = some X := hX
    simp only [AL.look] at hX
    split at hX
    · rename_i e; subst e; cases hX
      refine ⟨by simp [h'], ⟨[], by simp, .inr ⟨w.heap.size, cap, cur, by simp [h', v], Nat.zero_le _, _root_.Go.heap_alloc_new w.drew _, Nat.zero_le _, hcm, hcs, by simp⟩⟩, fun b c hb => ?_, fun _ _ => trivial⟩
      simp only [h', if_true, v, Value.slice.injEq, Option.some.injEq, Addr.mk.injEq, and_true] at hb
      rw [← hb.1, Nat.zero_mul]
      exact hz _ (Nat.le_refl _)
    · cases hX
  · have h1 : AL.look [(1000, LV.grow 3 1 0 0)] l = some X := h1
    have h2 : AL.look [(1000, LV.grow 3 1 0 0)] l' = some X' := h2
    simp only [AL.look] at h1 h2
    split at h1
    · rename_i e
      split at h2
      · rename_i e2; exact absurd (e.symm.trans e2) hne
      · cases h2
    · cases h1
  · refine ⟨((BelowS.refl _ _).drew).alloc _, fun _ _ _ => rfl, fun b hb => hz b ?_, ⟨fun _ => Nat.le_refl _, fun b o ho => ?_⟩, fun l X hX => (by cases hX), fun l X hX => (by cases hX), fun b ⟨l, X, h1, h2⟩ => .inl ?_⟩
    · simp at hb; omega
    · have hb : b < w.heap.size := by
        refine Nat.lt_of_not_le fun hle => ?_
        rw [hz b hle] at ho; omega
      exact World.cell?_of_block (w := w) (hold b hb)
    · have h1 : AL.look [(1000, LV.grow 3 1 0 0)] l = some X := h1
      simp only [AL.look] at h1
      split at h1
      · rename_i e; subst e; cases h1
        simp only [inB, h', if_true, v, Value.ownBlock, Option.some.injEq] at h2
        omega
      · cases h1
def rowSZ (ss : List (List Int)) : Nat → List Dat := fun i => [.sl 1 (ss.getD i []).length (rowZ (ss.getD i []))]
def sumLZ (ss : List (List Int)) (i : Nat) : Nat := ((ss.take i).map List.length).sum
theorem sumLZ_succ (ss : List (List Int)) (i : Nat) (h : i < ss.length) : sumLZ ss (i + 1) = sumLZ ss i + (ss.getD i []).length := by
  unfold sumLZ
  rw [take_succ_getD ss i [] h, List.map_append, List.sum_append]
  simp
theorem sumLZ_le (ss : List (List Int)) (i : Nat) : sumLZ ss i ≤ ss.flatten.length := by
  unfold sumLZ
  rw [← List.length_flatten]
  have : ss.flatten = (ss.take i).flatten ++ (ss.drop i).flatten := by rw [← List.flatten_append, List.take_append_drop]
  rw [this, List.length_append]; omega
def concatZI (ss : List (List Int)) (g : Nat → List Dat) (i : Fin (ss.length + 1)) : ASt :=
  ⟨[(11, .p (.d (.v (.int .i64 (i.val : Int))))), (10, .p (.d (.v (.int .i64 (ss.length : Int))))), (9, .p (.d (.sl 1 ss.length g))), (3, .p (.d (.v (.int .i64 (sumLZ ss i.val : Int))))), (0, .p (.d (.sl 1 ss.length g)))], []⟩
def concatZJ (ss : List (List Int)) (g : Nat → List Dat) (s : {s : Nat × List Int // s.1 ≤ ss.length ∧ s.2 = (ss.take s.1).flatten}) : ASt :=
  ⟨[(27, .p (.d (.v (.int .i64 (s.val.1 : Int))))), (26, .p (.d (.v (.int .i64 (ss.length : Int))))), (25, .p (.d (.sl 1 ss.length g))), (6, .gr 6 s.val.1 1 s.val.2.length (rowZ s.val.2))],
   [(6, .grow 3 1 s.val.2.length s.val.1)]⟩
set_option maxRecDepth 100000 in
set_option maxHeartbeats 2000000 in
theorem ConcatZ_c (ss : List (List Int)) (g : Nat → List Dat) (hg : ∀ i, i < ss.length → g i = rowSZ ss i) (hs : ss.length ≤ 1099511627776) (hl : ss.flatten.length ≤ 1099511627776) :
    ACalls Try.prog 68 [.d (.sl 1 ss.length g)] (· = [.d (.sl 1 ss.flatten.length (rowZ ss.flatten))]) := by
  have hle : ∀ i, sumLZ ss i ≤ 1099511627776 := fun i => Nat.le_trans (sumLZ_le ss i) hl
  refine z10 Try.func68 rfl (by decide +kernel) (by rw [Try.ntmps68]; simp) ?_; rw [Try.ntmps68]; simp only [frOf]
  (repeat (first | refine q0 ?_ | refine x7 rfl ?_ | refine j7 rfl ?_ | refine z6 ?_ | (refine j0 fun K hK => ?_) | (refine x4 (by kernel_rfl) (by kernel_rfl) fun K hK => ?_) | ((first | refine q6 ?_ | refine x6 ?_ | ((first | refine q4 (hK _ ?_) | refine q5 (hK _ _ (j4 (by kernel_rfl)) ?_)); clear hK K)); (first | show AWP _ _ _ _ _ | ((try simp only [j6]); first | show loopQ _ _ _ _ _ _ | show cutQ _ _ _ _ | show AWP _ _ _ _ _))) | ((first | refine q8 [] rfl ?_ | refine z8 [] rfl ?_); simp (maxSteps := 2000000) (disch := omega) only [go_sem, seval]; (repeat (first | refine ⟨by omega, ?_⟩ | refine ⟨True.intro, ?_⟩)))))
  refine awp_loop (concatZI ss g) (fun i => ss.length - i.val) ⟨0, by omega⟩ ?_ (fun s => ?_)
  · unfold concatZI
    refine Weak.list ?_ ?_; (all_goals simp (disch := omega) only [AllF, AllL, j10, le_top, x10, exists_eq_left', Option.some.injEq, go_sem, seval]); (all_goals (repeat' (with_reducible apply And.intro))); (all_goals try (first | exact x8 rfl | (refine le_int ?_; omega) | (refine x8 ?_; simp; done)))
  obtain ⟨i, hi⟩ := s
  unfold concatZI
  by_cases hn : i < ss.length
  · have r1 := hg i hn
    have st := sumLZ_succ ss i hn
    have h1 := hle i
    have h2 := hle (i + 1)
    unfold rowSZ at r1
    generalize ss.getD i [] = X at r1 st
    (repeat (first | refine q0 ?_ | refine x7 rfl ?_ | refine j7 rfl ?_ | refine z6 ?_ | (refine j0 fun K hK => ?_) | (refine x4 (by kernel_rfl) (by kernel_rfl) fun K hK => ?_) | ((first | refine q6 ?_ | refine x6 ?_ | ((first | refine q4 (hK _ ?_) | refine q5 (hK _ _ (j4 (by kernel_rfl)) ?_)); clear hK K)); (first | show AWP _ _ _ _ _ | ((try simp only [j6]); first | show loopQ _ _ _ _ _ _ | show cutQ _ _ _ _ | show AWP _ _ _ _ _))) | ((first | refine q8 [] rfl ?_ | refine z8 [] rfl ?_); simp (maxSteps := 2000000) (disch := omega) only [go_sem, seval, r1]; (repeat (first | refine ⟨by omega, ?_⟩ | refine ⟨True.intro, ?_⟩)))))
    refine ⟨⟨i + 1, by omega⟩, by simp only []; omega, ?_⟩
    refine Weak.list ?_ ?_; (all_goals simp (disch := omega) only [AllF, AllL, j10, le_top, x10, exists_eq_left', Option.some.injEq, go_sem, seval, r1]); (all_goals (repeat' (with_reducible apply And.intro))); (all_goals try (first | exact x8 rfl | (refine le_int ?_; omega) | (refine x8 ?_; simp; done)))
  · have hil : i = ss.length := by omega
    subst hil
    have hsum : sumLZ ss ss.length = ss.flatten.length := by unfold sumLZ; rw [List.take_length, List.length_flatten]
    simp only [hsum]
    generalize hN : ss.flatten.length = n at hl
    by_cases h0 : n = 0
    · subst h0
      (repeat ((fail_if_success (show AWP _ _ (.region 10 _ _) _ _)); first | refine q0 ?_ | refine x7 rfl ?_ | refine j7 rfl ?_ | refine z6 ?_ | (refine j0 fun K hK => ?_) | (refine x4 (by kernel_rfl) (by kernel_rfl) fun K hK => ?_) | ((first | refine q6 ?_ | refine x6 ?_ | ((first | refine q4 (hK _ ?_) | refine q5 (hK _ _ (j4 (by kernel_rfl)) ?_)); clear hK K)); (first | show AWP _ _ _ _ _ | ((try simp only [j6]); first | show loopQ _ _ _ _ _ _ | show cutQ _ _ _ _ | show AWP _ _ _ _ _))) | ((first | refine x9 rfl rfl rfl ?_ | refine j9 rfl rfl rfl ?_); simp (maxSteps := 2000000) (disch := omega) only [go_sem, seval]; (first | refine ⟨_, GrowZ0_c, ?_⟩)) | ((first | refine q8 [] rfl ?_ | refine z8 [] rfl ?_); simp (maxSteps := 2000000) (disch := omega) only [go_sem, seval]; (repeat (first | refine ⟨by omega, ?_⟩ | refine ⟨True.intro, ?_⟩)))))
      refine awp_grow 6 6 1 3 (rowZ []) rfl (by kernel_rfl) rfl ?_
      (repeat (first | refine q0 ?_ | refine x7 rfl ?_ | refine j7 rfl ?_ | refine z6 ?_ | (refine j0 fun K hK => ?_) | (refine x4 (by kernel_rfl) (by kernel_rfl) fun K hK => ?_) | ((first | refine q6 ?_ | refine x6 ?_ | ((first | refine q4 (hK _ ?_) | refine q5 (hK _ _ (j4 (by kernel_rfl)) ?_)); clear hK K)); (first | show AWP _ _ _ _ _ | ((try simp only [j6]); first | show loopQ _ _ _ _ _ _ | show cutQ _ _ _ _ | show AWP _ _ _ _ _))) | ((first | refine q8 [] rfl ?_ | refine z8 [] rfl ?_); simp (maxSteps := 2000000) (disch := omega) only [go_sem, seval]; (repeat (first | refine ⟨by omega, ?_⟩ | refine ⟨True.intro, ?_⟩)))))
      refine awp_loop (concatZJ ss g) (fun s => ss.length - s.val.1) ⟨(0, []), by simp, by simp⟩ ?_ (fun s => ?_)
      · unfold concatZJ
        refine Weak.list ?_ ?_; (all_goals simp (disch := omega) only [AllF, AllL, j10, le_top, x10, exists_eq_left', Option.some.injEq, go_sem, seval]); (all_goals (repeat' (with_reducible apply And.intro))); (all_goals try (first | exact x8 rfl | (refine le_int ?_; omega) | (refine x8 ?_; simp; done)))
      obtain ⟨⟨j, out⟩, hj, he⟩ := s
      unfold concatZJ
      simp only [] at hj he
      have hb : out.length ≤ 1099511627776 := by
        have := sumLZ_le ss j
        unfold sumLZ at this
        rw [← List.length_flatten, ← he, hN] at this
        omega
      by_cases hm : j < ss.length
      · have r1 := hg j hm
        have st : (ss.take (j + 1)).flatten = (ss.take j).flatten ++ ss.getD j [] := by
          rw [take_succ_getD ss j [] hm, List.flatten_append]; simp
        have hb2 : (ss.take (j + 1)).flatten.length ≤ 1099511627776 := by
          have := sumLZ_le ss (j + 1)
          unfold sumLZ at this
          rw [← List.length_flatten, hN] at this
          omega
        rw [st, List.length_append, ← he] at hb2
        unfold rowSZ at r1
        generalize ss.getD j [] = X at r1 st hb2
        (repeat (first | refine q0 ?_ | refine x7 rfl ?_ | refine j7 rfl ?_ | refine z6 ?_ | (refine j0 fun K hK => ?_) | (refine x4 (by kernel_rfl) (by kernel_rfl) fun K hK => ?_) | ((first | refine q6 ?_ | refine x6 ?_ | ((first | refine q4 (hK _ ?_) | refine q5 (hK _ _ (j4 (by kernel_rfl)) ?_)); clear hK K)); (first | show AWP _ _ _ _ _ | ((try simp only [j6]); first | show loopQ _ _ _ _ _ _ | show cutQ _ _ _ _ | show AWP _ _ _ _ _))) | ((first | refine q8 [] rfl ?_ | refine z8 [] rfl ?_); simp (maxSteps := 2000000) (disch := omega) only [go_sem, seval, r1]; (repeat (first | refine ⟨by omega, ?_⟩ | refine ⟨True.intro, ?_⟩)))))
        refine ⟨⟨(j + 1, out ++ X), by simp only []; omega, by rw [st, ← he]⟩, by simp only []; omega, ?_⟩
        refine Weak.list ?_ ?_; (all_goals simp (disch := omega) only [AllF, AllL, j10, le_top, x10, exists_eq_left', Option.some.injEq, go_sem, seval, r1]); (all_goals (repeat' (with_reducible apply And.intro))); (all_goals try (first | exact x8 rfl | (refine le_int ?_; omega) | (refine x8 ?_; simp; done)))
        · exact le_grgr rfl (by simp) (fun k hk => rowZ_cat out X k)
        · exact lle_grow (by simp) rfl
      · have hjl : j = ss.length := by omega
        subst hjl
        rw [List.take_length] at he
        (repeat (first | refine q0 ?_ | refine x7 rfl ?_ | refine j7 rfl ?_ | refine z6 ?_ | (refine j0 fun K hK => ?_) | (refine x4 (by kernel_rfl) (by kernel_rfl) fun K hK => ?_) | ((first | refine q6 ?_ | refine x6 ?_ | ((first | refine q4 (hK _ ?_) | refine q5 (hK _ _ (j4 (by kernel_rfl)) ?_)); clear hK K)); (first | show AWP _ _ _ _ _ | ((try simp only [j6]); first | show loopQ _ _ _ _ _ _ | show cutQ _ _ _ _ | show AWP _ _ _ _ _))) | ((first | refine q8 [] rfl ?_ | refine z8 [] rfl ?_); simp (maxSteps := 2000000) (disch := omega) only [go_sem, seval]; (repeat (first | refine ⟨by omega, ?_⟩ | refine ⟨True.intro, ?_⟩)))))
        refine awp_slot 2 _ (.p (.d (.sl 1 out.length (rowZ out)))) rfl (le_gr rfl (fun _ _ => rfl)) ?_
        refine q10 ⟨_, ?_, rfl⟩; rw [Try.results68]; simp (disch := omega) only [ResVars, ResVar, ptrLoc, go_sem, seval]
        rw [← hN, ← he]
    · have gr := GrowZ_c n (by omega) hl
      (repeat ((fail_if_success (show AWP _ _ (.region 9 _ _) _ _)); first | refine q0 ?_ | refine x7 rfl ?_ | refine j7 rfl ?_ | refine z6 ?_ | (refine j0 fun K hK => ?_) | (refine x4 (by kernel_rfl) (by kernel_rfl) fun K hK => ?_) | ((first | refine q6 ?_ | refine x6 ?_ | ((first | refine q4 (hK _ ?_) | refine q5 (hK _ _ (j4 (by kernel_rfl)) ?_)); clear hK K)); (first | show AWP _ _ _ _ _ | ((try simp only [j6]); first | show loopQ _ _ _ _ _ _ | show cutQ _ _ _ _ | show AWP _ _ _ _ _))) | ((first | refine q8 [] rfl ?_ | refine z8 [] rfl ?_); simp (maxSteps := 2000000) (disch := omega) only [go_sem, seval]; (repeat (first | refine ⟨by omega, ?_⟩ | refine ⟨True.intro, ?_⟩)))))
      refine j0 fun K hK => ?_
      (first | refine q7 [] _ _ ?_ | refine z7 [] _ _ _ ?_); simp (maxSteps := 2000000) (disch := omega) only [go_sem, seval]; (repeat refine ⟨by omega, ?_⟩)
      refine walkS_cons _ (step_mcall [(1000, 6)] rfl rfl rfl rfl rfl rfl gr rfl (namesOK_new 6 (by kernel_rfl) rfl rfl)) ?_
      simp (maxSteps := 2000000) (disch := omega) only [go_sem, seval]
      (repeat (first | refine q0 ?_ | refine x7 rfl ?_ | refine j7 rfl ?_ | refine z6 ?_ | (refine j0 fun K hK => ?_) | (refine x4 (by kernel_rfl) (by kernel_rfl) fun K hK => ?_) | ((first | refine q6 ?_ | refine x6 ?_ | ((first | refine q4 (hK _ ?_) | refine q5 (hK _ _ (j4 (by kernel_rfl)) ?_)); clear hK K)); (first | show AWP _ _ _ _ _ | ((try simp only [j6]); first | show loopQ _ _ _ _ _ _ | show cutQ _ _ _ _ | show AWP _ _ _ _ _))) | ((first | refine q8 [] rfl ?_ | refine z8 [] rfl ?_); simp (maxSteps := 2000000) (disch := omega) only [go_sem, seval]; (repeat (first | refine ⟨by omega, ?_⟩ | refine ⟨True.intro, ?_⟩)))))
      refine awp_loop (concatZJ ss g) (fun s => ss.length - s.val.1) ⟨(0, []), by simp, by simp⟩ ?_ (fun s => ?_)
      · unfold concatZJ
        refine Weak.list ?_ ?_; (all_goals simp (disch := omega) only [AllF, AllL, j10, le_top, x10, exists_eq_left', Option.some.injEq, go_sem, seval]); (all_goals (repeat' (with_reducible apply And.intro))); (all_goals try (first | exact x8 rfl | (refine le_int ?_; omega) | (refine x8 ?_; simp; done)))
      obtain ⟨⟨j, out⟩, hj, he⟩ := s
      unfold concatZJ
      simp only [] at hj he
      have hb : out.length ≤ 1099511627776 := by
        have := sumLZ_le ss j
        unfold sumLZ at this
        rw [← List.length_flatten, ← he, hN] at this
        omega
      by_cases hm : j < ss.length
      · have r1 := hg j hm
        have st : (ss.take (j + 1)).flatten = (ss.take j).flatten ++ ss.getD j [] := by
          rw [take_succ_getD ss j [] hm, List.flatten_append]; simp
        have hb2 : (ss.take (j + 1)).flatten.length ≤ 1099511627776 := by
          have := sumLZ_le ss (j + 1)
          unfold sumLZ at this
          rw [← List.length_flatten, hN] at this
          omega
        rw [st, List.length_append, ← he] at hb2
        unfold rowSZ at r1
        generalize ss.getD j [] = X at r1 st hb2
        (repeat (first | refine q0 ?_ | refine x7 rfl ?_ | refine j7 rfl ?_ | refine z6 ?_ | (refine j0 fun K hK => ?_) | (refine x4 (by kernel_rfl) (by kernel_rfl) fun K hK => ?_) | ((first | refine q6 ?_ | refine x6 ?_ | ((first | refine q4 (hK _ ?_) | refine q5 (hK _ _ (j4 (by kernel_rfl)) ?_)); clear hK K)); (first | show AWP _ _ _ _ _ | ((try simp only [j6]); first | show loopQ _ _ _ _ _ _ | show cutQ _ _ _ _ | show AWP _ _ _ _ _))) | ((first | refine q8 [] rfl ?_ | refine z8 [] rfl ?_); simp (maxSteps := 2000000) (disch := omega) only [go_sem, seval, r1]; (repeat (first | refine ⟨by omega, ?_⟩ | refine ⟨True.intro, ?_⟩)))))
        refine ⟨⟨(j + 1, out ++ X), by simp only []; omega, by rw [st, ← he]⟩, by simp only []; omega, ?_⟩
        refine Weak.list ?_ ?_; (all_goals simp (disch := omega) only [AllF, AllL, j10, le_top, x10, exists_eq_left', Option.some.injEq, go_sem, seval, r1]); (all_goals (repeat' (with_reducible apply And.intro))); (all_goals try (first | exact x8 rfl | (refine le_int ?_; omega) | (refine x8 ?_; simp; done)))
        · exact le_grgr rfl (by simp) (fun k hk => rowZ_cat out X k)
        · exact lle_grow (by simp) rfl
      · have hjl : j = ss.length := by omega
        subst hjl
        rw [List.take_length] at he
        (repeat (first | refine q0 ?_ | refine x7 rfl ?_ | refine j7 rfl ?_ | refine z6 ?_ | (refine j0 fun K hK => ?_) | (refine x4 (by kernel_rfl) (by kernel_rfl) fun K hK => ?_) | ((first | refine q6 ?_ | refine x6 ?_ | ((first | refine q4 (hK _ ?_) | refine q5 (hK _ _ (j4 (by kernel_rfl)) ?_)); clear hK K)); (first | show AWP _ _ _ _ _ | ((try simp only [j6]); first | show loopQ _ _ _ _ _ _ | show cutQ _ _ _ _ | show AWP _ _ _ _ _))) | ((first | refine q8 [] rfl ?_ | refine z8 [] rfl ?_); simp (maxSteps := 2000000) (disch := omega) only [go_sem, seval]; (repeat (first | refine ⟨by omega, ?_⟩ | refine ⟨True.intro, ?_⟩)))))
        refine awp_slot 2 _ (.p (.d (.sl 1 out.length (rowZ out)))) rfl (le_gr rfl (fun _ _ => rfl)) ?_
        refine q10 ⟨_, ?_, rfl⟩; rw [Try.results68]; simp (disch := omega) only [ResVars, ResVar, ptrLoc, go_sem, seval]
        rw [← hN, ← he]
end Go.Proofs.Ytemcdefpihkfpaa
set_option linter.unusedSimpArgs false
set_option linter.unusedVariables false
namespace Go.Proofs.Ytemcdefpihkfpaa
open Go.Proofs.Ytemcdefpihkfpaa.AL
def mkZ (l : List Int) : List Int := if soundZ l then l else compZ (srtZ l)
theorem srtZ_len (l : List Int) : (srtZ l).length = l.length := by unfold srtZ; simp
theorem mkZ_len (l : List Int) : (mkZ l).length ≤ l.length := by
  unfold mkZ
  split
  · exact Nat.le_refl _
  · exact Nat.le_trans (compZ_len _) (by rw [srtZ_len]; exact Nat.le_refl _)
set_option maxRecDepth 100000 in
theorem MakeS_c (l : List Int) (hl : l.length ≤ 1099511627776) : ACalls Try.prog 44 [.d (.sl 1 l.length (rowZ l))] (· = [.d (.sl 1 (mkZ l).length (rowZ (mkZ l)))]) := by
  have hm := mkZ_len l
  have cl := ClipZ_c (mkZ l).length (rowZ (mkZ l)) (by omega)
  by_cases h : l.length = 0
  · have : l = [] := List.eq_nil_of_length_eq_zero h
    subst this
    have hs : soundZ [] = true := rfl
    have hk : mkZ [] = [] := rfl
    rw [hk] at cl ⊢
    refine acalls_empty fun a c => ?_
    cases a with
    | none =>
      have st := SoundZ_m [] 0 (by simp)
      rw [hs] at st
      refine z10 Try.func44 rfl (by decide +kernel) (by rw [Try.ntmps44]; simp) ?_; rw [Try.ntmps44]; simp only [frOf]
      (repeat (first | refine q0 ?_ | refine x7 rfl ?_ | refine j7 rfl ?_ | refine z6 ?_ | (refine j0 fun K hK => ?_) | (refine x4 (by kernel_rfl) (by kernel_rfl) fun K hK => ?_) | ((first | refine q6 ?_ | refine x6 ?_ | ((first | refine q4 (hK _ ?_) | refine q5 (hK _ _ (j4 (by kernel_rfl)) ?_)); clear hK K)); (first | show AWP _ _ _ _ _ | ((try simp only [j6]); first | show loopQ _ _ _ _ _ _ | show cutQ _ _ _ _ | show AWP _ _ _ _ _))) | ((first | refine q8 [] rfl ?_ | refine z8 [] rfl ?_); simp (maxSteps := 2000000) (disch := omega) only [go_sem, seval]; (repeat (first | refine ⟨by omega, ?_⟩ | refine ⟨True.intro, ?_⟩)))))
      (refine walkS_cons _ (step_mcall [(5, 5)] rfl rfl rfl rfl rfl rfl (CloneZ_nil c (rowZ [])) rfl (namesOK_of (by repeat (first | exact trivial | refine ⟨rfl, ?_⟩)) (by kernel_rfl))) ?_); simp (maxSteps := 2000000) (disch := omega) only [go_sem, seval]
      (repeat (first | refine q0 ?_ | refine x7 rfl ?_ | refine j7 rfl ?_ | refine z6 ?_ | (refine j0 fun K hK => ?_) | (refine x4 (by kernel_rfl) (by kernel_rfl) fun K hK => ?_) | ((first | refine q6 ?_ | refine x6 ?_ | ((first | refine q4 (hK _ ?_) | refine q5 (hK _ _ (j4 (by kernel_rfl)) ?_)); clear hK K)); (first | show AWP _ _ _ _ _ | ((try simp only [j6]); first | show loopQ _ _ _ _ _ _ | show cutQ _ _ _ _ | show AWP _ _ _ _ _))) | ((first | refine q8 [] rfl ?_ | refine z8 [] rfl ?_); simp (maxSteps := 2000000) (disch := omega) only [go_sem, seval]; (repeat (first | refine ⟨by omega, ?_⟩ | refine ⟨True.intro, ?_⟩)))))
      (refine walkS_cons _ (step_mcall [(1000, 5)] rfl rfl rfl rfl rfl rfl (st) rfl (namesOK_of (by repeat (first | exact trivial | refine ⟨rfl, ?_⟩)) (by kernel_rfl))) ?_); simp (maxSteps := 2000000) (disch := omega) only [go_sem, seval]
      (repeat ((fail_if_success (show AWP _ _ (.region 5 _ _) _ _)); first | refine q0 ?_ | refine x7 rfl ?_ | refine j7 rfl ?_ | refine z6 ?_ | (refine j0 fun K hK => ?_) | (refine x4 (by kernel_rfl) (by kernel_rfl) fun K hK => ?_) | ((first | refine q6 ?_ | refine x6 ?_ | ((first | refine q4 (hK _ ?_) | refine q5 (hK _ _ (j4 (by kernel_rfl)) ?_)); clear hK K)); (first | show AWP _ _ _ _ _ | ((try simp only [j6]); first | show loopQ _ _ _ _ _ _ | show cutQ _ _ _ _ | show AWP _ _ _ _ _))) | ((first | refine q8 [] rfl ?_ | refine z8 [] rfl ?_); simp (maxSteps := 2000000) (disch := omega) only [go_sem, seval]; (repeat (first | refine ⟨by omega, ?_⟩ | refine ⟨True.intro, ?_⟩)))))
      refine awp_freeze 3 5 0 1 0 3 _ rfl rfl ?_
      refine awp_slot 3 _ (.p (.d (.sl 1 ([] : List Int).length (rowZ [])))) rfl (le_sl rfl (fun i hi => by omega)) ?_
      (repeat (first | refine q0 ?_ | refine x7 rfl ?_ | refine j7 rfl ?_ | refine z6 ?_ | (refine j0 fun K hK => ?_) | (refine x4 (by kernel_rfl) (by kernel_rfl) fun K hK => ?_) | ((first | refine q6 ?_ | refine x6 ?_ | ((first | refine q4 (hK _ ?_) | refine q5 (hK _ _ (j4 (by kernel_rfl)) ?_)); clear hK K)); (first | show AWP _ _ _ _ _ | ((try simp only [j6]); first | show loopQ _ _ _ _ _ _ | show cutQ _ _ _ _ | show AWP _ _ _ _ _))) | ((first | refine x9 rfl rfl rfl ?_ | refine j9 rfl rfl rfl ?_); simp (maxSteps := 2000000) (disch := omega) only [go_sem, seval]; (first | refine ⟨_, cl, ?_⟩)) | ((first | refine q8 [] rfl ?_ | refine z8 [] rfl ?_); simp (maxSteps := 2000000) (disch := omega) only [go_sem, seval]; (repeat (first | refine ⟨by omega, ?_⟩ | refine ⟨True.intro, ?_⟩)))))
      refine q10 ⟨_, ?_, rfl⟩; rw [Try.results44]; simp (disch := omega) only [ResVars, ResVar, ptrLoc, go_sem, seval]
    | some a =>
      have st := SoundZ_m [] 1 (by simp)
      rw [hs] at st
      refine z10 Try.func44 rfl (by decide +kernel) (by rw [Try.ntmps44]; simp) ?_; rw [Try.ntmps44]; simp only [frOf]
      (repeat (first | refine q0 ?_ | refine x7 rfl ?_ | refine j7 rfl ?_ | refine z6 ?_ | (refine j0 fun K hK => ?_) | (refine x4 (by kernel_rfl) (by kernel_rfl) fun K hK => ?_) | ((first | refine q6 ?_ | refine x6 ?_ | ((first | refine q4 (hK _ ?_) | refine q5 (hK _ _ (j4 (by kernel_rfl)) ?_)); clear hK K)); (first | show AWP _ _ _ _ _ | ((try simp only [j6]); first | show loopQ _ _ _ _ _ _ | show cutQ _ _ _ _ | show AWP _ _ _ _ _))) | ((first | refine q8 [] rfl ?_ | refine z8 [] rfl ?_); simp (maxSteps := 2000000) (disch := omega) only [go_sem, seval]; (repeat (first | refine ⟨by omega, ?_⟩ | refine ⟨True.intro, ?_⟩)))))
      (refine walkS_cons _ (step_mcall [(5, 5)] rfl rfl rfl rfl rfl rfl (CloneZ_emp a c (rowZ [])) rfl (namesOK_of (by repeat (first | exact trivial | refine ⟨rfl, ?_⟩)) (by kernel_rfl))) ?_); simp (maxSteps := 2000000) (disch := omega) only [go_sem, seval]
      (repeat (first | refine q0 ?_ | refine x7 rfl ?_ | refine j7 rfl ?_ | refine z6 ?_ | (refine j0 fun K hK => ?_) | (refine x4 (by kernel_rfl) (by kernel_rfl) fun K hK => ?_) | ((first | refine q6 ?_ | refine x6 ?_ | ((first | refine q4 (hK _ ?_) | refine q5 (hK _ _ (j4 (by kernel_rfl)) ?_)); clear hK K)); (first | show AWP _ _ _ _ _ | ((try simp only [j6]); first | show loopQ _ _ _ _ _ _ | show cutQ _ _ _ _ | show AWP _ _ _ _ _))) | ((first | refine q8 [] rfl ?_ | refine z8 [] rfl ?_); simp (maxSteps := 2000000) (disch := omega) only [go_sem, seval]; (repeat (first | refine ⟨by omega, ?_⟩ | refine ⟨True.intro, ?_⟩)))))
      (refine walkS_cons _ (step_mcall [(1000, 5)] rfl rfl rfl rfl rfl rfl (st) rfl (namesOK_of (by repeat (first | exact trivial | refine ⟨rfl, ?_⟩)) (by kernel_rfl))) ?_); simp (maxSteps := 2000000) (disch := omega) only [go_sem, seval]
      (repeat ((fail_if_success (show AWP _ _ (.region 5 _ _) _ _)); first | refine q0 ?_ | refine x7 rfl ?_ | refine j7 rfl ?_ | refine z6 ?_ | (refine j0 fun K hK => ?_) | (refine x4 (by kernel_rfl) (by kernel_rfl) fun K hK => ?_) | ((first | refine q6 ?_ | refine x6 ?_ | ((first | refine q4 (hK _ ?_) | refine q5 (hK _ _ (j4 (by kernel_rfl)) ?_)); clear hK K)); (first | show AWP _ _ _ _ _ | ((try simp only [j6]); first | show loopQ _ _ _ _ _ _ | show cutQ _ _ _ _ | show AWP _ _ _ _ _))) | ((first | refine q8 [] rfl ?_ | refine z8 [] rfl ?_); simp (maxSteps := 2000000) (disch := omega) only [go_sem, seval]; (repeat (first | refine ⟨by omega, ?_⟩ | refine ⟨True.intro, ?_⟩)))))
      refine awp_freeze 3 5 1 1 0 3 _ rfl rfl ?_
      refine awp_slot 3 _ (.p (.d (.sl 1 ([] : List Int).length (rowZ [])))) rfl (le_sl rfl (fun i hi => by omega)) ?_
      (repeat (first | refine q0 ?_ | refine x7 rfl ?_ | refine j7 rfl ?_ | refine z6 ?_ | (refine j0 fun K hK => ?_) | (refine x4 (by kernel_rfl) (by kernel_rfl) fun K hK => ?_) | ((first | refine q6 ?_ | refine x6 ?_ | ((first | refine q4 (hK _ ?_) | refine q5 (hK _ _ (j4 (by kernel_rfl)) ?_)); clear hK K)); (first | show AWP _ _ _ _ _ | ((try simp only [j6]); first | show loopQ _ _ _ _ _ _ | show cutQ _ _ _ _ | show AWP _ _ _ _ _))) | ((first | refine x9 rfl rfl rfl ?_ | refine j9 rfl rfl rfl ?_); simp (maxSteps := 2000000) (disch := omega) only [go_sem, seval]; (first | refine ⟨_, cl, ?_⟩)) | ((first | refine q8 [] rfl ?_ | refine z8 [] rfl ?_); simp (maxSteps := 2000000) (disch := omega) only [go_sem, seval]; (repeat (first | refine ⟨by omega, ?_⟩ | refine ⟨True.intro, ?_⟩)))))
      refine q10 ⟨_, ?_, rfl⟩; rw [Try.results44]; simp (disch := omega) only [ResVars, ResVar, ptrLoc, go_sem, seval]
  · have st := SoundZ_m l 1 hl
    have c1 := CloneZ_some l.length (rowZ l) (by omega) hl
    cases hs : soundZ l
    · have hk : mkZ l = compZ (srtZ l) := by unfold mkZ; rw [hs]; rfl
      rw [hk] at cl ⊢
      rw [hs] at st
      have s1 := SortZ_c l 1 (by omega) hl
      have e1 := srtZ_len l
      have s2 := CompactZ_c (srtZ l) 1 (by omega) (by omega)
      rw [e1] at s2
      refine z10 Try.func44 rfl (by decide +kernel) (by rw [Try.ntmps44]; simp) ?_; rw [Try.ntmps44]; simp only [frOf]
      (repeat (first | refine q0 ?_ | refine x7 rfl ?_ | refine j7 rfl ?_ | refine z6 ?_ | (refine j0 fun K hK => ?_) | (refine x4 (by kernel_rfl) (by kernel_rfl) fun K hK => ?_) | ((first | refine q6 ?_ | refine x6 ?_ | ((first | refine q4 (hK _ ?_) | refine q5 (hK _ _ (j4 (by kernel_rfl)) ?_)); clear hK K)); (first | show AWP _ _ _ _ _ | ((try simp only [j6]); first | show loopQ _ _ _ _ _ _ | show cutQ _ _ _ _ | show AWP _ _ _ _ _))) | ((first | refine q8 [] rfl ?_ | refine z8 [] rfl ?_); simp (maxSteps := 2000000) (disch := omega) only [go_sem, seval]; (repeat (first | refine ⟨by omega, ?_⟩ | refine ⟨True.intro, ?_⟩)))))
      (refine walkS_cons _ (step_mcall [(5, 5)] rfl rfl rfl rfl rfl rfl (c1) rfl (namesOK_of (by repeat (first | exact trivial | refine ⟨rfl, ?_⟩)) (by kernel_rfl))) ?_); simp (maxSteps := 2000000) (disch := omega) only [go_sem, seval]
      (repeat (first | refine q0 ?_ | refine x7 rfl ?_ | refine j7 rfl ?_ | refine z6 ?_ | (refine j0 fun K hK => ?_) | (refine x4 (by kernel_rfl) (by kernel_rfl) fun K hK => ?_) | ((first | refine q6 ?_ | refine x6 ?_ | ((first | refine q4 (hK _ ?_) | refine q5 (hK _ _ (j4 (by kernel_rfl)) ?_)); clear hK K)); (first | show AWP _ _ _ _ _ | ((try simp only [j6]); first | show loopQ _ _ _ _ _ _ | show cutQ _ _ _ _ | show AWP _ _ _ _ _))) | ((first | refine q8 [] rfl ?_ | refine z8 [] rfl ?_); simp (maxSteps := 2000000) (disch := omega) only [go_sem, seval]; (repeat (first | refine ⟨by omega, ?_⟩ | refine ⟨True.intro, ?_⟩)))))
      (refine walkS_cons _ (step_mcall [(1000, 5)] rfl rfl rfl rfl rfl rfl (st) rfl (namesOK_of (by repeat (first | exact trivial | refine ⟨rfl, ?_⟩)) (by kernel_rfl))) ?_); simp (maxSteps := 2000000) (disch := omega) only [go_sem, seval]
      (repeat (first | refine q0 ?_ | refine x7 rfl ?_ | refine j7 rfl ?_ | refine z6 ?_ | (refine j0 fun K hK => ?_) | (refine x4 (by kernel_rfl) (by kernel_rfl) fun K hK => ?_) | ((first | refine q6 ?_ | refine x6 ?_ | ((first | refine q4 (hK _ ?_) | refine q5 (hK _ _ (j4 (by kernel_rfl)) ?_)); clear hK K)); (first | show AWP _ _ _ _ _ | ((try simp only [j6]); first | show loopQ _ _ _ _ _ _ | show cutQ _ _ _ _ | show AWP _ _ _ _ _))) | ((first | refine q8 [] rfl ?_ | refine z8 [] rfl ?_); simp (maxSteps := 2000000) (disch := omega) only [go_sem, seval]; (repeat (first | refine ⟨by omega, ?_⟩ | refine ⟨True.intro, ?_⟩)))))
      (refine walkS_cons _ (step_mcall [(1000, 5)] rfl rfl rfl rfl rfl rfl (s1) rfl (namesOK_of (by repeat (first | exact trivial | refine ⟨rfl, ?_⟩)) (by kernel_rfl))) ?_); simp (maxSteps := 2000000) (disch := omega) only [go_sem, seval]
      (repeat (first | refine q0 ?_ | refine x7 rfl ?_ | refine j7 rfl ?_ | refine z6 ?_ | (refine j0 fun K hK => ?_) | (refine x4 (by kernel_rfl) (by kernel_rfl) fun K hK => ?_) | ((first | refine q6 ?_ | refine x6 ?_ | ((first | refine q4 (hK _ ?_) | refine q5 (hK _ _ (j4 (by kernel_rfl)) ?_)); clear hK K)); (first | show AWP _ _ _ _ _ | ((try simp only [j6]); first | show loopQ _ _ _ _ _ _ | show cutQ _ _ _ _ | show AWP _ _ _ _ _))) | ((first | refine q8 [] rfl ?_ | refine z8 [] rfl ?_); simp (maxSteps := 2000000) (disch := omega) only [go_sem, seval]; (repeat (first | refine ⟨by omega, ?_⟩ | refine ⟨True.intro, ?_⟩)))))
      (refine walkS_cons _ (step_mcall [(1000, 5)] rfl rfl rfl rfl rfl rfl (s2) rfl (namesOK_of (by repeat (first | exact trivial | refine ⟨rfl, ?_⟩)) (by kernel_rfl))) ?_); simp (maxSteps := 2000000) (disch := omega) only [go_sem, seval]
      (repeat ((fail_if_success (show AWP _ _ (.region 5 _ _) _ _)); first | refine q0 ?_ | refine x7 rfl ?_ | refine j7 rfl ?_ | refine z6 ?_ | (refine j0 fun K hK => ?_) | (refine x4 (by kernel_rfl) (by kernel_rfl) fun K hK => ?_) | ((first | refine q6 ?_ | refine x6 ?_ | ((first | refine q4 (hK _ ?_) | refine q5 (hK _ _ (j4 (by kernel_rfl)) ?_)); clear hK K)); (first | show AWP _ _ _ _ _ | ((try simp only [j6]); first | show loopQ _ _ _ _ _ _ | show cutQ _ _ _ _ | show AWP _ _ _ _ _))) | ((first | refine q8 [] rfl ?_ | refine z8 [] rfl ?_); simp (maxSteps := 2000000) (disch := omega) only [go_sem, seval]; (repeat (first | refine ⟨by omega, ?_⟩ | refine ⟨True.intro, ?_⟩)))))
      refine awp_freeze 3 5 2 1 (compZ (srtZ l)).length 3 _ rfl rfl ?_
      (repeat (first | refine q0 ?_ | refine x7 rfl ?_ | refine j7 rfl ?_ | refine z6 ?_ | (refine j0 fun K hK => ?_) | (refine x4 (by kernel_rfl) (by kernel_rfl) fun K hK => ?_) | ((first | refine q6 ?_ | refine x6 ?_ | ((first | refine q4 (hK _ ?_) | refine q5 (hK _ _ (j4 (by kernel_rfl)) ?_)); clear hK K)); (first | show AWP _ _ _ _ _ | ((try simp only [j6]); first | show loopQ _ _ _ _ _ _ | show cutQ _ _ _ _ | show AWP _ _ _ _ _))) | ((first | refine x9 rfl rfl rfl ?_ | refine j9 rfl rfl rfl ?_); simp (maxSteps := 2000000) (disch := omega) only [go_sem, seval]; (first | refine ⟨_, cl, ?_⟩)) | ((first | refine q8 [] rfl ?_ | refine z8 [] rfl ?_); simp (maxSteps := 2000000) (disch := omega) only [go_sem, seval]; (repeat (first | refine ⟨by omega, ?_⟩ | refine ⟨True.intro, ?_⟩)))))
      refine q10 ⟨_, ?_, rfl⟩; rw [Try.results44]; simp (disch := omega) only [ResVars, ResVar, ptrLoc, go_sem, seval]
    · have hk : mkZ l = l := by unfold mkZ; rw [hs]; rfl
      rw [hk] at cl ⊢
      rw [hs] at st
      refine z10 Try.func44 rfl (by decide +kernel) (by rw [Try.ntmps44]; simp) ?_; rw [Try.ntmps44]; simp only [frOf]
      (repeat (first | refine q0 ?_ | refine x7 rfl ?_ | refine j7 rfl ?_ | refine z6 ?_ | (refine j0 fun K hK => ?_) | (refine x4 (by kernel_rfl) (by kernel_rfl) fun K hK => ?_) | ((first | refine q6 ?_ | refine x6 ?_ | ((first | refine q4 (hK _ ?_) | refine q5 (hK _ _ (j4 (by kernel_rfl)) ?_)); clear hK K)); (first | show AWP _ _ _ _ _ | ((try simp only [j6]); first | show loopQ _ _ _ _ _ _ | show cutQ _ _ _ _ | show AWP _ _ _ _ _))) | ((first | refine q8 [] rfl ?_ | refine z8 [] rfl ?_); simp (maxSteps := 2000000) (disch := omega) only [go_sem, seval]; (repeat (first | refine ⟨by omega, ?_⟩ | refine ⟨True.intro, ?_⟩)))))
      (refine walkS_cons _ (step_mcall [(5, 5)] rfl rfl rfl rfl rfl rfl (c1) rfl (namesOK_of (by repeat (first | exact trivial | refine ⟨rfl, ?_⟩)) (by kernel_rfl))) ?_); simp (maxSteps := 2000000) (disch := omega) only [go_sem, seval]
      (repeat (first | refine q0 ?_ | refine x7 rfl ?_ | refine j7 rfl ?_ | refine z6 ?_ | (refine j0 fun K hK => ?_) | (refine x4 (by kernel_rfl) (by kernel_rfl) fun K hK => ?_) | ((first | refine q6 ?_ | refine x6 ?_ | ((first | refine q4 (hK _ ?_) | refine q5 (hK _ _ (j4 (by kernel_rfl)) ?_)); clear hK K)); (first | show AWP _ _ _ _ _ | ((try simp only [j6]); first | show loopQ _ _ _ _ _ _ | show cutQ _ _ _ _ | show AWP _ _ _ _ _))) | ((first | refine q8 [] rfl ?_ | refine z8 [] rfl ?_); simp (maxSteps := 2000000) (disch := omega) only [go_sem, seval]; (repeat (first | refine ⟨by omega, ?_⟩ | refine ⟨True.intro, ?_⟩)))))
      (refine walkS_cons _ (step_mcall [(1000, 5)] rfl rfl rfl rfl rfl rfl (st) rfl (namesOK_of (by repeat (first | exact trivial | refine ⟨rfl, ?_⟩)) (by kernel_rfl))) ?_); simp (maxSteps := 2000000) (disch := omega) only [go_sem, seval]
      (repeat ((fail_if_success (show AWP _ _ (.region 5 _ _) _ _)); first | refine q0 ?_ | refine x7 rfl ?_ | refine j7 rfl ?_ | refine z6 ?_ | (refine j0 fun K hK => ?_) | (refine x4 (by kernel_rfl) (by kernel_rfl) fun K hK => ?_) | ((first | refine q6 ?_ | refine x6 ?_ | ((first | refine q4 (hK _ ?_) | refine q5 (hK _ _ (j4 (by kernel_rfl)) ?_)); clear hK K)); (first | show AWP _ _ _ _ _ | ((try simp only [j6]); first | show loopQ _ _ _ _ _ _ | show cutQ _ _ _ _ | show AWP _ _ _ _ _))) | ((first | refine q8 [] rfl ?_ | refine z8 [] rfl ?_); simp (maxSteps := 2000000) (disch := omega) only [go_sem, seval]; (repeat (first | refine ⟨by omega, ?_⟩ | refine ⟨True.intro, ?_⟩)))))
      refine awp_freeze 3 5 1 1 l.length 3 _ rfl rfl ?_
      (repeat (first | refine q0 ?_ | refine x7 rfl ?_ | refine j7 rfl ?_ | refine z6 ?_ | (refine j0 fun K hK => ?_) | (refine x4 (by kernel_rfl) (by kernel_rfl) fun K hK => ?_) | ((first | refine q6 ?_ | refine x6 ?_ | ((first | refine q4 (hK _ ?_) | refine q5 (hK _ _ (j4 (by kernel_rfl)) ?_)); clear hK K)); (first | show AWP _ _ _ _ _ | ((try simp only [j6]); first | show loopQ _ _ _ _ _ _ | show cutQ _ _ _ _ | show AWP _ _ _ _ _))) | ((first | refine x9 rfl rfl rfl ?_ | refine j9 rfl rfl rfl ?_); simp (maxSteps := 2000000) (disch := omega) only [go_sem, seval]; (first | refine ⟨_, cl, ?_⟩)) | ((first | refine q8 [] rfl ?_ | refine z8 [] rfl ?_); simp (maxSteps := 2000000) (disch := omega) only [go_sem, seval]; (repeat (first | refine ⟨by omega, ?_⟩ | refine ⟨True.intro, ?_⟩)))))
      refine q10 ⟨_, ?_, rfl⟩; rw [Try.results44]; simp (disch := omega) only [ResVars, ResVar, ptrLoc, go_sem, seval]
theorem getB (zs : List Int) {i : Nat} (h : i < zs.length) : zs.toArray[i]! = zs.getD i 0 := by simp [h]
theorem comp_step {zs : List Int} (hs : zs.Pairwise (· ≤ ·)) : ∀ m, m ≤ zs.length → (Go.Lib.compactUpTo zs.toArray m).Pairwise (· < ·) ∧ (∀ x, x ∈ Go.Lib.compactUpTo zs.toArray m ↔ ∃ j, j < m ∧ zs.getD j 0 = x)
  | 0, _ => ⟨by simp [Go.Lib.compactUpTo], fun x => by simp [Go.Lib.compactUpTo]⟩
  | m + 1, h => by
    obtain ⟨i1, i2⟩ := comp_step hs m (by omega)
    have le : ∀ j, j < m → zs.getD j 0 ≤ zs.getD m 0 := fun j hj => by
      have := (List.pairwise_iff_getElem.1 hs) j m (by omega) (by omega) hj
      simpa [show j < zs.length by omega, show m < zs.length by omega] using this
    rw [Go.Lib.compactUpTo_succ]
    by_cases hk : Go.Lib.keeps zs.toArray m = true
    · rw [if_pos hk, getB zs (by omega)]
      refine ⟨List.pairwise_append.2 ⟨i1, List.pairwise_singleton _ _, fun x hx y hy => ?_⟩, fun x => ?_⟩
      · rw [List.mem_singleton] at hy; subst hy
        obtain ⟨j, hj, rfl⟩ := (i2 x).1 hx
        unfold Go.Lib.keeps at hk
        rcases of_decide_eq_true hk with h0 | h0
        · omega
        · rw [getB zs (by omega), getB zs (by omega)] at h0
          have a1 := le (m - 1) (by omega)
          have a2 : zs.getD j 0 ≤ zs.getD (m - 1) 0 := by
            by_cases hjm : j = m - 1
            · rw [hjm]; exact Int.le_refl _
            · have := (List.pairwise_iff_getElem.1 hs) j (m - 1) (by omega) (by omega) (by omega)
              simpa [show j < zs.length by omega, show m - 1 < zs.length by omega] using this
          omega
      · rw [List.mem_append, i2, List.mem_singleton]
        constructor
        · rintro (⟨j, hj, e⟩ | e)
          · exact ⟨j, by omega, e⟩
          · exact ⟨m, by omega, e.symm⟩
        · rintro ⟨j, hj, e⟩
          by_cases hjm : j = m
          · right; rw [← e, hjm]
          · exact .inl ⟨j, by omega, e⟩
    · rw [if_neg hk, List.append_nil]
      refine ⟨i1, fun x => ?_⟩
      rw [i2]
      constructor
      · rintro ⟨j, hj, e⟩; exact ⟨j, by omega, e⟩
      · rintro ⟨j, hj, e⟩
        by_cases hjm : j = m
        · unfold Go.Lib.keeps at hk
          have hk' : ¬ (m = 0 ∨ zs.toArray[m]! ≠ zs.toArray[m - 1]!) := fun h => hk (decide_eq_true h)
          have h0 : m ≠ 0 := fun h => hk' (.inl h)
          have h1 : zs.toArray[m]! = zs.toArray[m - 1]! := Classical.byContradiction fun h => hk' (.inr h)
          rw [getB zs (by omega), getB zs (by omega)] at h1
          exact ⟨m - 1, by omega, by rw [← e, hjm, h1]⟩
        · exact ⟨j, by omega, e⟩
theorem srt_le (l : List Int) : (srtZ l).Pairwise (· ≤ ·) := by
  have := List.pairwise_mergeSort (le := fun x y : Int => decide (x ≤ y)) (fun a b c h1 h2 => by simp at *; omega) (fun a b => by simp; omega) l
  exact this.imp (fun h => of_decide_eq_true h)
theorem mem_getD {l : List Int} {x : Int} : x ∈ l ↔ ∃ j, j < l.length ∧ l.getD j 0 = x := by
  rw [← contains_at]; simp
theorem mkZ_inc (l : List Int) : Inc (mkZ l) := by
  unfold mkZ
  split
  · exact inc_of (by assumption)
  · exact (comp_step (srt_le l) _ (Nat.le_refl _)).1
theorem mkZ_mem (l : List Int) (x : Int) : x ∈ mkZ l ↔ x ∈ l := by
  unfold mkZ
  split
  · rfl
  · refine Iff.trans ((comp_step (srt_le l) _ (Nat.le_refl _)).2 x) ?_
    rw [← mem_getD]
    exact (List.mergeSort_perm l _).mem_iff
theorem mkZ_contains (l : List Int) (x : Int) : (mkZ l).contains x = l.contains x := by
  have := mkZ_mem l x
  rw [Bool.eq_iff_iff]; simpa using this
theorem HasS_c (l : List Int) (x : Int) (hl : l.length ≤ 1099511627776) : ACalls Try.prog 27 [.d (.sl 1 l.length (rowZ l)), .d (.v (.int .i64 x))] (· = [.d (.v (.bool (l.contains x)))]) := by
  have c1 := MakeS_c l hl
  have c2 := hasS_c (mkZ l) x (mkZ_inc l) (Nat.le_trans (mkZ_len l) hl)
  rw [mkZ_contains] at c2
  generalize l.contains x = b at c2
  refine z10 Try.func27 rfl (by decide +kernel) (by rw [Try.ntmps27]; simp) ?_; rw [Try.ntmps27]; simp only [frOf]
  (repeat (first | refine q0 ?_ | refine x7 rfl ?_ | refine j7 rfl ?_ | refine z6 ?_ | (refine j0 fun K hK => ?_) | (refine x4 (by kernel_rfl) (by kernel_rfl) fun K hK => ?_) | ((first | refine q6 ?_ | refine x6 ?_ | ((first | refine q4 (hK _ ?_) | refine q5 (hK _ _ (j4 (by kernel_rfl)) ?_)); clear hK K)); (first | show AWP _ _ _ _ _ | ((try simp only [j6]); first | show loopQ _ _ _ _ _ _ | show cutQ _ _ _ _ | show AWP _ _ _ _ _))) | ((first | refine x9 rfl rfl rfl ?_ | refine j9 rfl rfl rfl ?_); simp (maxSteps := 2000000) (disch := omega) only [go_sem, seval]; (first | refine ⟨_, c1, ?_⟩ | refine ⟨_, c2, ?_⟩)) | ((first | refine q8 [] rfl ?_ | refine z8 [] rfl ?_); simp (maxSteps := 2000000) (disch := omega) only [go_sem, seval]; (repeat (first | refine ⟨by omega, ?_⟩ | refine ⟨True.intro, ?_⟩)))))
  refine q10 ⟨_, ?_, rfl⟩; rw [Try.results27]; simp (disch := omega) only [ResVars, ResVar, ptrLoc, go_sem, seval]
def joinZ (a b : List Int) : List Int := mkZ (a ++ b)
def lessZ (a b : List Int) : List Int := (mkZ a).filter fun x => !b.contains x
theorem JoinS_c (a b : List Int) (ha : a.length ≤ 549755813888) (hb : b.length ≤ 549755813888) : ACalls Try.prog 55 [.d (.sl 1 a.length (rowZ a)), .d (.sl 1 b.length (rowZ b))] (· = [.d (.sl 1 (joinZ a b).length (rowZ (joinZ a b)))]) := by
  unfold joinZ
  have c1 := ConcatZ_c [a, b] (fun i => [[Dat.sl 1 a.length (rowZ a)], [Dat.sl 1 b.length (rowZ b)]].getD i []) (fun i hi => by rcases i with _ | _ | i <;> first | rfl | (simp only [List.length_cons, List.length_nil] at hi; omega)) (by simp) (by simp; omega)
  simp only [List.flatten_cons, List.flatten_nil, List.append_nil, List.length_cons, List.length_nil, Nat.zero_add, Nat.reduceAdd] at c1
  have c2 := MakeS_c (a ++ b) (by simp; omega)
  refine z10 Try.func55 rfl (by decide +kernel) (by rw [Try.ntmps55]; simp) ?_; rw [Try.ntmps55]; simp only [frOf]
  (repeat (first | refine q0 ?_ | refine x7 rfl ?_ | refine j7 rfl ?_ | refine z6 ?_ | (refine j0 fun K hK => ?_) | (refine x4 (by kernel_rfl) (by kernel_rfl) fun K hK => ?_) | ((first | refine q6 ?_ | refine x6 ?_ | ((first | refine q4 (hK _ ?_) | refine q5 (hK _ _ (j4 (by kernel_rfl)) ?_)); clear hK K)); (first | show AWP _ _ _ _ _ | ((try simp only [j6]); first | show loopQ _ _ _ _ _ _ | show cutQ _ _ _ _ | show AWP _ _ _ _ _))) | ((first | refine x9 rfl rfl rfl ?_ | refine j9 rfl rfl rfl ?_); simp (maxSteps := 2000000) (disch := omega) only [go_sem, seval]; (first | refine ⟨_, c1, ?_⟩ | refine ⟨_, c2, ?_⟩)) | ((first | refine q8 [] rfl ?_ | refine z8 [] rfl ?_); simp (maxSteps := 2000000) (disch := omega) only [go_sem, seval]; (repeat (first | refine ⟨by omega, ?_⟩ | refine ⟨True.intro, ?_⟩)))))
  refine q10 ⟨_, ?_, rfl⟩; rw [Try.results55]; simp (disch := omega) only [ResVars, ResVar, ptrLoc, go_sem, seval]
theorem LessS_c (a b : List Int) (ha : a.length ≤ 1099511627776) (hb : b.length ≤ 1099511627776) : ACalls Try.prog 28 [.d (.sl 1 a.length (rowZ a)), .d (.sl 1 b.length (rowZ b))] (· = [.d (.sl 1 (lessZ a b).length (rowZ (lessZ a b)))]) := by
  unfold lessZ
  have c1 := MakeS_c a ha
  have c2 := MakeS_c b hb
  have c3 := pickS_c (mkZ a) 47 [.d (.sl 1 (mkZ b).length (rowZ (mkZ b)))] (fun x => !b.contains x) (Nat.le_trans (mkZ_len a) ha) (fun x _ => by
    have := lacksS_c (mkZ b) x (mkZ_inc b) (Nat.le_trans (mkZ_len b) hb)
    rw [mkZ_contains] at this
    exact this)
  refine z10 Try.func28 rfl (by decide +kernel) (by rw [Try.ntmps28]; simp) ?_; rw [Try.ntmps28]; simp only [frOf]
  (repeat (first | refine q0 ?_ | refine x7 rfl ?_ | refine j7 rfl ?_ | refine z6 ?_ | (refine j0 fun K hK => ?_) | (refine x4 (by kernel_rfl) (by kernel_rfl) fun K hK => ?_) | ((first | refine q6 ?_ | refine x6 ?_ | ((first | refine q4 (hK _ ?_) | refine q5 (hK _ _ (j4 (by kernel_rfl)) ?_)); clear hK K)); (first | show AWP _ _ _ _ _ | ((try simp only [j6]); first | show loopQ _ _ _ _ _ _ | show cutQ _ _ _ _ | show AWP _ _ _ _ _))) | ((first | refine x9 rfl rfl rfl ?_ | refine j9 rfl rfl rfl ?_); simp (maxSteps := 2000000) (disch := omega) only [go_sem, seval]; (first | refine ⟨_, c1, ?_⟩ | refine ⟨_, c2, ?_⟩ | refine ⟨_, c3, ?_⟩)) | ((first | refine q8 [] rfl ?_ | refine z8 [] rfl ?_); simp (maxSteps := 2000000) (disch := omega) only [go_sem, seval]; (repeat (first | refine ⟨by omega, ?_⟩ | refine ⟨True.intro, ?_⟩)))))
  refine q10 ⟨_, ?_, rfl⟩; rw [Try.results28]; simp (disch := omega) only [ResVars, ResVar, ptrLoc, go_sem, seval]
end Go.Proofs.Ytemcdefpihkfpaa
set_option linter.unusedSimpArgs false
set_option linter.unusedVariables false
namespace Go.Proofs.Ytemcdefpihkfpaa
open Go.Proofs.Ytemcdefpihkfpaa.AL
end Go.Proofs.Ytemcdefpihkfpaa
set_option linter.unusedSimpArgs false
set_option linter.unusedVariables false
namespace Go.Proofs.Ytemcdefpihkfpaa
open Go.Proofs.Ytemcdefpihkfpaa.AL
def bitsI (x : BitVec 128) (i : Fin 129) : ASt := ⟨[(4, .p (.d (.v (.int .i64 (i.val : Int))))), (3, .loc 3 0), (2, .loc 2 0), (1, .p (.d (.bx (hd x))))],
  [(3, .arr 64 128 fun j => .v (.bool (decide (j < i.val) && x.getLsbD j))), (2, .arr 64 128 fun _ => .v (.bool false))]⟩
theorem Bits_c (x : BitVec 128) : ACalls Try.prog 34 [.agg (hd x)] (· = [.arr 128 fun i => .v (.bool (x.getLsbD i))]) := by
  refine z10 Try.func34 rfl (by decide +kernel) (by rw [Try.ntmps34]; simp) ?_; rw [Try.ntmps34]; simp only [frOf]
  (repeat refine q0 ?_); (first | refine j0 fun K hK => ?_ | refine x4 (by kernel_rfl) (by kernel_rfl) fun K hK => ?_); (first | refine q7 [] _ _ ?_ | refine z7 [] _ _ _ ?_); simp (maxSteps := 2000000) (disch := omega) only [go_sem, ↓reduceIte, reduceCtorEq, Nat.reduceLT, Nat.reducePow, Nat.reduceLeDiff, Nat.reduceAdd, Nat.reduceMul, Nat.reduceSub, Nat.reduceEqDiff, Nat.reduceBEq, Int.reduceToNat, Int.reduceBEq, Int.reduceBNe, hd, cb]; (repeat refine ⟨by omega, ?_⟩); (first | (refine q4 (hK _ ?_); clear hK K; show AWP _ _ _ _ _) | (refine q5 (hK _ _ (j4 (by kernel_rfl)) ?_); clear hK K; show AWP _ _ _ _ _))
  (repeat refine q0 ?_); (first | refine j0 fun K hK => ?_ | refine x4 (by kernel_rfl) (by kernel_rfl) fun K hK => ?_); (first | refine q7 [] _ _ ?_ | refine z7 [] _ _ _ ?_); simp (maxSteps := 2000000) (disch := omega) only [go_sem, ↓reduceIte, reduceCtorEq, Nat.reduceLT, Nat.reducePow, Nat.reduceLeDiff, Nat.reduceAdd, Nat.reduceMul, Nat.reduceSub, Nat.reduceEqDiff, Nat.reduceBEq, Int.reduceToNat, Int.reduceBEq, Int.reduceBNe, hd, cb]; (repeat refine ⟨by omega, ?_⟩); (first | (refine q4 (hK _ ?_); clear hK K; show AWP _ _ _ _ _) | (refine q5 (hK _ _ (j4 (by kernel_rfl)) ?_); clear hK K; show AWP _ _ _ _ _))
  (repeat refine q0 ?_); (first | refine j0 fun K hK => ?_ | refine x4 (by kernel_rfl) (by kernel_rfl) fun K hK => ?_); (first | refine q7 [] _ _ ?_ | refine z7 [] _ _ _ ?_); simp (maxSteps := 2000000) (disch := omega) only [go_sem, ↓reduceIte, reduceCtorEq, Nat.reduceLT, Nat.reducePow, Nat.reduceLeDiff, Nat.reduceAdd, Nat.reduceMul, Nat.reduceSub, Nat.reduceEqDiff, Nat.reduceBEq, Int.reduceToNat, Int.reduceBEq, Int.reduceBNe, hd, cb]; (repeat refine ⟨by omega, ?_⟩); (first | (refine q4 (hK _ ?_); clear hK K; show AWP _ _ _ _ _) | (refine q5 (hK _ _ (j4 (by kernel_rfl)) ?_); clear hK K; show AWP _ _ _ _ _))
  refine z6 (awp_loop (bitsI x) (fun i => 128 - i.val) ⟨0, by omega⟩ ?_ (fun i => ?_))
  · unfold bitsI
    refine Weak.list ?_ ?_; (all_goals simp (disch := omega) only [AllF, AllL, j10, le_top, x10, exists_eq_left', Option.some.injEq, go_sem, ↓reduceIte, reduceCtorEq, Nat.reduceLT, Nat.reducePow, Nat.reduceLeDiff, Nat.reduceAdd, Nat.reduceMul, Nat.reduceSub, Nat.reduceEqDiff, Nat.reduceBEq, Int.reduceToNat, Int.reduceBEq, Int.reduceBNe, hd, cb]); (all_goals (repeat' (with_reducible apply And.intro))); (all_goals try (first | exact x8 rfl | (refine le_int ?_; omega) | (refine x8 ?_; simp; done)))
    exact ⟨rfl, rfl, fun i _ => by simp⟩
  unfold bitsI
  by_cases hn : i.val < 128
  · (repeat refine q0 ?_); (first | refine j0 fun K hK => ?_ | refine x4 (by kernel_rfl) (by kernel_rfl) fun K hK => ?_); (first | refine q7 [] _ _ ?_ | refine z7 [] _ _ _ ?_); simp (maxSteps := 2000000) (disch := omega) only [go_sem, ↓reduceIte, reduceCtorEq, Nat.reduceLT, Nat.reducePow, Nat.reduceLeDiff, Nat.reduceAdd, Nat.reduceMul, Nat.reduceSub, Nat.reduceEqDiff, Nat.reduceBEq, Int.reduceToNat, Int.reduceBEq, Int.reduceBNe, hd, cb]; (repeat refine ⟨by omega, ?_⟩); (first | (refine q4 (hK _ ?_); clear hK K; show AWP _ _ _ _ _) | (refine q5 (hK _ _ (j4 (by kernel_rfl)) ?_); clear hK K; show AWP _ _ _ _ _))
    (repeat refine q0 ?_); refine awp_cond rfl (fun _ => ?_) (fun ht => absurd ht (by decide))
    refine q6 ?_; show AWP _ _ _ _ _
    refine q0 (z6 ?_)
    (repeat refine q0 ?_); (first | refine j0 fun K hK => ?_ | refine x4 (by kernel_rfl) (by kernel_rfl) fun K hK => ?_); (first | refine q7 [] _ _ ?_ | refine z7 [] _ _ _ ?_); simp (maxSteps := 2000000) (disch := omega) only [go_sem, ↓reduceIte, reduceCtorEq, Nat.reduceLT, Nat.reducePow, Nat.reduceLeDiff, Nat.reduceAdd, Nat.reduceMul, Nat.reduceSub, Nat.reduceEqDiff, Nat.reduceBEq, Int.reduceToNat, Int.reduceBEq, Int.reduceBNe, hd, cb]; (repeat refine ⟨by omega, ?_⟩); (first | (refine q4 (hK _ ?_); clear hK K; show AWP _ _ _ _ _) | (refine q5 (hK _ _ (j4 (by kernel_rfl)) ?_); clear hK K; show AWP _ _ _ _ _))
    by_cases h6 : i.val < 64
    · refine awp_cond rfl (fun _ => ?_) (fun ht => by simp at ht; omega)
      (repeat refine q0 ?_); (first | refine j0 fun K hK => ?_ | refine x4 (by kernel_rfl) (by kernel_rfl) fun K hK => ?_); (first | refine q7 [] _ _ ?_ | refine z7 [] _ _ _ ?_); simp (maxSteps := 2000000) (disch := omega) only [go_sem, ↓reduceIte, reduceCtorEq, Nat.reduceLT, Nat.reducePow, Nat.reduceLeDiff, Nat.reduceAdd, Nat.reduceMul, Nat.reduceSub, Nat.reduceEqDiff, Nat.reduceBEq, Int.reduceToNat, Int.reduceBEq, Int.reduceBNe, hd, cb]; (repeat refine ⟨by omega, ?_⟩); (first | (refine q4 (hK _ ?_); clear hK K; show AWP _ _ _ _ _) | (refine q5 (hK _ _ (j4 (by kernel_rfl)) ?_); clear hK K; show AWP _ _ _ _ _))
      (repeat refine q0 ?_); (first | refine j0 fun K hK => ?_ | refine x4 (by kernel_rfl) (by kernel_rfl) fun K hK => ?_)
      (first | refine q7 [] _ _ ?_ | refine z7 [] _ _ _ ?_); simp (maxSteps := 2000000) (disch := omega) only [go_sem, ↓reduceIte, reduceCtorEq, Nat.reduceLT, Nat.reducePow, Nat.reduceLeDiff, Nat.reduceAdd, Nat.reduceMul, Nat.reduceSub, Nat.reduceEqDiff, Nat.reduceBEq, Int.reduceToNat, Int.reduceBEq, Int.reduceBNe, hd, cb]; (repeat refine ⟨by omega, ?_⟩)
      (first | (refine q4 (hK _ ?_); clear hK K; show loopQ _ _ _ _ _ _) | (refine q5 (hK _ _ (j4 (by kernel_rfl)) ?_); clear hK K; show loopQ _ _ _ _ _ _))
      refine ⟨⟨i.val + 1, by omega⟩, by simp only []; omega, ?_⟩
      refine Weak.list ?_ ?_; (all_goals simp (disch := omega) only [AllF, AllL, j10, le_top, x10, exists_eq_left', Option.some.injEq, go_sem, ↓reduceIte, reduceCtorEq, Nat.reduceLT, Nat.reducePow, Nat.reduceLeDiff, Nat.reduceAdd, Nat.reduceMul, Nat.reduceSub, Nat.reduceEqDiff, Nat.reduceBEq, Int.reduceToNat, Int.reduceBEq, Int.reduceBNe, hd, cb]); (all_goals (repeat' (with_reducible apply And.intro))); (all_goals try (first | exact x8 rfl | (refine le_int ?_; omega) | (refine x8 ?_; simp; done)))
      · refine ⟨rfl, rfl, fun j hj => ?_⟩
        simp only [rem_lo x i.val h6]
        split
        · rename_i e; subst e; simp
        · rename_i e; simp; by_cases hlt : j < i.val
          · simp [hlt, show j < i.val + 1 from by omega]
          · simp [hlt, show ¬ j < i.val + 1 from by omega]
    · refine awp_cond rfl (fun ht => by simp at ht; omega) (fun _ => ?_)
      (repeat refine q0 ?_); (first | refine j0 fun K hK => ?_ | refine x4 (by kernel_rfl) (by kernel_rfl) fun K hK => ?_); (first | refine q7 [] _ _ ?_ | refine z7 [] _ _ _ ?_); simp (maxSteps := 2000000) (disch := omega) only [go_sem, ↓reduceIte, reduceCtorEq, Nat.reduceLT, Nat.reducePow, Nat.reduceLeDiff, Nat.reduceAdd, Nat.reduceMul, Nat.reduceSub, Nat.reduceEqDiff, Nat.reduceBEq, Int.reduceToNat, Int.reduceBEq, Int.reduceBNe, hd, cb]; (repeat refine ⟨by omega, ?_⟩); (first | (refine q4 (hK _ ?_); clear hK K; show AWP _ _ _ _ _) | (refine q5 (hK _ _ (j4 (by kernel_rfl)) ?_); clear hK K; show AWP _ _ _ _ _))
      (repeat refine q0 ?_); (first | refine j0 fun K hK => ?_ | refine x4 (by kernel_rfl) (by kernel_rfl) fun K hK => ?_)
      (first | refine q7 [] _ _ ?_ | refine z7 [] _ _ _ ?_); simp (maxSteps := 2000000) (disch := omega) only [go_sem, ↓reduceIte, reduceCtorEq, Nat.reduceLT, Nat.reducePow, Nat.reduceLeDiff, Nat.reduceAdd, Nat.reduceMul, Nat.reduceSub, Nat.reduceEqDiff, Nat.reduceBEq, Int.reduceToNat, Int.reduceBEq, Int.reduceBNe, hd, cb]; (repeat refine ⟨by omega, ?_⟩)
      (first | (refine q4 (hK _ ?_); clear hK K; show loopQ _ _ _ _ _ _) | (refine q5 (hK _ _ (j4 (by kernel_rfl)) ?_); clear hK K; show loopQ _ _ _ _ _ _))
      refine ⟨⟨i.val + 1, by omega⟩, by simp only []; omega, ?_⟩
      refine Weak.list ?_ ?_; (all_goals simp (disch := omega) only [AllF, AllL, j10, le_top, x10, exists_eq_left', Option.some.injEq, go_sem, ↓reduceIte, reduceCtorEq, Nat.reduceLT, Nat.reducePow, Nat.reduceLeDiff, Nat.reduceAdd, Nat.reduceMul, Nat.reduceSub, Nat.reduceEqDiff, Nat.reduceBEq, Int.reduceToNat, Int.reduceBEq, Int.reduceBNe, hd, cb]); (all_goals (repeat' (with_reducible apply And.intro))); (all_goals try (first | exact x8 rfl | (refine le_int ?_; omega) | (refine x8 ?_; simp; done)))
      · refine ⟨rfl, rfl, fun j hj => ?_⟩
        simp only [rem_hi x i.val (by omega) hn]
        split
        · rename_i e; subst e; simp
        · rename_i e; simp; by_cases hlt : j < i.val
          · simp [hlt, show j < i.val + 1 from by omega]
          · simp [hlt, show ¬ j < i.val + 1 from by omega]
  · (repeat refine q0 ?_); (first | refine j0 fun K hK => ?_ | refine x4 (by kernel_rfl) (by kernel_rfl) fun K hK => ?_); (first | refine q7 [] _ _ ?_ | refine z7 [] _ _ _ ?_); simp (maxSteps := 2000000) (disch := omega) only [go_sem, ↓reduceIte, reduceCtorEq, Nat.reduceLT, Nat.reducePow, Nat.reduceLeDiff, Nat.reduceAdd, Nat.reduceMul, Nat.reduceSub, Nat.reduceEqDiff, Nat.reduceBEq, Int.reduceToNat, Int.reduceBEq, Int.reduceBNe, hd, cb]; (repeat refine ⟨by omega, ?_⟩); (first | (refine q4 (hK _ ?_); clear hK K; show AWP _ _ _ _ _) | (refine q5 (hK _ _ (j4 (by kernel_rfl)) ?_); clear hK K; show AWP _ _ _ _ _))
    refine awp_cond rfl (fun ht => absurd ht (by decide)) (fun _ => ?_)
    refine x6 ?_
    show AWP _ _ _ _ _
    (repeat refine q0 ?_); (first | refine j0 fun K hK => ?_ | refine x4 (by kernel_rfl) (by kernel_rfl) fun K hK => ?_); (first | refine q7 [] _ _ ?_ | refine z7 [] _ _ _ ?_); simp (maxSteps := 2000000) (disch := omega) only [go_sem, ↓reduceIte, reduceCtorEq, Nat.reduceLT, Nat.reducePow, Nat.reduceLeDiff, Nat.reduceAdd, Nat.reduceMul, Nat.reduceSub, Nat.reduceEqDiff, Nat.reduceBEq, Int.reduceToNat, Int.reduceBEq, Int.reduceBNe, hd, cb]; (repeat refine ⟨by omega, ?_⟩); (first | (refine q4 (hK _ ?_); clear hK K; show AWP _ _ _ _ _) | (refine q5 (hK _ _ (j4 (by kernel_rfl)) ?_); clear hK K; show AWP _ _ _ _ _))
    refine q10 ⟨_, ?_, rfl⟩; rw [Try.results34]; simp (disch := omega) only [ResVars, ResVar, ptrLoc, go_sem, ↓reduceIte, reduceCtorEq, Nat.reduceLT, Nat.reducePow, Nat.reduceLeDiff, Nat.reduceAdd, Nat.reduceMul, Nat.reduceSub, Nat.reduceEqDiff, Nat.reduceBEq, Int.reduceToNat, Int.reduceBEq, Int.reduceBNe, hd, cb]
    simp only [PV.arr.injEq, true_and]
    funext j
    by_cases hlt : j < i.val
    · simp [hlt]
    · simp [hlt, BitVec.getLsbD_of_ge x j (by omega)]
end Go.Proofs.Ytemcdefpihkfpaa
set_option linter.unusedSimpArgs false
set_option linter.unusedVariables false
namespace Go.Proofs.Ytemcdefpihkfpaa
open Go.Proofs.Ytemcdefpihkfpaa.AL
def textI (k : Cube) (s : {i : Fin 129 // ∀ j, j < i.val → k.v.getLsbD j = true → k.c.getLsbD j = true}) : ASt :=
  ⟨[(7, .p (.d (.v (.int .i64 (s.val.val : Int))))), (6, .row 15 1 0 128), (5, .loc 5 0), (4, .loc 4 0)],
   [(15, .arr 5 128 fun j => .v (.int .u8 (if 127 - j < s.val.val then chI k (127 - j) else 0))), (5, .arr 64 128 fun j => .v (.bool (k.c.getLsbD j))), (4, .arr 64 128 fun j => .v (.bool (k.v.getLsbD j)))]⟩
theorem text_step (k : Cube) (c : Int) (i j : Nat) (hi : i < 128) (hj : j < 128) (hc : chI k i = c) :
    (if j = 127 - i then Dat.v (.int .u8 c) else Dat.v (.int .u8 (if 127 - j < i then chI k (127 - j) else 0))) = Dat.v (.int .u8 (if 127 - j < i + 1 then chI k (127 - j) else 0)) := by
  by_cases h : j = 127 - i
  · rw [if_pos h, if_pos (by omega), show 127 - j = i from by omega, hc]
  · rw [if_neg h]
    by_cases h2 : 127 - j < i
    · rw [if_pos h2, if_pos (by omega)]
    · rw [if_neg h2, if_neg (by omega)]
theorem Text_c (k : Cube) : ACalls Try.prog 13 [.agg (cb k)] (· = [.d (.v (.string (if k.sound then txt k else ⟨#[]⟩))), .d (.v (.bool k.sound))]) := by
  refine z10 Try.func13 rfl (by decide +kernel) (by rw [Try.ntmps13]; simp) ?_; rw [Try.ntmps13]; simp only [frOf]
  (repeat refine q0 ?_); (first | refine j0 fun K hK => ?_ | refine x4 (by kernel_rfl) (by kernel_rfl) fun K hK => ?_); (first | refine q7 [] _ _ ?_ | refine z7 [] _ _ _ ?_); simp (maxSteps := 2000000) (disch := omega) only [go_sem, ↓reduceIte, reduceCtorEq, Nat.reduceLT, Nat.reducePow, Nat.reduceLeDiff, Nat.reduceAdd, Nat.reduceMul, Nat.reduceSub, Nat.reduceEqDiff, Nat.reduceBEq, Int.reduceToNat, Int.reduceBEq, Int.reduceBNe, hd, cb]; (repeat refine ⟨by omega, ?_⟩); (first | (refine q4 (hK _ ?_); clear hK K; show AWP _ _ _ _ _) | (refine q5 (hK _ _ (j4 (by kernel_rfl)) ?_); clear hK K; show AWP _ _ _ _ _))
  (repeat refine q0 ?_); (first | refine j0 fun K hK => ?_ | refine x4 (by kernel_rfl) (by kernel_rfl) fun K hK => ?_)
  (first | refine q7 [] _ _ ?_ | refine z7 [] _ _ _ ?_); simp (maxSteps := 2000000) (disch := omega) only [go_sem, ↓reduceIte, reduceCtorEq, Nat.reduceLT, Nat.reducePow, Nat.reduceLeDiff, Nat.reduceAdd, Nat.reduceMul, Nat.reduceSub, Nat.reduceEqDiff, Nat.reduceBEq, Int.reduceToNat, Int.reduceBEq, Int.reduceBNe, hd, cb]; (repeat refine ⟨by omega, ?_⟩)
  (first | refine x9 rfl rfl rfl ?_ | refine j9 rfl rfl rfl ?_); simp (maxSteps := 2000000) (disch := omega) only [go_sem, ↓reduceIte, reduceCtorEq, Nat.reduceLT, Nat.reducePow, Nat.reduceLeDiff, Nat.reduceAdd, Nat.reduceMul, Nat.reduceSub, Nat.reduceEqDiff, Nat.reduceBEq, Int.reduceToNat, Int.reduceBEq, Int.reduceBNe, hd, cb]
  refine ⟨_, Bits_c k.v, ?_⟩
  (first | refine q7 [] _ _ ?_ | refine z7 [] _ _ _ ?_); simp (maxSteps := 2000000) (disch := omega) only [go_sem, ↓reduceIte, reduceCtorEq, Nat.reduceLT, Nat.reducePow, Nat.reduceLeDiff, Nat.reduceAdd, Nat.reduceMul, Nat.reduceSub, Nat.reduceEqDiff, Nat.reduceBEq, Int.reduceToNat, Int.reduceBEq, Int.reduceBNe, hd, cb]; (repeat refine ⟨by omega, ?_⟩)
  (first | refine x9 rfl rfl rfl ?_ | refine j9 rfl rfl rfl ?_); simp (maxSteps := 2000000) (disch := omega) only [go_sem, ↓reduceIte, reduceCtorEq, Nat.reduceLT, Nat.reducePow, Nat.reduceLeDiff, Nat.reduceAdd, Nat.reduceMul, Nat.reduceSub, Nat.reduceEqDiff, Nat.reduceBEq, Int.reduceToNat, Int.reduceBEq, Int.reduceBNe, hd, cb]
  refine ⟨_, Bits_c k.c, ?_⟩
  (first | refine q7 [] _ _ ?_ | refine z7 [] _ _ _ ?_); simp (maxSteps := 2000000) (disch := omega) only [go_sem, ↓reduceIte, reduceCtorEq, Nat.reduceLT, Nat.reducePow, Nat.reduceLeDiff, Nat.reduceAdd, Nat.reduceMul, Nat.reduceSub, Nat.reduceEqDiff, Nat.reduceBEq, Int.reduceToNat, Int.reduceBEq, Int.reduceBNe, hd, cb]; (repeat refine ⟨by omega, ?_⟩)
  (first | (refine q4 (hK _ ?_); clear hK K; show AWP _ _ _ _ _) | (refine q5 (hK _ _ (j4 (by kernel_rfl)) ?_); clear hK K; show AWP _ _ _ _ _))
  (repeat refine q0 ?_); (first | refine j0 fun K hK => ?_ | refine x4 (by kernel_rfl) (by kernel_rfl) fun K hK => ?_); (first | refine q7 [] _ _ ?_ | refine z7 [] _ _ _ ?_); simp (maxSteps := 2000000) (disch := omega) only [go_sem, ↓reduceIte, reduceCtorEq, Nat.reduceLT, Nat.reducePow, Nat.reduceLeDiff, Nat.reduceAdd, Nat.reduceMul, Nat.reduceSub, Nat.reduceEqDiff, Nat.reduceBEq, Int.reduceToNat, Int.reduceBEq, Int.reduceBNe, hd, cb]; (repeat refine ⟨by omega, ?_⟩); (first | (refine q4 (hK _ ?_); clear hK K; show AWP _ _ _ _ _) | (refine q5 (hK _ _ (j4 (by kernel_rfl)) ?_); clear hK K; show AWP _ _ _ _ _))
  (repeat refine q0 ?_); (first | refine j0 fun K hK => ?_ | refine x4 (by kernel_rfl) (by kernel_rfl) fun K hK => ?_); (first | refine q7 [] _ _ ?_ | refine z7 [] _ _ _ ?_); simp (maxSteps := 2000000) (disch := omega) only [go_sem, ↓reduceIte, reduceCtorEq, Nat.reduceLT, Nat.reducePow, Nat.reduceLeDiff, Nat.reduceAdd, Nat.reduceMul, Nat.reduceSub, Nat.reduceEqDiff, Nat.reduceBEq, Int.reduceToNat, Int.reduceBEq, Int.reduceBNe, hd, cb]; (repeat refine ⟨by omega, ?_⟩); (first | (refine q4 (hK _ ?_); clear hK K; show AWP _ _ _ _ _) | (refine q5 (hK _ _ (j4 (by kernel_rfl)) ?_); clear hK K; show AWP _ _ _ _ _))
  refine z6 (awp_loop (textI k) (fun s => 128 - s.val.val) ⟨⟨0, by omega⟩, fun j hj => by simp at hj⟩ ?_ (fun s => ?_))
  · unfold textI
    refine Weak.list ?_ ?_; (all_goals simp (disch := omega) only [AllF, AllL, j10, le_top, x10, exists_eq_left', Option.some.injEq, go_sem, ↓reduceIte, reduceCtorEq, Nat.reduceLT, Nat.reducePow, Nat.reduceLeDiff, Nat.reduceAdd, Nat.reduceMul, Nat.reduceSub, Nat.reduceEqDiff, Nat.reduceBEq, Int.reduceToNat, Int.reduceBEq, Int.reduceBNe, hd, cb]); (all_goals (repeat' (with_reducible apply And.intro))); (all_goals try (first | exact x8 rfl | (refine le_int ?_; omega) | (refine x8 ?_; simp; done)))
    · exact ⟨rfl, rfl, fun j _ => by simp⟩
  obtain ⟨⟨i, hi9⟩, hs⟩ := s
  unfold textI
  simp only [] at hs
  by_cases hn : i < 128
  · cases hv : k.v.getLsbD i <;> cases hc : k.c.getLsbD i
    all_goals
      (repeat refine q0 ?_); (first | refine j0 fun K hK => ?_ | refine x4 (by kernel_rfl) (by kernel_rfl) fun K hK => ?_); (first | refine q7 [] _ _ ?_ | refine z7 [] _ _ _ ?_); simp (maxSteps := 2000000) (disch := omega) only [go_sem, ↓reduceIte, reduceCtorEq, Nat.reduceLT, Nat.reducePow, Nat.reduceLeDiff, Nat.reduceAdd, Nat.reduceMul, Nat.reduceSub, Nat.reduceEqDiff, Nat.reduceBEq, Int.reduceToNat, Int.reduceBEq, Int.reduceBNe, hd, cb, hv, hc]; (repeat refine ⟨by omega, ?_⟩); (first | (refine q4 (hK _ ?_); clear hK K; show AWP _ _ _ _ _) | (refine q5 (hK _ _ (j4 (by kernel_rfl)) ?_); clear hK K; show AWP _ _ _ _ _))
      (repeat refine q0 ?_); refine awp_cond rfl (fun _ => ?_) (fun ht => absurd ht (by decide))
      refine q6 ?_; show AWP _ _ _ _ _
      refine q0 (z6 ?_)
      (repeat refine q0 ?_); (first | refine j0 fun K hK => ?_ | refine x4 (by kernel_rfl) (by kernel_rfl) fun K hK => ?_); (first | refine q7 [] _ _ ?_ | refine z7 [] _ _ _ ?_); simp (maxSteps := 2000000) (disch := omega) only [go_sem, ↓reduceIte, reduceCtorEq, Nat.reduceLT, Nat.reducePow, Nat.reduceLeDiff, Nat.reduceAdd, Nat.reduceMul, Nat.reduceSub, Nat.reduceEqDiff, Nat.reduceBEq, Int.reduceToNat, Int.reduceBEq, Int.reduceBNe, hd, cb, hv, hc]; (repeat refine ⟨by omega, ?_⟩); (first | (refine q4 (hK _ ?_); clear hK K; show AWP _ _ _ _ _) | (refine q5 (hK _ _ (j4 (by kernel_rfl)) ?_); clear hK K; show AWP _ _ _ _ _))
    · (repeat refine q0 ?_); refine awp_cond rfl (fun ht => absurd ht (by decide)) (fun _ => ?_); refine q6 ?_; show AWP _ _ _ _ _
      (repeat refine q0 ?_); (first | refine j0 fun K hK => ?_ | refine x4 (by kernel_rfl) (by kernel_rfl) fun K hK => ?_); (first | refine q7 [] _ _ ?_ | refine z7 [] _ _ _ ?_); simp (maxSteps := 2000000) (disch := omega) only [go_sem, ↓reduceIte, reduceCtorEq, Nat.reduceLT, Nat.reducePow, Nat.reduceLeDiff, Nat.reduceAdd, Nat.reduceMul, Nat.reduceSub, Nat.reduceEqDiff, Nat.reduceBEq, Int.reduceToNat, Int.reduceBEq, Int.reduceBNe, hd, cb, hv, hc]; (repeat refine ⟨by omega, ?_⟩); (first | (refine q4 (hK _ ?_); clear hK K; show AWP _ _ _ _ _) | (refine q5 (hK _ _ (j4 (by kernel_rfl)) ?_); clear hK K; show AWP _ _ _ _ _))
      (repeat refine q0 ?_); (first | refine j0 fun K hK => ?_ | refine x4 (by kernel_rfl) (by kernel_rfl) fun K hK => ?_); (first | refine q7 [] _ _ ?_ | refine z7 [] _ _ _ ?_); simp (maxSteps := 2000000) (disch := omega) only [go_sem, ↓reduceIte, reduceCtorEq, Nat.reduceLT, Nat.reducePow, Nat.reduceLeDiff, Nat.reduceAdd, Nat.reduceMul, Nat.reduceSub, Nat.reduceEqDiff, Nat.reduceBEq, Int.reduceToNat, Int.reduceBEq, Int.reduceBNe, hd, cb, hv, hc]; (repeat refine ⟨by omega, ?_⟩); (first | (refine q4 (hK _ ?_); clear hK K; show AWP _ _ _ _ _) | (refine q5 (hK _ _ (j4 (by kernel_rfl)) ?_); clear hK K; show AWP _ _ _ _ _))
      (repeat refine q0 ?_); refine awp_cond rfl (fun ht => absurd ht (by decide)) (fun _ => ?_); refine q6 ?_; show AWP _ _ _ _ _
      (repeat refine q0 ?_); (first | refine j0 fun K hK => ?_ | refine x4 (by kernel_rfl) (by kernel_rfl) fun K hK => ?_); (first | refine q7 [] _ _ ?_ | refine z7 [] _ _ _ ?_); simp (maxSteps := 2000000) (disch := omega) only [go_sem, ↓reduceIte, reduceCtorEq, Nat.reduceLT, Nat.reducePow, Nat.reduceLeDiff, Nat.reduceAdd, Nat.reduceMul, Nat.reduceSub, Nat.reduceEqDiff, Nat.reduceBEq, Int.reduceToNat, Int.reduceBEq, Int.reduceBNe, hd, cb, hv, hc]; (repeat refine ⟨by omega, ?_⟩); (first | (refine q4 (hK _ ?_); clear hK K; show AWP _ _ _ _ _) | (refine q5 (hK _ _ (j4 (by kernel_rfl)) ?_); clear hK K; show AWP _ _ _ _ _))
      (repeat refine q0 ?_); refine awp_cond rfl (fun ht => absurd ht (by decide)) (fun _ => ?_); refine q6 ?_; show AWP _ _ _ _ _
      (repeat refine q0 ?_); (first | refine j0 fun K hK => ?_ | refine x4 (by kernel_rfl) (by kernel_rfl) fun K hK => ?_); (first | refine q7 [] _ _ ?_ | refine z7 [] _ _ _ ?_); simp (maxSteps := 2000000) (disch := omega) only [go_sem, ↓reduceIte, reduceCtorEq, Nat.reduceLT, Nat.reducePow, Nat.reduceLeDiff, Nat.reduceAdd, Nat.reduceMul, Nat.reduceSub, Nat.reduceEqDiff, Nat.reduceBEq, Int.reduceToNat, Int.reduceBEq, Int.reduceBNe, hd, cb, hv, hc]; (repeat refine ⟨by omega, ?_⟩); (first | (refine q4 (hK _ ?_); clear hK K; show AWP _ _ _ _ _) | (refine q5 (hK _ _ (j4 (by kernel_rfl)) ?_); clear hK K; show AWP _ _ _ _ _))
      (repeat refine q0 ?_); (first | refine j0 fun K hK => ?_ | refine x4 (by kernel_rfl) (by kernel_rfl) fun K hK => ?_)
      (first | refine q7 [] _ _ ?_ | refine z7 [] _ _ _ ?_); simp (maxSteps := 2000000) (disch := omega) only [go_sem, ↓reduceIte, reduceCtorEq, Nat.reduceLT, Nat.reducePow, Nat.reduceLeDiff, Nat.reduceAdd, Nat.reduceMul, Nat.reduceSub, Nat.reduceEqDiff, Nat.reduceBEq, Int.reduceToNat, Int.reduceBEq, Int.reduceBNe, hd, cb, hv, hc]; (repeat refine ⟨by omega, ?_⟩)
      (first | (refine q4 (hK _ ?_); clear hK K; show loopQ _ _ _ _ _ _) | (refine q5 (hK _ _ (j4 (by kernel_rfl)) ?_); clear hK K; show loopQ _ _ _ _ _ _))
      refine ⟨⟨⟨i + 1, by omega⟩, fun j hj hvj => ?_⟩, by simp only []; omega, ?_⟩
      · by_cases e : j = i
        · subst e; first | exact hc | (rw [hv] at hvj; cases hvj)
        · exact hs j (by simp at hj; omega) hvj
      refine Weak.list ?_ ?_; (all_goals simp (disch := omega) only [AllF, AllL, j10, le_top, x10, exists_eq_left', Option.some.injEq, go_sem, ↓reduceIte, reduceCtorEq, Nat.reduceLT, Nat.reducePow, Nat.reduceLeDiff, Nat.reduceAdd, Nat.reduceMul, Nat.reduceSub, Nat.reduceEqDiff, Nat.reduceBEq, Int.reduceToNat, Int.reduceBEq, Int.reduceBNe, hd, cb, hv, hc]); (all_goals (repeat' (with_reducible apply And.intro))); (all_goals try (first | exact x8 rfl | (refine le_int ?_; omega) | (refine x8 ?_; simp; done)))
      · exact ⟨rfl, rfl, fun j hj => text_step k _ i j hn hj (by simp [chI, hv, hc])⟩
    · (repeat refine q0 ?_); refine awp_cond rfl (fun ht => absurd ht (by decide)) (fun _ => ?_); refine q6 ?_; show AWP _ _ _ _ _
      (repeat refine q0 ?_); (first | refine j0 fun K hK => ?_ | refine x4 (by kernel_rfl) (by kernel_rfl) fun K hK => ?_); (first | refine q7 [] _ _ ?_ | refine z7 [] _ _ _ ?_); simp (maxSteps := 2000000) (disch := omega) only [go_sem, ↓reduceIte, reduceCtorEq, Nat.reduceLT, Nat.reducePow, Nat.reduceLeDiff, Nat.reduceAdd, Nat.reduceMul, Nat.reduceSub, Nat.reduceEqDiff, Nat.reduceBEq, Int.reduceToNat, Int.reduceBEq, Int.reduceBNe, hd, cb, hv, hc]; (repeat refine ⟨by omega, ?_⟩); (first | (refine q4 (hK _ ?_); clear hK K; show AWP _ _ _ _ _) | (refine q5 (hK _ _ (j4 (by kernel_rfl)) ?_); clear hK K; show AWP _ _ _ _ _))
      (repeat refine q0 ?_); (first | refine j0 fun K hK => ?_ | refine x4 (by kernel_rfl) (by kernel_rfl) fun K hK => ?_); (first | refine q7 [] _ _ ?_ | refine z7 [] _ _ _ ?_); simp (maxSteps := 2000000) (disch := omega) only [go_sem, ↓reduceIte, reduceCtorEq, Nat.reduceLT, Nat.reducePow, Nat.reduceLeDiff, Nat.reduceAdd, Nat.reduceMul, Nat.reduceSub, Nat.reduceEqDiff, Nat.reduceBEq, Int.reduceToNat, Int.reduceBEq, Int.reduceBNe, hd, cb, hv, hc]; (repeat refine ⟨by omega, ?_⟩); (first | (refine q4 (hK _ ?_); clear hK K; show AWP _ _ _ _ _) | (refine q5 (hK _ _ (j4 (by kernel_rfl)) ?_); clear hK K; show AWP _ _ _ _ _))
      (repeat refine q0 ?_); refine awp_cond rfl (fun ht => absurd ht (by decide)) (fun _ => ?_); refine q6 ?_; show AWP _ _ _ _ _
      (repeat refine q0 ?_); (first | refine j0 fun K hK => ?_ | refine x4 (by kernel_rfl) (by kernel_rfl) fun K hK => ?_); (first | refine q7 [] _ _ ?_ | refine z7 [] _ _ _ ?_); simp (maxSteps := 2000000) (disch := omega) only [go_sem, ↓reduceIte, reduceCtorEq, Nat.reduceLT, Nat.reducePow, Nat.reduceLeDiff, Nat.reduceAdd, Nat.reduceMul, Nat.reduceSub, Nat.reduceEqDiff, Nat.reduceBEq, Int.reduceToNat, Int.reduceBEq, Int.reduceBNe, hd, cb, hv, hc]; (repeat refine ⟨by omega, ?_⟩); (first | (refine q4 (hK _ ?_); clear hK K; show AWP _ _ _ _ _) | (refine q5 (hK _ _ (j4 (by kernel_rfl)) ?_); clear hK K; show AWP _ _ _ _ _))
      (repeat refine q0 ?_); refine awp_cond rfl (fun _ => ?_) (fun ht => absurd ht (by decide))
      (repeat refine q0 ?_); (first | refine j0 fun K hK => ?_ | refine x4 (by kernel_rfl) (by kernel_rfl) fun K hK => ?_); (first | refine q7 [] _ _ ?_ | refine z7 [] _ _ _ ?_); simp (maxSteps := 2000000) (disch := omega) only [go_sem, ↓reduceIte, reduceCtorEq, Nat.reduceLT, Nat.reducePow, Nat.reduceLeDiff, Nat.reduceAdd, Nat.reduceMul, Nat.reduceSub, Nat.reduceEqDiff, Nat.reduceBEq, Int.reduceToNat, Int.reduceBEq, Int.reduceBNe, hd, cb, hv, hc]; (repeat refine ⟨by omega, ?_⟩); (first | (refine q4 (hK _ ?_); clear hK K; show AWP _ _ _ _ _) | (refine q5 (hK _ _ (j4 (by kernel_rfl)) ?_); clear hK K; show AWP _ _ _ _ _))
      (repeat refine q0 ?_); (first | refine j0 fun K hK => ?_ | refine x4 (by kernel_rfl) (by kernel_rfl) fun K hK => ?_); (first | refine q7 [] _ _ ?_ | refine z7 [] _ _ _ ?_); simp (maxSteps := 2000000) (disch := omega) only [go_sem, ↓reduceIte, reduceCtorEq, Nat.reduceLT, Nat.reducePow, Nat.reduceLeDiff, Nat.reduceAdd, Nat.reduceMul, Nat.reduceSub, Nat.reduceEqDiff, Nat.reduceBEq, Int.reduceToNat, Int.reduceBEq, Int.reduceBNe, hd, cb, hv, hc]; (repeat refine ⟨by omega, ?_⟩); (first | (refine q4 (hK _ ?_); clear hK K; show AWP _ _ _ _ _) | (refine q5 (hK _ _ (j4 (by kernel_rfl)) ?_); clear hK K; show AWP _ _ _ _ _))
      (repeat refine q0 ?_); (first | refine j0 fun K hK => ?_ | refine x4 (by kernel_rfl) (by kernel_rfl) fun K hK => ?_)
      (first | refine q7 [] _ _ ?_ | refine z7 [] _ _ _ ?_); simp (maxSteps := 2000000) (disch := omega) only [go_sem, ↓reduceIte, reduceCtorEq, Nat.reduceLT, Nat.reducePow, Nat.reduceLeDiff, Nat.reduceAdd, Nat.reduceMul, Nat.reduceSub, Nat.reduceEqDiff, Nat.reduceBEq, Int.reduceToNat, Int.reduceBEq, Int.reduceBNe, hd, cb, hv, hc]; (repeat refine ⟨by omega, ?_⟩)
      (first | (refine q4 (hK _ ?_); clear hK K; show loopQ _ _ _ _ _ _) | (refine q5 (hK _ _ (j4 (by kernel_rfl)) ?_); clear hK K; show loopQ _ _ _ _ _ _))
      refine ⟨⟨⟨i + 1, by omega⟩, fun j hj hvj => ?_⟩, by simp only []; omega, ?_⟩
      · by_cases e : j = i
        · subst e; first | exact hc | (rw [hv] at hvj; cases hvj)
        · exact hs j (by simp at hj; omega) hvj
      refine Weak.list ?_ ?_; (all_goals simp (disch := omega) only [AllF, AllL, j10, le_top, x10, exists_eq_left', Option.some.injEq, go_sem, ↓reduceIte, reduceCtorEq, Nat.reduceLT, Nat.reducePow, Nat.reduceLeDiff, Nat.reduceAdd, Nat.reduceMul, Nat.reduceSub, Nat.reduceEqDiff, Nat.reduceBEq, Int.reduceToNat, Int.reduceBEq, Int.reduceBNe, hd, cb, hv, hc]); (all_goals (repeat' (with_reducible apply And.intro))); (all_goals try (first | exact x8 rfl | (refine le_int ?_; omega) | (refine x8 ?_; simp; done)))
      · exact ⟨rfl, rfl, fun j hj => text_step k _ i j hn hj (by simp [chI, hv, hc])⟩
    · (repeat refine q0 ?_); refine awp_cond rfl (fun _ => ?_) (fun ht => absurd ht (by decide))
      (repeat refine q0 ?_); (first | refine j0 fun K hK => ?_ | refine x4 (by kernel_rfl) (by kernel_rfl) fun K hK => ?_); (first | refine q7 [] _ _ ?_ | refine z7 [] _ _ _ ?_); simp (maxSteps := 2000000) (disch := omega) only [go_sem, ↓reduceIte, reduceCtorEq, Nat.reduceLT, Nat.reducePow, Nat.reduceLeDiff, Nat.reduceAdd, Nat.reduceMul, Nat.reduceSub, Nat.reduceEqDiff, Nat.reduceBEq, Int.reduceToNat, Int.reduceBEq, Int.reduceBNe, hd, cb, hv, hc]; (repeat refine ⟨by omega, ?_⟩); (first | (refine q4 (hK _ ?_); clear hK K; show AWP _ _ _ _ _) | (refine q5 (hK _ _ (j4 (by kernel_rfl)) ?_); clear hK K; show AWP _ _ _ _ _))
      have hf : k.sound = false := by
        cases hf : k.sound
        · rfl
        · have := (sound_iff k).1 hf i hn hv
          rw [hc] at this; cases this
      rw [hf]
      refine q10 ⟨_, ?_, rfl⟩; rw [Try.results13]; simp (disch := omega) only [ResVars, ResVar, ptrLoc, go_sem, ↓reduceIte, reduceCtorEq, Nat.reduceLT, Nat.reducePow, Nat.reduceLeDiff, Nat.reduceAdd, Nat.reduceMul, Nat.reduceSub, Nat.reduceEqDiff, Nat.reduceBEq, Int.reduceToNat, Int.reduceBEq, Int.reduceBNe, hd, cb, hv, hc]
      try rfl
    · (repeat refine q0 ?_); refine awp_cond rfl (fun ht => absurd ht (by decide)) (fun _ => ?_); refine q6 ?_; show AWP _ _ _ _ _
      (repeat refine q0 ?_); (first | refine j0 fun K hK => ?_ | refine x4 (by kernel_rfl) (by kernel_rfl) fun K hK => ?_); (first | refine q7 [] _ _ ?_ | refine z7 [] _ _ _ ?_); simp (maxSteps := 2000000) (disch := omega) only [go_sem, ↓reduceIte, reduceCtorEq, Nat.reduceLT, Nat.reducePow, Nat.reduceLeDiff, Nat.reduceAdd, Nat.reduceMul, Nat.reduceSub, Nat.reduceEqDiff, Nat.reduceBEq, Int.reduceToNat, Int.reduceBEq, Int.reduceBNe, hd, cb, hv, hc]; (repeat refine ⟨by omega, ?_⟩); (first | (refine q4 (hK _ ?_); clear hK K; show AWP _ _ _ _ _) | (refine q5 (hK _ _ (j4 (by kernel_rfl)) ?_); clear hK K; show AWP _ _ _ _ _))
      (repeat refine q0 ?_); (first | refine j0 fun K hK => ?_ | refine x4 (by kernel_rfl) (by kernel_rfl) fun K hK => ?_); (first | refine q7 [] _ _ ?_ | refine z7 [] _ _ _ ?_); simp (maxSteps := 2000000) (disch := omega) only [go_sem, ↓reduceIte, reduceCtorEq, Nat.reduceLT, Nat.reducePow, Nat.reduceLeDiff, Nat.reduceAdd, Nat.reduceMul, Nat.reduceSub, Nat.reduceEqDiff, Nat.reduceBEq, Int.reduceToNat, Int.reduceBEq, Int.reduceBNe, hd, cb, hv, hc]; (repeat refine ⟨by omega, ?_⟩); (first | (refine q4 (hK _ ?_); clear hK K; show AWP _ _ _ _ _) | (refine q5 (hK _ _ (j4 (by kernel_rfl)) ?_); clear hK K; show AWP _ _ _ _ _))
      (repeat refine q0 ?_); refine awp_cond rfl (fun _ => ?_) (fun ht => absurd ht (by decide))
      (repeat refine q0 ?_); (first | refine j0 fun K hK => ?_ | refine x4 (by kernel_rfl) (by kernel_rfl) fun K hK => ?_); (first | refine q7 [] _ _ ?_ | refine z7 [] _ _ _ ?_); simp (maxSteps := 2000000) (disch := omega) only [go_sem, ↓reduceIte, reduceCtorEq, Nat.reduceLT, Nat.reducePow, Nat.reduceLeDiff, Nat.reduceAdd, Nat.reduceMul, Nat.reduceSub, Nat.reduceEqDiff, Nat.reduceBEq, Int.reduceToNat, Int.reduceBEq, Int.reduceBNe, hd, cb, hv, hc]; (repeat refine ⟨by omega, ?_⟩); (first | (refine q4 (hK _ ?_); clear hK K; show AWP _ _ _ _ _) | (refine q5 (hK _ _ (j4 (by kernel_rfl)) ?_); clear hK K; show AWP _ _ _ _ _))
      (repeat refine q0 ?_); (first | refine j0 fun K hK => ?_ | refine x4 (by kernel_rfl) (by kernel_rfl) fun K hK => ?_); (first | refine q7 [] _ _ ?_ | refine z7 [] _ _ _ ?_); simp (maxSteps := 2000000) (disch := omega) only [go_sem, ↓reduceIte, reduceCtorEq, Nat.reduceLT, Nat.reducePow, Nat.reduceLeDiff, Nat.reduceAdd, Nat.reduceMul, Nat.reduceSub, Nat.reduceEqDiff, Nat.reduceBEq, Int.reduceToNat, Int.reduceBEq, Int.reduceBNe, hd, cb, hv, hc]; (repeat refine ⟨by omega, ?_⟩); (first | (refine q4 (hK _ ?_); clear hK K; show AWP _ _ _ _ _) | (refine q5 (hK _ _ (j4 (by kernel_rfl)) ?_); clear hK K; show AWP _ _ _ _ _))
      (repeat refine q0 ?_); refine awp_cond rfl (fun ht => absurd ht (by decide)) (fun _ => ?_); refine q6 ?_; show AWP _ _ _ _ _
      (repeat refine q0 ?_); (first | refine j0 fun K hK => ?_ | refine x4 (by kernel_rfl) (by kernel_rfl) fun K hK => ?_); (first | refine q7 [] _ _ ?_ | refine z7 [] _ _ _ ?_); simp (maxSteps := 2000000) (disch := omega) only [go_sem, ↓reduceIte, reduceCtorEq, Nat.reduceLT, Nat.reducePow, Nat.reduceLeDiff, Nat.reduceAdd, Nat.reduceMul, Nat.reduceSub, Nat.reduceEqDiff, Nat.reduceBEq, Int.reduceToNat, Int.reduceBEq, Int.reduceBNe, hd, cb, hv, hc]; (repeat refine ⟨by omega, ?_⟩); (first | (refine q4 (hK _ ?_); clear hK K; show AWP _ _ _ _ _) | (refine q5 (hK _ _ (j4 (by kernel_rfl)) ?_); clear hK K; show AWP _ _ _ _ _))
      (repeat refine q0 ?_); (first | refine j0 fun K hK => ?_ | refine x4 (by kernel_rfl) (by kernel_rfl) fun K hK => ?_)
      (first | refine q7 [] _ _ ?_ | refine z7 [] _ _ _ ?_); simp (maxSteps := 2000000) (disch := omega) only [go_sem, ↓reduceIte, reduceCtorEq, Nat.reduceLT, Nat.reducePow, Nat.reduceLeDiff, Nat.reduceAdd, Nat.reduceMul, Nat.reduceSub, Nat.reduceEqDiff, Nat.reduceBEq, Int.reduceToNat, Int.reduceBEq, Int.reduceBNe, hd, cb, hv, hc]; (repeat refine ⟨by omega, ?_⟩)
      (first | (refine q4 (hK _ ?_); clear hK K; show loopQ _ _ _ _ _ _) | (refine q5 (hK _ _ (j4 (by kernel_rfl)) ?_); clear hK K; show loopQ _ _ _ _ _ _))
      refine ⟨⟨⟨i + 1, by omega⟩, fun j hj hvj => ?_⟩, by simp only []; omega, ?_⟩
      · by_cases e : j = i
        · subst e; first | exact hc | (rw [hv] at hvj; cases hvj)
        · exact hs j (by simp at hj; omega) hvj
      refine Weak.list ?_ ?_; (all_goals simp (disch := omega) only [AllF, AllL, j10, le_top, x10, exists_eq_left', Option.some.injEq, go_sem, ↓reduceIte, reduceCtorEq, Nat.reduceLT, Nat.reducePow, Nat.reduceLeDiff, Nat.reduceAdd, Nat.reduceMul, Nat.reduceSub, Nat.reduceEqDiff, Nat.reduceBEq, Int.reduceToNat, Int.reduceBEq, Int.reduceBNe, hd, cb, hv, hc]); (all_goals (repeat' (with_reducible apply And.intro))); (all_goals try (first | exact x8 rfl | (refine le_int ?_; omega) | (refine x8 ?_; simp; done)))
      · exact ⟨rfl, rfl, fun j hj => text_step k _ i j hn hj (by simp [chI, hv, hc])⟩
  · have h128 : i = 128 := by omega
    subst h128
    (repeat refine q0 ?_); (first | refine j0 fun K hK => ?_ | refine x4 (by kernel_rfl) (by kernel_rfl) fun K hK => ?_); (first | refine q7 [] _ _ ?_ | refine z7 [] _ _ _ ?_); simp (maxSteps := 2000000) (disch := omega) only [go_sem, ↓reduceIte, reduceCtorEq, Nat.reduceLT, Nat.reducePow, Nat.reduceLeDiff, Nat.reduceAdd, Nat.reduceMul, Nat.reduceSub, Nat.reduceEqDiff, Nat.reduceBEq, Int.reduceToNat, Int.reduceBEq, Int.reduceBNe, hd, cb]; (repeat refine ⟨by omega, ?_⟩); (first | (refine q4 (hK _ ?_); clear hK K; show AWP _ _ _ _ _) | (refine q5 (hK _ _ (j4 (by kernel_rfl)) ?_); clear hK K; show AWP _ _ _ _ _))
    refine awp_cond rfl (fun ht => absurd ht (by decide)) (fun _ => ?_)
    refine x6 ?_
    show AWP _ _ _ _ _
    (repeat refine q0 ?_); (first | refine j0 fun K hK => ?_ | refine x4 (by kernel_rfl) (by kernel_rfl) fun K hK => ?_); (first | refine q7 [] _ _ ?_ | refine z7 [] _ _ _ ?_); simp (maxSteps := 2000000) (disch := omega) only [go_sem, ↓reduceIte, reduceCtorEq, Nat.reduceLT, Nat.reducePow, Nat.reduceLeDiff, Nat.reduceAdd, Nat.reduceMul, Nat.reduceSub, Nat.reduceEqDiff, Nat.reduceBEq, Int.reduceToNat, Int.reduceBEq, Int.reduceBNe, hd, cb]; (repeat refine ⟨by omega, ?_⟩); (first | (refine q4 (hK _ ?_); clear hK K; show AWP _ _ _ _ _) | (refine q5 (hK _ _ (j4 (by kernel_rfl)) ?_); clear hK K; show AWP _ _ _ _ _))
    have hf : k.sound = true := (sound_iff k).2 fun j hj hv => hs j hj hv
    rw [hf]
    refine q10 ⟨_, ?_, rfl⟩; rw [Try.results13]; simp (disch := omega) only [ResVars, ResVar, ptrLoc, go_sem, ↓reduceIte, reduceCtorEq, Nat.reduceLT, Nat.reducePow, Nat.reduceLeDiff, Nat.reduceAdd, Nat.reduceMul, Nat.reduceSub, Nat.reduceEqDiff, Nat.reduceBEq, Int.reduceToNat, Int.reduceBEq, Int.reduceBNe, hd, cb]
    unfold txt
    congr 2
    first | done | exact List.map_congr_left fun j hj => by rw [if_pos (by omega)]
end Go.Proofs.Ytemcdefpihkfpaa
set_option linter.unusedSimpArgs false
set_option linter.unusedVariables false
namespace Go.Proofs.Ytemcdefpihkfpaa
open Go.Proofs.Ytemcdefpihkfpaa.AL
end Go.Proofs.Ytemcdefpihkfpaa
set_option linter.unusedSimpArgs false
set_option linter.unusedVariables false
namespace Go.Proofs.Ytemcdefpihkfpaa
open Go.Proofs.Ytemcdefpihkfpaa.AL
theorem catF_put {α : Type} (d : α → List Dat) (z : α) (out : List α) (c : α) (f' : Nat → List Dat) (hf : f' 0 = d c) (i : Nat) (hlt : i < out.length + 1) : catF out.length (fun i => d (out.getD i z)) f' i = d ((out ++ [c]).getD i z) := by
  unfold catF
  by_cases h : i < out.length
  · simp only [if_pos h, List.getD_eq_getElem?_getD, List.getElem?_append_left h]
  · have : i = out.length := by omega
    subst this
    simp [hf]
def rowT (l : List Cube) : Nat → List Dat := fun i => [.v (.string (txt (l.getD i ⟨0, 0⟩)))]
def other (r b : Cube) (n : Nat) : Cube := ⟨(r.v ||| (b.v &&& (ones 1 <<< n))) ^^^ (ones 1 <<< n), r.c ||| (ones 1 <<< n)⟩
end Go.Proofs.Ytemcdefpihkfpaa
set_option linter.unusedSimpArgs false
set_option linter.unusedVariables false
namespace Go.Proofs.Ytemcdefpihkfpaa
open Go.Proofs.Ytemcdefpihkfpaa.AL
theorem has_iff {k : Cube} (hk : k.sound = true) (h : BitVec 128) : hasC k h = true ↔ ∀ i, i < 128 → k.c.getLsbD i = true → h.getLsbD i = k.v.getLsbD i := by
  unfold hasC
  rw [hk, Bool.true_and, beq_iff_eq]
  constructor
  · intro e i hi hc
    have := congrArg (fun z => z.getLsbD i) e
    simpa [hc] using this
  · intro e
    apply BitVec.eq_of_getLsbD_eq
    intro i hi
    rw [BitVec.getLsbD_and]
    cases hc : k.c.getLsbD i
    · cases hv : k.v.getLsbD i
      · simp
      · rw [(sound_iff k).1 hk i hi hv] at hc; cases hc
    · rw [e i hi hc, Bool.and_true]
end Go.Proofs.Ytemcdefpihkfpaa
set_option linter.unusedSimpArgs false
set_option linter.unusedVariables false
namespace Go.Proofs.Ytemcdefpihkfpaa
open Go.Proofs.Ytemcdefpihkfpaa.AL
theorem rowT_put (out : List Cube) (c : Cube) (i : Nat) (hlt : i < out.length + 1) : catF out.length (rowT out) (fun i => [[Dat.v (.string (txt c))]].getD i []) i = rowT (out ++ [c]) i :=
  catF_put (fun k => [.v (.string (txt k))]) ⟨0, 0⟩ out c _ rfl i hlt
theorem all_take {α : Type} (p : α → Bool) (l : List α) (i : Nat) (z : α) (h : i < l.length) : (l.take (i + 1)).all p = ((l.take i).all p && p (l.getD i z)) := by
  rw [take_succ_getD l i z h, List.all_append]; simp
def textsI (l : List Cube) (s : {i : Nat // i ≤ l.length ∧ (l.take i).all Cube.sound = true}) : ASt :=
  ⟨[(5, .p (.d (.v (.int .i64 (s.val : Int))))), (4, .gr 8 s.val 1 s.val (rowT (l.take s.val))), (0, .p (.d (.sl 4 l.length (rowC l))))], [(8, .grow 9 1 s.val s.val)]⟩
def textsV (l : List Cube) : List Cube := if l.all Cube.sound then l else []
set_option maxHeartbeats 1000000 in
theorem Texts_c (l : List Cube) (hl : l.length ≤ 1099511627776) : ACalls Try.prog 12 [.d (.sl 4 l.length (rowC l))] (· = [.d (.sl 1 (textsV l).length (rowT (textsV l))), .d (.v (.bool (soundP l)))]) := by
  refine z10 Try.func12 rfl (by decide +kernel) (by rw [Try.ntmps12]; simp) ?_; rw [Try.ntmps12]; simp only [frOf]
  (repeat (first | refine q0 ?_ | refine x7 rfl ?_ | refine j7 rfl ?_ | refine z6 ?_ | (refine j0 fun K hK => ?_) | (refine x4 (by kernel_rfl) (by kernel_rfl) fun K hK => ?_) | ((first | refine q6 ?_ | refine x6 ?_ | ((first | refine q4 (hK _ ?_) | refine q5 (hK _ _ (j4 (by kernel_rfl)) ?_)); clear hK K)); (first | show AWP _ _ _ _ _ | ((try simp only [j6]); first | show loopQ _ _ _ _ _ _ | show cutQ _ _ _ _ | show AWP _ _ _ _ _))) | ((first | refine q8 [8] rfl ?_ | refine z8 [8] rfl ?_); simp (maxSteps := 2000000) (disch := omega) only [go_sem, seval, hd, cb, x5, j5]; (repeat (first | refine ⟨by omega, ?_⟩ | refine ⟨True.intro, ?_⟩)))))
  refine awp_loop (textsI l) (fun s => l.length - s.val) ⟨0, by omega, by simp⟩ ?_ (fun s => ?_)
  · unfold textsI
    refine Weak.list ?_ ?_; (all_goals simp (disch := omega) only [AllF, AllL, j10, le_top, x10, exists_eq_left', Option.some.injEq, go_sem, seval, hd, cb, x5, j5]); (all_goals (repeat' (with_reducible apply And.intro))); (all_goals try (first | exact x8 rfl | (refine le_int ?_; omega) | (refine x8 ?_; simp; done)))
    exact le_grgr rfl rfl (fun i hi => by omega)
  obtain ⟨i, hi, he⟩ := s
  unfold textsI
  by_cases hn : i < l.length
  · have r1 := rowC_at l i
    have st := all_take Cube.sound l i ⟨0, 0⟩ hn
    have sk := take_succ_getD l i ⟨0, 0⟩ hn
    have hin := getD_in hn ⟨0, 0⟩
    generalize l.getD i ⟨0, 0⟩ = K at r1 st sk hin
    have tx := Text_c K
    rw [he, Bool.true_and] at st
    cases h : K.sound
    all_goals
      rw [h] at tx st
      simp only [Bool.false_eq_true, if_false, if_true] at tx
      (repeat (first | refine q0 ?_ | refine x7 rfl ?_ | refine j7 rfl ?_ | refine z6 ?_ | (refine j0 fun K hK => ?_) | (refine x4 (by kernel_rfl) (by kernel_rfl) fun K hK => ?_) | ((first | refine q6 ?_ | refine x6 ?_ | ((first | refine q4 (hK _ ?_) | refine q5 (hK _ _ (j4 (by kernel_rfl)) ?_)); clear hK K)); (first | show AWP _ _ _ _ _ | ((try simp only [j6]); first | show loopQ _ _ _ _ _ _ | show cutQ _ _ _ _ | show AWP _ _ _ _ _))) | ((first | refine x9 rfl rfl rfl ?_ | refine j9 rfl rfl rfl ?_); simp (maxSteps := 2000000) (disch := omega) only [go_sem, seval, hd, cb, x5, j5, r1]; (first | refine ⟨_, tx, ?_⟩)) | ((first | refine q8 [8] rfl ?_ | refine z8 [8] rfl ?_); simp (maxSteps := 2000000) (disch := omega) only [go_sem, seval, hd, cb, x5, j5, r1]; (repeat (first | refine ⟨by omega, ?_⟩ | refine ⟨True.intro, ?_⟩)))))
    · have hf : l.all Cube.sound = false := by
        rw [List.all_eq_false]; exact ⟨K, hin, by rw [h]; simp⟩
      have e1 : textsV l = [] := by unfold textsV; rw [hf]; rfl
      have e2 : soundP l = false := by unfold soundP; rw [hf, Bool.and_false]
      rw [e1, e2]
      refine awp_slot 2 _ (.p (.d (.sl 1 ([] : List Cube).length (rowT [])))) rfl (le_nil 1 _ _ rfl) ?_
      refine q10 ⟨_, ?_, rfl⟩; rw [Try.results12]; simp (disch := omega) only [ResVars, ResVar, ptrLoc, go_sem, seval, hd, cb, x5, j5, r1]
    · refine ⟨⟨i + 1, by omega, st⟩, by simp only []; omega, ?_⟩
      refine Weak.list ?_ ?_; (all_goals simp (disch := omega) only [AllF, AllL, j10, le_top, x10, exists_eq_left', Option.some.injEq, go_sem, seval, hd, cb, x5, j5, r1]); (all_goals (repeat' (with_reducible apply And.intro))); (all_goals try (first | exact x8 rfl | (refine le_int ?_; omega) | (refine x8 ?_; simp; done)))
      · refine le_grgr rfl rfl (fun j hj => ?_)
        have hlen : (l.take i).length = i := by simp; omega
        have := rowT_put (l.take i) K j (by omega)
        rw [hlen] at this
        rw [sk]; exact this
  · have hil : i = l.length := by omega
    subst hil
    rw [List.take_length] at he
    have e1 : textsV l = l := by unfold textsV; rw [he]; rfl
    have e2 : soundP l = decide (l.length ≤ 200) := by unfold soundP; rw [he, Bool.and_true]
    rw [e1, e2]
    by_cases h2 : l.length ≤ 200
    · (repeat (first | refine q0 ?_ | refine x7 rfl ?_ | refine j7 rfl ?_ | refine z6 ?_ | (refine j0 fun K hK => ?_) | (refine x4 (by kernel_rfl) (by kernel_rfl) fun K hK => ?_) | ((first | refine q6 ?_ | refine x6 ?_ | ((first | refine q4 (hK _ ?_) | refine q5 (hK _ _ (j4 (by kernel_rfl)) ?_)); clear hK K)); (first | show AWP _ _ _ _ _ | ((try simp only [j6]); first | show loopQ _ _ _ _ _ _ | show cutQ _ _ _ _ | show AWP _ _ _ _ _))) | ((first | refine q8 [8] rfl ?_ | refine z8 [8] rfl ?_); simp (maxSteps := 2000000) (disch := omega) only [go_sem, seval, hd, cb, x5, j5]; (repeat (first | refine ⟨by omega, ?_⟩ | refine ⟨True.intro, ?_⟩)))))
      refine awp_slot 2 _ (.p (.d (.sl 1 l.length (rowT l)))) rfl (le_gr rfl (fun k _ => by simp only [List.take_length])) ?_
      refine q10 ⟨_, ?_, rfl⟩; rw [Try.results12]; simp (disch := omega) only [ResVars, ResVar, ptrLoc, go_sem, seval, hd, cb, x5, j5]
      rw [decide_eq_true h2]
    · (repeat (first | refine q0 ?_ | refine x7 rfl ?_ | refine j7 rfl ?_ | refine z6 ?_ | (refine j0 fun K hK => ?_) | (refine x4 (by kernel_rfl) (by kernel_rfl) fun K hK => ?_) | ((first | refine q6 ?_ | refine x6 ?_ | ((first | refine q4 (hK _ ?_) | refine q5 (hK _ _ (j4 (by kernel_rfl)) ?_)); clear hK K)); (first | show AWP _ _ _ _ _ | ((try simp only [j6]); first | show loopQ _ _ _ _ _ _ | show cutQ _ _ _ _ | show AWP _ _ _ _ _))) | ((first | refine q8 [8] rfl ?_ | refine z8 [8] rfl ?_); simp (maxSteps := 2000000) (disch := omega) only [go_sem, seval, hd, cb, x5, j5]; (repeat (first | refine ⟨by omega, ?_⟩ | refine ⟨True.intro, ?_⟩)))))
      refine awp_slot 2 _ (.p (.d (.sl 1 l.length (rowT l)))) rfl (le_gr rfl (fun k _ => by simp only [List.take_length])) ?_
      refine q10 ⟨_, ?_, rfl⟩; rw [Try.results12]; simp (disch := omega) only [ResVars, ResVar, ptrLoc, go_sem, seval, hd, cb, x5, j5]
      rw [decide_eq_false h2]
end Go.Proofs.Ytemcdefpihkfpaa
set_option linter.unusedSimpArgs false
set_option linter.unusedVariables false
namespace Go.Proofs.Ytemcdefpihkfpaa
open Go.Proofs.Ytemcdefpihkfpaa.AL
def leanR : List Cube → List Cube → List Cube
  | _, [] => []
  | pre, x :: s => if x.sound && !(pre.any (withinC x)) && !(s.any fun y => withinC x y && x != y) then x :: leanR (pre ++ [x]) s else leanR (pre ++ [x]) s
theorem leanR_cons (pre s : List Cube) (x : Cube) : leanR pre (x :: s) = if x.sound && !(pre.any (withinC x)) && !(s.any fun y => withinC x y && x != y) then x :: leanR (pre ++ [x]) s else leanR (pre ++ [x]) s := rfl
theorem map_getD {α : Type} (l : List α) (z : α) : (List.range l.length).map (fun i => l.getD i z) = l := by
  apply List.ext_getElem
  · simp
  · intro i h1 h2
    simp at h1
    simp [h1]
theorem range_any {α : Type} (P : α → Bool) (l : List α) (z : α) : (List.range l.length).any (fun i => P (l.getD i z)) = l.any P := by
  have := congrArg (List.any · P) (map_getD l z)
  simp only [List.any_map] at this
  exact this
theorem any_congr' {α : Type} {p q : α → Bool} {l : List α} (h : ∀ x ∈ l, p x = q x) : l.any p = l.any q := by
  induction l with
  | nil => rfl
  | cons x l ih => rw [List.any_cons, List.any_cons, h x (by simp), ih fun y hy => h y (by simp [hy])]
theorem spareP_app (pre s : List Cube) (x : Cube) : spareP (pre ++ x :: s) pre.length = (pre.any (withinC x) || (s.any (fun y => withinC x y && x != y)) || !x.sound) := by
  unfold spareP
  have e0 : (pre ++ x :: s).getD pre.length ⟨0, 0⟩ = x := by simp
  rw [e0]
  congr 1
  have hl : (pre ++ x :: s).length = pre.length + (1 + s.length) := by simp; omega
  rw [hl, List.range_add, List.any_append, List.range_add, List.map_append, List.any_append, List.any_map, List.any_map, List.any_map]
  have e1 : (List.range pre.length).any (spareBy (pre ++ x :: s) pre.length) = pre.any (withinC x) := by
    rw [← range_any (withinC x) pre ⟨0, 0⟩]
    refine any_congr' fun i hi => ?_
    have hi := List.mem_range.1 hi
    unfold spareBy
    have eg : (pre ++ x :: s).getD i ⟨0, 0⟩ = pre.getD i ⟨0, 0⟩ := by rw [List.getD_eq_getElem?_getD, List.getD_eq_getElem?_getD, List.getElem?_append_left hi]
    rw [e0, eg]
    have : (i != pre.length) = true := by simp; omega
    rw [this, decide_eq_true hi, Bool.or_true, Bool.and_true, Bool.true_and]
  have e2 : (List.range 1).any (spareBy (pre ++ x :: s) pre.length ∘ fun y => pre.length + y) = false := by
    simp [spareBy, List.range_succ]
  have e3 : (List.range s.length).any ((spareBy (pre ++ x :: s) pre.length ∘ fun y => pre.length + y) ∘ fun y => 1 + y) = s.any (fun y => withinC x y && x != y) := by
    rw [← range_any (fun y => withinC x y && x != y) s ⟨0, 0⟩]
    refine any_congr' fun i hi => ?_
    have hi := List.mem_range.1 hi
    simp only [Function.comp]
    unfold spareBy
    have eg : (pre ++ x :: s).getD (pre.length + (1 + i)) ⟨0, 0⟩ = s.getD i ⟨0, 0⟩ := by rw [List.getD_eq_getElem?_getD, List.getD_eq_getElem?_getD, List.getElem?_append_right (by omega), show pre.length + (1 + i) - pre.length = i + 1 from by omega, List.getElem?_cons_succ]
    rw [e0, eg]
    have : (pre.length + (1 + i) != pre.length) = true := by simp
    rw [this, decide_eq_false (show ¬ pre.length + (1 + i) < pre.length by omega), Bool.or_false, Bool.true_and]
  rw [e1, e2, e3, Bool.false_or]
theorem leanR_range (s : List Cube) : ∀ pre, (List.range' pre.length s.length).filterMap (fun n => if spareP (pre ++ s) n then none else some ((pre ++ s).getD n ⟨0, 0⟩)) = leanR pre s := by
  induction s with
  | nil => intro pre; rfl
  | cons x s ih =>
    intro pre
    have ih := ih (pre ++ [x])
    have e : pre ++ [x] ++ s = pre ++ x :: s := by simp
    rw [e, show (pre ++ [x]).length = pre.length + 1 from by simp] at ih
    rw [List.length_cons, List.range'_succ, List.filterMap_cons, ih, spareP_app]
    have e0 : (pre ++ x :: s).getD pre.length ⟨0, 0⟩ = x := by simp
    rw [leanR_cons, e0]
    cases x.sound <;> cases pre.any (withinC x) <;> cases s.any (fun y => withinC x y && x != y) <;> rfl
theorem leanP_eq (l : List Cube) : leanP l = leanR [] l := by
  have := leanR_range l []
  rw [← this]
  unfold leanP leanTo
  rw [List.range_eq_range']
  rfl
theorem leanR_mem : ∀ (s pre : List Cube), ∀ k ∈ leanR pre s, k ∈ s ∧ k.sound = true
  | [], pre, k, h => by simp [leanR] at h
  | x :: s, pre, k, h => by
    rw [leanR_cons] at h
    split at h
    · rename_i hc
      rcases List.mem_cons.1 h with rfl | h
      · simp only [Bool.and_eq_true] at hc; exact ⟨by simp, hc.1.1⟩
      · obtain ⟨h1, h2⟩ := leanR_mem s _ k h; exact ⟨by simp [h1], h2⟩
    · obtain ⟨h1, h2⟩ := leanR_mem s _ k h; exact ⟨by simp [h1], h2⟩
theorem leanP_mem {l : List Cube} {k : Cube} (h : k ∈ leanP l) : k ∈ l ∧ k.sound = true := by
  rw [leanP_eq] at h; exact leanR_mem l [] k h
end Go.Proofs.Ytemcdefpihkfpaa
set_option linter.unusedSimpArgs false
set_option linter.unusedVariables false
namespace Go.Proofs.Ytemcdefpihkfpaa
open Go.Proofs.Ytemcdefpihkfpaa.AL
theorem leanP_pair (l : List Cube) : (leanP l).Pairwise (fun x y => withinC x y = false ∧ withinC y x = false) := by
  unfold leanP leanTo
  rw [List.pairwise_filterMap]
  have hr : (List.range l.length).Pairwise (fun i j => i < j ∧ j < l.length) := by
    refine List.Pairwise.imp_of_mem ?_ List.pairwise_lt_range
    intro a b ha hb hab
    exact ⟨hab, List.mem_range.1 hb⟩
  refine hr.imp ?_
  intro i j ⟨hij, hj⟩ x hx y hy
  have key : ∀ n, n < l.length → spareP l n = false → (l.getD n ⟨0, 0⟩).sound = true ∧ ∀ i, i < l.length → i ≠ n → withinC (l.getD n ⟨0, 0⟩) (l.getD i ⟨0, 0⟩) = true → l.getD n ⟨0, 0⟩ = l.getD i ⟨0, 0⟩ ∧ n < i := by
    intro n hn hs
    unfold spareP at hs
    rw [Bool.or_eq_false_iff, List.any_eq_false] at hs
    refine ⟨by simpa using hs.2, fun i hi hne hw => ?_⟩
    have := hs.1 i (List.mem_range.2 hi)
    unfold spareBy at this
    rw [hw] at this
    simp only [Bool.true_and, Bool.and_eq_true, Bool.or_eq_true, bne_iff_ne, ne_eq, decide_eq_true_eq] at this
    by_cases e : l.getD n ⟨0, 0⟩ = l.getD i ⟨0, 0⟩
    · exact ⟨e, by
        refine Classical.byContradiction fun hlt => this ⟨hne, .inr (by omega)⟩⟩
    · exact absurd ⟨hne, .inl e⟩ this
  cases hs : spareP l i
  · cases hs2 : spareP l j
    · rw [hs] at hx
      rw [hs2] at hy
      simp only [Bool.false_eq_true, if_false, Option.some.injEq] at hx hy
      obtain ⟨s1, k1⟩ := key i (by omega) hs
      obtain ⟨s2, k2⟩ := key j hj hs2
      rw [hx] at s1 k1
      rw [hy] at s2 k2
      have k1 := k1 j hj (by omega)
      have k2 := k2 i (by omega) (by omega)
      rw [hy] at k1
      rw [hx] at k2
      constructor
      · cases hw : withinC x y
        · rfl
        · obtain ⟨e, _⟩ := k1 hw
          subst e
          have := (k2 hw).2
          omega
      · cases hw : withinC y x
        · rfl
        · have := (k2 hw).2
          omega
    · rw [hs2] at hy; simp at hy
  · rw [hs] at hx; simp at hx
theorem leanE_val (l : List Cube) (h : leanE l = 0) : leanV l = leanP l := by
  unfold leanE at h
  unfold leanV
  split at h
  · cases h
  · rename_i h2; rw [if_neg h2]
theorem leanE_or (l : List Cube) : leanE l = 0 ∨ leanE l = 10 ∧ leanV l = [] := by
  unfold leanE leanV
  split
  · exact .inr ⟨rfl, rfl⟩
  · exact .inl rfl
def meetPV (a b : List Cube) : List Cube := if soundP a && soundP b then leanV (meetsP a b) else []
def meetPE (a b : List Cube) : Int := if soundP a && soundP b then leanE (meetsP a b) else 2
theorem lessP_len : ∀ (b out : List Cube), out.length ≤ 200 → (lessP b out).1.length ≤ 200
  | [], out, h => h
  | y :: r, out, h => by
    unfold lessP
    split
    · exact lessP_len r _ (leanV_len _)
    · simp
theorem lessPR_len (a b : List Cube) : (lessPR a b).1.length ≤ 200 := by
  unfold lessPR
  split
  · rename_i h
    rw [Bool.and_eq_true] at h
    exact lessP_len b a (soundP_len h.1)
  · simp
theorem joinV_len (a b : List Cube) : (joinV a b).length ≤ 200 := by
  unfold joinV
  split
  · exact leanV_len _
  · simp
theorem meetPV_len (a b : List Cube) : (meetPV a b).length ≤ 200 := by
  unfold meetPV
  split
  · exact leanV_len _
  · simp
end Go.Proofs.Ytemcdefpihkfpaa
set_option linter.unusedSimpArgs false
set_option linter.unusedVariables false
namespace Go.Proofs.Ytemcdefpihkfpaa
open Go.Proofs.Ytemcdefpihkfpaa.AL
end Go.Proofs.Ytemcdefpihkfpaa
set_option linter.unusedSimpArgs false
set_option linter.unusedVariables false
namespace Go.Proofs.Ytemcdefpihkfpaa
open Go Go.Proofs.Ytemcdefpihkfpaa.AL
def DLe (x y : Dat) : Prop := ∀ (w : World) (g : Nat → Nat) (v : Value), RelD w g v x → RelD w g v y
inductive DLes : List Dat → List Dat → Prop
  | nil : DLes [] []
  | cons {x y : Dat} {xs ys : List Dat} (h : DLe x y) (t : DLes xs ys) : DLes (x :: xs) (y :: ys)
theorem dle_refl (x : Dat) : DLe x x := fun _ _ _ h => h
theorem DLes.refl : ∀ xs : List Dat, DLes xs xs
  | [] => .nil
  | x :: xs => .cons (dle_refl x) (DLes.refl xs)
theorem DLes.of_eq {xs ys : List Dat} (h : xs = ys) : DLes xs ys := h ▸ DLes.refl xs
theorem DLes.length {xs ys : List Dat} (h : DLes xs ys) : xs.length = ys.length := by
  induction h with
  | nil => rfl
  | cons _ _ ih => simp [ih]
theorem DLes.at {xs ys : List Dat} (h : DLes xs ys) : ∀ {j : Nat} {y : Dat}, ys[j]? = some y → ∃ x, xs[j]? = some x ∧ DLe x y := by
  induction h with
  | nil => intro j y h; simp at h
  | cons h t ih =>
    intro j y hy
    cases j with
    | zero => simp at hy; subst hy; exact ⟨_, by simp, h⟩
    | succ j => simp at hy; obtain ⟨x, h1, h2⟩ := ih hy; exact ⟨x, by simpa using h1, h2⟩
theorem dle_sl {sz n n' : Nat} {f f' : Nat → List Dat} (hn : n = n') (hf : ∀ i, i < n → DLes (f i) (f' i)) : DLe (.sl sz n f) (.sl sz n' f') := by
  subst hn
  intro w g v r
  cases r with
  | sl0 a c sz f => exact .sl0 _ _ _ _
  | sl b off n c sz f u h1 h2 h3 h4 h5 =>
    refine .sl b off n c sz f' u h1 (fun i hi => by rw [← (hf i hi).length]; exact h2 i hi) h3 h4 (fun i j y hi hy => ?_)
    obtain ⟨x, k1, k2⟩ := (hf i hi).at hy
    exact k2 _ _ _ (h5 i j x hi k1)
theorem dle_emp {a : Option Addr} {c sz : Nat} {f : Nat → List Dat} : DLe (.v (.slice a 0 c)) (.sl sz 0 f) := by
  intro w g v r
  cases r
  exact .sl0 _ _ _ _
theorem ple_d {x y : Dat} (h : DLe x y) : PLe (.d x) (.d y) := by
  intro w g v r
  cases r with
  | d _ _ r => exact .d _ _ (h _ _ _ r)
end Go.Proofs.Ytemcdefpihkfpaa
set_option linter.unusedSimpArgs false
set_option linter.unusedVariables false
namespace Go.Proofs.Ytemcdefpihkfpaa
open Go Go.Proofs.Ytemcdefpihkfpaa.AL
structure Atm where
  ids : List Int
  h : BitVec 128
  p : List Cube
def at0 : Atm := ⟨[], 0, []⟩
def atD (a : Atm) : List Dat := [.sl 1 a.ids.length (rowZ a.ids), .v (.int .u64 (hi a.h)), .v (.int .u64 (lo a.h)), .sl 4 a.p.length (rowC a.p)]
def rowAt (l : List Atm) : Nat → List Dat := fun i => atD (l.getD i at0)
theorem rowAt_at (l : List Atm) (i : Nat) : rowAt l i = atD (l.getD i at0) := rfl
theorem rowAt_put (out : List Atm) (a : Atm) (i : Nat) (hlt : i < out.length + 1) : catF out.length (rowAt out) (fun i => [atD a].getD i []) i = rowAt (out ++ [a]) i := catF_put atD at0 out a _ rfl i hlt
theorem rowAt_app (a b : List Atm) (i : Nat) : catF a.length (rowAt a) (rowAt b) i = rowAt (a ++ b) i := by
  unfold catF rowAt
  split
  · rename_i h
    rw [List.getD_eq_getElem?_getD, List.getD_eq_getElem?_getD, List.getElem?_append_left h]
  · rename_i h
    rw [List.getD_eq_getElem?_getD, List.getD_eq_getElem?_getD, List.getElem?_append_right (by omega)]
def smallA (l : List Atm) : Prop := l.length ≤ 1048576 ∧ ∀ a ∈ l, a.ids.length ≤ 1048576 ∧ a.p.length ≤ 1048576
def pickH (p : List Cube) : BitVec 128 := ((pickP p).getD ⟨0, 0⟩).v
theorem atom_c (ids : List Int) (p : List Cube) (hp : p.length ≤ 1099511627776) : ACalls Try.prog 54 [.d (.sl 1 ids.length (rowZ ids)), .d (.sl 4 p.length (rowC p))] (· = [.agg (atD ⟨ids, pickH p, p⟩), .d (.v (.bool (pickP p).isSome))]) := by
  have pk := Pick_c p (by omega)
  unfold pickH atD
  simp only []
  generalize ((pickP p).getD ⟨0, 0⟩).v = h at pk
  generalize (pickP p).isSome = b at pk
  refine z10 Try.func54 rfl (by decide +kernel) (by rw [Try.ntmps54]; simp) ?_; rw [Try.ntmps54]; simp only [frOf]
  (repeat (first | refine q0 ?_ | refine x7 rfl ?_ | refine j7 rfl ?_ | refine z6 ?_ | (refine j0 fun K hK => ?_) | (refine x4 (by kernel_rfl) (by kernel_rfl) fun K hK => ?_) | ((first | refine q6 ?_ | refine x6 ?_ | ((first | refine q4 (hK _ ?_) | refine q5 (hK _ _ (j4 (by kernel_rfl)) ?_)); clear hK K)); (first | show AWP _ _ _ _ _ | ((try simp only [j6]); first | show loopQ _ _ _ _ _ _ | show cutQ _ _ _ _ | show AWP _ _ _ _ _))) | ((first | refine x9 rfl rfl rfl ?_ | refine j9 rfl rfl rfl ?_); simp (maxSteps := 2000000) (disch := omega) only [go_sem, seval, hd, cb]; (first | refine ⟨_, pk, ?_⟩)) | ((first | refine q8 [4] rfl ?_ | refine z8 [4] rfl ?_); simp (maxSteps := 2000000) (disch := omega) only [go_sem, seval, hd, cb]; (repeat (first | refine ⟨by omega, ?_⟩ | refine ⟨True.intro, ?_⟩)))))
  refine q10 ⟨_, ?_, rfl⟩; rw [Try.results54]; simp (disch := omega) only [ResVars, ResVar, ptrLoc, go_sem, seval, hd, cb]
def pickAt (ids : List Int) (p : List Cube) : List Atm := if (pickP p).isSome then [⟨ids, pickH p, p⟩] else []
def partA (a : Atm) (id : Int) (q : List Cube) : List Atm × Int :=
  if meetPE a.p q ≠ 0 then ([], meetPE a.p q) else if (lessPR a.p q).2 ≠ 0 then ([], (lessPR a.p q).2)
  else (pickAt (joinZ a.ids [id]) (meetPV a.p q) ++ pickAt a.ids (lessPR a.p q).1, 0)
theorem pickAt_len (ids : List Int) (p : List Cube) : (pickAt ids p).length ≤ 1 := by
  unfold pickAt; split <;> simp
theorem partA_len (a : Atm) (id : Int) (q : List Cube) : (partA a id q).1.length ≤ 2 := by
  have h1 := pickAt_len (joinZ a.ids [id]) (meetPV a.p q)
  have h2 := pickAt_len a.ids (lessPR a.p q).1
  unfold partA
  split
  · simp
  · split
    · simp
    · simp only [List.length_append]; omega
set_option maxRecDepth 100000 in
set_option maxHeartbeats 4000000 in
theorem part_c (a : Atm) (id : Int) (q : List Cube) (h1 : a.ids.length ≤ 1048576) (h2 : a.p.length ≤ 1048576) (h3 : q.length ≤ 1048576) : ACalls Try.prog 38 [.agg (atD a), .d (.v (.int .i64 id)), .d (.sl 4 q.length (rowC q))]
    (· = [.d (.sl 4 (partA a id q).1.length (rowAt (partA a id q).1)), .d (.v (.int .i64 (partA a id q).2))]) := by
  have mt : ACalls Try.prog 53 [.d (.sl 4 a.p.length (rowC a.p)), .d (.sl 4 q.length (rowC q))] (· = [.d (.sl 4 (meetPV a.p q).length (rowC (meetPV a.p q))), .d (.v (.int .i64 (meetPE a.p q)))]) := MeetP_c a.p q (by omega) (by omega)
  have ls := LessP_c a.p q (by omega) (by omega)
  have jn := JoinS_c a.ids [id] (by omega) (by simp)
  have ml := meetPV_len a.p q
  have ll := lessPR_len a.p q
  have a1 := atom_c (joinZ a.ids [id]) (meetPV a.p q) (by omega)
  have a2 := atom_c a.ids (lessPR a.p q).1 (by omega)
  have cz := CloneZ_c a.ids (by omega)
  have jn : ACalls Try.prog 55 [.d (.sl 1 a.ids.length (rowZ a.ids)), .d (.sl 1 1 fun i => [[Dat.v (.int .i64 id)]].getD i [])] (· = [.d (.sl 1 (joinZ a.ids [id]).length (rowZ (joinZ a.ids [id])))]) :=
    acalls_le (.cons (ple_refl _) (.cons (ple_sl rfl fun i hi => by
      obtain rfl : i = 0 := by omega
      rfl) .nil)) jn
  unfold partA pickAt
  generalize meetPE a.p q = e1 at mt
  generalize (lessPR a.p q).2 = e2 at ls
  generalize joinZ a.ids [id] = js at jn a1
  generalize pickH (meetPV a.p q) = k1 at a1
  generalize (pickP (meetPV a.p q)).isSome = b1 at a1
  generalize pickH (lessPR a.p q).1 = k2 at a2
  generalize (pickP (lessPR a.p q).1).isSome = b2 at a2
  generalize meetPV a.p q = mV at mt a1
  generalize (lessPR a.p q).1 = lV at ls a2
  unfold atD at *
  simp only [] at a1 a2
  by_cases h4 : e1 = 0
  · subst h4
    rw [if_neg (by simp)]
    by_cases h5 : e2 = 0
    · subst h5
      rw [if_neg (by simp)]
      cases b1 <;> cases b2
      all_goals
        simp only [Bool.false_eq_true, if_false, if_true]
        refine z10 Try.func38 rfl (by decide +kernel) (by rw [Try.ntmps38]; simp) ?_; rw [Try.ntmps38]; simp only [frOf]
        (repeat ((fail_if_success (show AWP _ _ (.region 2 _ _) _ _)); first | refine q0 ?_ | refine x7 rfl ?_ | refine j7 rfl ?_ | refine z6 ?_ | (refine j0 fun K hK => ?_) | (refine x4 (by kernel_rfl) (by kernel_rfl) fun K hK => ?_) | ((first | refine q6 ?_ | refine x6 ?_ | ((first | refine q4 (hK _ ?_) | refine q5 (hK _ _ (j4 (by kernel_rfl)) ?_)); clear hK K)); (first | show AWP _ _ _ _ _ | ((try simp only [j6]); first | show loopQ _ _ _ _ _ _ | show cutQ _ _ _ _ | show AWP _ _ _ _ _))) | ((first | refine q8 [] rfl ?_ | refine z8 [] rfl ?_); simp (maxSteps := 2000000) (disch := omega) only [go_sem, seval, hd, cb]; (repeat (first | refine ⟨by omega, ?_⟩ | refine ⟨True.intro, ?_⟩)))))
        refine awp_grow 8 8 4 42 (rowAt []) rfl (by kernel_rfl) rfl ?_
        (repeat (first | refine q0 ?_ | refine x7 rfl ?_ | refine j7 rfl ?_ | refine z6 ?_ | (refine j0 fun K hK => ?_) | (refine x4 (by kernel_rfl) (by kernel_rfl) fun K hK => ?_) | ((first | refine q6 ?_ | refine x6 ?_ | ((first | refine q4 (hK _ ?_) | refine q5 (hK _ _ (j4 (by kernel_rfl)) ?_)); clear hK K)); (first | show AWP _ _ _ _ _ | ((try simp only [j6]); first | show loopQ _ _ _ _ _ _ | show cutQ _ _ _ _ | show AWP _ _ _ _ _))) | ((first | refine x9 rfl rfl rfl ?_ | refine j9 rfl rfl rfl ?_); simp (maxSteps := 2000000) (disch := omega) only [go_sem, seval, hd, cb]; (first | refine ⟨_, mt, ?_⟩ | refine ⟨_, jn, ?_⟩ | refine ⟨_, a1, ?_⟩ | refine ⟨_, ls, ?_⟩ | refine ⟨_, cz, ?_⟩ | refine ⟨_, a2, ?_⟩)) | ((first | refine q8 [] rfl ?_ | refine z8 [] rfl ?_); simp (maxSteps := 2000000) (disch := omega) only [go_sem, seval, hd, cb]; (repeat (first | refine ⟨by omega, ?_⟩ | refine ⟨True.intro, ?_⟩)))))
      · refine awp_slot 6 _ (.p (.d (.sl 4 ([] : List Atm).length (rowAt [])))) rfl (le_gr rfl (fun i hi => by omega)) ?_
        refine q10 ⟨_, ?_, rfl⟩; rw [Try.results38]; simp (disch := omega) only [ResVars, ResVar, ptrLoc, go_sem, seval, hd, cb]
      · refine awp_slot 6 _ (.p (.d (.sl 4 1 (rowAt [⟨a.ids, k2, lV⟩])))) rfl (le_gr rfl (fun i (hi : i < 1) => by
          obtain rfl : i = 0 := by omega
          rfl)) ?_
        refine q10 ⟨_, ?_, rfl⟩; rw [Try.results38]; simp (disch := omega) only [ResVars, ResVar, ptrLoc, go_sem, seval, hd, cb]
      · refine awp_slot 6 _ (.p (.d (.sl 4 1 (rowAt [⟨js, k1, mV⟩])))) rfl (le_gr rfl (fun i (hi : i < 1) => by
          obtain rfl : i = 0 := by omega
          rfl)) ?_
        refine q10 ⟨_, ?_, rfl⟩; rw [Try.results38]; simp (disch := omega) only [ResVars, ResVar, ptrLoc, go_sem, seval, hd, cb]
      · refine awp_slot 6 _ (.p (.d (.sl 4 2 (rowAt [⟨js, k1, mV⟩, ⟨a.ids, k2, lV⟩])))) rfl (le_gr rfl (fun i (hi : i < 2) => by
          have : i = 0 ∨ i = 1 := by omega
          rcases this with rfl | rfl <;> rfl)) ?_
        refine q10 ⟨_, ?_, rfl⟩; rw [Try.results38]; simp (disch := omega) only [ResVars, ResVar, ptrLoc, go_sem, seval, hd, cb]
    · rw [if_pos h5]
      have q2 := ine_tt h5
      cases b1
      all_goals
        refine z10 Try.func38 rfl (by decide +kernel) (by rw [Try.ntmps38]; simp) ?_; rw [Try.ntmps38]; simp only [frOf]
        (repeat ((fail_if_success (show AWP _ _ (.region 2 _ _) _ _)); first | refine q0 ?_ | refine x7 rfl ?_ | refine j7 rfl ?_ | refine z6 ?_ | (refine j0 fun K hK => ?_) | (refine x4 (by kernel_rfl) (by kernel_rfl) fun K hK => ?_) | ((first | refine q6 ?_ | refine x6 ?_ | ((first | refine q4 (hK _ ?_) | refine q5 (hK _ _ (j4 (by kernel_rfl)) ?_)); clear hK K)); (first | show AWP _ _ _ _ _ | ((try simp only [j6]); first | show loopQ _ _ _ _ _ _ | show cutQ _ _ _ _ | show AWP _ _ _ _ _))) | ((first | refine q8 [] rfl ?_ | refine z8 [] rfl ?_); simp (maxSteps := 2000000) (disch := omega) only [go_sem, seval, hd, cb, q2]; (repeat (first | refine ⟨by omega, ?_⟩ | refine ⟨True.intro, ?_⟩)))))
        refine awp_grow 8 8 4 42 (rowAt []) rfl (by kernel_rfl) rfl ?_
        (repeat (first | refine q0 ?_ | refine x7 rfl ?_ | refine j7 rfl ?_ | refine z6 ?_ | (refine j0 fun K hK => ?_) | (refine x4 (by kernel_rfl) (by kernel_rfl) fun K hK => ?_) | ((first | refine q6 ?_ | refine x6 ?_ | ((first | refine q4 (hK _ ?_) | refine q5 (hK _ _ (j4 (by kernel_rfl)) ?_)); clear hK K)); (first | show AWP _ _ _ _ _ | ((try simp only [j6]); first | show loopQ _ _ _ _ _ _ | show cutQ _ _ _ _ | show AWP _ _ _ _ _))) | ((first | refine x9 rfl rfl rfl ?_ | refine j9 rfl rfl rfl ?_); simp (maxSteps := 2000000) (disch := omega) only [go_sem, seval, hd, cb, q2]; (first | refine ⟨_, mt, ?_⟩ | refine ⟨_, jn, ?_⟩ | refine ⟨_, a1, ?_⟩ | refine ⟨_, ls, ?_⟩)) | ((first | refine q8 [] rfl ?_ | refine z8 [] rfl ?_); simp (maxSteps := 2000000) (disch := omega) only [go_sem, seval, hd, cb, q2]; (repeat (first | refine ⟨by omega, ?_⟩ | refine ⟨True.intro, ?_⟩)))))
        refine awp_slot 6 _ (.p (.d (.sl 4 ([] : List Atm).length (rowAt [])))) rfl (le_nil 4 _ _ rfl) ?_
        refine q10 ⟨_, ?_, rfl⟩; rw [Try.results38]; simp (disch := omega) only [ResVars, ResVar, ptrLoc, go_sem, seval, hd, cb, q2]
  · rw [if_pos h4]
    have q1 := ine_tt h4
    refine z10 Try.func38 rfl (by decide +kernel) (by rw [Try.ntmps38]; simp) ?_; rw [Try.ntmps38]; simp only [frOf]
    (repeat (first | refine q0 ?_ | refine x7 rfl ?_ | refine j7 rfl ?_ | refine z6 ?_ | (refine j0 fun K hK => ?_) | (refine x4 (by kernel_rfl) (by kernel_rfl) fun K hK => ?_) | ((first | refine q6 ?_ | refine x6 ?_ | ((first | refine q4 (hK _ ?_) | refine q5 (hK _ _ (j4 (by kernel_rfl)) ?_)); clear hK K)); (first | show AWP _ _ _ _ _ | ((try simp only [j6]); first | show loopQ _ _ _ _ _ _ | show cutQ _ _ _ _ | show AWP _ _ _ _ _))) | ((first | refine x9 rfl rfl rfl ?_ | refine j9 rfl rfl rfl ?_); simp (maxSteps := 2000000) (disch := omega) only [go_sem, seval, hd, cb, q1]; (first | refine ⟨_, mt, ?_⟩)) | ((first | refine q8 [] rfl ?_ | refine z8 [] rfl ?_); simp (maxSteps := 2000000) (disch := omega) only [go_sem, seval, hd, cb, q1]; (repeat (first | refine ⟨by omega, ?_⟩ | refine ⟨True.intro, ?_⟩)))))
    refine awp_slot 6 _ (.p (.d (.sl 4 ([] : List Atm).length (rowAt [])))) rfl (le_nil 4 _ _ rfl) ?_
    refine q10 ⟨_, ?_, rfl⟩; rw [Try.results38]; simp (disch := omega) only [ResVars, ResVar, ptrLoc, go_sem, seval, hd, cb, q1]
end Go.Proofs.Ytemcdefpihkfpaa
set_option linter.unusedSimpArgs false
set_option linter.unusedVariables false
namespace Go.Proofs.Ytemcdefpihkfpaa
open Go.Proofs.Ytemcdefpihkfpaa.AL
def atomSh : Sh := .pair (.slice (.int .i64)) (.pair headSh (.pair (.slice cubeSh) .unit))
theorem is_atom {N : Nat} {ds : List Dat} (h : Is N atomSh ds) : ∃ a : Atm, ds = atD a ∧ a.ids.length ≤ N ∧ a.p.length ≤ N := by
  obtain ⟨_, _, rfl, h1, _, _, rfl, h2, _, _, rfl, h3, rfl⟩ := h
  obtain ⟨ids, rfl, w1⟩ := is_ints h1
  obtain ⟨hh, rfl⟩ := is_hd h2
  obtain ⟨p, rfl, w3⟩ := is_cbs h3
  exact ⟨⟨ids, hh, p⟩, rfl, w1, w3⟩
theorem is_atoms {N : Nat} {ds : List Dat} (h : Is N (.slice atomSh) ds) : ∃ l : List Atm, ds = [.sl 4 l.length (rowAt l)] ∧ l.length ≤ N ∧ ∀ a ∈ l, a.ids.length ≤ N ∧ a.p.length ≤ N := by
  have hz : atD at0 = zeroSh atomSh := by
    have h0 : rowC [] = fun _ => zeroSh cubeSh := by
      funext i
      show cb ⟨0, 0⟩ = _
      unfold cb; simp only [hi_zero, lo_zero]; rfl
    have h1 : rowZ [] = fun _ => zeroSh (.int .i64) := by
      funext i; rfl
    show [Dat.sl 1 0 (rowZ []), Dat.v (.int .u64 (hi 0)), Dat.v (.int .u64 (lo 0)), Dat.sl 4 0 (rowC [])] = _
    rw [h0, h1]; simp only [hi_zero, lo_zero]; rfl
  obtain ⟨l, h1, h2, h3⟩ := is_list (Q := fun a : Atm => a.ids.length ≤ N ∧ a.p.length ≤ N) atD at0 atomSh hz (fun ds hd => is_atom hd) h
  exact ⟨l, h1, h2, h3⟩
end Go.Proofs.Ytemcdefpihkfpaa
set_option linter.unusedSimpArgs false
set_option linter.unusedVariables false
namespace Go.Proofs.Ytemcdefpihkfpaa
open Go.Proofs.Ytemcdefpihkfpaa.AL
def ixAtI (l : List Atm) (g : FuncId) (caps : List PV) (p : Atm → Bool) (R : Int) (s : {i : Nat // i ≤ l.length ∧ idxF p (l.drop i) i = R}) : ASt :=
  ⟨[(8, .p (.d (.v (.int .i64 (s.val : Int))))), (7, .p (.d (.v (.int .i64 (l.length : Int))))), (1, .p (.fn (.func g) [] caps)), (0, .p (.d (.sl 4 l.length (rowAt l))))], []⟩
theorem IndexAt_c (g : FuncId) (caps : List PV) (p : Atm → Bool) (l : List Atm) (hl : l.length ≤ 140737488355328) (hp : ∀ k ∈ l, ACalls Try.prog g (.agg (atD k) :: caps) (· = [.d (.v (.bool (p k)))])) :
    ACalls Try.prog 21 [.d (.sl 4 l.length (rowAt l)), .fn (.func g) [] caps] (· = [.d (.v (.int .i64 (idxF p l 0)))]) := by
  obtain ⟨R, hR⟩ : ∃ R, idxF p l 0 = R := ⟨_, rfl⟩
  rw [hR]
  refine z10 Try.func21 rfl (by decide +kernel) (by rw [Try.ntmps21]; simp) ?_; rw [Try.ntmps21]; simp only [frOf]
  (repeat (first | refine q0 ?_ | refine x7 rfl ?_ | refine j7 rfl ?_ | refine z6 ?_ | (refine j0 fun K hK => ?_) | (refine x4 (by kernel_rfl) (by kernel_rfl) fun K hK => ?_) | ((first | refine q6 ?_ | refine x6 ?_ | ((first | refine q4 (hK _ ?_) | refine q5 (hK _ _ (j4 (by kernel_rfl)) ?_)); clear hK K)); (first | show AWP _ _ _ _ _ | ((try simp only [j6]); first | show loopQ _ _ _ _ _ _ | show cutQ _ _ _ _ | show AWP _ _ _ _ _))) | ((first | refine q8 [] rfl ?_ | refine z8 [] rfl ?_); simp (maxSteps := 2000000) (disch := omega) only [go_sem, seval, hd, cb, atD]; (repeat (first | refine ⟨by omega, ?_⟩ | refine ⟨True.intro, ?_⟩)))))
  refine awp_loop (ixAtI l g caps p R) (fun s => l.length - s.val) ⟨0, by omega, by rw [List.drop_zero]; exact hR⟩ ?_ (fun s => ?_)
  · unfold ixAtI
    refine Weak.list ?_ ?_; (all_goals simp (disch := omega) only [AllF, AllL, j10, le_top, x10, exists_eq_left', Option.some.injEq, go_sem, seval, hd, cb, atD]); (all_goals (repeat' (with_reducible apply And.intro))); (all_goals try (first | exact x8 rfl | (refine le_int ?_; omega) | (refine x8 ?_; simp; done)))
  obtain ⟨i, hi, he⟩ := s
  unfold ixAtI
  by_cases hn : i < l.length
  · rw [drop_getD l i at0 hn] at he
    have r1 := rowAt_at l i
    have hk := hp _ (getD_in hn at0)
    generalize l.getD i at0 = K at he r1 hk
    unfold idxF at he
    cases hb : p K
    all_goals
      rw [hb] at he hk
      simp only [Bool.false_eq_true, if_false, if_true] at he
      (repeat (first | refine q0 ?_ | refine x7 rfl ?_ | refine j7 rfl ?_ | refine z6 ?_ | (refine j0 fun K hK => ?_) | (refine x4 (by kernel_rfl) (by kernel_rfl) fun K hK => ?_) | ((first | refine q6 ?_ | refine x6 ?_ | ((first | refine q4 (hK _ ?_) | refine q5 (hK _ _ (j4 (by kernel_rfl)) ?_)); clear hK K)); (first | show AWP _ _ _ _ _ | ((try simp only [j6]); first | show loopQ _ _ _ _ _ _ | show cutQ _ _ _ _ | show AWP _ _ _ _ _))) | ((first | refine x9 rfl rfl rfl ?_ | refine j9 rfl rfl rfl ?_); simp (maxSteps := 2000000) (disch := omega) only [go_sem, seval, hd, cb, atD, r1]; (first | refine ⟨_, hk, ?_⟩)) | ((first | refine q8 [] rfl ?_ | refine z8 [] rfl ?_); simp (maxSteps := 2000000) (disch := omega) only [go_sem, seval, hd, cb, atD, r1]; (repeat (first | refine ⟨by omega, ?_⟩ | refine ⟨True.intro, ?_⟩)))))
    · refine ⟨⟨i + 1, by omega, he⟩, by simp only []; omega, ?_⟩
      refine Weak.list ?_ ?_; (all_goals simp (disch := omega) only [AllF, AllL, j10, le_top, x10, exists_eq_left', Option.some.injEq, go_sem, seval, hd, cb, atD, r1]); (all_goals (repeat' (with_reducible apply And.intro))); (all_goals try (first | exact x8 rfl | (refine le_int ?_; omega) | (refine x8 ?_; simp; done)))
    · refine q10 ⟨_, ?_, rfl⟩; rw [Try.results21]; simp (disch := omega) only [ResVars, ResVar, ptrLoc, go_sem, seval, hd, cb, atD, r1]
      rw [he]
  · have : i = l.length := by omega
    subst this
    rw [List.drop_length] at he
    unfold idxF at he
    (repeat (first | refine q0 ?_ | refine x7 rfl ?_ | refine j7 rfl ?_ | refine z6 ?_ | (refine j0 fun K hK => ?_) | (refine x4 (by kernel_rfl) (by kernel_rfl) fun K hK => ?_) | ((first | refine q6 ?_ | refine x6 ?_ | ((first | refine q4 (hK _ ?_) | refine q5 (hK _ _ (j4 (by kernel_rfl)) ?_)); clear hK K)); (first | show AWP _ _ _ _ _ | ((try simp only [j6]); first | show loopQ _ _ _ _ _ _ | show cutQ _ _ _ _ | show AWP _ _ _ _ _))) | ((first | refine q8 [] rfl ?_ | refine z8 [] rfl ?_); simp (maxSteps := 2000000) (disch := omega) only [go_sem, seval, hd, cb, atD]; (repeat (first | refine ⟨by omega, ?_⟩ | refine ⟨True.intro, ?_⟩)))))
    refine q10 ⟨_, ?_, rfl⟩; rw [Try.results21]; simp (disch := omega) only [ResVars, ResVar, ptrLoc, go_sem, seval, hd, cb, atD]
    rw [he]
theorem ContainsAt_c (g : FuncId) (caps : List PV) (p : Atm → Bool) (l : List Atm) (hl : l.length ≤ 140737488355328) (hp : ∀ k ∈ l, ACalls Try.prog g (.agg (atD k) :: caps) (· = [.d (.v (.bool (p k)))])) :
    ACalls Try.prog 25 [.d (.sl 4 l.length (rowAt l)), .fn (.func g) [] caps] (· = [.d (.v (.bool (l.any p)))]) := by
  have ix := IndexAt_c g caps p l hl hp
  have ia := idxF_any p l 0
  generalize idxF p l 0 = R at ix ia
  refine z10 Try.func25 rfl (by decide +kernel) (by rw [Try.ntmps25]; simp) ?_; rw [Try.ntmps25]; simp only [frOf]
  (repeat (first | refine q0 ?_ | refine x7 rfl ?_ | refine j7 rfl ?_ | refine z6 ?_ | (refine j0 fun K hK => ?_) | (refine x4 (by kernel_rfl) (by kernel_rfl) fun K hK => ?_) | ((first | refine q6 ?_ | refine x6 ?_ | ((first | refine q4 (hK _ ?_) | refine q5 (hK _ _ (j4 (by kernel_rfl)) ?_)); clear hK K)); (first | show AWP _ _ _ _ _ | ((try simp only [j6]); first | show loopQ _ _ _ _ _ _ | show cutQ _ _ _ _ | show AWP _ _ _ _ _))) | ((first | refine x9 rfl rfl rfl ?_ | refine j9 rfl rfl rfl ?_); simp (maxSteps := 2000000) (disch := omega) only [go_sem, seval, hd, cb, atD]; (first | refine ⟨_, ix, ?_⟩)) | ((first | refine q8 [] rfl ?_ | refine z8 [] rfl ?_); simp (maxSteps := 2000000) (disch := omega) only [go_sem, seval, hd, cb, atD]; (repeat (first | refine ⟨by omega, ?_⟩ | refine ⟨True.intro, ?_⟩)))))
  refine q10 ⟨_, ?_, rfl⟩; rw [Try.results25]; simp (disch := omega) only [ResVars, ResVar, ptrLoc, go_sem, seval, hd, cb, atD]
  rw [ia]
end Go.Proofs.Ytemcdefpihkfpaa
set_option linter.unusedSimpArgs false
set_option linter.unusedVariables false
namespace Go.Proofs.Ytemcdefpihkfpaa.AL
open Go
theorem step_max {P : Program} {nt : Nat} {ops : Array Oper} {o : Oper} {A : ASt} {c : Call} {x y : Operand} {k : IntKind} {a b : Int} (ho : o.op = .call c) (hc : c.callee = .builtin .max) (hargs : c.args = #[x, y])
    (hd : dstOK nt o = true) (hw : wantedA ops o A = some true) (hx : A.eval x = .p (.d (.v (.int k a)))) (hy : A.eval y = .p (.d (.v (.int k b)))) :
    StepS P nt ops o A (A.apply o.dst { val := .p (.d (.v (.int k (if b > a then b else a)))) }) := by
  refine OpDo.step (lo := none) (E := { val := .p (.d (.v (.int k (if b > a then b else a)))) }) ⟨dstOK_spec hd, .inr ⟨hw, OpSem.toT ?_⟩, fun hf => (by cases hf), fun l L hu => (by cases hu)⟩
  have hops : o.op.operands.toList.map A.eval = [A.eval x, A.eval y] := by simp [ho, Op.operands, Call.operands, hc, hargs]
  rw [hops, hx, hy]
  refine q11 fun B w h r hr hL => ?_
  have hops2 : o.op.operands.toList.map r = [r x, r y] := by simp [ho, Op.operands, Call.operands, hc, hargs]
  rw [hops2] at hr
  have h0 := relA_v (hr.2 0 (r x) _ rfl rfl)
  have h1 := relA_v (hr.2 1 (r y) _ rfl rfl)
  refine ⟨.int k (if b > a then b else a), ?_, relA_mk rfl⟩
  refine run_builtin_op ho hc r w w fun consts => ?_
  simp [builtin, hargs, h0, h1, Builtin.max_, Builtin.max2]
end Go.Proofs.Ytemcdefpihkfpaa.AL
set_option linter.unusedSimpArgs false
set_option linter.unusedVariables false
namespace Go.Proofs.Ytemcdefpihkfpaa
open Go Go.Proofs.Ytemcdefpihkfpaa.AL
theorem ClipAt_c (n : Nat) (f : Nat → List Dat) (hn : n ≤ 1099511627776) : ACalls Try.prog 19 [.d (.sl 4 n f)] (· = [.d (.sl 4 n f)]) := by
  refine z10 Try.func19 rfl (by decide +kernel) (by rw [Try.ntmps19]; simp) ?_; rw [Try.ntmps19]; simp only [frOf]
  (repeat (first | refine q0 ?_ | refine x7 rfl ?_ | refine j7 rfl ?_ | refine z6 ?_ | (refine j0 fun K hK => ?_) | (refine x4 (by kernel_rfl) (by kernel_rfl) fun K hK => ?_) | ((first | refine q6 ?_ | refine x6 ?_ | ((first | refine q4 (hK _ ?_) | refine q5 (hK _ _ (j4 (by kernel_rfl)) ?_)); clear hK K)); (first | show AWP _ _ _ _ _ | ((try simp only [j6]); first | show loopQ _ _ _ _ _ _ | show cutQ _ _ _ _ | show AWP _ _ _ _ _))) | ((first | refine q8 [] rfl ?_ | refine z8 [] rfl ?_); simp (maxSteps := 2000000) (disch := omega) only [go_sem, seval, hd, cb, atD]; (repeat (first | refine ⟨by omega, ?_⟩ | refine ⟨True.intro, ?_⟩)))))
  refine q10 ⟨_, ?_, rfl⟩; rw [Try.results19]; simp (disch := omega) only [ResVars, ResVar, ptrLoc, go_sem, seval, hd, cb, atD]
  rfl
def splitL (id : Int) (k : Cube) : List Atm → List Atm → List Atm × Int
  | [], out => if 600 < out.length then ([], 11) else (out, 0)
  | a :: r, out => if (partA a id [k]).2 ≠ 0 then ([], (partA a id [k]).2) else splitL id k r (out ++ (partA a id [k]).1)
theorem splitL_len (id : Int) (k : Cube) : ∀ (l out : List Atm), (splitL id k l out).1.length ≤ 600
  | [], out => by unfold splitL; split <;> simp; omega
  | a :: r, out => by
    unfold splitL; split
    · simp
    · exact splitL_len id k r _
def splitI (id : Int) (k : Cube) (l : List Atm) (R : List Atm × Int) (s : {s : Nat × List Atm × Nat // s.1 ≤ l.length ∧ splitL id k (l.drop s.1) s.2.1 = R ∧ s.2.1.length ≤ 2 * s.1}) : ASt :=
  ⟨[(15, .p (.d (.v (.int .i64 (s.val.1 : Int))))), (14, .p (.d (.v (.int .i64 (l.length : Int))))), (13, .p (.d (.sl 4 l.length (rowAt l)))), (8, .gr 8 s.val.2.2 4 s.val.2.1.length (rowAt s.val.2.1)), (5, .p (.d (.bx (cb k)))), (1, .p (.d (.v (.int .i64 id))))],
   [(8, .grow 42 4 s.val.2.1.length s.val.2.2)]⟩
set_option maxRecDepth 100000 in
set_option maxHeartbeats 4000000 in
theorem split_c (l : List Atm) (id : Int) (k : Cube) (hl : smallA l) : ACalls Try.prog 18 [.d (.sl 4 l.length (rowAt l)), .d (.v (.int .i64 id)), .agg (cb k)]
    (· = [.d (.sl 4 (splitL id k l []).1.length (rowAt (splitL id k l []).1)), .d (.v (.int .i64 (splitL id k l []).2))]) := by
  obtain ⟨l1, l2⟩ := hl
  obtain ⟨R, hR⟩ : ∃ R, splitL id k l [] = R := ⟨_, rfl⟩
  rw [hR]
  refine z10 Try.func18 rfl (by decide +kernel) (by rw [Try.ntmps18]; simp) ?_; rw [Try.ntmps18]; simp only [frOf]
  (repeat ((fail_if_success (show AWP _ _ (.region 2 _ _) _ _)); first | refine q0 ?_ | refine x7 rfl ?_ | refine j7 rfl ?_ | refine z6 ?_ | (refine j0 fun K hK => ?_) | (refine x4 (by kernel_rfl) (by kernel_rfl) fun K hK => ?_) | ((first | refine q6 ?_ | refine x6 ?_ | ((first | refine q4 (hK _ ?_) | refine q5 (hK _ _ (j4 (by kernel_rfl)) ?_)); clear hK K)); (first | show AWP _ _ _ _ _ | ((try simp only [j6]); first | show loopQ _ _ _ _ _ _ | show cutQ _ _ _ _ | show AWP _ _ _ _ _))) | ((first | refine q8 [] rfl ?_ | refine z8 [] rfl ?_); simp (maxSteps := 2000000) (disch := omega) only [go_sem, seval, hd, cb, atD]; (repeat (first | refine ⟨by omega, ?_⟩ | refine ⟨True.intro, ?_⟩)))))
  refine awp_grow 8 8 4 42 (rowAt []) rfl (by kernel_rfl) rfl ?_
  (repeat (first | refine q0 ?_ | refine x7 rfl ?_ | refine j7 rfl ?_ | refine z6 ?_ | (refine j0 fun K hK => ?_) | (refine x4 (by kernel_rfl) (by kernel_rfl) fun K hK => ?_) | ((first | refine q6 ?_ | refine x6 ?_ | ((first | refine q4 (hK _ ?_) | refine q5 (hK _ _ (j4 (by kernel_rfl)) ?_)); clear hK K)); (first | show AWP _ _ _ _ _ | ((try simp only [j6]); first | show loopQ _ _ _ _ _ _ | show cutQ _ _ _ _ | show AWP _ _ _ _ _))) | ((first | refine q8 [] rfl ?_ | refine z8 [] rfl ?_); simp (maxSteps := 2000000) (disch := omega) only [go_sem, seval, hd, cb, atD]; (repeat (first | refine ⟨by omega, ?_⟩ | refine ⟨True.intro, ?_⟩)))))
  refine awp_loop (splitI id k l R) (fun s => l.length - s.val.1) ⟨(0, [], 0), by omega, by rw [List.drop_zero]; exact hR, by simp⟩ ?_ (fun s => ?_)
  · unfold splitI
    refine Weak.list ?_ ?_; (all_goals simp (disch := omega) only [AllF, AllL, j10, le_top, x10, exists_eq_left', Option.some.injEq, go_sem, seval, hd, cb, atD]); (all_goals (repeat' (with_reducible apply And.intro))); (all_goals try (first | exact x8 rfl | (refine le_int ?_; omega) | (refine x8 ?_; simp; done)))
  obtain ⟨⟨i, out, g⟩, hi, h1, h2⟩ := s
  simp only [] at hi h1 h2
  unfold splitI
  simp only []
  by_cases hn : i < l.length
  · have r1 := rowAt_at l i
    obtain ⟨b1, b2⟩ := l2 _ (getD_in hn at0)
    rw [drop_getD l i at0 hn] at h1
    unfold splitL at h1
    generalize l.getD i at0 = a at r1 b1 b2 h1
    have pt := part_c a id [k] b1 b2 (by simp)
    have pl := partA_len a id [k]
    have pt : ACalls Try.prog 38 [.agg (atD a), .d (.v (.int .i64 id)), .d (.sl 4 1 fun i => [cb k].getD i [])] (· = [.d (.sl 4 (partA a id [k]).1.length (rowAt (partA a id [k]).1)), .d (.v (.int .i64 (partA a id [k]).2))]) :=
      acalls_le (.cons (ple_refl _) (.cons (ple_refl _) (.cons (ple_sl rfl fun i hi => by
        obtain rfl : i = 0 := by omega
        rfl) .nil))) pt
    generalize partA a id [k] = pr at pt pl h1
    obtain ⟨two, e⟩ := pr
    simp only [] at pt pl h1
    unfold cb at pt
    by_cases he : e = 0
    · subst he
      rw [if_neg (by simp)] at h1
      (repeat (first | refine q0 ?_ | refine x7 rfl ?_ | refine j7 rfl ?_ | refine z6 ?_ | (refine j0 fun K hK => ?_) | (refine x4 (by kernel_rfl) (by kernel_rfl) fun K hK => ?_) | ((first | refine q6 ?_ | refine x6 ?_ | ((first | refine q4 (hK _ ?_) | refine q5 (hK _ _ (j4 (by kernel_rfl)) ?_)); clear hK K)); (first | show AWP _ _ _ _ _ | ((try simp only [j6]); first | show loopQ _ _ _ _ _ _ | show cutQ _ _ _ _ | show AWP _ _ _ _ _))) | ((first | refine x9 rfl rfl rfl ?_ | refine j9 rfl rfl rfl ?_); simp (maxSteps := 2000000) (disch := omega) only [go_sem, seval, hd, cb, atD, r1]; (first | refine ⟨_, pt, ?_⟩)) | ((first | refine q8 [] rfl ?_ | refine z8 [] rfl ?_); simp (maxSteps := 2000000) (disch := omega) only [go_sem, seval, hd, cb, atD, r1]; (repeat (first | refine ⟨by omega, ?_⟩ | refine ⟨True.intro, ?_⟩)))))
      refine ⟨⟨(i + 1, out ++ two, g + 1), by simp only []; omega, h1, by simp only [List.length_append]; omega⟩, by simp only []; omega, ?_⟩
      refine Weak.list ?_ ?_; (all_goals simp (disch := omega) only [AllF, AllL, j10, le_top, x10, exists_eq_left', Option.some.injEq, go_sem, seval, hd, cb, atD, r1]); (all_goals (repeat' (with_reducible apply And.intro))); (all_goals try (first | exact x8 rfl | (refine le_int ?_; omega) | (refine x8 ?_; simp; done)))
      · exact le_grgr rfl (by simp) (fun j hj => rowAt_app out two j)
      · exact lle_grow (by simp) rfl
    · rw [if_pos he] at h1
      subst h1
      have q := ine_tt he
      (repeat (first | refine q0 ?_ | refine x7 rfl ?_ | refine j7 rfl ?_ | refine z6 ?_ | (refine j0 fun K hK => ?_) | (refine x4 (by kernel_rfl) (by kernel_rfl) fun K hK => ?_) | ((first | refine q6 ?_ | refine x6 ?_ | ((first | refine q4 (hK _ ?_) | refine q5 (hK _ _ (j4 (by kernel_rfl)) ?_)); clear hK K)); (first | show AWP _ _ _ _ _ | ((try simp only [j6]); first | show loopQ _ _ _ _ _ _ | show cutQ _ _ _ _ | show AWP _ _ _ _ _))) | ((first | refine x9 rfl rfl rfl ?_ | refine j9 rfl rfl rfl ?_); simp (maxSteps := 2000000) (disch := omega) only [go_sem, seval, hd, cb, atD, r1, q]; (first | refine ⟨_, pt, ?_⟩)) | ((first | refine q8 [] rfl ?_ | refine z8 [] rfl ?_); simp (maxSteps := 2000000) (disch := omega) only [go_sem, seval, hd, cb, atD, r1, q]; (repeat (first | refine ⟨by omega, ?_⟩ | refine ⟨True.intro, ?_⟩)))))
      refine awp_slot 6 _ (.p (.d (.sl 4 ([] : List Atm).length (rowAt [])))) rfl (le_nil 4 _ _ rfl) ?_
      refine q10 ⟨_, ?_, rfl⟩; rw [Try.results18]; simp (disch := omega) only [ResVars, ResVar, ptrLoc, go_sem, seval, hd, cb, atD, r1, q]
  · have : i = l.length := by omega
    subst this
    rw [List.drop_length] at h1
    unfold splitL at h1
    by_cases h6 : 600 < out.length
    · rw [if_pos h6] at h1
      subst h1
      (repeat (first | refine q0 ?_ | refine x7 rfl ?_ | refine j7 rfl ?_ | refine z6 ?_ | (refine j0 fun K hK => ?_) | (refine x4 (by kernel_rfl) (by kernel_rfl) fun K hK => ?_) | ((first | refine q6 ?_ | refine x6 ?_ | ((first | refine q4 (hK _ ?_) | refine q5 (hK _ _ (j4 (by kernel_rfl)) ?_)); clear hK K)); (first | show AWP _ _ _ _ _ | ((try simp only [j6]); first | show loopQ _ _ _ _ _ _ | show cutQ _ _ _ _ | show AWP _ _ _ _ _))) | ((first | refine q8 [] rfl ?_ | refine z8 [] rfl ?_); simp (maxSteps := 2000000) (disch := omega) only [go_sem, seval, hd, cb, atD]; (repeat (first | refine ⟨by omega, ?_⟩ | refine ⟨True.intro, ?_⟩)))))
      refine awp_slot 6 _ (.p (.d (.sl 4 ([] : List Atm).length (rowAt [])))) rfl (le_nil 4 _ _ rfl) ?_
      refine q10 ⟨_, ?_, rfl⟩; rw [Try.results18]; simp (disch := omega) only [ResVars, ResVar, ptrLoc, go_sem, seval, hd, cb, atD]
    · rw [if_neg h6] at h1
      subst h1
      (repeat (first | refine q0 ?_ | refine x7 rfl ?_ | refine j7 rfl ?_ | refine z6 ?_ | (refine j0 fun K hK => ?_) | (refine x4 (by kernel_rfl) (by kernel_rfl) fun K hK => ?_) | ((first | refine q6 ?_ | refine x6 ?_ | ((first | refine q4 (hK _ ?_) | refine q5 (hK _ _ (j4 (by kernel_rfl)) ?_)); clear hK K)); (first | show AWP _ _ _ _ _ | ((try simp only [j6]); first | show loopQ _ _ _ _ _ _ | show cutQ _ _ _ _ | show AWP _ _ _ _ _))) | ((first | refine q8 [] rfl ?_ | refine z8 [] rfl ?_); simp (maxSteps := 2000000) (disch := omega) only [go_sem, seval, hd, cb, atD]; (repeat (first | refine ⟨by omega, ?_⟩ | refine ⟨True.intro, ?_⟩)))))
      refine awp_slot 6 _ (.p (.d (.sl 4 out.length (rowAt out)))) rfl (le_gr rfl (fun _ _ => rfl)) ?_
      refine q10 ⟨_, ?_, rfl⟩; rw [Try.results18]; simp (disch := omega) only [ResVars, ResVar, ptrLoc, go_sem, seval, hd, cb, atD]
def splitAll : List Cube → Nat → List Atm → List Atm × Int
  | [], _, out => (out, 0)
  | k :: r, id, out => if (splitL (id : Int) k out []).2 ≠ 0 then ([], (splitL (id : Int) k out []).2) else splitAll r (id + 1) (splitL (id : Int) k out []).1
def splitV (p : List Cube) : List Atm × Int := if 500 < p.length then ([], 6) else if p.all Cube.sound then splitAll p 0 [⟨[], 0, [⟨0, 0⟩]⟩] else ([], 2)
theorem joinZ_len (a b : List Int) : (joinZ a b).length ≤ a.length + b.length := by
  unfold joinZ
  have := mkZ_len (a ++ b)
  rw [List.length_append] at this; exact this
theorem partA_small {a : Atm} {id : Int} {q : List Cube} {N : Nat} (h : a.ids.length ≤ N) : ∀ x ∈ (partA a id q).1, x.ids.length ≤ N + 1 ∧ x.p.length ≤ 200 := by
  intro x hx
  have k1 : ∀ ids p, ids.length ≤ N + 1 → p.length ≤ 200 → ∀ x ∈ pickAt ids p, x.ids.length ≤ N + 1 ∧ x.p.length ≤ 200 := by
    intro ids p h1 h2 x hx
    unfold pickAt at hx
    split at hx
    · simp at hx; subst hx; exact ⟨h1, h2⟩
    · simp at hx
  unfold partA at hx
  split at hx
  · simp at hx
  · split at hx
    · simp at hx
    · rcases List.mem_append.1 hx with hx | hx
      · have := joinZ_len a.ids [id]
        exact k1 _ _ (by simp at this; omega) (meetPV_len _ _) x hx
      · exact k1 _ _ (by omega) (lessPR_len _ _) x hx
theorem splitL_small {id : Int} {k : Cube} {N : Nat} : ∀ (l out : List Atm), (∀ a ∈ l, a.ids.length ≤ N) → (∀ a ∈ out, a.ids.length ≤ N + 1 ∧ a.p.length ≤ 200) → ∀ x ∈ (splitL id k l out).1, x.ids.length ≤ N + 1 ∧ x.p.length ≤ 200
  | [], out, hl, ho => by
    unfold splitL; split
    · intro x hx; simp at hx
    · exact ho
  | a :: r, out, hl, ho => by
    unfold splitL; split
    · intro x hx; simp at hx
    · refine splitL_small r _ (fun b hb => hl b (by simp [hb])) (fun x hx => ?_)
      rcases List.mem_append.1 hx with hx | hx
      · exact ho x hx
      · exact partA_small (hl a (by simp)) x hx
def splitAI (p : List Cube) (R : List Atm × Int) (s : {s : Nat × List Atm // s.1 ≤ p.length ∧ splitAll (p.drop s.1) s.1 s.2 = R ∧ s.2.length ≤ 600 ∧ ∀ a ∈ s.2, a.ids.length ≤ s.1 ∧ a.p.length ≤ 200}) : ASt :=
  ⟨[(22, .p (.d (.v (.int .i64 (s.val.1 : Int))))), (21, .p (.d (.v (.int .i64 (p.length : Int))))), (20, .p (.d (.sl 4 p.length (rowC p)))), (4, .p (.d (.sl 4 s.val.2.length (rowAt s.val.2))))], []⟩
theorem Split1_c (k : Cube) : ACalls Try.prog 15 [.agg (cb k)] (· = [.d (.v (.bool (!k.sound)))]) := by
  refine z10 Try.func15 rfl (by decide +kernel) (by rw [Try.ntmps15]; simp) ?_; rw [Try.ntmps15]; simp only [frOf]
  (repeat (first | refine q0 ?_ | refine x7 rfl ?_ | refine j7 rfl ?_ | refine z6 ?_ | (refine j0 fun K hK => ?_) | (refine x4 (by kernel_rfl) (by kernel_rfl) fun K hK => ?_) | ((first | refine q6 ?_ | refine x6 ?_ | ((first | refine q4 (hK _ ?_) | refine q5 (hK _ _ (j4 (by kernel_rfl)) ?_)); clear hK K)); (first | show AWP _ _ _ _ _ | ((try simp only [j6]); first | show loopQ _ _ _ _ _ _ | show cutQ _ _ _ _ | show AWP _ _ _ _ _))) | ((first | refine x9 rfl rfl rfl ?_ | refine j9 rfl rfl rfl ?_); simp (maxSteps := 2000000) (disch := omega) only [go_sem, seval, hd, cb, atD]; (first | refine ⟨_, Sound_c k, ?_⟩)) | ((first | refine q8 [] rfl ?_ | refine z8 [] rfl ?_); simp (maxSteps := 2000000) (disch := omega) only [go_sem, seval, hd, cb, atD]; (repeat (first | refine ⟨by omega, ?_⟩ | refine ⟨True.intro, ?_⟩)))))
  refine q10 ⟨_, ?_, rfl⟩; rw [Try.results15]; simp (disch := omega) only [ResVars, ResVar, ptrLoc, go_sem, seval, hd, cb, atD]
theorem le_pd {x y : Dat} (h : DLe x y) : Le (.p (.d x)) (.p (.d y)) := fun w g v r => ple_d h w g.g v r
theorem le_first : Le (.p (.d (.sl 4 1 fun i => [[Dat.v (Value.slice none 0 0), Dat.v (.int .u64 0), Dat.v (.int .u64 0), Dat.sl 4 1 fun i => [[Dat.v (.int .u64 (hi 0)), Dat.v (.int .u64 (lo 0)), Dat.v (.int .u64 (hi 0)), Dat.v (.int .u64 (lo 0))]].getD i []]].getD i [])))
    (.p (.d (.sl 4 1 (rowAt [⟨[], 0, [⟨0, 0⟩]⟩])))) := by
  refine le_pd (dle_sl rfl fun i (hi : i < 1) => ?_)
  obtain rfl : i = 0 := by omega
  show DLes [Dat.v (Value.slice none 0 0), Dat.v (.int .u64 0), Dat.v (.int .u64 0), _] (atD ⟨[], 0, [⟨0, 0⟩]⟩)
  unfold atD
  simp only [hi_zero, lo_zero]
  refine .cons dle_emp (.cons (dle_refl _) (.cons (dle_refl _) (.cons (dle_sl rfl fun i (hi : i < 1) => ?_) .nil)))
  obtain rfl : i = 0 := by omega
  refine .of_eq ?_
  show _ = cb ⟨0, 0⟩
  unfold cb
  simp only [hi_zero, lo_zero]
  rfl
set_option maxRecDepth 100000 in
set_option maxHeartbeats 4000000 in
theorem Split_c (p : List Cube) (hp : p.length ≤ 1048576) : ACalls Try.prog 7 [.d (.sl 4 p.length (rowC p))] (· = [.d (.sl 4 (splitV p).1.length (rowAt (splitV p).1)), .d (.v (.int .i64 (splitV p).2))]) := by
  have cf := ContainsFunc_c 15 [] (fun k => !k.sound) p (by omega) (fun k _ => Split1_c k)
  rw [any_not] at cf
  unfold splitV
  by_cases h5 : 500 < p.length
  · rw [if_pos h5]
    refine z10 Try.func7 rfl (by decide +kernel) (by rw [Try.ntmps7]; simp) ?_; rw [Try.ntmps7]; simp only [frOf]
    (repeat (first | refine q0 ?_ | refine x7 rfl ?_ | refine j7 rfl ?_ | refine z6 ?_ | (refine j0 fun K hK => ?_) | (refine x4 (by kernel_rfl) (by kernel_rfl) fun K hK => ?_) | ((first | refine q6 ?_ | refine x6 ?_ | ((first | refine q4 (hK _ ?_) | refine q5 (hK _ _ (j4 (by kernel_rfl)) ?_)); clear hK K)); (first | show AWP _ _ _ _ _ | ((try simp only [j6]); first | show loopQ _ _ _ _ _ _ | show cutQ _ _ _ _ | show AWP _ _ _ _ _))) | ((first | refine q8 [] rfl ?_ | refine z8 [] rfl ?_); simp (maxSteps := 2000000) (disch := omega) only [go_sem, seval, hd, cb, atD]; (repeat (first | refine ⟨by omega, ?_⟩ | refine ⟨True.intro, ?_⟩)))))
    refine awp_slot 2 _ (.p (.d (.sl 4 ([] : List Atm).length (rowAt [])))) rfl (le_nil 4 _ _ rfl) ?_
    refine q10 ⟨_, ?_, rfl⟩; rw [Try.results7]; simp (disch := omega) only [ResVars, ResVar, ptrLoc, go_sem, seval, hd, cb, atD]
  rw [if_neg h5]
  cases hs : p.all Cube.sound
  · rw [hs] at cf
    simp only [Bool.false_eq_true, if_false]
    refine z10 Try.func7 rfl (by decide +kernel) (by rw [Try.ntmps7]; simp) ?_; rw [Try.ntmps7]; simp only [frOf]
    (repeat (first | refine q0 ?_ | refine x7 rfl ?_ | refine j7 rfl ?_ | refine z6 ?_ | (refine j0 fun K hK => ?_) | (refine x4 (by kernel_rfl) (by kernel_rfl) fun K hK => ?_) | ((first | refine q6 ?_ | refine x6 ?_ | ((first | refine q4 (hK _ ?_) | refine q5 (hK _ _ (j4 (by kernel_rfl)) ?_)); clear hK K)); (first | show AWP _ _ _ _ _ | ((try simp only [j6]); first | show loopQ _ _ _ _ _ _ | show cutQ _ _ _ _ | show AWP _ _ _ _ _))) | ((first | refine x9 rfl rfl rfl ?_ | refine j9 rfl rfl rfl ?_); simp (maxSteps := 2000000) (disch := omega) only [go_sem, seval, hd, cb, atD]; (first | refine ⟨_, cf, ?_⟩)) | ((first | refine q8 [] rfl ?_ | refine z8 [] rfl ?_); simp (maxSteps := 2000000) (disch := omega) only [go_sem, seval, hd, cb, atD]; (repeat (first | refine ⟨by omega, ?_⟩ | refine ⟨True.intro, ?_⟩)))))
    refine awp_slot 2 _ (.p (.d (.sl 4 ([] : List Atm).length (rowAt [])))) rfl (le_nil 4 _ _ rfl) ?_
    refine q10 ⟨_, ?_, rfl⟩; rw [Try.results7]; simp (disch := omega) only [ResVars, ResVar, ptrLoc, go_sem, seval, hd, cb, atD]
  · rw [hs] at cf
    simp only [if_true]
    obtain ⟨R, hR⟩ : ∃ R, splitAll p 0 [⟨[], 0, [⟨0, 0⟩]⟩] = R := ⟨_, rfl⟩
    rw [hR]
    refine z10 Try.func7 rfl (by decide +kernel) (by rw [Try.ntmps7]; simp) ?_; rw [Try.ntmps7]; simp only [frOf]
    (repeat (first | refine q0 ?_ | refine x7 rfl ?_ | refine j7 rfl ?_ | refine z6 ?_ | (refine j0 fun K hK => ?_) | (refine x4 (by kernel_rfl) (by kernel_rfl) fun K hK => ?_) | ((first | refine q6 ?_ | refine x6 ?_ | ((first | refine q4 (hK _ ?_) | refine q5 (hK _ _ (j4 (by kernel_rfl)) ?_)); clear hK K)); (first | show AWP _ _ _ _ _ | ((try simp only [j6]); first | show loopQ _ _ _ _ _ _ | show cutQ _ _ _ _ | show AWP _ _ _ _ _))) | ((first | refine x9 rfl rfl rfl ?_ | refine j9 rfl rfl rfl ?_); simp (maxSteps := 2000000) (disch := omega) only [go_sem, seval, hd, cb, atD]; (first | refine ⟨_, cf, ?_⟩ | refine ⟨_, All_c, ?_⟩)) | ((first | refine q8 [] rfl ?_ | refine z8 [] rfl ?_); simp (maxSteps := 2000000) (disch := omega) only [go_sem, seval, hd, cb, atD]; (repeat (first | refine ⟨by omega, ?_⟩ | refine ⟨True.intro, ?_⟩)))))
    refine awp_slot 4 _ (.p (.d (.sl 4 1 (rowAt [⟨[], 0, [⟨0, 0⟩]⟩])))) rfl le_first ?_
    refine awp_loop (splitAI p R) (fun s => p.length - s.val.1) ⟨(0, [⟨[], 0, [⟨0, 0⟩]⟩]), by omega, by rw [List.drop_zero]; exact hR, by simp, by simp⟩ ?_ (fun s => ?_)
    · unfold splitAI
      refine Weak.list ?_ ?_; (all_goals simp (disch := omega) only [AllF, AllL, j10, le_top, x10, exists_eq_left', Option.some.injEq, go_sem, seval, hd, cb, atD]); (all_goals (repeat' (with_reducible apply And.intro))); (all_goals try (first | exact x8 rfl | (refine le_int ?_; omega) | (refine x8 ?_; simp; done)))
    obtain ⟨⟨i, out⟩, hi, h1, h2, h3⟩ := s
    simp only [] at hi h1 h2 h3
    unfold splitAI
    simp only []
    by_cases hn : i < p.length
    · have r1 := rowC_at p i
      rw [drop_getD p i ⟨0, 0⟩ hn] at h1
      unfold splitAll at h1
      generalize p.getD i ⟨0, 0⟩ = k at r1 h1
      have sp := split_c out i k ⟨by omega, fun a ha => by have := h3 a ha; omega⟩
      have sl := splitL_len (i : Int) k out []
      have ss := splitL_small (id := (i : Int)) (k := k) (N := i) out [] (fun a ha => (h3 a ha).1) (fun a ha => by simp at ha)
      generalize splitL (i : Int) k out [] = q at sp sl ss h1
      obtain ⟨ou2, e⟩ := q
      simp only [] at sp sl ss h1
      unfold cb at sp
      by_cases he : e = 0
      · subst he
        rw [if_neg (by simp)] at h1
        (repeat (first | refine q0 ?_ | refine x7 rfl ?_ | refine j7 rfl ?_ | refine z6 ?_ | (refine j0 fun K hK => ?_) | (refine x4 (by kernel_rfl) (by kernel_rfl) fun K hK => ?_) | ((first | refine q6 ?_ | refine x6 ?_ | ((first | refine q4 (hK _ ?_) | refine q5 (hK _ _ (j4 (by kernel_rfl)) ?_)); clear hK K)); (first | show AWP _ _ _ _ _ | ((try simp only [j6]); first | show loopQ _ _ _ _ _ _ | show cutQ _ _ _ _ | show AWP _ _ _ _ _))) | ((first | refine x9 rfl rfl rfl ?_ | refine j9 rfl rfl rfl ?_); simp (maxSteps := 2000000) (disch := omega) only [go_sem, seval, hd, cb, atD, r1]; (first | refine ⟨_, sp, ?_⟩)) | ((first | refine q8 [] rfl ?_ | refine z8 [] rfl ?_); simp (maxSteps := 2000000) (disch := omega) only [go_sem, seval, hd, cb, atD, r1]; (repeat (first | refine ⟨by omega, ?_⟩ | refine ⟨True.intro, ?_⟩)))))
        refine ⟨⟨(i + 1, ou2), by simp only []; omega, h1, sl, ss⟩, by simp only []; omega, ?_⟩
        refine Weak.list ?_ ?_; (all_goals simp (disch := omega) only [AllF, AllL, j10, le_top, x10, exists_eq_left', Option.some.injEq, go_sem, seval, hd, cb, atD, r1]); (all_goals (repeat' (with_reducible apply And.intro))); (all_goals try (first | exact x8 rfl | (refine le_int ?_; omega) | (refine x8 ?_; simp; done)))
      · rw [if_pos he] at h1
        subst h1
        have q1 := ine_tt he
        (repeat (first | refine q0 ?_ | refine x7 rfl ?_ | refine j7 rfl ?_ | refine z6 ?_ | (refine j0 fun K hK => ?_) | (refine x4 (by kernel_rfl) (by kernel_rfl) fun K hK => ?_) | ((first | refine q6 ?_ | refine x6 ?_ | ((first | refine q4 (hK _ ?_) | refine q5 (hK _ _ (j4 (by kernel_rfl)) ?_)); clear hK K)); (first | show AWP _ _ _ _ _ | ((try simp only [j6]); first | show loopQ _ _ _ _ _ _ | show cutQ _ _ _ _ | show AWP _ _ _ _ _))) | ((first | refine x9 rfl rfl rfl ?_ | refine j9 rfl rfl rfl ?_); simp (maxSteps := 2000000) (disch := omega) only [go_sem, seval, hd, cb, atD, r1, q1]; (first | refine ⟨_, sp, ?_⟩)) | ((first | refine q8 [] rfl ?_ | refine z8 [] rfl ?_); simp (maxSteps := 2000000) (disch := omega) only [go_sem, seval, hd, cb, atD, r1, q1]; (repeat (first | refine ⟨by omega, ?_⟩ | refine ⟨True.intro, ?_⟩)))))
        refine awp_slot 2 _ (.p (.d (.sl 4 ([] : List Atm).length (rowAt [])))) rfl (le_nil 4 _ _ rfl) ?_
        refine q10 ⟨_, ?_, rfl⟩; rw [Try.results7]; simp (disch := omega) only [ResVars, ResVar, ptrLoc, go_sem, seval, hd, cb, atD, r1, q1]
    · have : i = p.length := by omega
      subst this
      rw [List.drop_length] at h1
      unfold splitAll at h1
      subst h1
      have cp := ClipAt_c out.length (rowAt out) (by omega)
      (repeat (first | refine q0 ?_ | refine x7 rfl ?_ | refine j7 rfl ?_ | refine z6 ?_ | (refine j0 fun K hK => ?_) | (refine x4 (by kernel_rfl) (by kernel_rfl) fun K hK => ?_) | ((first | refine q6 ?_ | refine x6 ?_ | ((first | refine q4 (hK _ ?_) | refine q5 (hK _ _ (j4 (by kernel_rfl)) ?_)); clear hK K)); (first | show AWP _ _ _ _ _ | ((try simp only [j6]); first | show loopQ _ _ _ _ _ _ | show cutQ _ _ _ _ | show AWP _ _ _ _ _))) | ((first | refine x9 rfl rfl rfl ?_ | refine j9 rfl rfl rfl ?_); simp (maxSteps := 2000000) (disch := omega) only [go_sem, seval, hd, cb, atD]; (first | refine ⟨_, cp, ?_⟩)) | ((first | refine q8 [] rfl ?_ | refine z8 [] rfl ?_); simp (maxSteps := 2000000) (disch := omega) only [go_sem, seval, hd, cb, atD]; (repeat (first | refine ⟨by omega, ?_⟩ | refine ⟨True.intro, ?_⟩)))))
      refine q10 ⟨_, ?_, rfl⟩; rw [Try.results7]; simp (disch := omega) only [ResVars, ResVar, ptrLoc, go_sem, seval, hd, cb, atD]
def soundAL (l : List Atm) : Bool := l.all fun a => soundP a.p
theorem sound1_c (a : Atm) (h : a.p.length ≤ 1048576) : ACalls Try.prog 42 [.agg (atD a)] (· = [.d (.v (.bool (!soundP a.p)))]) := by
  have sp := SoundP_c a.p (by omega)
  refine z10 Try.func42 rfl (by decide +kernel) (by rw [Try.ntmps42]; simp) ?_; rw [Try.ntmps42]; simp only [frOf]
  (repeat (first | refine q0 ?_ | refine x7 rfl ?_ | refine j7 rfl ?_ | refine z6 ?_ | (refine j0 fun K hK => ?_) | (refine x4 (by kernel_rfl) (by kernel_rfl) fun K hK => ?_) | ((first | refine q6 ?_ | refine x6 ?_ | ((first | refine q4 (hK _ ?_) | refine q5 (hK _ _ (j4 (by kernel_rfl)) ?_)); clear hK K)); (first | show AWP _ _ _ _ _ | ((try simp only [j6]); first | show loopQ _ _ _ _ _ _ | show cutQ _ _ _ _ | show AWP _ _ _ _ _))) | ((first | refine x9 rfl rfl rfl ?_ | refine j9 rfl rfl rfl ?_); simp (maxSteps := 2000000) (disch := omega) only [go_sem, seval, hd, cb, atD]; (first | refine ⟨_, sp, ?_⟩)) | ((first | refine q8 [] rfl ?_ | refine z8 [] rfl ?_); simp (maxSteps := 2000000) (disch := omega) only [go_sem, seval, hd, cb, atD]; (repeat (first | refine ⟨by omega, ?_⟩ | refine ⟨True.intro, ?_⟩)))))
  refine q10 ⟨_, ?_, rfl⟩; rw [Try.results42]; simp (disch := omega) only [ResVars, ResVar, ptrLoc, go_sem, seval, hd, cb, atD]
theorem soundAL_c (l : List Atm) (hl : smallA l) : ACalls Try.prog 24 [.d (.sl 4 l.length (rowAt l))] (· = [.d (.v (.bool (soundAL l)))]) := by
  obtain ⟨l1, l2⟩ := hl
  have cf := ContainsAt_c 42 [] (fun a => !soundP a.p) l (by omega) (fun a ha => sound1_c a (l2 a ha).2)
  rw [any_not] at cf
  unfold soundAL
  generalize (l.all fun a => soundP a.p) = b at cf
  refine z10 Try.func24 rfl (by decide +kernel) (by rw [Try.ntmps24]; simp) ?_; rw [Try.ntmps24]; simp only [frOf]
  (repeat (first | refine q0 ?_ | refine x7 rfl ?_ | refine j7 rfl ?_ | refine z6 ?_ | (refine j0 fun K hK => ?_) | (refine x4 (by kernel_rfl) (by kernel_rfl) fun K hK => ?_) | ((first | refine q6 ?_ | refine x6 ?_ | ((first | refine q4 (hK _ ?_) | refine q5 (hK _ _ (j4 (by kernel_rfl)) ?_)); clear hK K)); (first | show AWP _ _ _ _ _ | ((try simp only [j6]); first | show loopQ _ _ _ _ _ _ | show cutQ _ _ _ _ | show AWP _ _ _ _ _))) | ((first | refine x9 rfl rfl rfl ?_ | refine j9 rfl rfl rfl ?_); simp (maxSteps := 2000000) (disch := omega) only [go_sem, seval, hd, cb, atD]; (first | refine ⟨_, cf, ?_⟩)) | ((first | refine q8 [] rfl ?_ | refine z8 [] rfl ?_); simp (maxSteps := 2000000) (disch := omega) only [go_sem, seval, hd, cb, atD]; (repeat (first | refine ⟨by omega, ?_⟩ | refine ⟨True.intro, ?_⟩)))))
  refine q10 ⟨_, ?_, rfl⟩; rw [Try.results24]; simp (disch := omega) only [ResVars, ResVar, ptrLoc, go_sem, seval, hd, cb, atD]
  simp
theorem Refine1_c (a : Atm) (id : Int) (h : a.ids.length ≤ 1048576) : ACalls Try.prog 26 [.agg (atD a), .d (.bx [.v (.int .i64 id)])] (· = [.d (.v (.bool (a.ids.contains id)))]) := by
  have hs := HasS_c a.ids id (by omega)
  generalize a.ids.contains id = b at hs
  refine z10 Try.func26 rfl (by decide +kernel) (by rw [Try.ntmps26]; simp) ?_; rw [Try.ntmps26]; simp only [frOf]
  (repeat (first | refine q0 ?_ | refine x7 rfl ?_ | refine j7 rfl ?_ | refine z6 ?_ | (refine j0 fun K hK => ?_) | (refine x4 (by kernel_rfl) (by kernel_rfl) fun K hK => ?_) | ((first | refine q6 ?_ | refine x6 ?_ | ((first | refine q4 (hK _ ?_) | refine q5 (hK _ _ (j4 (by kernel_rfl)) ?_)); clear hK K)); (first | show AWP _ _ _ _ _ | ((try simp only [j6]); first | show loopQ _ _ _ _ _ _ | show cutQ _ _ _ _ | show AWP _ _ _ _ _))) | ((first | refine x9 rfl rfl rfl ?_ | refine j9 rfl rfl rfl ?_); simp (maxSteps := 2000000) (disch := omega) only [go_sem, seval, hd, cb, atD]; (first | refine ⟨_, hs, ?_⟩)) | ((first | refine q8 [] rfl ?_ | refine z8 [] rfl ?_); simp (maxSteps := 2000000) (disch := omega) only [go_sem, seval, hd, cb, atD]; (repeat (first | refine ⟨by omega, ?_⟩ | refine ⟨True.intro, ?_⟩)))))
  refine q10 ⟨_, ?_, rfl⟩; rw [Try.results26]; simp (disch := omega) only [ResVars, ResVar, ptrLoc, go_sem, seval, hd, cb, atD]
def refineV (l : List Atm) (id : Int) (k : Cube) : List Atm × Int :=
  if id < 0 then ([], 1) else if (k.sound && soundAL l) = false then ([], 2) else if (l.any fun a => a.ids.contains id) = true then ([], 8) else splitL id k l []
set_option maxRecDepth 100000 in
set_option maxHeartbeats 2000000 in
theorem Refine_c (l : List Atm) (id : Int) (k : Cube) (hl : smallA l) : ACalls Try.prog 10 [.d (.sl 4 l.length (rowAt l)), .d (.v (.int .i64 id)), .agg (cb k)] (· = [.d (.sl 4 (refineV l id k).1.length (rowAt (refineV l id k).1)), .d (.v (.int .i64 (refineV l id k).2))]) := by
  have so := soundAL_c l hl
  have sk := Sound_c k
  have ct := ContainsAt_c 26 [.d (.bx [.v (.int .i64 id)])] (fun a => a.ids.contains id) l (by have := hl.1; omega) (fun a ha => Refine1_c a id (hl.2 a ha).1)
  have sp := split_c l id k hl
  have sl := splitL_len id k l []
  have cp := ClipAt_c (splitL id k l []).1.length (rowAt (splitL id k l []).1) (by omega)
  unfold refineV
  generalize soundAL l = b1 at so
  generalize (l.any fun a => a.ids.contains id) = b2 at ct
  generalize splitL id k l [] = q at sp cp
  obtain ⟨out, e⟩ := q
  simp only [] at sp cp
  by_cases h0 : id < 0
  · rw [if_pos h0]
    have q1 : decide (id < 0) = true := decide_eq_true h0
    refine z10 Try.func10 rfl (by decide +kernel) (by rw [Try.ntmps10]; simp) ?_; rw [Try.ntmps10]; simp only [frOf]
    (repeat (first | refine q0 ?_ | refine x7 rfl ?_ | refine j7 rfl ?_ | refine z6 ?_ | (refine j0 fun K hK => ?_) | (refine x4 (by kernel_rfl) (by kernel_rfl) fun K hK => ?_) | ((first | refine q6 ?_ | refine x6 ?_ | ((first | refine q4 (hK _ ?_) | refine q5 (hK _ _ (j4 (by kernel_rfl)) ?_)); clear hK K)); (first | show AWP _ _ _ _ _ | ((try simp only [j6]); first | show loopQ _ _ _ _ _ _ | show cutQ _ _ _ _ | show AWP _ _ _ _ _))) | ((first | refine q8 [] rfl ?_ | refine z8 [] rfl ?_); simp (maxSteps := 2000000) (disch := omega) only [go_sem, seval, hd, cb, atD, q1]; (repeat (first | refine ⟨by omega, ?_⟩ | refine ⟨True.intro, ?_⟩)))))
    refine awp_slot 6 _ (.p (.d (.sl 4 ([] : List Atm).length (rowAt [])))) rfl (le_nil 4 _ _ rfl) ?_
    refine q10 ⟨_, ?_, rfl⟩; rw [Try.results10]; simp (disch := omega) only [ResVars, ResVar, ptrLoc, go_sem, seval, hd, cb, atD, q1]
  rw [if_neg h0]
  have q1 : decide (id < 0) = false := decide_eq_false h0
  cases hk : k.sound
  · rw [hk] at sk
    simp only [Bool.false_and, if_true]
    refine z10 Try.func10 rfl (by decide +kernel) (by rw [Try.ntmps10]; simp) ?_; rw [Try.ntmps10]; simp only [frOf]
    (repeat (first | refine q0 ?_ | refine x7 rfl ?_ | refine j7 rfl ?_ | refine z6 ?_ | (refine j0 fun K hK => ?_) | (refine x4 (by kernel_rfl) (by kernel_rfl) fun K hK => ?_) | ((first | refine q6 ?_ | refine x6 ?_ | ((first | refine q4 (hK _ ?_) | refine q5 (hK _ _ (j4 (by kernel_rfl)) ?_)); clear hK K)); (first | show AWP _ _ _ _ _ | ((try simp only [j6]); first | show loopQ _ _ _ _ _ _ | show cutQ _ _ _ _ | show AWP _ _ _ _ _))) | ((first | refine x9 rfl rfl rfl ?_ | refine j9 rfl rfl rfl ?_); simp (maxSteps := 2000000) (disch := omega) only [go_sem, seval, hd, cb, atD, q1]; (first | refine ⟨_, sk, ?_⟩)) | ((first | refine q8 [] rfl ?_ | refine z8 [] rfl ?_); simp (maxSteps := 2000000) (disch := omega) only [go_sem, seval, hd, cb, atD, q1]; (repeat (first | refine ⟨by omega, ?_⟩ | refine ⟨True.intro, ?_⟩)))))
    refine awp_slot 6 _ (.p (.d (.sl 4 ([] : List Atm).length (rowAt [])))) rfl (le_nil 4 _ _ rfl) ?_
    refine q10 ⟨_, ?_, rfl⟩; rw [Try.results10]; simp (disch := omega) only [ResVars, ResVar, ptrLoc, go_sem, seval, hd, cb, atD, q1]
  rw [hk] at sk
  cases b1
  · simp only [Bool.and_false, if_true]
    refine z10 Try.func10 rfl (by decide +kernel) (by rw [Try.ntmps10]; simp) ?_; rw [Try.ntmps10]; simp only [frOf]
    (repeat (first | refine q0 ?_ | refine x7 rfl ?_ | refine j7 rfl ?_ | refine z6 ?_ | (refine j0 fun K hK => ?_) | (refine x4 (by kernel_rfl) (by kernel_rfl) fun K hK => ?_) | ((first | refine q6 ?_ | refine x6 ?_ | ((first | refine q4 (hK _ ?_) | refine q5 (hK _ _ (j4 (by kernel_rfl)) ?_)); clear hK K)); (first | show AWP _ _ _ _ _ | ((try simp only [j6]); first | show loopQ _ _ _ _ _ _ | show cutQ _ _ _ _ | show AWP _ _ _ _ _))) | ((first | refine x9 rfl rfl rfl ?_ | refine j9 rfl rfl rfl ?_); simp (maxSteps := 2000000) (disch := omega) only [go_sem, seval, hd, cb, atD, q1]; (first | refine ⟨_, sk, ?_⟩ | refine ⟨_, so, ?_⟩)) | ((first | refine q8 [] rfl ?_ | refine z8 [] rfl ?_); simp (maxSteps := 2000000) (disch := omega) only [go_sem, seval, hd, cb, atD, q1]; (repeat (first | refine ⟨by omega, ?_⟩ | refine ⟨True.intro, ?_⟩)))))
    refine awp_slot 6 _ (.p (.d (.sl 4 ([] : List Atm).length (rowAt [])))) rfl (le_nil 4 _ _ rfl) ?_
    refine q10 ⟨_, ?_, rfl⟩; rw [Try.results10]; simp (disch := omega) only [ResVars, ResVar, ptrLoc, go_sem, seval, hd, cb, atD, q1]
  cases b2
  · simp only [Bool.and_true, Bool.true_eq_false, Bool.false_eq_true, if_false]
    refine z10 Try.func10 rfl (by decide +kernel) (by rw [Try.ntmps10]; simp) ?_; rw [Try.ntmps10]; simp only [frOf]
    (repeat (first | refine q0 ?_ | refine x7 rfl ?_ | refine j7 rfl ?_ | refine z6 ?_ | (refine j0 fun K hK => ?_) | (refine x4 (by kernel_rfl) (by kernel_rfl) fun K hK => ?_) | ((first | refine q6 ?_ | refine x6 ?_ | ((first | refine q4 (hK _ ?_) | refine q5 (hK _ _ (j4 (by kernel_rfl)) ?_)); clear hK K)); (first | show AWP _ _ _ _ _ | ((try simp only [j6]); first | show loopQ _ _ _ _ _ _ | show cutQ _ _ _ _ | show AWP _ _ _ _ _))) | ((first | refine x9 rfl rfl rfl ?_ | refine j9 rfl rfl rfl ?_); simp (maxSteps := 2000000) (disch := omega) only [go_sem, seval, hd, cb, atD, q1]; (first | refine ⟨_, sk, ?_⟩ | refine ⟨_, so, ?_⟩ | refine ⟨_, ct, ?_⟩ | refine ⟨_, sp, ?_⟩ | refine ⟨_, cp, ?_⟩)) | ((first | refine q8 [] rfl ?_ | refine z8 [] rfl ?_); simp (maxSteps := 2000000) (disch := omega) only [go_sem, seval, hd, cb, atD, q1]; (repeat (first | refine ⟨by omega, ?_⟩ | refine ⟨True.intro, ?_⟩)))))
    refine q10 ⟨_, ?_, rfl⟩; rw [Try.results10]; simp (disch := omega) only [ResVars, ResVar, ptrLoc, go_sem, seval, hd, cb, atD, q1]
  · simp only [Bool.and_true, Bool.true_eq_false, if_false, if_true]
    refine z10 Try.func10 rfl (by decide +kernel) (by rw [Try.ntmps10]; simp) ?_; rw [Try.ntmps10]; simp only [frOf]
    (repeat (first | refine q0 ?_ | refine x7 rfl ?_ | refine j7 rfl ?_ | refine z6 ?_ | (refine j0 fun K hK => ?_) | (refine x4 (by kernel_rfl) (by kernel_rfl) fun K hK => ?_) | ((first | refine q6 ?_ | refine x6 ?_ | ((first | refine q4 (hK _ ?_) | refine q5 (hK _ _ (j4 (by kernel_rfl)) ?_)); clear hK K)); (first | show AWP _ _ _ _ _ | ((try simp only [j6]); first | show loopQ _ _ _ _ _ _ | show cutQ _ _ _ _ | show AWP _ _ _ _ _))) | ((first | refine x9 rfl rfl rfl ?_ | refine j9 rfl rfl rfl ?_); simp (maxSteps := 2000000) (disch := omega) only [go_sem, seval, hd, cb, atD, q1]; (first | refine ⟨_, sk, ?_⟩ | refine ⟨_, so, ?_⟩ | refine ⟨_, ct, ?_⟩)) | ((first | refine q8 [] rfl ?_ | refine z8 [] rfl ?_); simp (maxSteps := 2000000) (disch := omega) only [go_sem, seval, hd, cb, atD, q1]; (repeat (first | refine ⟨by omega, ?_⟩ | refine ⟨True.intro, ?_⟩)))))
    refine awp_slot 6 _ (.p (.d (.sl 4 ([] : List Atm).length (rowAt [])))) rfl (le_nil 4 _ _ rfl) ?_
    refine q10 ⟨_, ?_, rfl⟩; rw [Try.results10]; simp (disch := omega) only [ResVars, ResVar, ptrLoc, go_sem, seval, hd, cb, atD, q1]
theorem Find1_c (a : Atm) (h : BitVec 128) (hp : a.p.length ≤ 1048576) : ACalls Try.prog 22 [.agg (atD a), .d (.bx (hd h))] (· = [.d (.v (.bool (hasP a.p h)))]) := by
  have hs := HasP_c a.p h (by omega)
  generalize hasP a.p h = b at hs
  refine z10 Try.func22 rfl (by decide +kernel) (by rw [Try.ntmps22]; simp) ?_; rw [Try.ntmps22]; simp only [frOf]
  (repeat (first | refine q0 ?_ | refine x7 rfl ?_ | refine j7 rfl ?_ | refine z6 ?_ | (refine j0 fun K hK => ?_) | (refine x4 (by kernel_rfl) (by kernel_rfl) fun K hK => ?_) | ((first | refine q6 ?_ | refine x6 ?_ | ((first | refine q4 (hK _ ?_) | refine q5 (hK _ _ (j4 (by kernel_rfl)) ?_)); clear hK K)); (first | show AWP _ _ _ _ _ | ((try simp only [j6]); first | show loopQ _ _ _ _ _ _ | show cutQ _ _ _ _ | show AWP _ _ _ _ _))) | ((first | refine x9 rfl rfl rfl ?_ | refine j9 rfl rfl rfl ?_); simp (maxSteps := 2000000) (disch := omega) only [go_sem, seval, hd, cb, atD]; (first | refine ⟨_, hs, ?_⟩)) | ((first | refine q8 [] rfl ?_ | refine z8 [] rfl ?_); simp (maxSteps := 2000000) (disch := omega) only [go_sem, seval, hd, cb, atD]; (repeat (first | refine ⟨by omega, ?_⟩ | refine ⟨True.intro, ?_⟩)))))
  refine q10 ⟨_, ?_, rfl⟩; rw [Try.results22]; simp (disch := omega) only [ResVars, ResVar, ptrLoc, go_sem, seval, hd, cb, atD]
def findA (l : List Atm) (h : BitVec 128) : Int := idxF (fun a => hasP a.p h) l 0
theorem FindA_c (l : List Atm) (h : BitVec 128) (hl : smallA l) : ACalls Try.prog 9 [.d (.sl 4 l.length (rowAt l)), .agg (hd h)] (· = [.d (.v (.int .i64 (max (findA l h) 0))), .d (.v (.bool (decide (findA l h ≥ 0))))]) := by
  have ix := IndexAt_c 22 [.d (.bx (hd h))] (fun a => hasP a.p h) l (by have := hl.1; omega) (fun a ha => Find1_c a h (hl.2 a ha).2)
  unfold findA
  generalize idxF (fun a => hasP a.p h) l 0 = R at ix
  rw [show max R 0 = if (0 : Int) > R then 0 else R by omega]
  refine z10 Try.func9 rfl (by decide +kernel) (by rw [Try.ntmps9]; simp) ?_; rw [Try.ntmps9]; simp only [frOf]
  (repeat ((fail_if_success (show AWP _ _ (.region 2 _ _) _ _)); first | refine q0 ?_ | refine x7 rfl ?_ | refine j7 rfl ?_ | refine z6 ?_ | (refine j0 fun K hK => ?_) | (refine x4 (by kernel_rfl) (by kernel_rfl) fun K hK => ?_) | ((first | refine q6 ?_ | refine x6 ?_ | ((first | refine q4 (hK _ ?_) | refine q5 (hK _ _ (j4 (by kernel_rfl)) ?_)); clear hK K)); (first | show AWP _ _ _ _ _ | ((try simp only [j6]); first | show loopQ _ _ _ _ _ _ | show cutQ _ _ _ _ | show AWP _ _ _ _ _))) | ((first | refine x9 rfl rfl rfl ?_ | refine j9 rfl rfl rfl ?_); simp (maxSteps := 2000000) (disch := omega) only [go_sem, seval, hd, cb, atD]; (first | refine ⟨_, ix, ?_⟩)) | ((first | refine q8 [] rfl ?_ | refine z8 [] rfl ?_); simp (maxSteps := 2000000) (disch := omega) only [go_sem, seval, hd, cb, atD]; (repeat (first | refine ⟨by omega, ?_⟩ | refine ⟨True.intro, ?_⟩)))))
  refine j0 fun K hK => ?_
  (first | refine walkS_op2 [] rfl rfl ?_ | refine walkD_op2 [] rfl rfl ?_ | refine walkS_skip rfl rfl ?_ | refine walkD_skip rfl rfl ?_)
  simp (maxSteps := 2000000) (disch := omega) only [go_sem, seval, hd, cb, atD]
  refine walkS_cons _ (step_max rfl rfl rfl rfl rfl rfl rfl) ?_
  simp (maxSteps := 2000000) (disch := omega) only [go_sem, seval, hd, cb, atD]
  (repeat (first | refine q0 ?_ | refine x7 rfl ?_ | refine j7 rfl ?_ | refine z6 ?_ | (refine j0 fun K hK => ?_) | (refine x4 (by kernel_rfl) (by kernel_rfl) fun K hK => ?_) | ((first | refine q6 ?_ | refine x6 ?_ | ((first | refine q4 (hK _ ?_) | refine q5 (hK _ _ (j4 (by kernel_rfl)) ?_)); clear hK K)); (first | show AWP _ _ _ _ _ | ((try simp only [j6]); first | show loopQ _ _ _ _ _ _ | show cutQ _ _ _ _ | show AWP _ _ _ _ _))) | ((first | refine q8 [] rfl ?_ | refine z8 [] rfl ?_); simp (maxSteps := 2000000) (disch := omega) only [go_sem, seval, hd, cb, atD]; (repeat (first | refine ⟨by omega, ?_⟩ | refine ⟨True.intro, ?_⟩)))))
  refine q10 ⟨_, ?_, rfl⟩; rw [Try.results9]; simp (disch := omega) only [ResVars, ResVar, ptrLoc, go_sem, seval, hd, cb, atD]
end Go.Proofs.Ytemcdefpihkfpaa
set_option linter.unusedSimpArgs false
set_option linter.unusedVariables false
namespace Go.Proofs.Ytemcdefpihkfpaa
open Go.Proofs.Ytemcdefpihkfpaa.AL
end Go.Proofs.Ytemcdefpihkfpaa
set_option linter.unusedSimpArgs false
set_option linter.unusedVariables false
namespace Go.Proofs.Ytemcdefpihkfpaa.AL
open Go
def LLes (M M2 : List (Nat × LV)) : Prop := ∀ l X2, look M2 l = some X2 → ∃ X, look M l = some X ∧ LLe X X2
theorem LLes.nil (M : List (Nat × LV)) : LLes M [] := fun l X2 h => by simp [look] at h
theorem LLes.cons {M M2 : List (Nat × LV)} {l : Nat} {X X2 : LV} (h : look M l = some X) (hl : LLe X X2) (t : LLes M M2) : LLes M ((l, X2) :: M2) := fun k Y hk => by
  simp only [look] at hk
  split at hk
  · rename_i e; subst e; cases hk; exact ⟨X, h, hl⟩
  · exact t k Y hk
theorem LLe.refl (X : LV) : LLe X X := of_eq_true (x10 X)
theorem MCalls.out {P : Program} {f : FuncId} {xs : List AV} {L M M2 : List (Nat × LV)} {rs : List AV} (h : MCalls P f xs L (fun r M' => r = rs ∧ M' = M)) (hM : LLes M M2) : MCalls P f xs L (fun r M' => r = rs ∧ M' = M2) := by
  intro w g vs hz hr hl
  have key := h w g vs hz hr hl
  have fin : ∀ v w', (∃ h' r M', (r = rs ∧ M' = M) ∧ RelRA w' h' v r ∧ LocsOK (fun _ => True) w' h' M' ∧ Chg L M' w g w' h') → ∃ h' r M', (r = rs ∧ M' = M2) ∧ RelRA w' h' v r ∧ LocsOK (fun _ => True) w' h' M' ∧ Chg L M' w g w' h' := by
    rintro v w' ⟨h', r, M', ⟨rfl, rfl⟩, h1, h2, h3⟩
    refine ⟨h', _, M2, ⟨rfl, rfl⟩, h1, ⟨fun l X2 hX => ?_, fun l l' X X' b hne e1 e2 hb hb' => ?_⟩, ⟨h3.below, h3.gam, h3.gz, h3.keep, h3.ρ, h3.up, fun b hb => ?_⟩⟩
    · obtain ⟨X, e1, e2⟩ := hM l X2 hX
      exact (lle_ok e2 (h2.1 l X e1)).1
    · obtain ⟨Y, y1, y2⟩ := hM l X e1
      obtain ⟨Y', z1, z2⟩ := hM l' X' e2
      rw [(lle_ok y2 (h2.1 l Y y1)).2] at hb
      rw [(lle_ok z2 (h2.1 l' Y' z1)).2] at hb'
      exact h2.2 l l' Y Y' b hne y1 z1 hb hb'
    · obtain ⟨l, X2, e1, e2⟩ := hb
      obtain ⟨Y, y1, y2⟩ := hM l X2 e1
      rw [(lle_ok y2 (h2.1 l Y y1)).2] at e2
      exact h3.own b ⟨l, Y, y1, e2⟩
  unfold CallRes at *
  split at key
  · exact key.mono fun e w' ⟨v, he, hh⟩ => ⟨v, he, fin v w' hh⟩
  · exact fin _ _ key
  · exact key.elim
end Go.Proofs.Ytemcdefpihkfpaa.AL
set_option linter.unusedSimpArgs false
set_option linter.unusedVariables false
namespace Go.Proofs.Ytemcdefpihkfpaa.AL
variable {P : Program} {nt : Nat} {Q : Exit → ASt → Prop} {A : ASt}
def cutQ {ι : Type} (I : ι → ASt) (Q : Exit → ASt → Prop) : Exit → ASt → Prop
  | .normal, A => ∃ i, Weak A (I i)
  | e, A => Q e A
theorem cut_n {ι : Type} {I : ι → ASt} {Q : Exit → ASt → Prop} {A : ASt} (i : ι) (h : Weak A (I i)) : cutQ I Q .normal A := ⟨i, h⟩
theorem awp_to {ι : Type} (I : ι → ASt) {x z : Code} (h1 : AWP P nt x (cutQ I Q) A) (h2 : ∀ i, AWP P nt z Q (I i)) : AWP P nt x (seqQ P nt z Q) A := by
  refine awp_mono h1 fun e A' h => ?_
  cases e with
  | normal => obtain ⟨i, hw⟩ := h; exact awp_weak hw (h2 i)
  | _ => exact h
attribute [irreducible] cutQ
theorem look_of_all {α : Type} {M : List (Nat × α)} : ∀ {L : List (Nat × α)}, (∀ p ∈ L, look M p.1 = some p.2) → ∀ l X, look L l = some X → look M l = some X
  | [], _, l, X, h => by cases h
  | p :: r, hl, l, X, h => by
    simp only [look] at h
    split at h
    · rename_i e; subst e; cases h; exact hl p (by simp)
    · exact look_of_all (fun q hq => hl q (by simp [hq])) l X h
theorem retM_of {fn : Func} {Q : List AV → List (Nat × LV) → Prop} (rs : List AV) (L : List (Nat × LV)) (hr : ResVarsA P A fn.results.toList rs) (hl : ∀ p ∈ L, look A.locs p.1 = some p.2) (hq : Q rs L) : retM P fn Q .ret A :=
  ⟨rs, L, hr, look_of_all hl, hq⟩
end Go.Proofs.Ytemcdefpihkfpaa.AL
set_option linter.unusedSimpArgs false
set_option linter.unusedVariables false
namespace Go.Proofs.Ytemcdefpihkfpaa.AL
variable {P : Program} {nt : Nat} {Q : Exit → ASt → Prop} {A : ASt}
end Go.Proofs.Ytemcdefpihkfpaa.AL
set_option linter.unusedSimpArgs false
set_option linter.unusedVariables false
namespace Go.Proofs.Ytemcdefpihkfpaa
open Go Go.Proofs.Ytemcdefpihkfpaa.AL
def eqZI (a b : List Int) (R : Bool) (s : {i : Nat // i ≤ a.length ∧ (a.drop i == b.drop i) = R}) : ASt :=
  ⟨[(13, .p (.d (.v (.int .i64 (s.val : Int))))), (12, .p (.d (.v (.int .i64 (a.length : Int))))), (1, .p (.d (.sl 1 b.length (rowZ b)))), (0, .p (.d (.sl 1 a.length (rowZ a))))], []⟩
theorem EqualZ_c (a b : List Int) (ha : a.length ≤ 1099511627776) (hb : b.length ≤ 1099511627776) : ACalls Try.prog 30 [.d (.sl 1 a.length (rowZ a)), .d (.sl 1 b.length (rowZ b))] (· = [.d (.v (.bool (a == b)))]) := by
  by_cases hlen : a.length = b.length
  · have q : ((a.length : Int) != (b.length : Int)) = false := ine_ff (by rw [hlen])
    obtain ⟨R, hR⟩ : ∃ R, (a == b) = R := ⟨_, rfl⟩
    rw [hR]
    refine z10 Try.func30 rfl (by decide +kernel) (by rw [Try.ntmps30]; simp) ?_; rw [Try.ntmps30]; simp only [frOf]
    (repeat (first | refine q0 ?_ | refine x7 rfl ?_ | refine j7 rfl ?_ | refine z6 ?_ | (refine j0 fun K hK => ?_) | (refine x4 (by kernel_rfl) (by kernel_rfl) fun K hK => ?_) | ((first | refine q6 ?_ | refine x6 ?_ | ((first | refine q4 (hK _ ?_) | refine q5 (hK _ _ (j4 (by kernel_rfl)) ?_)); clear hK K)); (first | show AWP _ _ _ _ _ | ((try simp only [j6]); first | show loopQ _ _ _ _ _ _ | show cutQ _ _ _ _ | show AWP _ _ _ _ _))) | ((first | refine q8 [] rfl ?_ | refine z8 [] rfl ?_); simp (maxSteps := 2000000) (disch := omega) only [go_sem, seval, hd, cb, atD, q]; (repeat (first | refine ⟨by omega, ?_⟩ | refine ⟨True.intro, ?_⟩)))))
    refine awp_loop (eqZI a b R) (fun s => a.length - s.val) ⟨0, by omega, by rw [List.drop_zero, List.drop_zero]; exact hR⟩ ?_ (fun s => ?_)
    · unfold eqZI
      refine Weak.list ?_ ?_; (all_goals simp (disch := omega) only [AllF, AllL, j10, le_top, x10, exists_eq_left', Option.some.injEq, go_sem, seval, hd, cb, atD, q]); (all_goals (repeat' (with_reducible apply And.intro))); (all_goals try (first | exact x8 rfl | (refine le_int ?_; omega) | (refine x8 ?_; simp; done)))
    obtain ⟨i, hi, he⟩ := s
    unfold eqZI
    simp only []
    by_cases hn : i < a.length
    · have r1 := rowZ_at a i
      have r2 := rowZ_at b i
      rw [drop_getD a i 0 hn, drop_getD b i 0 (by omega), List.cons_beq_cons] at he
      generalize a.getD i 0 = x at r1 he
      generalize b.getD i 0 = y at r2 he
      by_cases hxy : x = y
      · subst hxy
        rw [beq_self_eq_true, Bool.true_and] at he
        have q2 : (x != x) = false := ine_ff rfl
        (repeat (first | refine q0 ?_ | refine x7 rfl ?_ | refine j7 rfl ?_ | refine z6 ?_ | (refine j0 fun K hK => ?_) | (refine x4 (by kernel_rfl) (by kernel_rfl) fun K hK => ?_) | ((first | refine q6 ?_ | refine x6 ?_ | ((first | refine q4 (hK _ ?_) | refine q5 (hK _ _ (j4 (by kernel_rfl)) ?_)); clear hK K)); (first | show AWP _ _ _ _ _ | ((try simp only [j6]); first | show loopQ _ _ _ _ _ _ | show cutQ _ _ _ _ | show AWP _ _ _ _ _))) | ((first | refine q8 [] rfl ?_ | refine z8 [] rfl ?_); simp (maxSteps := 2000000) (disch := omega) only [go_sem, seval, hd, cb, atD, r1, r2, q2]; (repeat (first | refine ⟨by omega, ?_⟩ | refine ⟨True.intro, ?_⟩)))))
        refine ⟨⟨i + 1, by omega, he⟩, by simp only []; omega, ?_⟩
        refine Weak.list ?_ ?_; (all_goals simp (disch := omega) only [AllF, AllL, j10, le_top, x10, exists_eq_left', Option.some.injEq, go_sem, seval, hd, cb, atD, r1, r2, q2]); (all_goals (repeat' (with_reducible apply And.intro))); (all_goals try (first | exact x8 rfl | (refine le_int ?_; omega) | (refine x8 ?_; simp; done)))
      · have q2 : (x != y) = true := ine_tt hxy
        rw [beq_false_of_ne hxy, Bool.false_and] at he
        subst he
        (repeat (first | refine q0 ?_ | refine x7 rfl ?_ | refine j7 rfl ?_ | refine z6 ?_ | (refine j0 fun K hK => ?_) | (refine x4 (by kernel_rfl) (by kernel_rfl) fun K hK => ?_) | ((first | refine q6 ?_ | refine x6 ?_ | ((first | refine q4 (hK _ ?_) | refine q5 (hK _ _ (j4 (by kernel_rfl)) ?_)); clear hK K)); (first | show AWP _ _ _ _ _ | ((try simp only [j6]); first | show loopQ _ _ _ _ _ _ | show cutQ _ _ _ _ | show AWP _ _ _ _ _))) | ((first | refine q8 [] rfl ?_ | refine z8 [] rfl ?_); simp (maxSteps := 2000000) (disch := omega) only [go_sem, seval, hd, cb, atD, r1, r2, q2]; (repeat (first | refine ⟨by omega, ?_⟩ | refine ⟨True.intro, ?_⟩)))))
        refine q10 ⟨_, ?_, rfl⟩; rw [Try.results30]; simp (disch := omega) only [ResVars, ResVar, ptrLoc, go_sem, seval, hd, cb, atD, r1, r2, q2]
    · have : i = a.length := by omega
      subst this
      rw [List.drop_length, List.drop_eq_nil_of_le (show b.length ≤ a.length by omega)] at he
      have he : true = R := he
      subst he
      (repeat (first | refine q0 ?_ | refine x7 rfl ?_ | refine j7 rfl ?_ | refine z6 ?_ | (refine j0 fun K hK => ?_) | (refine x4 (by kernel_rfl) (by kernel_rfl) fun K hK => ?_) | ((first | refine q6 ?_ | refine x6 ?_ | ((first | refine q4 (hK _ ?_) | refine q5 (hK _ _ (j4 (by kernel_rfl)) ?_)); clear hK K)); (first | show AWP _ _ _ _ _ | ((try simp only [j6]); first | show loopQ _ _ _ _ _ _ | show cutQ _ _ _ _ | show AWP _ _ _ _ _))) | ((first | refine q8 [] rfl ?_ | refine z8 [] rfl ?_); simp (maxSteps := 2000000) (disch := omega) only [go_sem, seval, hd, cb, atD]; (repeat (first | refine ⟨by omega, ?_⟩ | refine ⟨True.intro, ?_⟩)))))
      refine q10 ⟨_, ?_, rfl⟩; rw [Try.results30]; simp (disch := omega) only [ResVars, ResVar, ptrLoc, go_sem, seval, hd, cb, atD]
  · have q : ((a.length : Int) != (b.length : Int)) = true := ine_tt (by omega)
    have e : (a == b) = false := by
      rw [beq_eq_false_iff_ne]; exact fun h => hlen (by rw [h])
    rw [e]
    refine z10 Try.func30 rfl (by decide +kernel) (by rw [Try.ntmps30]; simp) ?_; rw [Try.ntmps30]; simp only [frOf]
    (repeat (first | refine q0 ?_ | refine x7 rfl ?_ | refine j7 rfl ?_ | refine z6 ?_ | (refine j0 fun K hK => ?_) | (refine x4 (by kernel_rfl) (by kernel_rfl) fun K hK => ?_) | ((first | refine q6 ?_ | refine x6 ?_ | ((first | refine q4 (hK _ ?_) | refine q5 (hK _ _ (j4 (by kernel_rfl)) ?_)); clear hK K)); (first | show AWP _ _ _ _ _ | ((try simp only [j6]); first | show loopQ _ _ _ _ _ _ | show cutQ _ _ _ _ | show AWP _ _ _ _ _))) | ((first | refine q8 [] rfl ?_ | refine z8 [] rfl ?_); simp (maxSteps := 2000000) (disch := omega) only [go_sem, seval, hd, cb, atD, q]; (repeat (first | refine ⟨by omega, ?_⟩ | refine ⟨True.intro, ?_⟩)))))
    refine q10 ⟨_, ?_, rfl⟩; rw [Try.results30]; simp (disch := omega) only [ResVars, ResVar, ptrLoc, go_sem, seval, hd, cb, atD, q]
def caX (a : Atm) : LV := .cells 42 [.p (.d (.sl 1 a.ids.length (rowZ a.ids))), .p (.d (.v (.int .u64 (hi a.h)))), .p (.d (.v (.int .u64 (lo a.h)))), .p (.d (.sl 4 a.p.length (rowC a.p)))]
def ixOI (out : List Atm) (gen : Nat) (a : Atm) (g : FuncId) (p : Atm → Bool) (R : Int) (s : {i : Nat // i ≤ out.length ∧ idxF p (out.drop i) i = R}) : ASt :=
  ⟨[(8, .p (.d (.v (.int .i64 (s.val : Int))))), (7, .p (.d (.v (.int .i64 (out.length : Int))))), (1, .cl (.func g) [] [.loc 1001 0]), (0, .ow 1000 gen 4 out.length)], [(1000, .own 42 4 out.length gen (rowAt out)), (1001, caX a)]⟩
set_option maxRecDepth 100000 in
set_option maxHeartbeats 2000000 in
theorem IndexOwn_c (out : List Atm) (gen : Nat) (a : Atm) (g : FuncId) (p : Atm → Bool) (hl : out.length ≤ 140737488355328) (hg : ∀ b ∈ out, MCalls Try.prog g [.p (.agg (atD b)), .loc 1001 0] [(1001, caX a)] (fun rs M => rs = [.p (.d (.v (.bool (p b))))] ∧ M = [(1001, caX a)])) :
    MCalls Try.prog 21 [.ow 1000 gen 4 out.length, .cl (.func g) [] [.loc 1001 0]] [(1000, .own 42 4 out.length gen (rowAt out)), (1001, caX a)]
      (fun rs M => rs = [.p (.d (.v (.int .i64 (idxF p out 0))))] ∧ M = [(1000, .own 42 4 out.length gen (rowAt out)), (1001, caX a)]) := by
  obtain ⟨R, hR⟩ : ∃ R, idxF p out 0 = R := ⟨_, rfl⟩
  rw [hR]
  unfold caX at *
  refine mcalls_of_awp Try.func21 rfl (by decide +kernel) (by rw [Try.ntmps21]; simp) (fun l X h => by simp only [AL.look] at h; (repeat' split at h); all_goals first | omega | cases h) ?_; rw [Try.ntmps21]; simp only [frA]
  (repeat (first | refine q0 ?_ | refine x7 rfl ?_ | refine j7 rfl ?_ | refine z6 ?_ | (refine j0 fun K hK => ?_) | (refine x4 (by kernel_rfl) (by kernel_rfl) fun K hK => ?_) | ((first | refine q6 ?_ | refine x6 ?_ | ((first | refine q4 (hK _ ?_) | refine q5 (hK _ _ (j4 (by kernel_rfl)) ?_)); clear hK K)); (first | show AWP _ _ _ _ _ | ((try simp only [j6]); first | show loopQ _ _ _ _ _ _ | show cutQ _ _ _ _ | show AWP _ _ _ _ _))) | ((first | refine q8 [] rfl ?_ | refine z8 [] rfl ?_); simp (maxSteps := 2000000) (disch := omega) only [go_sem, seval, hd, cb, atD]; (repeat (first | refine ⟨by omega, ?_⟩ | refine ⟨True.intro, ?_⟩)))))
  refine awp_loop (ixOI out gen a g p R) (fun s => out.length - s.val) ⟨0, by omega, by rw [List.drop_zero]; exact hR⟩ ?_ (fun s => ?_)
  · unfold ixOI caX
    refine Weak.list ?_ ?_; (all_goals simp (disch := omega) only [AllF, AllL, j10, le_top, x10, exists_eq_left', Option.some.injEq, go_sem, seval, hd, cb, atD]); (all_goals (repeat' (with_reducible apply And.intro))); (all_goals try (first | exact x8 rfl | (refine le_int ?_; omega) | (refine x8 ?_; simp; done)))
  obtain ⟨i, hi', he⟩ := s
  unfold ixOI caX
  simp only []
  by_cases hn : i < out.length
  · rw [drop_getD out i at0 hn] at he
    have r1 := rowAt_at out i
    have hk := hg _ (getD_in hn at0)
    generalize out.getD i at0 = b at he r1 hk
    unfold idxF at he
    unfold atD at hk
    cases hb : p b
    all_goals
      rw [hb] at he hk
      simp only [Bool.false_eq_true, if_false, if_true] at he
      (repeat (first | refine q0 ?_ | refine x7 rfl ?_ | refine j7 rfl ?_ | refine z6 ?_ | (refine j0 fun K hK => ?_) | (refine x4 (by kernel_rfl) (by kernel_rfl) fun K hK => ?_) | ((first | refine q6 ?_ | refine x6 ?_ | ((first | refine q4 (hK _ ?_) | refine q5 (hK _ _ (j4 (by kernel_rfl)) ?_)); clear hK K)); (first | show AWP _ _ _ _ _ | ((try simp only [j6]); first | show loopQ _ _ _ _ _ _ | show cutQ _ _ _ _ | show AWP _ _ _ _ _))) | ((first | refine q8 [] rfl ?_ | refine z8 [] rfl ?_); simp (maxSteps := 2000000) (disch := omega) only [go_sem, seval, hd, cb, atD, r1]; (repeat (first | refine ⟨by omega, ?_⟩ | refine ⟨True.intro, ?_⟩)))))
      (refine walkS_cons _ (step_mcall [(1001, 1001)] rfl rfl rfl rfl rfl rfl (hk) rfl (namesOK_of (by repeat (first | exact trivial | refine ⟨rfl, ?_⟩)) (by kernel_rfl))) ?_); simp (maxSteps := 2000000) (disch := omega) only [go_sem, seval, hd, cb, atD, r1]
      (repeat (first | refine q0 ?_ | refine x7 rfl ?_ | refine j7 rfl ?_ | refine z6 ?_ | (refine j0 fun K hK => ?_) | (refine x4 (by kernel_rfl) (by kernel_rfl) fun K hK => ?_) | ((first | refine q6 ?_ | refine x6 ?_ | ((first | refine q4 (hK _ ?_) | refine q5 (hK _ _ (j4 (by kernel_rfl)) ?_)); clear hK K)); (first | show AWP _ _ _ _ _ | ((try simp only [j6]); first | show loopQ _ _ _ _ _ _ | show cutQ _ _ _ _ | show AWP _ _ _ _ _))) | ((first | refine q8 [] rfl ?_ | refine z8 [] rfl ?_); simp (maxSteps := 2000000) (disch := omega) only [go_sem, seval, hd, cb, atD, r1]; (repeat (first | refine ⟨by omega, ?_⟩ | refine ⟨True.intro, ?_⟩)))))
    · refine ⟨⟨i + 1, by omega, he⟩, by simp only []; omega, ?_⟩
      refine Weak.list ?_ ?_; (all_goals simp (disch := omega) only [AllF, AllL, j10, le_top, x10, exists_eq_left', Option.some.injEq, go_sem, seval, hd, cb, atD, r1]); (all_goals (repeat' (with_reducible apply And.intro))); (all_goals try (first | exact x8 rfl | (refine le_int ?_; omega) | (refine x8 ?_; simp; done)))
    · refine q10 (retM_of [.p (.d (.v (.int .i64 R)))] [(1000, .own 42 4 out.length gen (rowAt out)), (1001, caX a)] ⟨by rw [← he]; rfl, trivial⟩ ?_ ⟨rfl, rfl⟩)
      simp [AL.look, caX]
  · have : i = out.length := by omega
    subst this
    rw [List.drop_length] at he
    unfold idxF at he
    (repeat (first | refine q0 ?_ | refine x7 rfl ?_ | refine j7 rfl ?_ | refine z6 ?_ | (refine j0 fun K hK => ?_) | (refine x4 (by kernel_rfl) (by kernel_rfl) fun K hK => ?_) | ((first | refine q6 ?_ | refine x6 ?_ | ((first | refine q4 (hK _ ?_) | refine q5 (hK _ _ (j4 (by kernel_rfl)) ?_)); clear hK K)); (first | show AWP _ _ _ _ _ | ((try simp only [j6]); first | show loopQ _ _ _ _ _ _ | show cutQ _ _ _ _ | show AWP _ _ _ _ _))) | ((first | refine q8 [] rfl ?_ | refine z8 [] rfl ?_); simp (maxSteps := 2000000) (disch := omega) only [go_sem, seval, hd, cb, atD]; (repeat (first | refine ⟨by omega, ?_⟩ | refine ⟨True.intro, ?_⟩)))))
    refine q10 (retM_of [.p (.d (.v (.int .i64 R)))] [(1000, .own 42 4 out.length gen (rowAt out)), (1001, caX a)] ⟨by rw [← he]; rfl, trivial⟩ ?_ ⟨rfl, rfl⟩)
    simp [AL.look, caX]
set_option maxRecDepth 100000 in
theorem Coarsen1_c (a b : Atm) (ha : a.ids.length ≤ 1048576) (hb : b.ids.length ≤ 1048576) : MCalls Try.prog 29 [.p (.agg (atD b)), .loc 1001 0] [(1001, caX a)] (fun rs M => rs = [.p (.d (.v (.bool (a.ids == b.ids))))] ∧ M = [(1001, caX a)]) := by
  have eq := EqualZ_c a.ids b.ids (by omega) (by omega)
  generalize (a.ids == b.ids) = R at eq
  unfold caX
  refine mcalls_of_awp Try.func29 rfl (by decide +kernel) (by rw [Try.ntmps29]; simp) (fun l X h => by simp only [AL.look] at h; (repeat' split at h); all_goals first | omega | cases h) ?_; rw [Try.ntmps29]; simp only [frA]
  (repeat (first | refine q0 ?_ | refine x7 rfl ?_ | refine j7 rfl ?_ | refine z6 ?_ | (refine j0 fun K hK => ?_) | (refine x4 (by kernel_rfl) (by kernel_rfl) fun K hK => ?_) | ((first | refine q6 ?_ | refine x6 ?_ | ((first | refine q4 (hK _ ?_) | refine q5 (hK _ _ (j4 (by kernel_rfl)) ?_)); clear hK K)); (first | show AWP _ _ _ _ _ | ((try simp only [j6]); first | show loopQ _ _ _ _ _ _ | show cutQ _ _ _ _ | show AWP _ _ _ _ _))) | ((first | refine x9 rfl rfl rfl ?_ | refine j9 rfl rfl rfl ?_); simp (maxSteps := 2000000) (disch := omega) only [go_sem, seval, hd, cb, atD]; (first | refine ⟨_, eq, ?_⟩)) | ((first | refine q8 [] rfl ?_ | refine z8 [] rfl ?_); simp (maxSteps := 2000000) (disch := omega) only [go_sem, seval, hd, cb, atD]; (repeat (first | refine ⟨by omega, ?_⟩ | refine ⟨True.intro, ?_⟩)))))
  refine q10 (retM_of [_] _ ⟨rfl, trivial⟩ ?_ ⟨rfl, rfl⟩)
  simp [AL.look]
end Go.Proofs.Ytemcdefpihkfpaa
set_option linter.unusedSimpArgs false
set_option linter.unusedVariables false
namespace Go.Proofs.Ytemcdefpihkfpaa
open Go Go.Proofs.Ytemcdefpihkfpaa.AL
def sameIds (ids : List Int) (b : Atm) : Bool := ids == b.ids
def coarseGo (id : Int) : List Atm → List Atm → List Atm × Int
  | [], out => (out, 0)
  | a :: r, out =>
    if idxF (sameIds (lessZ a.ids [id])) out 0 < 0 then coarseGo id r (out ++ [⟨lessZ a.ids [id], a.h, a.p⟩])
    else if joinE (out.getD (idxF (sameIds (lessZ a.ids [id])) out 0).toNat at0).p a.p ≠ 0 then ([], joinE (out.getD (idxF (sameIds (lessZ a.ids [id])) out 0).toNat at0).p a.p)
    else coarseGo id r (out.set (idxF (sameIds (lessZ a.ids [id])) out 0).toNat ⟨(out.getD (idxF (sameIds (lessZ a.ids [id])) out 0).toNat at0).ids, (out.getD (idxF (sameIds (lessZ a.ids [id])) out 0).toNat at0).h, joinV (out.getD (idxF (sameIds (lessZ a.ids [id])) out 0).toNat at0).p a.p⟩)
def coarseV (l : List Atm) (id : Int) : List Atm × Int := if soundAL l then coarseGo id l [] else ([], 2)
def coI (l : List Atm) (id : Int) (R : List Atm × Int) (s : {s : Nat × List Atm × Nat // s.1 ≤ l.length ∧ coarseGo id (l.drop s.1) s.2.1 = R ∧ s.2.1.length ≤ s.1 ∧ ∀ b ∈ s.2.1, b.ids.length ≤ 1048576 ∧ b.p.length ≤ 1048576}) : ASt :=
  ⟨[(16, .p (.d (.v (.int .i64 (s.val.1 : Int))))), (15, .p (.d (.v (.int .i64 (l.length : Int))))), (14, .p (.d (.sl 4 l.length (rowAt l)))), (6, .ow 6 s.val.2.2 4 s.val.2.1.length), (1, .p (.d (.v (.int .i64 id))))],
   [(6, .own 42 4 s.val.2.1.length s.val.2.2 (rowAt s.val.2.1))]⟩
theorem set_row (out : List Atm) (j : Nat) (hj : j < out.length) (p : List Cube) (i : Nat) (hi : i < out.length) :
    putEl (rowAt out) j 3 [.sl 4 p.length (rowC p)] i = rowAt (out.set j ⟨(out.getD j at0).ids, (out.getD j at0).h, p⟩) i := by
  unfold putEl rowAt
  by_cases h : i = j
  · subst h
    rw [if_pos rfl]
    rw [show (out.set i ⟨(out.getD i at0).ids, (out.getD i at0).h, p⟩).getD i at0 = ⟨(out.getD i at0).ids, (out.getD i at0).h, p⟩ by
      rw [List.getD_eq_getElem?_getD, List.getElem?_set_self hi]; rfl]
    rfl
  · rw [if_neg h]
    congr 1
    rw [List.getD_eq_getElem?_getD, List.getD_eq_getElem?_getD, List.getElem?_set_ne (fun e => h e.symm)]
set_option maxRecDepth 100000 in
set_option maxHeartbeats 8000000 in
theorem Coarsen_c (l : List Atm) (id : Int) (hl : smallA l) : ACalls Try.prog 11 [.d (.sl 4 l.length (rowAt l)), .d (.v (.int .i64 id))] (· = [.d (.sl 4 (coarseV l id).1.length (rowAt (coarseV l id).1)), .d (.v (.int .i64 (coarseV l id).2))]) := by
  have so := soundAL_c l hl
  obtain ⟨l1, l2⟩ := hl
  unfold coarseV
  cases hs : soundAL l
  · rw [hs] at so
    simp only [Bool.false_eq_true, if_false]
    refine z10 Try.func11 rfl (by decide +kernel) (by rw [Try.ntmps11]; simp) ?_; rw [Try.ntmps11]; simp only [frOf]
    (repeat (first | refine q0 ?_ | refine x7 rfl ?_ | refine j7 rfl ?_ | refine z6 ?_ | (refine j0 fun K hK => ?_) | (refine x4 (by kernel_rfl) (by kernel_rfl) fun K hK => ?_) | ((first | refine q6 ?_ | refine x6 ?_ | ((first | refine q4 (hK _ ?_) | refine q5 (hK _ _ (j4 (by kernel_rfl)) ?_)); clear hK K)); (first | show AWP _ _ _ _ _ | ((try simp only [j6]); first | show loopQ _ _ _ _ _ _ | show cutQ _ _ _ _ | show AWP _ _ _ _ _))) | ((first | refine x9 rfl rfl rfl ?_ | refine j9 rfl rfl rfl ?_); simp (maxSteps := 2000000) (disch := omega) only [go_sem, seval, hd, cb, atD]; (first | refine ⟨_, so, ?_⟩)) | ((first | refine q8 [] rfl ?_ | refine z8 [] rfl ?_); simp (maxSteps := 2000000) (disch := omega) only [go_sem, seval, hd, cb, atD]; (repeat (first | refine ⟨by omega, ?_⟩ | refine ⟨True.intro, ?_⟩)))))
    refine awp_slot 4 _ (.p (.d (.sl 4 ([] : List Atm).length (rowAt [])))) rfl (le_nil 4 _ _ rfl) ?_
    refine q10 ⟨_, ?_, rfl⟩; rw [Try.results11]; simp (disch := omega) only [ResVars, ResVar, ptrLoc, go_sem, seval, hd, cb, atD]
  · rw [hs] at so
    simp only [if_true]
    obtain ⟨R, hR⟩ : ∃ R, coarseGo id l [] = R := ⟨_, rfl⟩
    rw [hR]
    refine z10 Try.func11 rfl (by decide +kernel) (by rw [Try.ntmps11]; simp) ?_; rw [Try.ntmps11]; simp only [frOf]
    (repeat ((fail_if_success (show AWP _ _ (.region 4 _ _) _ _)); first | refine q0 ?_ | refine x7 rfl ?_ | refine j7 rfl ?_ | refine z6 ?_ | (refine j0 fun K hK => ?_) | (refine x4 (by kernel_rfl) (by kernel_rfl) fun K hK => ?_) | ((first | refine q6 ?_ | refine x6 ?_ | ((first | refine q4 (hK _ ?_) | refine q5 (hK _ _ (j4 (by kernel_rfl)) ?_)); clear hK K)); (first | show AWP _ _ _ _ _ | ((try simp only [j6]); first | show loopQ _ _ _ _ _ _ | show cutQ _ _ _ _ | show AWP _ _ _ _ _))) | ((first | refine x9 rfl rfl rfl ?_ | refine j9 rfl rfl rfl ?_); simp (maxSteps := 2000000) (disch := omega) only [go_sem, seval, hd, cb, atD]; (first | refine ⟨_, so, ?_⟩)) | ((first | refine q8 [] rfl ?_ | refine z8 [] rfl ?_); simp (maxSteps := 2000000) (disch := omega) only [go_sem, seval, hd, cb, atD]; (repeat (first | refine ⟨by omega, ?_⟩ | refine ⟨True.intro, ?_⟩)))))
    refine awp_own 6 6 4 42 (rowAt []) rfl (by kernel_rfl) rfl ?_
    (repeat (first | refine q0 ?_ | refine x7 rfl ?_ | refine j7 rfl ?_ | refine z6 ?_ | (refine j0 fun K hK => ?_) | (refine x4 (by kernel_rfl) (by kernel_rfl) fun K hK => ?_) | ((first | refine q6 ?_ | refine x6 ?_ | ((first | refine q4 (hK _ ?_) | refine q5 (hK _ _ (j4 (by kernel_rfl)) ?_)); clear hK K)); (first | show AWP _ _ _ _ _ | ((try simp only [j6]); first | show loopQ _ _ _ _ _ _ | show cutQ _ _ _ _ | show AWP _ _ _ _ _))) | ((first | refine q8 [] rfl ?_ | refine z8 [] rfl ?_); simp (maxSteps := 2000000) (disch := omega) only [go_sem, seval, hd, cb, atD]; (repeat (first | refine ⟨by omega, ?_⟩ | refine ⟨True.intro, ?_⟩)))))
    refine awp_loop (coI l id R) (fun s => l.length - s.val.1) ⟨(0, [], 0), by omega, by rw [List.drop_zero]; exact hR, by simp, by simp⟩ ?_ (fun s => ?_)
    · unfold coI
      refine Weak.list ?_ ?_; (all_goals simp (disch := omega) only [AllF, AllL, j10, le_top, x10, exists_eq_left', Option.some.injEq, go_sem, seval, hd, cb, atD]); (all_goals (repeat' (with_reducible apply And.intro))); (all_goals try (first | exact x8 rfl | (refine le_int ?_; omega) | (refine x8 ?_; simp; done)))
    obtain ⟨⟨i, out, g⟩, hi', h1, h2, h3⟩ := s
    simp only [] at hi' h1 h2 h3
    unfold coI
    simp only []
    by_cases hn : i < l.length
    · have r1 := rowAt_at l i
      obtain ⟨b1, b2⟩ := l2 _ (getD_in hn at0)
      rw [drop_getD l i at0 hn] at h1
      unfold coarseGo at h1
      generalize l.getD i at0 = a at r1 b1 b2 h1
      have ls := LessS_c a.ids [id] (by omega) (by simp)
      have ls : ACalls Try.prog 28 [.d (.sl 1 a.ids.length (rowZ a.ids)), .d (.sl 1 1 fun i => [[Dat.v (.int .i64 id)]].getD i [])] (· = [.d (.sl 1 (lessZ a.ids [id]).length (rowZ (lessZ a.ids [id])))]) :=
        acalls_le (.cons (ple_refl _) (.cons (ple_sl rfl fun i hi => by
          obtain rfl : i = 0 := by omega
          rfl) .nil)) ls
      have lz : (lessZ a.ids [id]).length ≤ 1048576 := by
        have : (lessZ a.ids [id]).length ≤ a.ids.length := Nat.le_trans (List.length_filter_le _ _) (mkZ_len a.ids)
        omega
      generalize lessZ a.ids [id] = ids at ls lz h1
      have ix := IndexOwn_c out g ⟨ids, a.h, a.p⟩ 29 (sameIds ids) (by omega) (fun b hb => Coarsen1_c ⟨ids, a.h, a.p⟩ b lz (h3 b hb).1)
      have cn := Clone_c a.p (by omega)
      have cp := Clip_c a.p.length (rowC a.p) (by omega)
      have il := idxF_lt (sameIds ids) out 0
      generalize idxF (sameIds ids) out 0 = J at ix il h1
      unfold caX at ix
      simp only [] at ix
      rcases il with rfl | ⟨j, rfl, -, hj⟩
      · rw [if_pos (by decide)] at h1
        (repeat (first | refine q0 ?_ | refine x7 rfl ?_ | refine j7 rfl ?_ | refine z6 ?_ | (refine j0 fun K hK => ?_) | (refine x4 (by kernel_rfl) (by kernel_rfl) fun K hK => ?_) | ((first | refine q6 ?_ | refine x6 ?_ | ((first | refine q4 (hK _ ?_) | refine q5 (hK _ _ (j4 (by kernel_rfl)) ?_)); clear hK K)); (first | show AWP _ _ _ _ _ | ((try simp only [j6]); first | show loopQ _ _ _ _ _ _ | show cutQ _ _ _ _ | show AWP _ _ _ _ _))) | ((first | refine x9 rfl rfl rfl ?_ | refine j9 rfl rfl rfl ?_); simp (maxSteps := 2000000) (disch := omega) only [go_sem, seval, hd, cb, atD, r1]; (first | refine ⟨_, ls, ?_⟩)) | ((first | refine q8 [] rfl ?_ | refine z8 [] rfl ?_); simp (maxSteps := 2000000) (disch := omega) only [go_sem, seval, hd, cb, atD, r1]; (repeat (first | refine ⟨by omega, ?_⟩ | refine ⟨True.intro, ?_⟩)))))
        (refine walkS_cons _ (step_mcall [(1000, 6), (1001, 8)] rfl rfl rfl rfl rfl rfl (ix) rfl (namesOK_of (by repeat (first | exact trivial | refine ⟨rfl, ?_⟩)) (by kernel_rfl))) ?_); simp (maxSteps := 2000000) (disch := omega) only [go_sem, seval, hd, cb, atD, r1]
        (repeat (first | refine q0 ?_ | refine x7 rfl ?_ | refine j7 rfl ?_ | refine z6 ?_ | (refine j0 fun K hK => ?_) | (refine x4 (by kernel_rfl) (by kernel_rfl) fun K hK => ?_) | ((first | refine q6 ?_ | refine x6 ?_ | ((first | refine q4 (hK _ ?_) | refine q5 (hK _ _ (j4 (by kernel_rfl)) ?_)); clear hK K)); (first | show AWP _ _ _ _ _ | ((try simp only [j6]); first | show loopQ _ _ _ _ _ _ | show cutQ _ _ _ _ | show AWP _ _ _ _ _))) | ((first | refine x9 rfl rfl rfl ?_ | refine j9 rfl rfl rfl ?_); simp (maxSteps := 2000000) (disch := omega) only [go_sem, seval, hd, cb, atD, r1]; (first | refine ⟨_, cn, ?_⟩ | refine ⟨_, cp, ?_⟩)) | ((first | refine q8 [] rfl ?_ | refine z8 [] rfl ?_); simp (maxSteps := 2000000) (disch := omega) only [go_sem, seval, hd, cb, atD, r1]; (repeat (first | refine ⟨by omega, ?_⟩ | refine ⟨True.intro, ?_⟩)))))
        refine ⟨⟨(i + 1, out ++ [⟨ids, a.h, a.p⟩], g + 1), by simp only []; omega, h1, by simp only [List.length_append, List.length_cons, List.length_nil]; omega, fun b hb => ?_⟩, by simp only []; omega, ?_⟩
        · rcases List.mem_append.1 hb with hb | hb
          · exact h3 b hb
          · simp at hb; subst hb; exact ⟨lz, b2⟩
        refine Weak.list ?_ ?_; (all_goals simp (disch := omega) only [AllF, AllL, j10, le_top, x10, exists_eq_left', Option.some.injEq, go_sem, seval, hd, cb, atD, r1]); (all_goals (repeat' (with_reducible apply And.intro))); (all_goals try (first | exact x8 rfl | (refine le_int ?_; omega) | (refine x8 ?_; simp; done)))
        all_goals first | exact le_ow rfl (by first | rfl | simp) | exact lle_own (by first | rfl | simp) rfl (fun k hk => rowAt_put out ⟨ids, a.h, a.p⟩ k hk)
      · rw [if_neg (by omega), Int.toNat_natCast] at h1
        have hj : j < out.length := by omega
        have sr := set_row out j hj
        have r2 := rowAt_at out j
        obtain ⟨c1, c2⟩ := h3 _ (getD_in hj at0)
        generalize out.getD j at0 = b at r2 c1 c2 h1 sr
        have jn := JoinP_c b.p a.p (by omega) (by omega)
        have jl := joinV_len b.p a.p
        generalize joinE b.p a.p = e at jn h1
        generalize joinV b.p a.p = np at jn jl h1
        by_cases he : e = 0
        · subst he
          rw [if_neg (by simp)] at h1
          (repeat (first | refine q0 ?_ | refine x7 rfl ?_ | refine j7 rfl ?_ | refine z6 ?_ | (refine j0 fun K hK => ?_) | (refine x4 (by kernel_rfl) (by kernel_rfl) fun K hK => ?_) | ((first | refine q6 ?_ | refine x6 ?_ | ((first | refine q4 (hK _ ?_) | refine q5 (hK _ _ (j4 (by kernel_rfl)) ?_)); clear hK K)); (first | show AWP _ _ _ _ _ | ((try simp only [j6]); first | show loopQ _ _ _ _ _ _ | show cutQ _ _ _ _ | show AWP _ _ _ _ _))) | ((first | refine x9 rfl rfl rfl ?_ | refine j9 rfl rfl rfl ?_); simp (maxSteps := 2000000) (disch := omega) only [go_sem, seval, hd, cb, atD, r1, r2]; (first | refine ⟨_, ls, ?_⟩)) | ((first | refine q8 [] rfl ?_ | refine z8 [] rfl ?_); simp (maxSteps := 2000000) (disch := omega) only [go_sem, seval, hd, cb, atD, r1, r2]; (repeat (first | refine ⟨by omega, ?_⟩ | refine ⟨True.intro, ?_⟩)))))
          (refine walkS_cons _ (step_mcall [(1000, 6), (1001, 8)] rfl rfl rfl rfl rfl rfl (ix) rfl (namesOK_of (by repeat (first | exact trivial | refine ⟨rfl, ?_⟩)) (by kernel_rfl))) ?_); simp (maxSteps := 2000000) (disch := omega) only [go_sem, seval, hd, cb, atD, r1, r2]
          (repeat (first | refine q0 ?_ | refine x7 rfl ?_ | refine j7 rfl ?_ | refine z6 ?_ | (refine j0 fun K hK => ?_) | (refine x4 (by kernel_rfl) (by kernel_rfl) fun K hK => ?_) | ((first | refine q6 ?_ | refine x6 ?_ | ((first | refine q4 (hK _ ?_) | refine q5 (hK _ _ (j4 (by kernel_rfl)) ?_)); clear hK K)); (first | show AWP _ _ _ _ _ | ((try simp only [j6]); first | show loopQ _ _ _ _ _ _ | show cutQ _ _ _ _ | show AWP _ _ _ _ _))) | ((first | refine x9 rfl rfl rfl ?_ | refine j9 rfl rfl rfl ?_); simp (maxSteps := 2000000) (disch := omega) only [go_sem, seval, hd, cb, atD, r1, r2]; (first | refine ⟨_, jn, ?_⟩)) | ((first | refine q8 [] rfl ?_ | refine z8 [] rfl ?_); simp (maxSteps := 2000000) (disch := omega) only [go_sem, seval, hd, cb, atD, r1, r2]; (repeat (first | refine ⟨by omega, ?_⟩ | refine ⟨True.intro, ?_⟩)))))
          refine ⟨⟨(i + 1, out.set j ⟨b.ids, b.h, np⟩, g), by simp only []; omega, h1, by simp only [List.length_set]; omega, fun x hx => ?_⟩, by simp only []; omega, ?_⟩
          · rcases List.mem_or_eq_of_mem_set hx with hx | rfl
            · exact h3 x hx
            · exact ⟨c1, by simp only []; omega⟩
          refine Weak.list ?_ ?_; (all_goals simp (disch := omega) only [AllF, AllL, j10, le_top, x10, exists_eq_left', Option.some.injEq, go_sem, seval, hd, cb, atD, r1, r2]); (all_goals (repeat' (with_reducible apply And.intro))); (all_goals try (first | exact x8 rfl | (refine le_int ?_; omega) | (refine x8 ?_; simp; done)))
          all_goals first | exact le_ow rfl (by first | rfl | simp) | exact lle_own (by first | rfl | simp) rfl (fun k hk => sr np k hk)
        · rw [if_pos he] at h1
          subst h1
          have q := ine_tt he
          (repeat (first | refine q0 ?_ | refine x7 rfl ?_ | refine j7 rfl ?_ | refine z6 ?_ | (refine j0 fun K hK => ?_) | (refine x4 (by kernel_rfl) (by kernel_rfl) fun K hK => ?_) | ((first | refine q6 ?_ | refine x6 ?_ | ((first | refine q4 (hK _ ?_) | refine q5 (hK _ _ (j4 (by kernel_rfl)) ?_)); clear hK K)); (first | show AWP _ _ _ _ _ | ((try simp only [j6]); first | show loopQ _ _ _ _ _ _ | show cutQ _ _ _ _ | show AWP _ _ _ _ _))) | ((first | refine x9 rfl rfl rfl ?_ | refine j9 rfl rfl rfl ?_); simp (maxSteps := 2000000) (disch := omega) only [go_sem, seval, hd, cb, atD, r1, r2, q]; (first | refine ⟨_, ls, ?_⟩)) | ((first | refine q8 [] rfl ?_ | refine z8 [] rfl ?_); simp (maxSteps := 2000000) (disch := omega) only [go_sem, seval, hd, cb, atD, r1, r2, q]; (repeat (first | refine ⟨by omega, ?_⟩ | refine ⟨True.intro, ?_⟩)))))
          (refine walkS_cons _ (step_mcall [(1000, 6), (1001, 8)] rfl rfl rfl rfl rfl rfl (ix) rfl (namesOK_of (by repeat (first | exact trivial | refine ⟨rfl, ?_⟩)) (by kernel_rfl))) ?_); simp (maxSteps := 2000000) (disch := omega) only [go_sem, seval, hd, cb, atD, r1, r2, q]
          (repeat (first | refine q0 ?_ | refine x7 rfl ?_ | refine j7 rfl ?_ | refine z6 ?_ | (refine j0 fun K hK => ?_) | (refine x4 (by kernel_rfl) (by kernel_rfl) fun K hK => ?_) | ((first | refine q6 ?_ | refine x6 ?_ | ((first | refine q4 (hK _ ?_) | refine q5 (hK _ _ (j4 (by kernel_rfl)) ?_)); clear hK K)); (first | show AWP _ _ _ _ _ | ((try simp only [j6]); first | show loopQ _ _ _ _ _ _ | show cutQ _ _ _ _ | show AWP _ _ _ _ _))) | ((first | refine x9 rfl rfl rfl ?_ | refine j9 rfl rfl rfl ?_); simp (maxSteps := 2000000) (disch := omega) only [go_sem, seval, hd, cb, atD, r1, r2, q]; (first | refine ⟨_, jn, ?_⟩)) | ((first | refine q8 [] rfl ?_ | refine z8 [] rfl ?_); simp (maxSteps := 2000000) (disch := omega) only [go_sem, seval, hd, cb, atD, r1, r2, q]; (repeat (first | refine ⟨by omega, ?_⟩ | refine ⟨True.intro, ?_⟩)))))
          refine awp_slot 4 _ (.p (.d (.sl 4 ([] : List Atm).length (rowAt [])))) rfl (le_nil 4 _ _ rfl) ?_
          refine q10 ⟨_, ?_, rfl⟩; rw [Try.results11]; simp (disch := omega) only [ResVars, ResVar, ptrLoc, go_sem, seval, hd, cb, atD, r1, r2, q]
    · have : i = l.length := by omega
      subst this
      rw [List.drop_length] at h1
      unfold coarseGo at h1
      subst h1
      have cp := ClipAt_c out.length (rowAt out) (by omega)
      (repeat ((fail_if_success (show AWP _ _ (.region 17 _ _) _ _)); first | refine q0 ?_ | refine x7 rfl ?_ | refine j7 rfl ?_ | refine z6 ?_ | (refine j0 fun K hK => ?_) | (refine x4 (by kernel_rfl) (by kernel_rfl) fun K hK => ?_) | ((first | refine q6 ?_ | refine x6 ?_ | ((first | refine q4 (hK _ ?_) | refine q5 (hK _ _ (j4 (by kernel_rfl)) ?_)); clear hK K)); (first | show AWP _ _ _ _ _ | ((try simp only [j6]); first | show loopQ _ _ _ _ _ _ | show cutQ _ _ _ _ | show AWP _ _ _ _ _))) | ((first | refine q8 [] rfl ?_ | refine z8 [] rfl ?_); simp (maxSteps := 2000000) (disch := omega) only [go_sem, seval, hd, cb, atD, look_dropL]; (repeat (first | refine ⟨by omega, ?_⟩ | refine ⟨True.intro, ?_⟩)))))
      refine awp_freeze 6 6 g 4 out.length 42 (rowAt out) rfl rfl ?_
      (repeat (first | refine q0 ?_ | refine x7 rfl ?_ | refine j7 rfl ?_ | refine z6 ?_ | (refine j0 fun K hK => ?_) | (refine x4 (by kernel_rfl) (by kernel_rfl) fun K hK => ?_) | ((first | refine q6 ?_ | refine x6 ?_ | ((first | refine q4 (hK _ ?_) | refine q5 (hK _ _ (j4 (by kernel_rfl)) ?_)); clear hK K)); (first | show AWP _ _ _ _ _ | ((try simp only [j6]); first | show loopQ _ _ _ _ _ _ | show cutQ _ _ _ _ | show AWP _ _ _ _ _))) | ((first | refine x9 rfl rfl rfl ?_ | refine j9 rfl rfl rfl ?_); simp (maxSteps := 2000000) (disch := omega) only [go_sem, seval, hd, cb, atD, look_dropL]; (first | refine ⟨_, cp, ?_⟩)) | ((first | refine q8 [] rfl ?_ | refine z8 [] rfl ?_); simp (maxSteps := 2000000) (disch := omega) only [go_sem, seval, hd, cb, atD, look_dropL]; (repeat (first | refine ⟨by omega, ?_⟩ | refine ⟨True.intro, ?_⟩)))))
      refine q10 ⟨_, ?_, rfl⟩; rw [Try.results11]; simp (disch := omega) only [ResVars, ResVar, ptrLoc, go_sem, seval, hd, cb, atD, look_dropL]
def ofTo (l : List Atm) (id : Int) (i : Nat) : List Int := ((List.range i).filter fun k => (l.getD k at0).ids.contains id).map fun k => ((k : Nat) : Int)
theorem ofTo_succ (l : List Atm) (id : Int) (i : Nat) : ofTo l id (i + 1) = ofTo l id i ++ if (l.getD i at0).ids.contains id then [(i : Int)] else [] := by
  unfold ofTo
  rw [List.range_succ, List.filter_append, List.map_append]
  congr 1
  rw [List.filter_cons]
  split <;> rfl
def ofAI (l : List Atm) (id : Int) (s : {s : Nat × List Int × Nat // s.1 ≤ l.length ∧ s.2.1 = ofTo l id s.1 ∧ s.2.1.length ≤ s.1}) : ASt :=
  ⟨[(10, .p (.d (.v (.int .i64 (s.val.1 : Int))))), (9, .p (.d (.v (.int .i64 (l.length : Int))))), (8, .p (.d (.sl 4 l.length (rowAt l)))), (5, .gr 5 s.val.2.2 1 s.val.2.1.length (rowZ s.val.2.1)), (1, .p (.d (.v (.int .i64 id))))],
   [(5, .grow 3 1 s.val.2.1.length s.val.2.2)]⟩
set_option maxRecDepth 100000 in
set_option maxHeartbeats 4000000 in
theorem OfA_c (l : List Atm) (id : Int) (hl : smallA l) : ACalls Try.prog 20 [.d (.sl 4 l.length (rowAt l)), .d (.v (.int .i64 id))] (· = [.d (.sl 1 (ofTo l id l.length).length (rowZ (ofTo l id l.length)))]) := by
  obtain ⟨l1, l2⟩ := hl
  refine z10 Try.func20 rfl (by decide +kernel) (by rw [Try.ntmps20]; simp) ?_; rw [Try.ntmps20]; simp only [frOf]
  (repeat ((fail_if_success (show AWP _ _ (.region 2 _ _) _ _)); first | refine q0 ?_ | refine x7 rfl ?_ | refine j7 rfl ?_ | refine z6 ?_ | (refine j0 fun K hK => ?_) | (refine x4 (by kernel_rfl) (by kernel_rfl) fun K hK => ?_) | ((first | refine q6 ?_ | refine x6 ?_ | ((first | refine q4 (hK _ ?_) | refine q5 (hK _ _ (j4 (by kernel_rfl)) ?_)); clear hK K)); (first | show AWP _ _ _ _ _ | ((try simp only [j6]); first | show loopQ _ _ _ _ _ _ | show cutQ _ _ _ _ | show AWP _ _ _ _ _))) | ((first | refine q8 [] rfl ?_ | refine z8 [] rfl ?_); simp (maxSteps := 2000000) (disch := omega) only [go_sem, seval, hd, cb, atD]; (repeat (first | refine ⟨by omega, ?_⟩ | refine ⟨True.intro, ?_⟩)))))
  refine awp_grow 5 5 1 3 (rowZ []) rfl (by kernel_rfl) rfl ?_
  (repeat (first | refine q0 ?_ | refine x7 rfl ?_ | refine j7 rfl ?_ | refine z6 ?_ | (refine j0 fun K hK => ?_) | (refine x4 (by kernel_rfl) (by kernel_rfl) fun K hK => ?_) | ((first | refine q6 ?_ | refine x6 ?_ | ((first | refine q4 (hK _ ?_) | refine q5 (hK _ _ (j4 (by kernel_rfl)) ?_)); clear hK K)); (first | show AWP _ _ _ _ _ | ((try simp only [j6]); first | show loopQ _ _ _ _ _ _ | show cutQ _ _ _ _ | show AWP _ _ _ _ _))) | ((first | refine q8 [] rfl ?_ | refine z8 [] rfl ?_); simp (maxSteps := 2000000) (disch := omega) only [go_sem, seval, hd, cb, atD]; (repeat (first | refine ⟨by omega, ?_⟩ | refine ⟨True.intro, ?_⟩)))))
  refine awp_loop (ofAI l id) (fun s => l.length - s.val.1) ⟨(0, [], 0), by omega, rfl, by simp⟩ ?_ (fun s => ?_)
  · unfold ofAI
    refine Weak.list ?_ ?_; (all_goals simp (disch := omega) only [AllF, AllL, j10, le_top, x10, exists_eq_left', Option.some.injEq, go_sem, seval, hd, cb, atD]); (all_goals (repeat' (with_reducible apply And.intro))); (all_goals try (first | exact x8 rfl | (refine le_int ?_; omega) | (refine x8 ?_; simp; done)))
  obtain ⟨⟨i, out, g⟩, hi', h1, h2⟩ := s
  simp only [] at hi' h1 h2
  unfold ofAI
  simp only []
  by_cases hn : i < l.length
  · have r1 := rowAt_at l i
    have os := ofTo_succ l id i
    obtain ⟨b1, b2⟩ := l2 _ (getD_in hn at0)
    generalize l.getD i at0 = a at r1 b1 b2 os
    have hs := HasS_c a.ids id (by omega)
    cases hb : a.ids.contains id
    all_goals
      rw [hb] at hs os
      simp only [Bool.false_eq_true, if_false, if_true, List.append_nil] at os
      (repeat (first | refine q0 ?_ | refine x7 rfl ?_ | refine j7 rfl ?_ | refine z6 ?_ | (refine j0 fun K hK => ?_) | (refine x4 (by kernel_rfl) (by kernel_rfl) fun K hK => ?_) | ((first | refine q6 ?_ | refine x6 ?_ | ((first | refine q4 (hK _ ?_) | refine q5 (hK _ _ (j4 (by kernel_rfl)) ?_)); clear hK K)); (first | show AWP _ _ _ _ _ | ((try simp only [j6]); first | show loopQ _ _ _ _ _ _ | show cutQ _ _ _ _ | show AWP _ _ _ _ _))) | ((first | refine x9 rfl rfl rfl ?_ | refine j9 rfl rfl rfl ?_); simp (maxSteps := 2000000) (disch := omega) only [go_sem, seval, hd, cb, atD, r1]; (first | refine ⟨_, hs, ?_⟩)) | ((first | refine q8 [] rfl ?_ | refine z8 [] rfl ?_); simp (maxSteps := 2000000) (disch := omega) only [go_sem, seval, hd, cb, atD, r1]; (repeat (first | refine ⟨by omega, ?_⟩ | refine ⟨True.intro, ?_⟩)))))
    · refine ⟨⟨(i + 1, out, g), by simp only []; omega, by rw [os]; exact h1, by simp only []; omega⟩, by simp only []; omega, ?_⟩
      refine Weak.list ?_ ?_; (all_goals simp (disch := omega) only [AllF, AllL, j10, le_top, x10, exists_eq_left', Option.some.injEq, go_sem, seval, hd, cb, atD, r1]); (all_goals (repeat' (with_reducible apply And.intro))); (all_goals try (first | exact x8 rfl | (refine le_int ?_; omega) | (refine x8 ?_; simp; done)))
    · refine ⟨⟨(i + 1, out ++ [(i : Int)], g + 1), by simp only []; omega, by rw [os, ← h1], by simp only [List.length_append, List.length_cons, List.length_nil]; omega⟩, by simp only []; omega, ?_⟩
      refine Weak.list ?_ ?_; (all_goals simp (disch := omega) only [AllF, AllL, j10, le_top, x10, exists_eq_left', Option.some.injEq, go_sem, seval, hd, cb, atD, r1]); (all_goals (repeat' (with_reducible apply And.intro))); (all_goals try (first | exact x8 rfl | (refine le_int ?_; omega) | (refine x8 ?_; simp; done)))
      · exact le_grgr rfl (by simp) (fun j hj => rowZ_put out (i : Int) j hj)
      · exact lle_grow (by simp) rfl
  · have : i = l.length := by omega
    subst this
    subst h1
    have cz := ClipZ_c (ofTo l id l.length).length (rowZ (ofTo l id l.length)) (by omega)
    (repeat ((fail_if_success (show AWP _ _ (.region 8 _ _) _ _)); first | refine q0 ?_ | refine x7 rfl ?_ | refine j7 rfl ?_ | refine z6 ?_ | (refine j0 fun K hK => ?_) | (refine x4 (by kernel_rfl) (by kernel_rfl) fun K hK => ?_) | ((first | refine q6 ?_ | refine x6 ?_ | ((first | refine q4 (hK _ ?_) | refine q5 (hK _ _ (j4 (by kernel_rfl)) ?_)); clear hK K)); (first | show AWP _ _ _ _ _ | ((try simp only [j6]); first | show loopQ _ _ _ _ _ _ | show cutQ _ _ _ _ | show AWP _ _ _ _ _))) | ((first | refine q8 [] rfl ?_ | refine z8 [] rfl ?_); simp (maxSteps := 2000000) (disch := omega) only [go_sem, seval, hd, cb, atD]; (repeat (first | refine ⟨by omega, ?_⟩ | refine ⟨True.intro, ?_⟩)))))
    refine awp_slot 5 _ (.p (.d (.sl 1 (ofTo l id l.length).length (rowZ (ofTo l id l.length))))) rfl (le_gr rfl (fun _ _ => rfl)) ?_
    (repeat (first | refine q0 ?_ | refine x7 rfl ?_ | refine j7 rfl ?_ | refine z6 ?_ | (refine j0 fun K hK => ?_) | (refine x4 (by kernel_rfl) (by kernel_rfl) fun K hK => ?_) | ((first | refine q6 ?_ | refine x6 ?_ | ((first | refine q4 (hK _ ?_) | refine q5 (hK _ _ (j4 (by kernel_rfl)) ?_)); clear hK K)); (first | show AWP _ _ _ _ _ | ((try simp only [j6]); first | show loopQ _ _ _ _ _ _ | show cutQ _ _ _ _ | show AWP _ _ _ _ _))) | ((first | refine x9 rfl rfl rfl ?_ | refine j9 rfl rfl rfl ?_); simp (maxSteps := 2000000) (disch := omega) only [go_sem, seval, hd, cb, atD]; (first | refine ⟨_, cz, ?_⟩)) | ((first | refine q8 [] rfl ?_ | refine z8 [] rfl ?_); simp (maxSteps := 2000000) (disch := omega) only [go_sem, seval, hd, cb, atD]; (repeat (first | refine ⟨by omega, ?_⟩ | refine ⟨True.intro, ?_⟩)))))
    refine q10 ⟨_, ?_, rfl⟩; rw [Try.results20]; simp (disch := omega) only [ResVars, ResVar, ptrLoc, go_sem, seval, hd, cb, atD]
end Go.Proofs.Ytemcdefpihkfpaa
set_option linter.unusedSimpArgs false
set_option linter.unusedVariables false
namespace Go.Proofs.Ytemcdefpihkfpaa
open Go Go.Proofs.Ytemcdefpihkfpaa.AL
def LeanP (p : List Cube) : Prop := p.Pairwise fun x y => withinC x y = false ∧ withinC y x = false
structure PileOK (p : List Cube) : Prop where
  snd : ∀ k ∈ p, k.sound = true
  len : p.length ≤ 200
  lean : LeanP p
theorem PileOK.sound {p : List Cube} (h : PileOK p) : soundP p = true := by
  unfold soundP
  rw [Bool.and_eq_true]
  exact ⟨decide_eq_true h.len, List.all_eq_true.2 h.snd⟩
theorem leanP_ok {l : List Cube} (h : (leanP l).length ≤ 200) : PileOK (leanP l) := ⟨fun k hk => (leanP_mem hk).2, h, leanP_pair l⟩
theorem leanV_ok {l : List Cube} (h : leanE l = 0) : PileOK (leanV l) := by
  have := leanV_len l
  rw [leanE_val l h] at this ⊢
  exact leanP_ok this
structure AtmOK (a : Atm) : Prop where
  pile : PileOK a.p
  ne : a.p ≠ []
  hd : a.h = (a.p.getD 0 ⟨0, 0⟩).v
theorem has_self {k : Cube} (hk : k.sound = true) : hasC k k.v = true := (has_iff hk k.v).2 fun i hi _ => rfl
theorem AtmOK.has {a : Atm} (h : AtmOK a) : hasP a.p a.h = true := by
  obtain ⟨p, ne, e⟩ := h
  rw [e]
  cases hp : a.p with
  | nil => exact absurd hp ne
  | cons k r =>
    unfold hasP
    rw [List.any_cons, Bool.or_eq_true]
    exact .inl (has_self (p.snd k (by rw [hp]; simp)))
structure AtOK (l : List Atm) (f : BitVec 128 → List Int) : Prop where
  atm : ∀ a ∈ l, AtmOK a
  ids : ∀ a ∈ l, ∀ h, hasP a.p h = true → a.ids = f h
  dis : l.Pairwise fun a b => a.ids ≠ b.ids
  ex : ∀ h, ∃ a ∈ l, hasP a.p h = true
theorem AtOK.one {l : List Atm} {f : BitVec 128 → List Int} (h : AtOK l f) {i j : Nat} (hi : i < l.length) (hj : j < l.length) {g k : BitVec 128} (hg : hasP (l.getD i at0).p g = true) (hk : hasP (l.getD j at0).p k = true) (e : f g = f k) : i = j := by
  have e1 := h.ids _ (getD_in hi at0) g hg
  have e2 := h.ids _ (getD_in hj at0) k hk
  have hd := List.pairwise_iff_getElem.1 h.dis
  rw [List.getD_eq_getElem?_getD, List.getElem?_eq_getElem hi] at e1
  rw [List.getD_eq_getElem?_getD, List.getElem?_eq_getElem hj] at e2
  have e3 : l[i].ids = l[j].ids := by
    have e1 : l[i].ids = f g := e1
    have e2 : l[j].ids = f k := e2
    rw [e1, e2, e]
  by_cases hij : i = j
  · exact hij
  · exfalso
    by_cases hlt : i < j
    · exact hd i j hi hj hlt e3
    · exact hd j i hj hi (by omega) e3.symm
theorem AtOK.find {l : List Atm} {f : BitVec 128 → List Int} (h : AtOK l f) (g : BitVec 128) : ∃ j : Nat, findA l g = j ∧ j < l.length ∧ hasP (l.getD j at0).p g = true := by
  unfold findA
  rcases idxF_find (fun a => hasP a.p g) at0 l 0 with ⟨h1, _⟩ | ⟨j, x, h1, h2, h3, h4⟩
  · exfalso
    obtain ⟨a, ha, hg⟩ := h.ex g
    have := List.find?_eq_none.1 h1 a ha
    exact this hg
  · refine ⟨j, by rw [h2, Nat.zero_add], h3, ?_⟩
    rw [h4]
    have := List.find?_some h1
    exact this
theorem AtOK.same {l : List Atm} {f : BitVec 128 → List Int} (h : AtOK l f) (g k : BitVec 128) : findA l g = findA l k ↔ f g = f k := by
  obtain ⟨i, e1, hi, hg⟩ := h.find g
  obtain ⟨j, e2, hj, hk⟩ := h.find k
  rw [e1, e2]
  constructor
  · intro e
    have : i = j := by omega
    subst this
    rw [← h.ids _ (getD_in hi at0) g hg, ← h.ids _ (getD_in hi at0) k hk]
  · intro e
    rw [h.one hi hj hg hk e]
theorem nodup_lt : ∀ (n : Nat) (L : List Nat), L.Nodup → (∀ x ∈ L, x < n) → L.length ≤ n
  | 0, L, _, h => by
    cases L with
    | nil => exact Nat.le_refl _
    | cons x L => exact absurd (h x (by simp)) (by omega)
  | n + 1, L, hd, h => by
    have ih := nodup_lt n (L.erase n) (hd.erase n) fun x hx => by
      have h1 := h x (List.mem_of_mem_erase hx)
      have h2 : x ≠ n := fun e => by
        subst e
        exact (List.Nodup.not_mem_erase hd) hx
      omega
    by_cases hm : n ∈ L
    · rw [List.length_erase_of_mem hm] at ih; omega
    · rw [List.erase_of_not_mem hm] at ih; omega
theorem AtOK.le {l m : List Atm} {f f' : BitVec 128 → List Int} (h : AtOK l f) (h' : AtOK m f') (hf : ∀ g k, f' g = f' k → f g = f k) : l.length ≤ m.length := by
  have := nodup_lt m.length (l.map fun a => (findA m a.h).toNat) ?_ ?_
  · simpa using this
  · unfold List.Nodup
    rw [List.pairwise_map]
    refine List.Pairwise.imp_of_mem ?_ h.dis
    intro a b ha hb hab e
    obtain ⟨i, e1, hi, _⟩ := h'.find a.h
    obtain ⟨j, e2, hj, _⟩ := h'.find b.h
    have e3 : findA m a.h = findA m b.h := by rw [e1, e2] at e ⊢; omega
    have e4 := hf _ _ ((h'.same _ _).1 e3)
    rw [← h.ids a ha a.h (h.atm a ha).has, ← h.ids b hb b.h (h.atm b hb).has] at e4
    exact hab e4
  · intro x hx
    obtain ⟨a, ha, rfl⟩ := List.mem_map.1 hx
    obtain ⟨i, e1, hi, _⟩ := h'.find a.h
    simp only [e1]; omega
end Go.Proofs.Ytemcdefpihkfpaa
set_option linter.unusedSimpArgs false
set_option linter.unusedVariables false
namespace Go.Proofs.Ytemcdefpihkfpaa
open Go Go.Proofs.Ytemcdefpihkfpaa.AL
theorem joinE_or {p q : List Cube} (hp : soundP p = true) (hq : soundP q = true) : joinE p q = 0 ∨ joinE p q = 10 := by
  unfold joinE
  rw [hp, hq]
  rcases leanE_or (p ++ q) with h | ⟨h, _⟩
  · exact .inl h
  · exact .inr h
theorem joinV_sound {p q : List Cube} (he : joinE p q = 0) : soundP (joinV p q) = true := by
  unfold joinE at he
  unfold joinV
  split at he
  · rename_i s
    rw [if_pos s]; exact (leanV_ok he).sound
  · cases he
theorem coarse_err {id : Int} : ∀ (r out : List Atm), (∀ a ∈ r, soundP a.p = true) → (∀ a ∈ out, soundP a.p = true) → (coarseGo id r out).2 = 0 ∨ ((coarseGo id r out).2 = 10 ∧ (coarseGo id r out).1 = [])
  | [], out, _, _ => by unfold coarseGo; exact .inl rfl
  | a :: r, out, hr, ho => by
    unfold coarseGo
    split
    · exact coarse_err r _ (fun b hb => hr b (by simp [hb])) fun b hb => by
        rcases List.mem_append.1 hb with hb | hb
        · exact ho b hb
        · simp at hb; subst hb; exact hr a (by simp)
    · rename_i hJ
      rcases idxF_lt (sameIds (lessZ a.ids [id])) out 0 with h | ⟨j, h, -, hj⟩
      · rw [h] at hJ; omega
      · rw [h, Int.toNat_natCast]
        have hb := ho _ (getD_in (show j < out.length by omega) at0)
        rcases joinE_or hb (hr a (by simp)) with e | e
        · rw [if_neg (by rw [e]; decide)]
          exact coarse_err r _ (fun b hb => hr b (by simp [hb])) fun x hx => by
            rcases List.mem_or_eq_of_mem_set hx with hx | rfl
            · exact ho x hx
            · exact joinV_sound e
        · rw [if_pos (by rw [e]; decide)]
          exact .inr ⟨e, rfl⟩
theorem coarseV_err (l : List Atm) (id : Int) : if soundAL l then (coarseV l id).2 = 0 ∨ ((coarseV l id).2 = 10 ∧ (coarseV l id).1 = []) else ((coarseV l id).2 = 2 ∧ (coarseV l id).1 = []) := by
  unfold coarseV
  cases hs : soundAL l
  · simp
  · simp only [if_true]
    exact coarse_err l [] (List.all_eq_true.1 hs) (by simp)
theorem meetPE_or {p q : List Cube} (hp : soundP p = true) (hq : soundP q = true) : meetPE p q = 0 ∨ meetPE p q = 10 := by
  unfold meetPE
  rw [hp, hq]
  rcases leanE_or (meetsP p q) with h | ⟨h, _⟩
  · exact .inl h
  · exact .inr h
theorem lessPE_or {p q : List Cube} (hp : soundP p = true) (hq : soundP q = true) : (lessPR p q).2 = 0 ∨ (lessPR p q).2 = 10 := by
  unfold lessPR
  rw [hp, hq]
  rcases lessP_err q p with h | ⟨h, _⟩
  · exact .inl h
  · exact .inr h
theorem partA_err {a : Atm} {id : Int} {k : Cube} (ha : soundP a.p = true) (hk : k.sound = true) : (partA a id [k]).2 = 0 ∨ (partA a id [k]).2 = 10 := by
  have hq : soundP [k] = true := by simp [soundP, hk]
  unfold partA
  rcases meetPE_or ha hq with e | e
  · rw [if_neg (by simp [e])]
    rcases lessPE_or ha hq with e2 | e2
    · rw [if_neg (by simp [e2])]; exact .inl rfl
    · rw [if_pos (by simp [e2])]; exact .inr e2
  · rw [if_pos (by simp [e])]; exact .inr e
theorem splitL_err {id : Int} {k : Cube} (hk : k.sound = true) : ∀ (l out : List Atm), (∀ a ∈ l, soundP a.p = true) → (splitL id k l out).2 = 0 ∨ (((splitL id k l out).2 = 10 ∨ ((splitL id k l out).2 = 11 ∧ 600 < out.length + 2 * l.length)) ∧ (splitL id k l out).1 = [])
  | [], out, _ => by
    unfold splitL
    split
    · exact .inr ⟨.inr ⟨rfl, by simpa using ‹600 < out.length›⟩, rfl⟩
    · exact .inl rfl
  | a :: r, out, h => by
    unfold splitL
    have pl := partA_len a id [k]
    rcases partA_err (id := id) (h a (by simp)) hk with e | e
    · rw [if_neg (by simp [e])]
      rcases splitL_err hk r (out ++ (partA a id [k]).1) (fun b hb => h b (by simp [hb])) with h1 | ⟨h1 | ⟨h1, h2⟩, h3⟩
      · exact .inl h1
      · exact .inr ⟨.inl h1, h3⟩
      · exact .inr ⟨.inr ⟨h1, by simp only [List.length_append, List.length_cons] at h2 ⊢; omega⟩, h3⟩
    · rw [if_pos (by simp [e])]
      exact .inr ⟨.inl e, rfl⟩
end Go.Proofs.Ytemcdefpihkfpaa
set_option linter.unusedSimpArgs false
set_option linter.unusedVariables false
namespace Go.Proofs.Ytemcdefpihkfpaa
open Go Go.Proofs.Ytemcdefpihkfpaa.AL
end Go.Proofs.Ytemcdefpihkfpaa
set_option linter.unusedSimpArgs false
set_option linter.unusedVariables false
namespace Go.Proofs.Ytemcdefpihkfpaa
open Go Go.Proofs.Ytemcdefpihkfpaa.AL
theorem splitAll_small : ∀ (r : List Cube) (n : Nat) (out : List Atm), out.length ≤ 600 → (∀ a ∈ out, a.ids.length ≤ n ∧ a.p.length ≤ 200) → (splitAll r n out).1.length ≤ 600 ∧ ∀ a ∈ (splitAll r n out).1, a.ids.length ≤ n + r.length ∧ a.p.length ≤ 200
  | [], n, out, h1, h2 => by unfold splitAll; exact ⟨h1, fun a ha => by have := h2 a ha; simp; omega⟩
  | k :: r, n, out, h1, h2 => by
    unfold splitAll
    split
    · simp
    · have ih := splitAll_small r (n + 1) (splitL (n : Int) k out []).1 (splitL_len _ _ _ _) (splitL_small out [] (fun a ha => (h2 a ha).1) (by simp))
      refine ⟨ih.1, fun a ha => ?_⟩
      have := ih.2 a ha
      simp only [List.length_cons]; omega
theorem splitV_small (p : List Cube) (hp : p.length ≤ 500) : smallA (splitV p).1 ∧ (splitV p).1.length ≤ 600 := by
  unfold splitV
  rw [if_neg (show ¬ 500 < p.length by omega)]
  split
  · have := splitAll_small p 0 [⟨[], 0, [⟨0, 0⟩]⟩] (by simp) (by simp)
    exact ⟨⟨by omega, fun a ha => by have := this.2 a ha; omega⟩, this.1⟩
  · exact ⟨⟨by simp, by simp⟩, by simp⟩
def pAw : List Cube := [⟨1, 1⟩, ⟨2, 2⟩]
theorem aw_a : (splitV pAw).2 = 0 ∧ (splitV pAw).1.length = 4 ∧ ((splitV pAw).1.getD 0 at0).ids.length = 2 := by decide +kernel
theorem aw_b : (coarseV (splitV pAw).1 0).2 = 0 ∧ (coarseV (splitV pAw).1 0).1.length = 2 := by decide +kernel
theorem aw_c : findA (splitV pAw).1 3 = 0 ∧ (ofTo (splitV pAw).1 1 (splitV pAw).1.length).length = 2 := by decide +kernel
set_option maxRecDepth 100000 in
set_option maxHeartbeats 2000000 in
theorem awake11_c : ACalls Try.prog 8 [] (· = [.d (.v (.bool true))]) := by
  have k1 := Split_c pAw (by decide)
  obtain ⟨sm, _⟩ := splitV_small pAw (by decide)
  obtain ⟨a1, a2, a3⟩ := aw_a
  obtain ⟨b1, b2⟩ := aw_b
  obtain ⟨c1, c2⟩ := aw_c
  generalize splitV pAw = q at *
  obtain ⟨L, e⟩ := q
  simp only [] at *
  subst a1
  have k2 := Coarsen_c L 0 sm
  rw [b1, b2] at k2
  have k3 := FindA_c L 3 sm
  rw [c1] at k3
  have k4 := OfA_c L 1 sm
  rw [c2] at k4
  rw [show max (0 : Int) 0 = 0 by decide, show decide ((0 : Int) ≥ 0) = true by decide] at k3
  have r0 := rowAt_at L 0
  generalize L.getD 0 at0 = a at r0 a3
  have k1 : ACalls Try.prog 7 [.d (.sl 4 2 fun i => [[Dat.v (.int .u64 0), .v (.int .u64 1), .v (.int .u64 0), .v (.int .u64 1)], [Dat.v (.int .u64 0), .v (.int .u64 2), .v (.int .u64 0), .v (.int .u64 2)]].getD i [])] (· = [.d (.sl 4 L.length (rowAt L)), .d (.v (.int .i64 0))]) :=
    acalls_le (.cons (ple_sl rfl fun i (hi' : i < 2) => by
      have : i = 0 ∨ i = 1 := by omega
      rcases this with rfl | rfl
      · show _ = cb ⟨1, 1⟩
        unfold cb
        simp only [show hi 1 = 0 by decide, show lo 1 = 1 by decide]; rfl
      · show _ = cb ⟨2, 2⟩
        unfold cb
        simp only [show hi 2 = 0 by decide, show lo 2 = 2 by decide]; rfl) .nil) k1
  unfold hd at k3
  rw [show hi 3 = 0 by decide, show lo 3 = 3 by decide] at k3
  rw [a2] at k1 k2 k3 k4
  unfold atD at r0
  rw [a3] at r0
  refine z10 Try.func8 rfl (by decide +kernel) (by rw [Try.ntmps8]; simp) ?_; rw [Try.ntmps8]; simp only [frOf]
  (repeat (first | refine q0 ?_ | refine x7 rfl ?_ | refine j7 rfl ?_ | refine z6 ?_ | (refine j0 fun K hK => ?_) | (refine x4 (by kernel_rfl) (by kernel_rfl) fun K hK => ?_) | ((first | refine q6 ?_ | refine x6 ?_ | ((first | refine q4 (hK _ ?_) | refine q5 (hK _ _ (j4 (by kernel_rfl)) ?_)); clear hK K)); (first | show AWP _ _ _ _ _ | ((try simp only [j6]); first | show loopQ _ _ _ _ _ _ | show cutQ _ _ _ _ | show AWP _ _ _ _ _))) | ((first | refine x9 rfl rfl rfl ?_ | refine j9 rfl rfl rfl ?_); simp (maxSteps := 2000000) (disch := omega) only [go_sem, seval, hd, cb, atD, x5, r0]; (first | refine ⟨_, k1, ?_⟩ | refine ⟨_, k2, ?_⟩ | refine ⟨_, k3, ?_⟩ | refine ⟨_, k4, ?_⟩)) | ((first | refine q8 [] rfl ?_ | refine z8 [] rfl ?_); simp (maxSteps := 2000000) (disch := omega) only [go_sem, seval, hd, cb, atD, x5, r0]; (repeat (first | refine ⟨by omega, ?_⟩ | refine ⟨True.intro, ?_⟩)))))
  refine q10 ⟨_, ?_, rfl⟩; rw [Try.results8]; simp (disch := omega) only [ResVars, ResVar, ptrLoc, go_sem, seval, hd, cb, atD, x5, r0]
end Go.Proofs.Ytemcdefpihkfpaa
set_option linter.unusedSimpArgs false
set_option linter.unusedVariables false
namespace Go.Proofs.Ytemcdefpihkfpaa
open Go Go.Proofs.Ytemcdefpihkfpaa.AL
end Go.Proofs.Ytemcdefpihkfpaa
set_option linter.unusedSimpArgs false
set_option linter.unusedVariables false
namespace Go.Proofs.Ytemcdefpihkfpaa
open Go Go.Proofs.Ytemcdefpihkfpaa.AL
def allS (l : List Atm) (i : Nat) : Bool := (l.take i).all fun a => soundP a.p
def anyT (l : List Atm) (id : Int) (i : Nat) : Bool := (l.take i).any fun a => a.ids.contains id
theorem allS_succ (l : List Atm) (i : Nat) (h : i < l.length) : allS l (i + 1) = (allS l i && soundP (l.getD i at0).p) := by
  unfold allS; rw [take_succ_getD l i at0 h, List.all_append]; simp
theorem anyT_succ (l : List Atm) (id : Int) (i : Nat) (h : i < l.length) : anyT l id (i + 1) = (anyT l id i || (l.getD i at0).ids.contains id) := by
  unfold anyT; rw [take_succ_getD l i at0 h, List.any_append]; simp
theorem cont_succ (ids : List Int) (id : Int) (k : Nat) (h : k < ids.length) : (ids.take (k + 1)).contains id = ((ids.take k).contains id || ids.getD k 0 == id) := by
  rw [take_succ_getD ids k 0 h]
  rw [Bool.eq_iff_iff]
  simp only [List.contains_iff_mem, List.mem_append, List.mem_singleton, Bool.or_eq_true, beq_iff_eq]
  exact ⟨fun h => h.elim .inl fun e => .inr e.symm, fun h => h.elim .inl fun e => .inr e.symm⟩
def argA (l : List Atm) (id : Int) (pred : Cube) (s : {s : Nat × Bool × Bool // s.1 ≤ l.length ∧ s.2.1 = allS l s.1 ∧ s.2.2 = anyT l id s.1}) : ASt :=
  ⟨[(9, .p (.d (.v (.int .i64 (s.val.1 : Int))))), (8, .p (.d (.v (.bool s.val.2.2)))), (7, .p (.d (.v (.bool s.val.2.1)))), (5, .p (.d (.bx (cb pred)))), (1, .p (.d (.v (.int .i64 id)))), (0, .p (.d (.sl 4 l.length (rowAt l))))], []⟩
def argB (l : List Atm) (id : Int) (pred : Cube) (i : Nat) (ids : List Int) (b1 b2 : Bool) (s : {s : Nat × Bool // s.1 ≤ ids.length ∧ s.2 = (b2 || (ids.take s.1).contains id)}) : ASt :=
  ⟨[(12, .p (.d (.v (.int .i64 (s.val.1 : Int))))), (9, .p (.d (.v (.int .i64 (i : Int))))), (8, .p (.d (.v (.bool s.val.2)))), (7, .p (.d (.v (.bool b1)))), (5, .p (.d (.bx (cb pred)))), (1, .p (.d (.v (.int .i64 id)))), (0, .p (.d (.sl 4 l.length (rowAt l))))], []⟩
set_option maxRecDepth 100000 in
set_option maxHeartbeats 16000000 in
theorem args_c (l : List Atm) (l0 : List Atm) (e0 : l = l0.take 20) (id : Int) (pred : Cube) (hl : smallA l0) : ACalls Try.prog 5 [.d (.sl 4 l0.length (rowAt l0)), .d (.v (.int .i64 id)), .agg (cb pred)] (· = [.d (.v (.bool true))]) := by
  have sm : smallA l := by
    subst e0
    exact ⟨by simp; omega, fun a ha => hl.2 a (List.mem_of_mem_take ha)⟩
  have l20 : l.length ≤ 20 := by subst e0; simp; omega
  have tp := Text_c pred
  have rf := Refine_c l id pred sm
  have co := Coarsen_c l id sm
  have ce := coarseV_err l id
  have fin0 : soundAL l = allS l l.length := by unfold soundAL allS; rw [List.take_length]
  have fin1 : (l.any fun a => a.ids.contains id) = anyT l id l.length := by unfold anyT; rw [List.take_length]
  rw [fin0] at ce
  have rr : (id < 0 ∧ refineV l id pred = ([], 1)) ∨ (¬ id < 0 ∧ (pred.sound && allS l l.length) = false ∧ refineV l id pred = ([], 2)) ∨ (¬ id < 0 ∧ pred.sound = true ∧ allS l l.length = true ∧ anyT l id l.length = true ∧ refineV l id pred = ([], 8)) ∨
      (¬ id < 0 ∧ pred.sound = true ∧ allS l l.length = true ∧ anyT l id l.length = false ∧ ((refineV l id pred).2 = 0 ∨ (refineV l id pred).2 = 10)) := by
    unfold refineV
    rw [fin0, fin1]
    by_cases h0 : id < 0
    · exact .inl ⟨h0, by rw [if_pos h0]⟩
    rw [if_neg h0]
    cases h1 : (pred.sound && allS l l.length)
    · exact .inr (.inl ⟨h0, rfl, by rw [if_pos rfl]⟩)
    rw [if_neg (by decide)]
    obtain ⟨p1, p2⟩ : pred.sound = true ∧ allS l l.length = true := by simpa using h1
    cases h2 : anyT l id l.length
    · refine .inr (.inr (.inr ⟨h0, p1, p2, rfl, ?_⟩))
      rw [if_neg (by decide)]
      rcases splitL_err (id := id) p1 l [] (List.all_eq_true.1 (by rw [← fin0] at p2; exact p2)) with e | ⟨e | ⟨e, hbig⟩, _⟩
      · exact .inl e
      · exact .inr e
      · simp at hbig; omega
    · exact .inr (.inr (.inl ⟨h0, p1, p2, rfl, by rw [if_pos rfl]⟩))
  obtain ⟨R, hR⟩ : ∃ R, refineV l id pred = R := ⟨_, rfl⟩
  obtain ⟨C, hC⟩ : ∃ C, coarseV l id = C := ⟨_, rfl⟩
  rw [hR] at rf rr
  rw [hC] at co ce
  clear hR hC fin0 fin1
  obtain ⟨R1, R2⟩ := R
  obtain ⟨C1, C2⟩ := C
  simp only [] at rf rr co ce
  have tk : ∀ i, i < 20 → rowAt l0 i = rowAt l i := fun i hi => by
    subst e0
    unfold rowAt
    rw [List.getD_eq_getElem?_getD, List.getD_eq_getElem?_getD, List.getElem?_take_of_lt hi]
  have big : ∀ {X : Prop}, (l0.length ≤ 20 → l.length = l0.length → X) → (20 < l0.length → l.length = 20 → X) → X := by
    intro X h1 h2
    by_cases h : l0.length ≤ 20
    · exact h1 h (by subst e0; simp; omega)
    · exact h2 (by omega) (by subst e0; simp; omega)
  have ll := hl.1
  refine z10 Try.func5 rfl (by decide +kernel) (by rw [Try.ntmps5]; simp) ?_; rw [Try.ntmps5]; simp only [frOf]
  (repeat ((fail_if_success (show AWP _ _ (.region 1 _ _) _ _)); first | refine q0 ?_ | refine x7 rfl ?_ | refine j7 rfl ?_ | refine z6 ?_ | (refine j0 fun K hK => ?_) | (refine x4 (by kernel_rfl) (by kernel_rfl) fun K hK => ?_) | ((first | refine q6 ?_ | refine x6 ?_ | ((first | refine q4 (hK _ ?_) | refine q5 (hK _ _ (j4 (by kernel_rfl)) ?_)); clear hK K)); (first | show AWP _ _ _ _ _ | ((try simp only [j6]); first | show loopQ _ _ _ _ _ _ | show cutQ _ _ _ _ | show AWP _ _ _ _ _))) | ((first | refine q8 [] rfl ?_ | refine z8 [] rfl ?_); simp (maxSteps := 2000000) (disch := omega) only [go_sem, seval, hd, cb, atD]; (repeat (first | refine ⟨by omega, ?_⟩ | refine ⟨True.intro, ?_⟩)))))
  refine j0 fun K hK => ?_
  (first | refine q7 [] _ _ ?_ | refine z7 [] _ _ _ ?_); simp (maxSteps := 2000000) (disch := omega) only [go_sem, seval, hd, cb, atD]; (repeat refine ⟨by omega, ?_⟩)
  refine q4 (hK _ ?_); clear hK K; show AWP _ _ _ _ _
  (repeat refine q0 ?_)
  refine awp_to (fun _ : Unit => ⟨[(5, .p (.d (.bx (cb pred)))), (1, .p (.d (.v (.int .i64 id)))), (0, .p (.d (.sl 4 l.length (rowAt l))))], []⟩) ?_ (fun _ => ?_)
  · refine big (fun h1 h2 => ?_) (fun h1 h2 => ?_)
    · rw [show decide ((l0.length : Int) > 20) = false from decide_eq_false (by omega)]
      (repeat (first | refine q0 ?_ | refine x7 rfl ?_ | refine j7 rfl ?_ | refine z6 ?_ | (refine j0 fun K hK => ?_) | (refine x4 (by kernel_rfl) (by kernel_rfl) fun K hK => ?_) | ((first | refine q6 ?_ | refine x6 ?_ | ((first | refine q4 (hK _ ?_) | refine q5 (hK _ _ (j4 (by kernel_rfl)) ?_)); clear hK K)); (first | show AWP _ _ _ _ _ | ((try simp only [j6]); first | show loopQ _ _ _ _ _ _ | show cutQ _ _ _ _ | show AWP _ _ _ _ _))) | ((first | refine q8 [] rfl ?_ | refine z8 [] rfl ?_); simp (maxSteps := 2000000) (disch := omega) only [go_sem, seval, hd, cb, atD]; (repeat (first | refine ⟨by omega, ?_⟩ | refine ⟨True.intro, ?_⟩)))))
      (show cutQ _ _ .normal _); refine cut_n (()) ?_
      refine Weak.list ?_ ?_; (all_goals simp (disch := omega) only [AllF, AllL, j10, le_top, x10, exists_eq_left', Option.some.injEq, go_sem, seval, hd, cb, atD]); (all_goals (repeat' (with_reducible apply And.intro))); (all_goals try (first | exact x8 rfl | (refine le_int ?_; omega) | (refine x8 ?_; simp; done)))
      exact le_sl h2.symm (fun i hi' => tk i (by omega))
    · rw [show decide ((l0.length : Int) > 20) = true from decide_eq_true (by omega)]
      (repeat (first | refine q0 ?_ | refine x7 rfl ?_ | refine j7 rfl ?_ | refine z6 ?_ | (refine j0 fun K hK => ?_) | (refine x4 (by kernel_rfl) (by kernel_rfl) fun K hK => ?_) | ((first | refine q6 ?_ | refine x6 ?_ | ((first | refine q4 (hK _ ?_) | refine q5 (hK _ _ (j4 (by kernel_rfl)) ?_)); clear hK K)); (first | show AWP _ _ _ _ _ | ((try simp only [j6]); first | show loopQ _ _ _ _ _ _ | show cutQ _ _ _ _ | show AWP _ _ _ _ _))) | ((first | refine q8 [] rfl ?_ | refine z8 [] rfl ?_); simp (maxSteps := 2000000) (disch := omega) only [go_sem, seval, hd, cb, atD]; (repeat (first | refine ⟨by omega, ?_⟩ | refine ⟨True.intro, ?_⟩)))))
      (show cutQ _ _ .normal _); refine cut_n (()) ?_
      refine Weak.list ?_ ?_; (all_goals simp (disch := omega) only [AllF, AllL, j10, le_top, x10, exists_eq_left', Option.some.injEq, go_sem, seval, hd, cb, atD]); (all_goals (repeat' (with_reducible apply And.intro))); (all_goals try (first | exact x8 rfl | (refine le_int ?_; omega) | (refine x8 ?_; simp; done)))
      exact le_sl h2.symm (fun i hi' => tk i (by omega))
  (repeat (first | refine q0 ?_ | refine x7 rfl ?_ | refine j7 rfl ?_ | refine z6 ?_ | (refine j0 fun K hK => ?_) | (refine x4 (by kernel_rfl) (by kernel_rfl) fun K hK => ?_) | ((first | refine q6 ?_ | refine x6 ?_ | ((first | refine q4 (hK _ ?_) | refine q5 (hK _ _ (j4 (by kernel_rfl)) ?_)); clear hK K)); (first | show AWP _ _ _ _ _ | ((try simp only [j6]); first | show loopQ _ _ _ _ _ _ | show cutQ _ _ _ _ | show AWP _ _ _ _ _))) | ((first | refine q8 [] rfl ?_ | refine z8 [] rfl ?_); simp (maxSteps := 2000000) (disch := omega) only [go_sem, seval, hd, cb, atD]; (repeat (first | refine ⟨by omega, ?_⟩ | refine ⟨True.intro, ?_⟩)))))
  refine awp_loop (argA l id pred) (fun s => l.length - s.val.1) ⟨(0, true, false), by omega, rfl, rfl⟩ ?_ (fun s => ?_)
  · unfold argA
    refine Weak.list ?_ ?_; (all_goals simp (disch := omega) only [AllF, AllL, j10, le_top, x10, exists_eq_left', Option.some.injEq, go_sem, seval, hd, cb, atD]); (all_goals (repeat' (with_reducible apply And.intro))); (all_goals try (first | exact x8 rfl | (refine le_int ?_; omega) | (refine x8 ?_; simp; done)))
  obtain ⟨⟨i, b1, b2⟩, hi', h1, h2⟩ := s
  simp only [] at hi' h1 h2
  unfold argA
  simp only []
  by_cases hn : i < l.length
  · have r1 := rowAt_at l i
    have s1 := allS_succ l i hn
    have s2 := anyT_succ l id i hn
    obtain ⟨c1, c2⟩ := sm.2 _ (getD_in hn at0)
    rw [← h1] at s1
    rw [← h2] at s2
    generalize l.getD i at0 = a at r1 s1 s2 c1 c2
    have tx := Texts_c a.p (by omega)
    have tvl : (textsV a.p).length ≤ a.p.length := by unfold textsV; split <;> simp
    generalize textsV a.p = tv at tx
    generalize soundP a.p = sp at tx s1
    by_cases hp : 20 < a.p.length
    · have q1 : decide ((20 : Int) < (a.p.length : Int)) = true := decide_eq_true (by omega)
      (repeat (first | refine q0 ?_ | refine x7 rfl ?_ | refine j7 rfl ?_ | refine z6 ?_ | (refine j0 fun K hK => ?_) | (refine x4 (by kernel_rfl) (by kernel_rfl) fun K hK => ?_) | ((first | refine q6 ?_ | refine x6 ?_ | ((first | refine q4 (hK _ ?_) | refine q5 (hK _ _ (j4 (by kernel_rfl)) ?_)); clear hK K)); (first | show AWP _ _ _ _ _ | ((try simp only [j6]); first | show loopQ _ _ _ _ _ _ | show cutQ _ _ _ _ | show AWP _ _ _ _ _))) | ((first | refine x9 rfl rfl rfl ?_ | refine j9 rfl rfl rfl ?_); simp (maxSteps := 2000000) (disch := omega) only [go_sem, seval, hd, cb, atD, r1]; (first | refine ⟨_, awake11_c, ?_⟩)) | ((first | refine q8 [] rfl ?_ | refine z8 [] rfl ?_); simp (maxSteps := 2000000) (disch := omega) only [go_sem, seval, hd, cb, atD, r1]; (repeat (first | refine ⟨by omega, ?_⟩ | refine ⟨True.intro, ?_⟩)))))
      refine q10 ⟨_, ?_, rfl⟩; rw [Try.results5]; simp (disch := omega) only [ResVars, ResVar, ptrLoc, go_sem, seval, hd, cb, atD, r1]
    by_cases hi2 : 100 < a.ids.length
    · (repeat (first | refine q0 ?_ | refine x7 rfl ?_ | refine j7 rfl ?_ | refine z6 ?_ | (refine j0 fun K hK => ?_) | (refine x4 (by kernel_rfl) (by kernel_rfl) fun K hK => ?_) | ((first | refine q6 ?_ | refine x6 ?_ | ((first | refine q4 (hK _ ?_) | refine q5 (hK _ _ (j4 (by kernel_rfl)) ?_)); clear hK K)); (first | show AWP _ _ _ _ _ | ((try simp only [j6]); first | show loopQ _ _ _ _ _ _ | show cutQ _ _ _ _ | show AWP _ _ _ _ _))) | ((first | refine x9 rfl rfl rfl ?_ | refine j9 rfl rfl rfl ?_); simp (maxSteps := 2000000) (disch := omega) only [go_sem, seval, hd, cb, atD, r1]; (first | refine ⟨_, awake11_c, ?_⟩)) | ((first | refine q8 [] rfl ?_ | refine z8 [] rfl ?_); simp (maxSteps := 2000000) (disch := omega) only [go_sem, seval, hd, cb, atD, r1]; (repeat (first | refine ⟨by omega, ?_⟩ | refine ⟨True.intro, ?_⟩)))))
      refine q10 ⟨_, ?_, rfl⟩; rw [Try.results5]; simp (disch := omega) only [ResVars, ResVar, ptrLoc, go_sem, seval, hd, cb, atD, r1]
    obtain ⟨d1, hd1⟩ : ∃ d, (b1 && sp) = d := ⟨_, rfl⟩
    rw [hd1] at s1
    have go : ∀ {Y : Prop}, Y → Y := fun h => h
    cases b1 <;> cases sp
    all_goals
      simp only [Bool.and_self, Bool.and_true, Bool.and_false, Bool.true_and, Bool.false_and] at hd1
      subst hd1
      (repeat (first | refine q0 ?_ | refine x7 rfl ?_ | refine j7 rfl ?_ | refine z6 ?_ | (refine j0 fun K hK => ?_) | (refine x4 (by kernel_rfl) (by kernel_rfl) fun K hK => ?_) | ((first | refine q6 ?_ | refine x6 ?_ | ((first | refine q4 (hK _ ?_) | refine q5 (hK _ _ (j4 (by kernel_rfl)) ?_)); clear hK K)); (first | show AWP _ _ _ _ _ | ((try simp only [j6]); first | show loopQ _ _ _ _ _ _ | show cutQ _ _ _ _ | show AWP _ _ _ _ _))) | ((first | refine x9 rfl rfl rfl ?_ | refine j9 rfl rfl rfl ?_); simp (maxSteps := 2000000) (disch := omega) only [go_sem, seval, hd, cb, atD, r1]; (first | refine ⟨_, tx, ?_⟩)) | ((first | refine q8 [] rfl ?_ | refine z8 [] rfl ?_); simp (maxSteps := 2000000) (disch := omega) only [go_sem, seval, hd, cb, atD, r1]; (repeat (first | refine ⟨by omega, ?_⟩ | refine ⟨True.intro, ?_⟩)))))
    · refine awp_loop (argB l id pred i a.ids false b2) (fun s => a.ids.length - s.val.1) ⟨(0, b2), by omega, by simp⟩ ?_ (fun s => ?_)
      · unfold argB
        refine Weak.list ?_ ?_; (all_goals simp (disch := omega) only [AllF, AllL, j10, le_top, x10, exists_eq_left', Option.some.injEq, go_sem, seval, hd, cb, atD, r1]); (all_goals (repeat' (with_reducible apply And.intro))); (all_goals try (first | exact x8 rfl | (refine le_int ?_; omega) | (refine x8 ?_; simp; done)))
      obtain ⟨⟨k, b3⟩, hk, h3⟩ := s
      simp only [] at hk h3
      unfold argB
      simp only []
      by_cases hm : k < a.ids.length
      · have r2 := rowZ_at a.ids k
        have cs := cont_succ a.ids id k hm
        generalize a.ids.getD k 0 = x at r2 cs
        cases hx : (x == id) <;> cases b3
        all_goals
          rw [hx] at cs
          simp only [Bool.or_false, Bool.or_true] at cs
          (repeat (first | refine q0 ?_ | refine x7 rfl ?_ | refine j7 rfl ?_ | refine z6 ?_ | (refine j0 fun K hK => ?_) | (refine x4 (by kernel_rfl) (by kernel_rfl) fun K hK => ?_) | ((first | refine q6 ?_ | refine x6 ?_ | ((first | refine q4 (hK _ ?_) | refine q5 (hK _ _ (j4 (by kernel_rfl)) ?_)); clear hK K)); (first | show AWP _ _ _ _ _ | ((try simp only [j6]); first | show loopQ _ _ _ _ _ _ | show cutQ _ _ _ _ | show AWP _ _ _ _ _))) | ((first | refine q8 [] rfl ?_ | refine z8 [] rfl ?_); simp (maxSteps := 2000000) (disch := omega) only [go_sem, seval, hd, cb, atD, r1, r2, hx]; (repeat (first | refine ⟨by omega, ?_⟩ | refine ⟨True.intro, ?_⟩)))))
        · refine ⟨⟨(k + 1, false), by simp only []; omega, by simp only []; rw [cs]; exact h3⟩, by simp only []; omega, ?_⟩
          refine Weak.list ?_ ?_; (all_goals simp (disch := omega) only [AllF, AllL, j10, le_top, x10, exists_eq_left', Option.some.injEq, go_sem, seval, hd, cb, atD, r1, r2, hx]); (all_goals (repeat' (with_reducible apply And.intro))); (all_goals try (first | exact x8 rfl | (refine le_int ?_; omega) | (refine x8 ?_; simp; done)))
        · refine ⟨⟨(k + 1, true), by simp only []; omega, by simp only []; rw [cs]; exact h3⟩, by simp only []; omega, ?_⟩
          refine Weak.list ?_ ?_; (all_goals simp (disch := omega) only [AllF, AllL, j10, le_top, x10, exists_eq_left', Option.some.injEq, go_sem, seval, hd, cb, atD, r1, r2, hx]); (all_goals (repeat' (with_reducible apply And.intro))); (all_goals try (first | exact x8 rfl | (refine le_int ?_; omega) | (refine x8 ?_; simp; done)))
        · refine ⟨⟨(k + 1, true), by simp only []; omega, by simp only []; rw [cs, Bool.or_true]⟩, by simp only []; omega, ?_⟩
          refine Weak.list ?_ ?_; (all_goals simp (disch := omega) only [AllF, AllL, j10, le_top, x10, exists_eq_left', Option.some.injEq, go_sem, seval, hd, cb, atD, r1, r2, hx]); (all_goals (repeat' (with_reducible apply And.intro))); (all_goals try (first | exact x8 rfl | (refine le_int ?_; omega) | (refine x8 ?_; simp; done)))
        · refine ⟨⟨(k + 1, true), by simp only []; omega, by simp only []; rw [cs, Bool.or_true]⟩, by simp only []; omega, ?_⟩
          refine Weak.list ?_ ?_; (all_goals simp (disch := omega) only [AllF, AllL, j10, le_top, x10, exists_eq_left', Option.some.injEq, go_sem, seval, hd, cb, atD, r1, r2, hx]); (all_goals (repeat' (with_reducible apply And.intro))); (all_goals try (first | exact x8 rfl | (refine le_int ?_; omega) | (refine x8 ?_; simp; done)))
      · have : k = a.ids.length := by omega
        subst this
        rw [List.take_length, ← s2] at h3
        (repeat (first | refine q0 ?_ | refine x7 rfl ?_ | refine j7 rfl ?_ | refine z6 ?_ | (refine j0 fun K hK => ?_) | (refine x4 (by kernel_rfl) (by kernel_rfl) fun K hK => ?_) | ((first | refine q6 ?_ | refine x6 ?_ | ((first | refine q4 (hK _ ?_) | refine q5 (hK _ _ (j4 (by kernel_rfl)) ?_)); clear hK K)); (first | show AWP _ _ _ _ _ | ((try simp only [j6]); first | show loopQ _ _ _ _ _ _ | show cutQ _ _ _ _ | show AWP _ _ _ _ _))) | ((first | refine q8 [] rfl ?_ | refine z8 [] rfl ?_); simp (maxSteps := 2000000) (disch := omega) only [go_sem, seval, hd, cb, atD, r1]; (repeat (first | refine ⟨by omega, ?_⟩ | refine ⟨True.intro, ?_⟩)))))
        refine ⟨⟨(i + 1, false, b3), by simp only []; omega, s1.symm, h3⟩, by simp only []; omega, ?_⟩
        refine Weak.list ?_ ?_; (all_goals simp (disch := omega) only [AllF, AllL, j10, le_top, x10, exists_eq_left', Option.some.injEq, go_sem, seval, hd, cb, atD, r1]); (all_goals (repeat' (with_reducible apply And.intro))); (all_goals try (first | exact x8 rfl | (refine le_int ?_; omega) | (refine x8 ?_; simp; done)))
    · refine awp_loop (argB l id pred i a.ids false b2) (fun s => a.ids.length - s.val.1) ⟨(0, b2), by omega, by simp⟩ ?_ (fun s => ?_)
      · unfold argB
        refine Weak.list ?_ ?_; (all_goals simp (disch := omega) only [AllF, AllL, j10, le_top, x10, exists_eq_left', Option.some.injEq, go_sem, seval, hd, cb, atD, r1]); (all_goals (repeat' (with_reducible apply And.intro))); (all_goals try (first | exact x8 rfl | (refine le_int ?_; omega) | (refine x8 ?_; simp; done)))
      obtain ⟨⟨k, b3⟩, hk, h3⟩ := s
      simp only [] at hk h3
      unfold argB
      simp only []
      by_cases hm : k < a.ids.length
      · have r2 := rowZ_at a.ids k
        have cs := cont_succ a.ids id k hm
        generalize a.ids.getD k 0 = x at r2 cs
        cases hx : (x == id) <;> cases b3
        all_goals
          rw [hx] at cs
          simp only [Bool.or_false, Bool.or_true] at cs
          (repeat (first | refine q0 ?_ | refine x7 rfl ?_ | refine j7 rfl ?_ | refine z6 ?_ | (refine j0 fun K hK => ?_) | (refine x4 (by kernel_rfl) (by kernel_rfl) fun K hK => ?_) | ((first | refine q6 ?_ | refine x6 ?_ | ((first | refine q4 (hK _ ?_) | refine q5 (hK _ _ (j4 (by kernel_rfl)) ?_)); clear hK K)); (first | show AWP _ _ _ _ _ | ((try simp only [j6]); first | show loopQ _ _ _ _ _ _ | show cutQ _ _ _ _ | show AWP _ _ _ _ _))) | ((first | refine q8 [] rfl ?_ | refine z8 [] rfl ?_); simp (maxSteps := 2000000) (disch := omega) only [go_sem, seval, hd, cb, atD, r1, r2, hx]; (repeat (first | refine ⟨by omega, ?_⟩ | refine ⟨True.intro, ?_⟩)))))
        · refine ⟨⟨(k + 1, false), by simp only []; omega, by simp only []; rw [cs]; exact h3⟩, by simp only []; omega, ?_⟩
          refine Weak.list ?_ ?_; (all_goals simp (disch := omega) only [AllF, AllL, j10, le_top, x10, exists_eq_left', Option.some.injEq, go_sem, seval, hd, cb, atD, r1, r2, hx]); (all_goals (repeat' (with_reducible apply And.intro))); (all_goals try (first | exact x8 rfl | (refine le_int ?_; omega) | (refine x8 ?_; simp; done)))
        · refine ⟨⟨(k + 1, true), by simp only []; omega, by simp only []; rw [cs]; exact h3⟩, by simp only []; omega, ?_⟩
          refine Weak.list ?_ ?_; (all_goals simp (disch := omega) only [AllF, AllL, j10, le_top, x10, exists_eq_left', Option.some.injEq, go_sem, seval, hd, cb, atD, r1, r2, hx]); (all_goals (repeat' (with_reducible apply And.intro))); (all_goals try (first | exact x8 rfl | (refine le_int ?_; omega) | (refine x8 ?_; simp; done)))
        · refine ⟨⟨(k + 1, true), by simp only []; omega, by simp only []; rw [cs, Bool.or_true]⟩, by simp only []; omega, ?_⟩
          refine Weak.list ?_ ?_; (all_goals simp (disch := omega) only [AllF, AllL, j10, le_top, x10, exists_eq_left', Option.some.injEq, go_sem, seval, hd, cb, atD, r1, r2, hx]); (all_goals (repeat' (with_reducible apply And.intro))); (all_goals try (first | exact x8 rfl | (refine le_int ?_; omega) | (refine x8 ?_; simp; done)))
        · refine ⟨⟨(k + 1, true), by simp only []; omega, by simp only []; rw [cs, Bool.or_true]⟩, by simp only []; omega, ?_⟩
          refine Weak.list ?_ ?_; (all_goals simp (disch := omega) only [AllF, AllL, j10, le_top, x10, exists_eq_left', Option.some.injEq, go_sem, seval, hd, cb, atD, r1, r2, hx]); (all_goals (repeat' (with_reducible apply And.intro))); (all_goals try (first | exact x8 rfl | (refine le_int ?_; omega) | (refine x8 ?_; simp; done)))
      · have : k = a.ids.length := by omega
        subst this
        rw [List.take_length, ← s2] at h3
        (repeat (first | refine q0 ?_ | refine x7 rfl ?_ | refine j7 rfl ?_ | refine z6 ?_ | (refine j0 fun K hK => ?_) | (refine x4 (by kernel_rfl) (by kernel_rfl) fun K hK => ?_) | ((first | refine q6 ?_ | refine x6 ?_ | ((first | refine q4 (hK _ ?_) | refine q5 (hK _ _ (j4 (by kernel_rfl)) ?_)); clear hK K)); (first | show AWP _ _ _ _ _ | ((try simp only [j6]); first | show loopQ _ _ _ _ _ _ | show cutQ _ _ _ _ | show AWP _ _ _ _ _))) | ((first | refine q8 [] rfl ?_ | refine z8 [] rfl ?_); simp (maxSteps := 2000000) (disch := omega) only [go_sem, seval, hd, cb, atD, r1]; (repeat (first | refine ⟨by omega, ?_⟩ | refine ⟨True.intro, ?_⟩)))))
        refine ⟨⟨(i + 1, false, b3), by simp only []; omega, s1.symm, h3⟩, by simp only []; omega, ?_⟩
        refine Weak.list ?_ ?_; (all_goals simp (disch := omega) only [AllF, AllL, j10, le_top, x10, exists_eq_left', Option.some.injEq, go_sem, seval, hd, cb, atD, r1]); (all_goals (repeat' (with_reducible apply And.intro))); (all_goals try (first | exact x8 rfl | (refine le_int ?_; omega) | (refine x8 ?_; simp; done)))
    · refine awp_loop (argB l id pred i a.ids false b2) (fun s => a.ids.length - s.val.1) ⟨(0, b2), by omega, by simp⟩ ?_ (fun s => ?_)
      · unfold argB
        refine Weak.list ?_ ?_; (all_goals simp (disch := omega) only [AllF, AllL, j10, le_top, x10, exists_eq_left', Option.some.injEq, go_sem, seval, hd, cb, atD, r1]); (all_goals (repeat' (with_reducible apply And.intro))); (all_goals try (first | exact x8 rfl | (refine le_int ?_; omega) | (refine x8 ?_; simp; done)))
      obtain ⟨⟨k, b3⟩, hk, h3⟩ := s
      simp only [] at hk h3
      unfold argB
      simp only []
      by_cases hm : k < a.ids.length
      · have r2 := rowZ_at a.ids k
        have cs := cont_succ a.ids id k hm
        generalize a.ids.getD k 0 = x at r2 cs
        cases hx : (x == id) <;> cases b3
        all_goals
          rw [hx] at cs
          simp only [Bool.or_false, Bool.or_true] at cs
          (repeat (first | refine q0 ?_ | refine x7 rfl ?_ | refine j7 rfl ?_ | refine z6 ?_ | (refine j0 fun K hK => ?_) | (refine x4 (by kernel_rfl) (by kernel_rfl) fun K hK => ?_) | ((first | refine q6 ?_ | refine x6 ?_ | ((first | refine q4 (hK _ ?_) | refine q5 (hK _ _ (j4 (by kernel_rfl)) ?_)); clear hK K)); (first | show AWP _ _ _ _ _ | ((try simp only [j6]); first | show loopQ _ _ _ _ _ _ | show cutQ _ _ _ _ | show AWP _ _ _ _ _))) | ((first | refine q8 [] rfl ?_ | refine z8 [] rfl ?_); simp (maxSteps := 2000000) (disch := omega) only [go_sem, seval, hd, cb, atD, r1, r2, hx]; (repeat (first | refine ⟨by omega, ?_⟩ | refine ⟨True.intro, ?_⟩)))))
        · refine ⟨⟨(k + 1, false), by simp only []; omega, by simp only []; rw [cs]; exact h3⟩, by simp only []; omega, ?_⟩
          refine Weak.list ?_ ?_; (all_goals simp (disch := omega) only [AllF, AllL, j10, le_top, x10, exists_eq_left', Option.some.injEq, go_sem, seval, hd, cb, atD, r1, r2, hx]); (all_goals (repeat' (with_reducible apply And.intro))); (all_goals try (first | exact x8 rfl | (refine le_int ?_; omega) | (refine x8 ?_; simp; done)))
        · refine ⟨⟨(k + 1, true), by simp only []; omega, by simp only []; rw [cs]; exact h3⟩, by simp only []; omega, ?_⟩
          refine Weak.list ?_ ?_; (all_goals simp (disch := omega) only [AllF, AllL, j10, le_top, x10, exists_eq_left', Option.some.injEq, go_sem, seval, hd, cb, atD, r1, r2, hx]); (all_goals (repeat' (with_reducible apply And.intro))); (all_goals try (first | exact x8 rfl | (refine le_int ?_; omega) | (refine x8 ?_; simp; done)))
        · refine ⟨⟨(k + 1, true), by simp only []; omega, by simp only []; rw [cs, Bool.or_true]⟩, by simp only []; omega, ?_⟩
          refine Weak.list ?_ ?_; (all_goals simp (disch := omega) only [AllF, AllL, j10, le_top, x10, exists_eq_left', Option.some.injEq, go_sem, seval, hd, cb, atD, r1, r2, hx]); (all_goals (repeat' (with_reducible apply And.intro))); (all_goals try (first | exact x8 rfl | (refine le_int ?_; omega) | (refine x8 ?_; simp; done)))
        · refine ⟨⟨(k + 1, true), by simp only []; omega, by simp only []; rw [cs, Bool.or_true]⟩, by simp only []; omega, ?_⟩
          refine Weak.list ?_ ?_; (all_goals simp (disch := omega) only [AllF, AllL, j10, le_top, x10, exists_eq_left', Option.some.injEq, go_sem, seval, hd, cb, atD, r1, r2, hx]); (all_goals (repeat' (with_reducible apply And.intro))); (all_goals try (first | exact x8 rfl | (refine le_int ?_; omega) | (refine x8 ?_; simp; done)))
      · have : k = a.ids.length := by omega
        subst this
        rw [List.take_length, ← s2] at h3
        (repeat (first | refine q0 ?_ | refine x7 rfl ?_ | refine j7 rfl ?_ | refine z6 ?_ | (refine j0 fun K hK => ?_) | (refine x4 (by kernel_rfl) (by kernel_rfl) fun K hK => ?_) | ((first | refine q6 ?_ | refine x6 ?_ | ((first | refine q4 (hK _ ?_) | refine q5 (hK _ _ (j4 (by kernel_rfl)) ?_)); clear hK K)); (first | show AWP _ _ _ _ _ | ((try simp only [j6]); first | show loopQ _ _ _ _ _ _ | show cutQ _ _ _ _ | show AWP _ _ _ _ _))) | ((first | refine q8 [] rfl ?_ | refine z8 [] rfl ?_); simp (maxSteps := 2000000) (disch := omega) only [go_sem, seval, hd, cb, atD, r1]; (repeat (first | refine ⟨by omega, ?_⟩ | refine ⟨True.intro, ?_⟩)))))
        refine ⟨⟨(i + 1, false, b3), by simp only []; omega, s1.symm, h3⟩, by simp only []; omega, ?_⟩
        refine Weak.list ?_ ?_; (all_goals simp (disch := omega) only [AllF, AllL, j10, le_top, x10, exists_eq_left', Option.some.injEq, go_sem, seval, hd, cb, atD, r1]); (all_goals (repeat' (with_reducible apply And.intro))); (all_goals try (first | exact x8 rfl | (refine le_int ?_; omega) | (refine x8 ?_; simp; done)))
    · refine awp_loop (argB l id pred i a.ids true b2) (fun s => a.ids.length - s.val.1) ⟨(0, b2), by omega, by simp⟩ ?_ (fun s => ?_)
      · unfold argB
        refine Weak.list ?_ ?_; (all_goals simp (disch := omega) only [AllF, AllL, j10, le_top, x10, exists_eq_left', Option.some.injEq, go_sem, seval, hd, cb, atD, r1]); (all_goals (repeat' (with_reducible apply And.intro))); (all_goals try (first | exact x8 rfl | (refine le_int ?_; omega) | (refine x8 ?_; simp; done)))
      obtain ⟨⟨k, b3⟩, hk, h3⟩ := s
      simp only [] at hk h3
      unfold argB
      simp only []
      by_cases hm : k < a.ids.length
      · have r2 := rowZ_at a.ids k
        have cs := cont_succ a.ids id k hm
        generalize a.ids.getD k 0 = x at r2 cs
        cases hx : (x == id) <;> cases b3
        all_goals
          rw [hx] at cs
          simp only [Bool.or_false, Bool.or_true] at cs
          (repeat (first | refine q0 ?_ | refine x7 rfl ?_ | refine j7 rfl ?_ | refine z6 ?_ | (refine j0 fun K hK => ?_) | (refine x4 (by kernel_rfl) (by kernel_rfl) fun K hK => ?_) | ((first | refine q6 ?_ | refine x6 ?_ | ((first | refine q4 (hK _ ?_) | refine q5 (hK _ _ (j4 (by kernel_rfl)) ?_)); clear hK K)); (first | show AWP _ _ _ _ _ | ((try simp only [j6]); first | show loopQ _ _ _ _ _ _ | show cutQ _ _ _ _ | show AWP _ _ _ _ _))) | ((first | refine q8 [] rfl ?_ | refine z8 [] rfl ?_); simp (maxSteps := 2000000) (disch := omega) only [go_sem, seval, hd, cb, atD, r1, r2, hx]; (repeat (first | refine ⟨by omega, ?_⟩ | refine ⟨True.intro, ?_⟩)))))
        · refine ⟨⟨(k + 1, false), by simp only []; omega, by simp only []; rw [cs]; exact h3⟩, by simp only []; omega, ?_⟩
          refine Weak.list ?_ ?_; (all_goals simp (disch := omega) only [AllF, AllL, j10, le_top, x10, exists_eq_left', Option.some.injEq, go_sem, seval, hd, cb, atD, r1, r2, hx]); (all_goals (repeat' (with_reducible apply And.intro))); (all_goals try (first | exact x8 rfl | (refine le_int ?_; omega) | (refine x8 ?_; simp; done)))
        · refine ⟨⟨(k + 1, true), by simp only []; omega, by simp only []; rw [cs]; exact h3⟩, by simp only []; omega, ?_⟩
          refine Weak.list ?_ ?_; (all_goals simp (disch := omega) only [AllF, AllL, j10, le_top, x10, exists_eq_left', Option.some.injEq, go_sem, seval, hd, cb, atD, r1, r2, hx]); (all_goals (repeat' (with_reducible apply And.intro))); (all_goals try (first | exact x8 rfl | (refine le_int ?_; omega) | (refine x8 ?_; simp; done)))
        · refine ⟨⟨(k + 1, true), by simp only []; omega, by simp only []; rw [cs, Bool.or_true]⟩, by simp only []; omega, ?_⟩
          refine Weak.list ?_ ?_; (all_goals simp (disch := omega) only [AllF, AllL, j10, le_top, x10, exists_eq_left', Option.some.injEq, go_sem, seval, hd, cb, atD, r1, r2, hx]); (all_goals (repeat' (with_reducible apply And.intro))); (all_goals try (first | exact x8 rfl | (refine le_int ?_; omega) | (refine x8 ?_; simp; done)))
        · refine ⟨⟨(k + 1, true), by simp only []; omega, by simp only []; rw [cs, Bool.or_true]⟩, by simp only []; omega, ?_⟩
          refine Weak.list ?_ ?_; (all_goals simp (disch := omega) only [AllF, AllL, j10, le_top, x10, exists_eq_left', Option.some.injEq, go_sem, seval, hd, cb, atD, r1, r2, hx]); (all_goals (repeat' (with_reducible apply And.intro))); (all_goals try (first | exact x8 rfl | (refine le_int ?_; omega) | (refine x8 ?_; simp; done)))
      · have : k = a.ids.length := by omega
        subst this
        rw [List.take_length, ← s2] at h3
        (repeat (first | refine q0 ?_ | refine x7 rfl ?_ | refine j7 rfl ?_ | refine z6 ?_ | (refine j0 fun K hK => ?_) | (refine x4 (by kernel_rfl) (by kernel_rfl) fun K hK => ?_) | ((first | refine q6 ?_ | refine x6 ?_ | ((first | refine q4 (hK _ ?_) | refine q5 (hK _ _ (j4 (by kernel_rfl)) ?_)); clear hK K)); (first | show AWP _ _ _ _ _ | ((try simp only [j6]); first | show loopQ _ _ _ _ _ _ | show cutQ _ _ _ _ | show AWP _ _ _ _ _))) | ((first | refine q8 [] rfl ?_ | refine z8 [] rfl ?_); simp (maxSteps := 2000000) (disch := omega) only [go_sem, seval, hd, cb, atD, r1]; (repeat (first | refine ⟨by omega, ?_⟩ | refine ⟨True.intro, ?_⟩)))))
        refine ⟨⟨(i + 1, true, b3), by simp only []; omega, s1.symm, h3⟩, by simp only []; omega, ?_⟩
        refine Weak.list ?_ ?_; (all_goals simp (disch := omega) only [AllF, AllL, j10, le_top, x10, exists_eq_left', Option.some.injEq, go_sem, seval, hd, cb, atD, r1]); (all_goals (repeat' (with_reducible apply And.intro))); (all_goals try (first | exact x8 rfl | (refine le_int ?_; omega) | (refine x8 ?_; simp; done)))
  · have : i = l.length := by omega
    subst this
    rw [← h1, ← h2] at rr
    rw [← h1] at ce
    rcases rr with ⟨e0, e1⟩ | ⟨e0, e2, e1⟩ | ⟨e0, e2, e3, e4, e1⟩ | ⟨e0, e2, e3, e4, e1⟩
    · simp only [Prod.mk.injEq] at e1
      obtain ⟨rfl, rfl⟩ := e1
      simp only [List.length_nil] at rf
      generalize pred.sound = ps at *
      cases b1
      · simp only [Bool.false_eq_true, if_false] at ce
        obtain ⟨rfl, rfl⟩ := ce
        cases ps
        all_goals
          simp only [Bool.false_eq_true, if_false, if_true] at tp
          (repeat (first | refine q0 ?_ | refine x7 rfl ?_ | refine j7 rfl ?_ | refine z6 ?_ | (refine j0 fun K hK => ?_) | (refine x4 (by kernel_rfl) (by kernel_rfl) fun K hK => ?_) | ((first | refine q6 ?_ | refine x6 ?_ | ((first | refine q4 (hK _ ?_) | refine q5 (hK _ _ (j4 (by kernel_rfl)) ?_)); clear hK K)); (first | show AWP _ _ _ _ _ | ((try simp only [j6]); first | show loopQ _ _ _ _ _ _ | show cutQ _ _ _ _ | show AWP _ _ _ _ _))) | ((first | refine x9 rfl rfl rfl ?_ | refine j9 rfl rfl rfl ?_); simp (maxSteps := 2000000) (disch := omega) only [go_sem, seval, hd, cb, atD]; (first | refine ⟨_, tp, ?_⟩ | refine ⟨_, rf, ?_⟩ | refine ⟨_, co, ?_⟩ | refine ⟨_, awake11_c, ?_⟩)) | ((first | refine q8 [] rfl ?_ | refine z8 [] rfl ?_); simp (maxSteps := 2000000) (disch := omega) only [go_sem, seval, hd, cb, atD]; (repeat (first | refine ⟨by omega, ?_⟩ | refine ⟨True.intro, ?_⟩)))))
          refine q10 ⟨_, ?_, rfl⟩; rw [Try.results5]; simp (disch := omega) only [ResVars, ResVar, ptrLoc, go_sem, seval, hd, cb, atD]
      · simp only [if_true] at ce
        rcases ce with rfl | ⟨rfl, _⟩ <;> cases ps
        all_goals
          simp only [Bool.false_eq_true, if_false, if_true] at tp
          (repeat (first | refine q0 ?_ | refine x7 rfl ?_ | refine j7 rfl ?_ | refine z6 ?_ | (refine j0 fun K hK => ?_) | (refine x4 (by kernel_rfl) (by kernel_rfl) fun K hK => ?_) | ((first | refine q6 ?_ | refine x6 ?_ | ((first | refine q4 (hK _ ?_) | refine q5 (hK _ _ (j4 (by kernel_rfl)) ?_)); clear hK K)); (first | show AWP _ _ _ _ _ | ((try simp only [j6]); first | show loopQ _ _ _ _ _ _ | show cutQ _ _ _ _ | show AWP _ _ _ _ _))) | ((first | refine x9 rfl rfl rfl ?_ | refine j9 rfl rfl rfl ?_); simp (maxSteps := 2000000) (disch := omega) only [go_sem, seval, hd, cb, atD]; (first | refine ⟨_, tp, ?_⟩ | refine ⟨_, rf, ?_⟩ | refine ⟨_, co, ?_⟩ | refine ⟨_, awake11_c, ?_⟩)) | ((first | refine q8 [] rfl ?_ | refine z8 [] rfl ?_); simp (maxSteps := 2000000) (disch := omega) only [go_sem, seval, hd, cb, atD]; (repeat (first | refine ⟨by omega, ?_⟩ | refine ⟨True.intro, ?_⟩)))))
          refine q10 ⟨_, ?_, rfl⟩; rw [Try.results5]; simp (disch := omega) only [ResVars, ResVar, ptrLoc, go_sem, seval, hd, cb, atD]
    · simp only [Prod.mk.injEq] at e1
      obtain ⟨rfl, rfl⟩ := e1
      simp only [List.length_nil] at rf
      generalize pred.sound = ps at *
      cases b1
      · simp only [Bool.false_eq_true, if_false] at ce
        obtain ⟨rfl, rfl⟩ := ce
        cases ps
        all_goals
          simp only [Bool.false_eq_true, if_false, if_true] at tp
          (repeat (first | refine q0 ?_ | refine x7 rfl ?_ | refine j7 rfl ?_ | refine z6 ?_ | (refine j0 fun K hK => ?_) | (refine x4 (by kernel_rfl) (by kernel_rfl) fun K hK => ?_) | ((first | refine q6 ?_ | refine x6 ?_ | ((first | refine q4 (hK _ ?_) | refine q5 (hK _ _ (j4 (by kernel_rfl)) ?_)); clear hK K)); (first | show AWP _ _ _ _ _ | ((try simp only [j6]); first | show loopQ _ _ _ _ _ _ | show cutQ _ _ _ _ | show AWP _ _ _ _ _))) | ((first | refine x9 rfl rfl rfl ?_ | refine j9 rfl rfl rfl ?_); simp (maxSteps := 2000000) (disch := omega) only [go_sem, seval, hd, cb, atD]; (first | refine ⟨_, tp, ?_⟩ | refine ⟨_, rf, ?_⟩ | refine ⟨_, co, ?_⟩ | refine ⟨_, awake11_c, ?_⟩)) | ((first | refine q8 [] rfl ?_ | refine z8 [] rfl ?_); simp (maxSteps := 2000000) (disch := omega) only [go_sem, seval, hd, cb, atD]; (repeat (first | refine ⟨by omega, ?_⟩ | refine ⟨True.intro, ?_⟩)))))
          refine q10 ⟨_, ?_, rfl⟩; rw [Try.results5]; simp (disch := omega) only [ResVars, ResVar, ptrLoc, go_sem, seval, hd, cb, atD]
      · simp only [if_true] at ce
        simp only [Bool.and_true] at e2
        subst e2
        simp only [Bool.false_eq_true, if_false] at tp
        rcases ce with rfl | ⟨rfl, _⟩
        all_goals
          (repeat (first | refine q0 ?_ | refine x7 rfl ?_ | refine j7 rfl ?_ | refine z6 ?_ | (refine j0 fun K hK => ?_) | (refine x4 (by kernel_rfl) (by kernel_rfl) fun K hK => ?_) | ((first | refine q6 ?_ | refine x6 ?_ | ((first | refine q4 (hK _ ?_) | refine q5 (hK _ _ (j4 (by kernel_rfl)) ?_)); clear hK K)); (first | show AWP _ _ _ _ _ | ((try simp only [j6]); first | show loopQ _ _ _ _ _ _ | show cutQ _ _ _ _ | show AWP _ _ _ _ _))) | ((first | refine x9 rfl rfl rfl ?_ | refine j9 rfl rfl rfl ?_); simp (maxSteps := 2000000) (disch := omega) only [go_sem, seval, hd, cb, atD]; (first | refine ⟨_, tp, ?_⟩ | refine ⟨_, rf, ?_⟩ | refine ⟨_, co, ?_⟩ | refine ⟨_, awake11_c, ?_⟩)) | ((first | refine q8 [] rfl ?_ | refine z8 [] rfl ?_); simp (maxSteps := 2000000) (disch := omega) only [go_sem, seval, hd, cb, atD]; (repeat (first | refine ⟨by omega, ?_⟩ | refine ⟨True.intro, ?_⟩)))))
          refine q10 ⟨_, ?_, rfl⟩; rw [Try.results5]; simp (disch := omega) only [ResVars, ResVar, ptrLoc, go_sem, seval, hd, cb, atD]
    · simp only [Prod.mk.injEq] at e1
      obtain ⟨rfl, rfl⟩ := e1
      subst e3
      subst e4
      rw [e2] at tp
      simp only [List.length_nil] at rf
      simp only [if_true] at ce tp
      rcases ce with rfl | ⟨rfl, _⟩
      all_goals
        (repeat (first | refine q0 ?_ | refine x7 rfl ?_ | refine j7 rfl ?_ | refine z6 ?_ | (refine j0 fun K hK => ?_) | (refine x4 (by kernel_rfl) (by kernel_rfl) fun K hK => ?_) | ((first | refine q6 ?_ | refine x6 ?_ | ((first | refine q4 (hK _ ?_) | refine q5 (hK _ _ (j4 (by kernel_rfl)) ?_)); clear hK K)); (first | show AWP _ _ _ _ _ | ((try simp only [j6]); first | show loopQ _ _ _ _ _ _ | show cutQ _ _ _ _ | show AWP _ _ _ _ _))) | ((first | refine x9 rfl rfl rfl ?_ | refine j9 rfl rfl rfl ?_); simp (maxSteps := 2000000) (disch := omega) only [go_sem, seval, hd, cb, atD]; (first | refine ⟨_, tp, ?_⟩ | refine ⟨_, rf, ?_⟩ | refine ⟨_, co, ?_⟩ | refine ⟨_, awake11_c, ?_⟩)) | ((first | refine q8 [] rfl ?_ | refine z8 [] rfl ?_); simp (maxSteps := 2000000) (disch := omega) only [go_sem, seval, hd, cb, atD]; (repeat (first | refine ⟨by omega, ?_⟩ | refine ⟨True.intro, ?_⟩)))))
        refine q10 ⟨_, ?_, rfl⟩; rw [Try.results5]; simp (disch := omega) only [ResVars, ResVar, ptrLoc, go_sem, seval, hd, cb, atD]
    · subst e3
      subst e4
      rw [e2] at tp
      simp only [if_true] at ce tp
      rcases ce with rfl | ⟨rfl, _⟩ <;> rcases e1 with rfl | rfl
      all_goals
        (repeat (first | refine q0 ?_ | refine x7 rfl ?_ | refine j7 rfl ?_ | refine z6 ?_ | (refine j0 fun K hK => ?_) | (refine x4 (by kernel_rfl) (by kernel_rfl) fun K hK => ?_) | ((first | refine q6 ?_ | refine x6 ?_ | ((first | refine q4 (hK _ ?_) | refine q5 (hK _ _ (j4 (by kernel_rfl)) ?_)); clear hK K)); (first | show AWP _ _ _ _ _ | ((try simp only [j6]); first | show loopQ _ _ _ _ _ _ | show cutQ _ _ _ _ | show AWP _ _ _ _ _))) | ((first | refine x9 rfl rfl rfl ?_ | refine j9 rfl rfl rfl ?_); simp (maxSteps := 2000000) (disch := omega) only [go_sem, seval, hd, cb, atD]; (first | refine ⟨_, tp, ?_⟩ | refine ⟨_, rf, ?_⟩ | refine ⟨_, co, ?_⟩ | refine ⟨_, awake11_c, ?_⟩)) | ((first | refine q8 [] rfl ?_ | refine z8 [] rfl ?_); simp (maxSteps := 2000000) (disch := omega) only [go_sem, seval, hd, cb, atD]; (repeat (first | refine ⟨by omega, ?_⟩ | refine ⟨True.intro, ?_⟩)))))
        refine q10 ⟨_, ?_, rfl⟩; rw [Try.results5]; simp (disch := omega) only [ResVars, ResVar, ptrLoc, go_sem, seval, hd, cb, atD]
end Go.Proofs.Ytemcdefpihkfpaa
