/- Part 4 of a proof: lemmas beneath the theorem that the last text bears. Conditions: none. -/
import Derived.Test.YtemcdefpihkfpaaGreatKAtomsExactc
import Derived.Shelf.Sort.Plain
import Derived.Shelf.Slices.CompactI
import Derived.Shelf.Spec.SlicesGrow
set_option linter.unusedSimpArgs false
set_option linter.unusedVariables false
namespace Go.Proofs.YtemcdefpihkfpaaGreat
open Go.Shelf Go.Proofs
def sortZ_ren : Go.Shelf.Ren := ⟨fun | 125 => 142 | 128 => 173 | 129 => 174 | 189 => 131 | 215 => 164 | 216 => 160 | 257 => 159 | 294 => 183 | 295 => 184 | 296 => 185 | 297 => 186 | 298 => 187 | 299 => 188 | 300 => 189 | 301 => 190 | 328 => 199 | 329 => 193 | 330 => 194 | 331 => 200 | 332 => 201 | 343 => 203 | n => n, fun | 0 => 0 | 3 => 3 | 4 => 4 | 5 => 5 | 9 => 9 | 28 => 36 | 46 => 149 | 51 => 212 | 53 => 23 | 131 => 38 | 182 => 205 | 183 => 206 | 218 => 226 | 222 => 230 | 228 => 236 | 229 => 237 | n => n, fun n => n⟩
theorem sortZ_lay : Lays.n189 Tryz.prog sortZ_ren where
  mixed := by kernel_rfl
  f125 := Tryz.func142.trans (congrArg some (by kernel_rfl))
  f128 := Tryz.func173.trans (congrArg some (by kernel_rfl))
  f129 := Tryz.func174.trans (congrArg some (by kernel_rfl))
  f189 := Tryz.func131.trans (congrArg some (by kernel_rfl))
  f215 := Tryz.func164.trans (congrArg some (by kernel_rfl))
  f216 := Tryz.func160.trans (congrArg some (by kernel_rfl))
  f257 := Tryz.func159.trans (congrArg some (by kernel_rfl))
  f294 := Tryz.func183.trans (congrArg some (by kernel_rfl))
  f295 := Tryz.func184.trans (congrArg some (by kernel_rfl))
  f296 := Tryz.func185.trans (congrArg some (by kernel_rfl))
  f297 := Tryz.func186.trans (congrArg some (by kernel_rfl))
  f298 := Tryz.func187.trans (congrArg some (by kernel_rfl))
  f299 := Tryz.func188.trans (congrArg some (by kernel_rfl))
  f300 := Tryz.func189.trans (congrArg some (by kernel_rfl))
  f301 := Tryz.func190.trans (congrArg some (by kernel_rfl))
  f328 := Tryz.func199.trans (congrArg some (by kernel_rfl))
  f329 := Tryz.func193.trans (congrArg some (by kernel_rfl))
  f330 := Tryz.func194.trans (congrArg some (by kernel_rfl))
  f331 := Tryz.func200.trans (congrArg some (by kernel_rfl))
  f332 := Tryz.func201.trans (congrArg some (by kernel_rfl))
  f343 := Tryz.func203.trans (congrArg some (by kernel_rfl))
  t0 := Tryz.underlying0
  a0 := Tryz.isAgg0
  z0 := Tryz.sizeOf0
  v0 := Tryz.zeroValue0
  t3 := Tryz.underlying3
  a3 := Tryz.isAgg3
  z3 := Tryz.sizeOf3
  v3 := Tryz.zeroValue3
  t4 := Tryz.underlying4
  a4 := Tryz.isAgg4
  z4 := Tryz.sizeOf4
  v4 := Tryz.zeroValue4
  t5 := Tryz.underlying5
  a5 := Tryz.isAgg5
  z5 := Tryz.sizeOf5
  v5 := Tryz.zeroValue5
  t9 := Tryz.underlying9
  a9 := Tryz.isAgg9
  z9 := Tryz.sizeOf9
  v9 := Tryz.zeroValue9
  t28 := Tryz.underlying36
  a28 := Tryz.isAgg36
  z28 := Tryz.sizeOf36
  v28 := Tryz.zeroValue36
  t46 := Tryz.underlying149
  a46 := Tryz.isAgg149
  z46 := Tryz.sizeOf149
  v46 := Tryz.zeroValue149
  t51 := Tryz.underlying212
  a51 := Tryz.isAgg212
  z51 := Tryz.sizeOf212
  v51 := Tryz.zeroValue212
  t53 := Tryz.underlying23
  a53 := Tryz.isAgg23
  z53 := Tryz.sizeOf23
  v53 := Tryz.zeroValue23
  t131 := Tryz.underlying38
  a131 := Tryz.isAgg38
  z131 := Tryz.sizeOf38
  v131 := Tryz.zeroValue38
  t182 := Tryz.underlying205
  a182 := Tryz.isAgg205
  z182 := Tryz.sizeOf205
  v182 := Tryz.zeroValue205
  t183 := Tryz.underlying206
  a183 := Tryz.isAgg206
  z183 := Tryz.sizeOf206
  v183 := Tryz.zeroValue206
  t218 := Tryz.underlying226
  a218 := Tryz.isAgg226
  z218 := Tryz.sizeOf226
  v218 := Tryz.zeroValue226
  t222 := Tryz.underlying230
  a222 := Tryz.isAgg230
  z222 := Tryz.sizeOf230
  v222 := Tryz.zeroValue230
  t228 := Tryz.underlying236
  a228 := Tryz.isAgg236
  z228 := Tryz.sizeOf236
  v228 := Tryz.zeroValue236
  t229 := Tryz.underlying237
  a229 := Tryz.isAgg237
  z229 := Tryz.sizeOf237
  v229 := Tryz.zeroValue237
def compZ_ren : Go.Shelf.Ren := ⟨fun | 20 => 132 | n => n, fun | 0 => 0 | 3 => 3 | 4 => 4 | 22 => 36 | n => n, fun n => n⟩
theorem compZ_lay : Lays2.n20 Tryz.prog compZ_ren where
  mixed := by kernel_rfl
  f20 := Tryz.func132.trans (congrArg some (by kernel_rfl))
  t0 := Tryz.underlying0
  a0 := Tryz.isAgg0
  z0 := Tryz.sizeOf0
  v0 := Tryz.zeroValue0
  t3 := Tryz.underlying3
  a3 := Tryz.isAgg3
  z3 := Tryz.sizeOf3
  v3 := Tryz.zeroValue3
  t4 := Tryz.underlying4
  a4 := Tryz.isAgg4
  z4 := Tryz.sizeOf4
  v4 := Tryz.zeroValue4
  t22 := Tryz.underlying36
  a22 := Tryz.isAgg36
  z22 := Tryz.sizeOf36
  v22 := Tryz.zeroValue36
  i3 := by kernel_rfl
end Go.Proofs.YtemcdefpihkfpaaGreat
set_option linter.unusedSimpArgs false
set_option linter.unusedVariables false
namespace Go.Proofs.YtemcdefpihkfpaaGreat
open Go.Proofs.YtemcdefpihkfpaaGreat.AL Go.RowKit Go.Sort
theorem own_holds {O : Nat → Prop} {w : World} {h : Gh} {l gen : Nat} {e : TypeId} {zs : List Int} (hL : LocOK O w h l (.own e 1 zs.length gen (rowZ zs))) {b : Nat} (hb : (h.κ l).ownBlock = some b) :
    ∃ cap cur, h.κ l = .slice (some ⟨b, 0, none⟩) zs.length cap ∧ w.heap[b]? = some (.cells cur e (0, 0)) ∧ zs.length ≤ cap ∧ cap ≤ maxLen ∧ cur.size = cap ∧ h.g b = 0 ∧ Holds (Value.int .i64) w b 0 zs.toArray ∧ b < w.heap.size := by
  obtain ⟨cap, cur, c1, c2, c3, c4, c5, c6, c7, c8⟩ := own_block hL hb
  refine ⟨cap, cur, c1, c2, c3, c4, by omega, c6, fun j hj => ?_, (Array.getElem?_eq_some_iff.1 c2).1⟩
  have hj : j < zs.length := by simpa using hj
  obtain ⟨u, k1, k2⟩ := c8.cell hj (show 0 < 1 by omega) (d := .v (.int .i64 (zs.getD j 0))) rfl
  have hu : u = .int .i64 (zs.getD j 0) := relD_v k2
  constructor
  · rw [Nat.zero_add, heap_cell c2]
    simp only [Nat.mul_one, Nat.add_zero] at k1
    rw [k1, hu]
    simp [hj]
  · simp [World.frozen?, c2]
theorem row_after {w : World} {b n cap : Nat} {cur : Array Value} {e : TypeId} (hb : w.heap[b]? = some (.cells cur e (0, 0))) (zs : List Int) (hz : zs.length ≤ cur.size) (q : Nat) (os : Array Obj) :
    (Go.Sort.grow (putRow (Value.int .i64) (Go.Sort.ahead w q) b 0 zs.toArray) os).heap[b]? = some (.cells (putCells (Value.int .i64) 0 zs.toArray cur) e (0, 0)) ∧
      (∀ k, k < w.heap.size → k ≠ b → (Go.Sort.grow (putRow (Value.int .i64) (Go.Sort.ahead w q) b 0 zs.toArray) os).heap[k]? = w.heap[k]?) := by
  have hlt : b < w.heap.size := (Array.getElem?_eq_some_iff.1 hb).1
  constructor
  · rw [heap_grow_old _ _ (by simpa using hlt)]
    show (w.heap.modify b (onCells _))[b]? = _
    rw [Array.getElem?_modify, if_pos rfl, hb]
    simp [onCells]
  · intro k hk hne
    rw [heap_grow_old _ _ (by simpa using hk)]
    simp [putRow, mapBlock, Array.getElem?_modify, Ne.symm hne]
theorem putCells_take (zs : List Int) (cur : Array Value) (hz : zs.length ≤ cur.size) (n : Nat) (hn : n ≤ zs.length) : (putCells (Value.int .i64) 0 zs.toArray cur).toList.take n = (zs.take n).map (Value.int .i64) := by
  apply List.ext_getElem?
  intro k
  by_cases hk : k < n
  · rw [List.getElem?_take_of_lt hk, List.getElem?_map, List.getElem?_take_of_lt hk, Array.getElem?_toList]
    simp only [putCells, Array.getElem?_mapIdx]
    rw [Array.getElem?_eq_getElem (by omega), Option.map_some, if_pos ⟨by omega, by simp; omega⟩]
    simp [show k < zs.length by omega]
  · rw [List.getElem?_eq_none (by simp; omega), List.getElem?_eq_none (by simp; omega)]
theorem rowIs_ints {w : World} {g : Nat → Nat} (zs : List Int) : RowIs w g 1 zs.length (zs.map (Value.int .i64)) (rowZ zs) := by
  refine ⟨fun i hi => rfl, fun i j d hi hj hd => ?_⟩
  have : j = 0 := by omega
  subst this
  simp [rowZ] at hd
  subst hd
  exact ⟨.int .i64 (zs.getD i 0), by simp [hi], .v _ rfl⟩
theorem mcalls_row {P : Program} {f : FuncId} {xs : List AV} {e : TypeId} {n gen n' gen' : Nat} {zs zs' : List Int} {rs : List AV} (hf : ∀ (args : Array Value) (w : World), (callFunc f args).run P w = .ok (.enter f args) w)
    (hn : n = zs.length) (hn' : n' = zs'.length) (hle : zs'.length ≤ zs.length) (hgen : (gen' = gen ∧ n' = n) ∨ gen < gen') (hpos : 0 < zs.length)
    (hargs : ∀ (w : World) (h : Gh) (vs : List Value) (b cap : Nat), RelAs w h vs xs → h.μ 1000 = gen → h.κ 1000 = .slice (some ⟨b, 0, none⟩) n cap → Holds (Value.int .i64) w b 0 zs.toArray → b < w.heap.size → zs.length ≤ cap → cap ≤ maxLen →
      Calls P f vs.toArray w fun r w' => ∃ v, r = .returned v ∧ (∀ h' : Gh, h'.κ 1000 = .slice (some ⟨b, 0, none⟩) n' cap → h'.μ 1000 = gen' → RelRA w' h' v rs) ∧ ∃ q os tail, w' = Go.Sort.grow (putRow (Value.int .i64) (Go.Sort.ahead w q) b 0 (zs' ++ tail).toArray) os ∧ (zs' ++ tail).length = zs.length) :
    MCalls P f xs [(1000, .own e 1 n gen (rowZ zs))] (fun r M => r = rs ∧ M = [(1000, .own e 1 n' gen' (rowZ zs'))]) := by
  subst hn hn'
  intro w h vs hz hr hl
  have hL := hl.1 1000 _ rfl
  have hμ : h.μ 1000 = gen := hL.1
  have hb0 : ∃ b, (h.κ 1000).ownBlock = some b := by
    obtain ⟨_, ⟨ys, ⟨h1, ⟨h2, h3⟩ | ⟨gb, cap, cur, h2, _⟩⟩, _⟩, _⟩ := hL
    · omega
    · exact ⟨gb, by rw [h2]; rfl⟩
  obtain ⟨b, hb⟩ := hb0
  obtain ⟨cap, cur, c1, c2, c3, c4, c5, c6, c7, c8⟩ := own_holds hL hb
  rw [hf]
  show Calls P f vs.toArray w _
  refine (hargs w h vs b cap hr hμ c1 c7 c8 c3 c4).mono fun r w' ⟨v, hr', hrel, q, os, tail, hw, htl⟩ => ?_
  subst hr' hw
  obtain ⟨e1, e2⟩ := row_after (n := 0) (cap := 0) c2 (zs' ++ tail) (by omega) q os
  generalize hW : Go.Sort.grow (putRow (Value.int .i64) (Go.Sort.ahead w q) b 0 (zs' ++ tail).toArray) os = W at e1 e2 hrel
  have hsz : w.heap.size ≤ W.heap.size := by rw [← hW]; simp
  have hos : W.os = w.os ∧ W.tape = w.tape ∧ W.output = w.output := by rw [← hW]; exact ⟨rfl, rfl, rfl⟩
  let h' : Gh := { h with κ := fun k => if k = 1000 then .slice (some ⟨b, 0, none⟩) zs'.length cap else h.κ k, μ := fun k => if k = 1000 then gen' else h.μ k }
  have hκ : h'.κ 1000 = .slice (some ⟨b, 0, none⟩) zs'.length cap := by simp [h']
  have hμ' : h'.μ 1000 = gen' := by simp [h']
  have hbl : b < w.heap.size := c8
  have hown : ∀ k, ¬ ownB h [(1000, LV.own e 1 zs.length gen (rowZ zs))] k → k ≠ b := fun k hk e => hk ⟨1000, _, rfl, by simp [inB, hb, e]⟩
  refine ⟨v, rfl, h', _, _, ⟨rfl, rfl⟩, hrel h' hκ hμ', ⟨fun l X hX => ?_, fun l l' X X' b' hne h1 h2 => ?_⟩, ?_⟩
  · simp only [AL.look] at hX
    split at hX
    · rename_i e; subst e; cases hX
      refine ⟨hμ', ⟨zs'.map (Value.int .i64), ?_, rowIs_ints zs'⟩, fun b' hb' => ?_⟩
      · rw [hκ]
        refine ⟨by simp, .inr ⟨b, cap, _, rfl, Nat.zero_le _, e1, by omega, c4, by simp [putCells, c5], ?_⟩⟩
        rw [Nat.mul_one, putCells_take _ _ (by omega) _ (by simp)]
        simp
      · rw [hκ] at hb'
        simp only [Value.ownBlock, Option.some.injEq] at hb'
        subst hb'
        exact ⟨c6, trivial⟩
    · cases hX
  · simp only [AL.look] at h1 h2
    split at h1
    · rename_i e
      split at h2
      · rename_i e2; exact absurd (e.symm.trans e2) hne
      · cases h2
    · cases h1
  · refine ⟨⟨hos.1, hos.2.1, hos.2.2, hsz, fun k hk hno => e2 k hk (hown k hno)⟩, fun _ _ _ => rfl, fun k hk => hz k (by omega), ⟨fun _ => Nat.le_refl _, fun k o ho => ?_⟩, fun _ _ _ => rfl, fun l X hX => ?_, fun b' ⟨l, X, h1, h2⟩ => .inr ?_⟩
    · have hkb : k ≠ b := fun e => by subst e; rw [c6] at ho; omega
      have hk : k < w.heap.size := by
        refine Nat.lt_of_not_le fun hle => ?_
        rw [hz k hle] at ho; omega
      exact World.cell?_of_block (w := w) (e2 k hk hkb)
    · simp only [AL.look] at hX
      split at hX
      · rename_i e; subst e
        rw [hμ', hμ, hκ, c1]
        rcases hgen with ⟨g1, g2⟩ | g1
        · right; rw [g1, g2]; exact ⟨rfl, rfl⟩
        · exact .inl g1
      · cases hX
    · simp only [AL.look] at h1
      split at h1
      · rename_i e; subst e; cases h1
        simp only [inB, hκ, Value.ownBlock, Option.some.injEq] at h2
        subst h2
        exact ⟨1000, _, rfl, by simp [inB, hb]⟩
      · cases h1
theorem relAs_ow {w : World} {h : Gh} {vs : List Value} {gen n : Nat} {v0 : Value} (hr : RelAs w h vs [.ow 1000 gen 1 n]) (hμ : h.μ 1000 = gen) (hκ : h.κ 1000 = v0) : vs = [v0] := by
  match vs, hr with
  | [a], hr => have := (hr.2 0 a _ rfl rfl).2.2 hμ; rw [this, hκ]
  | [], hr => simp [RelAs] at hr
  | _ :: _ :: _, hr => simp [RelAs] at hr
def srtZ (l : List Int) : List Int := l.mergeSort fun x y => decide (x ≤ y)
set_option maxRecDepth 100000 in
theorem SortZ_c (zs : List Int) (gen : Nat) (h0 : 0 < zs.length) (hl : zs.length ≤ 1099511627776) : MCalls Tryz.prog 131 [.ow 1000 gen 1 zs.length] [(1000, .own 3 1 zs.length gen (rowZ zs))] (fun rs M => rs = [] ∧ M = [(1000, .own 3 1 zs.length gen (rowZ (srtZ zs)))]) := by
  have hlen : (srtZ zs).length = zs.length := by unfold srtZ; simp
  refine mcalls_row (fun args w => callFunc_enter args w Tryz.func131 rfl (by kernel_rfl)) rfl hlen.symm (by omega) (.inl ⟨rfl, rfl⟩) h0 fun w h vs b cap hr hμ hκ hH hb _ _ => ?_
  rw [relAs_ow hr hμ hκ]
  refine Calls.mono (Go.Proofs.Any.slices_Sort_int sortZ_lay b 0 cap zs w hH hb (by omega)) fun r w' ⟨h1, n, os, h2⟩ => ?_
  subst h1
  exact ⟨_, rfl, fun h' _ _ => ⟨[], rfl, rfl, fun j v x hv => by simp at hv⟩, n, os, [], by rw [List.append_nil]; exact h2, by rw [List.append_nil]; exact hlen⟩
def compZ (l : List Int) : List Int := Go.Lib.compact l
theorem compZ_len (l : List Int) : (compZ l).length ≤ l.length := by
  unfold compZ Go.Lib.compact Go.Lib.compactUpTo
  rw [List.length_map]
  exact Nat.le_trans (List.length_filter_le _ _) (by simp)
set_option maxRecDepth 100000 in
theorem CompactZ_c (zs : List Int) (gen : Nat) (h0 : 0 < zs.length) (hl : zs.length ≤ 1099511627776) : MCalls Tryz.prog 132 [.ow 1000 gen 1 zs.length] [(1000, .own 3 1 zs.length gen (rowZ zs))] (fun rs M => rs = [.ow 1000 (gen + 1) 1 (compZ zs).length] ∧ M = [(1000, .own 3 1 (compZ zs).length (gen + 1) (rowZ (compZ zs)))]) := by
  have hlen := compZ_len zs
  refine mcalls_row (fun args w => callFunc_enter args w Tryz.func132 rfl (by kernel_rfl)) rfl rfl hlen (.inr (by omega)) h0 fun w h vs b cap hr hμ hκ hH hb hcap hcap2 => ?_
  rw [relAs_ow hr hμ hκ]
  refine Calls.mono (Go.Proofs.Any.slices_Compact_int compZ_lay b 0 cap zs w hH (by omega) hcap) fun r w' ⟨h1, q, h2⟩ => ?_
  subst h1
  refine ⟨_, rfl, fun h' hk hm => ⟨by omega, ⟨_, _, rfl, fun _ => ⟨_, rfl⟩⟩, fun _ => hk.symm⟩, q, #[], List.replicate (zs.length - (compZ zs).length) 0, by rw [grow_empty]; exact h2, by simp; omega⟩
end Go.Proofs.YtemcdefpihkfpaaGreat
set_option linter.unusedSimpArgs false
set_option linter.unusedVariables false
namespace Go.Proofs.YtemcdefpihkfpaaGreat
open Go.Proofs.YtemcdefpihkfpaaGreat.AL Go.RowKit
def growRenZ : Go.Shelf.Ren := ⟨fun | 4 => 182 | n => n, fun | 0 => 0 | 3 => 3 | 4 => 4 | 9 => 9 | 20 => 20 | 22 => 36 | 25 => 3 | n => n, fun n => n⟩
theorem growLZ : Go.Proofs.Lays8.n4 Tryz.prog growRenZ where
  mixed := by kernel_rfl
  f4 := ⟨Tryz.f182.name, by kernel_rfl, Tryz.func182.trans (congrArg some (by kernel_rfl))⟩
  t0 := Tryz.underlying0
  a0 := Tryz.isAgg0
  z0 := Tryz.sizeOf0
  v0 := Tryz.zeroValue0
  t3 := Tryz.underlying3
  a3 := Tryz.isAgg3
  z3 := Tryz.sizeOf3
  v3 := Tryz.zeroValue3
  t4 := Tryz.underlying4
  a4 := Tryz.isAgg4
  z4 := Tryz.sizeOf4
  v4 := Tryz.zeroValue4
  t9 := Tryz.underlying9
  a9 := Tryz.isAgg9
  z9 := Tryz.sizeOf9
  v9 := Tryz.zeroValue9
  t20 := Tryz.underlying20
  a20 := Tryz.isAgg20
  z20 := Tryz.sizeOf20
  v20 := Tryz.zeroValue20
  t22 := Tryz.underlying36
  a22 := Tryz.isAgg36
  z22 := Tryz.sizeOf36
  v22 := Tryz.zeroValue36
theorem GrowZ0_c : ACalls Tryz.prog 182 [.d (.v (.slice none 0 0)), .d (.v (.int .i64 0))] (· = [.d (.v (.slice none 0 0))]) := by
  refine acalls_iff.2 fun w g vs hz hr => ?_
  have hv : vs = [.slice none 0 0, .int .i64 0] := relPs_vals [.slice none 0 0, .int .i64 0] vs hr
  subst hv
  rw [callFunc_enter _ w Tryz.func182 rfl (by kernel_rfl)]
  show Calls Tryz.prog 182 _ w _
  refine Calls.mono (Go.Proofs.Any8.slices_Grow_room growLZ none 0 0 0 w (Nat.le_refl _) (by omega) (by omega) (by omega)) fun e w' ⟨he, hw⟩ => ?_
  subst hw
  exact ⟨_, he, g, _, Ext.refl hz, rfl, .d _ _ (.v _ rfl)⟩
theorem GrowZ_c (n : Nat) (h0 : 0 < n) (hn : n ≤ 1099511627776) : MCalls Tryz.prog 182 [.p (.d (.v (.slice none 0 0))), .p (.d (.v (.int .i64 (n : Int))))] []
    (fun rs L' => rs = [.gr 1000 0 1 0 (rowZ [])] ∧ L' = [(1000, .grow 3 1 0 0)]) := by
  intro w h vs hz hr hl
  have hv : vs = [.slice none 0 0, .int .i64 (n : Int)] := by
    match vs, hr with
    | [a, b], hr =>
      rw [relA_v (hr.2 0 a _ rfl rfl), relA_v (hr.2 1 b _ rfl rfl)]
    | [], hr => simp [RelAs] at hr
    | [_], hr => simp [RelAs] at hr
    | _ :: _ :: _ :: _, hr => simp [RelAs] at hr
  subst hv
  rw [callFunc_enter _ w Tryz.func182 rfl (by kernel_rfl)]
  show Calls Tryz.prog 182 _ w _
  obtain ⟨i0, hi0⟩ : ∃ i, Tryz.prog.info? 3 = some i := Option.isSome_iff_exists.1 (by kernel_rfl)
  have hs : i0.size = 1 := by
    have : (Tryz.prog.info? 3).map (fun i => i.size) = some 1 := by kernel_rfl
    rw [hi0] at this; simpa using this
  have hb : i0.bytes = 8 := by
    have : (Tryz.prog.info? 3).map (fun i => i.bytes) = some 8 := by kernel_rfl
    rw [hi0] at this; simpa using this
  obtain ⟨z, hz0⟩ : ∃ z, i0.zero = some z := by
    have : ((Tryz.prog.info? 3).bind (fun i => i.zero)).isSome = true := by kernel_rfl
    rw [hi0] at this
    exact Option.isSome_iff_exists.1 this
  have hzs : z.cells.size = 1 := by
    have : ((Tryz.prog.info? 3).bind (fun i => i.zero)).map (fun z => z.cells.size) = some 1 := by kernel_rfl
    rw [hi0] at this
    simp only [Option.bind_some, hz0, Option.map_some, Option.some.injEq] at this
    exact this
  refine Calls.mono (Go.Proofs.Any8.slices_Grow_grow growLZ i0 z hi0 hz0 (by omega) none 0 0 n [] w (Nat.le_refl _) (by omega) (by rw [hb]; omega) (by omega) (by simp) (fun _ => rfl) (fun a ha => by cases ha)) fun e w' ⟨he, hw⟩ => ?_
  have hge := grownCap_ge w (0 + n) 0 (growRenZ.t 25)
  have hcm := grownCap_le_maxLen w (0 + n) 0 (growRenZ.t 25) (by unfold maxLen; omega)
  generalize grownCap w (0 + n) 0 (growRenZ.t 25) = cap at he hw hge hcm
  subst he
  subst hw
  generalize hcur : (([] : List Value).toArray ++ Builtin.zeroCells z.cells (0 + n - 0) ++ Builtin.zeroCells z.cells (cap - (0 + n)) : Array Value) = cur
  have hcs : cur.size = cap * 1 := by
    rw [← hcur]
    simp only [Array.size_append, size_zeroCells, hzs]
    simp; omega
  let v : Value := .slice (some ⟨w.heap.size, 0, none⟩) 0 cap
  let h' : Gh := { h with κ := fun k => if k = 1000 then v else h.κ k, μ := fun k => if k = 1000 then 0 else h.μ k }
  have hold : ∀ k, k < w.heap.size → (w.drew.alloc (.cells cur 3)).heap[k]? = w.heap[k]? := fun k hk => Below.heap_alloc w.drew _ k hk
  refine ⟨v, rfl, h', _, _, ⟨rfl, rfl⟩, ⟨.sl0 _ _ _ _, by simp [h'], fun _ => by simp [h']⟩, ⟨fun l X hX => ?_, fun l l' X X' b hne h1 h2 => ?_⟩, ?_⟩
  · have hX : AL.look [(1000, LV.grow 3 1 0 0)] l = some X := hX
    simp only [AL.look] at hX
    split at hX
    · rename_i e; subst e; cases hX
      refine ⟨by simp [h'], ⟨[], by simp, .inr ⟨w.heap.size, cap, cur, by simp [h', v], Nat.zero_le _, _root_.Go.heap_alloc_new w.drew _, Nat.zero_le _, hcm, hcs, by simp⟩⟩, fun b c hb => ?_, fun _ _ => trivial⟩
      simp only [h', if_true, v, Value.slice.injEq, Option.some.injEq, Addr.mk.injEq, and_true] at hb
      rw [← hb.1, Nat.zero_mul]
      exact hz _ (Nat.le_refl _)
    · cases hX
  · have h1 : AL.look [(1000, LV.grow 3 1 0 0)] l = some X := h1
    have h2 : AL.look [(1000, LV.grow 3 1 0 0)] l' = some X' := h2
    simp only [AL.look] at h1 h2
    split at h1
    · rename_i e
      split at h2
      · rename_i e2; exact absurd (e.symm.trans e2) hne
      · cases h2
    · cases h1
  · refine ⟨((BelowS.refl _ _).drew).alloc _, fun _ _ _ => rfl, fun b hb => hz b ?_, ⟨fun _ => Nat.le_refl _, fun b o ho => ?_⟩, fun l X hX => (by cases hX), fun l X hX => (by cases hX), fun b ⟨l, X, h1, h2⟩ => .inl ?_⟩
    · simp at hb; omega
    · have hb : b < w.heap.size := by
        refine Nat.lt_of_not_le fun hle => ?_
        rw [hz b hle] at ho; omega
      exact World.cell?_of_block (w := w) (hold b hb)
    · have h1 : AL.look [(1000, LV.grow 3 1 0 0)] l = some X := h1
      simp only [AL.look] at h1
      split at h1
      · rename_i e; subst e; cases h1
        simp only [inB, h', if_true, v, Value.ownBlock, Option.some.injEq] at h2
        omega
      · cases h1
def rowSZ (ss : List (List Int)) : Nat → List Dat := fun i => [.sl 1 (ss.getD i []).length (rowZ (ss.getD i []))]
def sumLZ (ss : List (List Int)) (i : Nat) : Nat := ((ss.take i).map List.length).sum
theorem sumLZ_succ (ss : List (List Int)) (i : Nat) (h : i < ss.length) : sumLZ ss (i + 1) = sumLZ ss i + (ss.getD i []).length := by
  unfold sumLZ
  rw [take_succ_getD ss i [] h, List.map_append, List.sum_append]
  simp
theorem sumLZ_le (ss : List (List Int)) (i : Nat) : sumLZ ss i ≤ ss.flatten.length := by
  unfold sumLZ
  rw [← List.length_flatten]
  have : ss.flatten = (ss.take i).flatten ++ (ss.drop i).flatten := by rw [← List.flatten_append, List.take_append_drop]
  rw [this, List.length_append]; omega
def concatZI (ss : List (List Int)) (g : Nat → List Dat) (i : Fin (ss.length + 1)) : ASt :=
  ⟨[(11, .p (.d (.v (.int .i64 (i.val : Int))))), (10, .p (.d (.v (.int .i64 (ss.length : Int))))), (9, .p (.d (.sl 1 ss.length g))), (3, .p (.d (.v (.int .i64 (sumLZ ss i.val : Int))))), (0, .p (.d (.sl 1 ss.length g)))], []⟩
def concatZJ (ss : List (List Int)) (g : Nat → List Dat) (s : {s : Nat × List Int // s.1 ≤ ss.length ∧ s.2 = (ss.take s.1).flatten}) : ASt :=
  ⟨[(27, .p (.d (.v (.int .i64 (s.val.1 : Int))))), (26, .p (.d (.v (.int .i64 (ss.length : Int))))), (25, .p (.d (.sl 1 ss.length g))), (6, .gr 6 s.val.1 1 s.val.2.length (rowZ s.val.2))],
   [(6, .grow 3 1 s.val.2.length s.val.1)]⟩
set_option maxRecDepth 100000 in
set_option maxHeartbeats 2000000 in
theorem ConcatZ_c (ss : List (List Int)) (g : Nat → List Dat) (hg : ∀ i, i < ss.length → g i = rowSZ ss i) (hs : ss.length ≤ 1099511627776) (hl : ss.flatten.length ≤ 1099511627776) :
    ACalls Tryz.prog 157 [.d (.sl 1 ss.length g)] (· = [.d (.sl 1 ss.flatten.length (rowZ ss.flatten))]) := by
  have hle : ∀ i, sumLZ ss i ≤ 1099511627776 := fun i => Nat.le_trans (sumLZ_le ss i) hl
  refine q10 Tryz.func157 rfl (by decide +kernel) (by rw [Tryz.ntmps157]; simp) ?_; rw [Tryz.ntmps157]; simp only [frOf]
  (repeat (first | refine q0 ?_ | refine j6 rfl ?_ | refine q7 rfl ?_ | refine q6 ?_ | (refine q4 fun K hK => ?_) | (refine x4 (by kernel_rfl) (by kernel_rfl) fun K hK => ?_) | ((first | refine j5 ?_ | refine z6 ?_ | ((first | refine q5 (hK _ ?_) | refine x5 (hK _ _ (j4 (by kernel_rfl)) ?_)); clear hK K)); (first | show AWP _ _ _ _ _ | ((try simp only [x6]); first | show loopQ _ _ _ _ _ _ | show cutQ _ _ _ _ | show AWP _ _ _ _ _))) | ((first | refine z7 [] rfl ?_ | refine x7 [] rfl ?_); simp (maxSteps := 2000000) (disch := omega) only [go_sem, seval]; (repeat (first | refine ⟨by omega, ?_⟩ | refine ⟨True.intro, ?_⟩)))))
  refine awp_loop (concatZI ss g) (fun i => ss.length - i.val) ⟨0, by omega⟩ ?_ (fun s => ?_)
  · unfold concatZI
    refine Weak.list ?_ ?_; (all_goals simp (disch := omega) only [AllF, AllL, x10, j10, z10, exists_eq_left', Option.some.injEq, go_sem, seval]); (all_goals (repeat' (with_reducible apply And.intro))); (all_goals try (first | exact j7 rfl | (refine q11 ?_; omega) | (refine j7 ?_; simp; done)))
  obtain ⟨i, hi⟩ := s
  unfold concatZI
  by_cases hn : i < ss.length
  · have r1 := hg i hn
    have st := sumLZ_succ ss i hn
    have h1 := hle i
    have h2 := hle (i + 1)
    unfold rowSZ at r1
    generalize ss.getD i [] = X at r1 st
    (repeat (first | refine q0 ?_ | refine j6 rfl ?_ | refine q7 rfl ?_ | refine q6 ?_ | (refine q4 fun K hK => ?_) | (refine x4 (by kernel_rfl) (by kernel_rfl) fun K hK => ?_) | ((first | refine j5 ?_ | refine z6 ?_ | ((first | refine q5 (hK _ ?_) | refine x5 (hK _ _ (j4 (by kernel_rfl)) ?_)); clear hK K)); (first | show AWP _ _ _ _ _ | ((try simp only [x6]); first | show loopQ _ _ _ _ _ _ | show cutQ _ _ _ _ | show AWP _ _ _ _ _))) | ((first | refine z7 [] rfl ?_ | refine x7 [] rfl ?_); simp (maxSteps := 2000000) (disch := omega) only [go_sem, seval, r1]; (repeat (first | refine ⟨by omega, ?_⟩ | refine ⟨True.intro, ?_⟩)))))
    refine ⟨⟨i + 1, by omega⟩, by simp only []; omega, ?_⟩
    refine Weak.list ?_ ?_; (all_goals simp (disch := omega) only [AllF, AllL, x10, j10, z10, exists_eq_left', Option.some.injEq, go_sem, seval, r1]); (all_goals (repeat' (with_reducible apply And.intro))); (all_goals try (first | exact j7 rfl | (refine q11 ?_; omega) | (refine j7 ?_; simp; done)))
  · have hil : i = ss.length := by omega
    subst hil
    have hsum : sumLZ ss ss.length = ss.flatten.length := by unfold sumLZ; rw [List.take_length, List.length_flatten]
    simp only [hsum]
    generalize hN : ss.flatten.length = n at hl
    by_cases h0 : n = 0
    · subst h0
      (repeat ((fail_if_success (show AWP _ _ (.region 10 _ _) _ _)); first | refine q0 ?_ | refine j6 rfl ?_ | refine q7 rfl ?_ | refine q6 ?_ | (refine q4 fun K hK => ?_) | (refine x4 (by kernel_rfl) (by kernel_rfl) fun K hK => ?_) | ((first | refine j5 ?_ | refine z6 ?_ | ((first | refine q5 (hK _ ?_) | refine x5 (hK _ _ (j4 (by kernel_rfl)) ?_)); clear hK K)); (first | show AWP _ _ _ _ _ | ((try simp only [x6]); first | show loopQ _ _ _ _ _ _ | show cutQ _ _ _ _ | show AWP _ _ _ _ _))) | ((first | refine q9 rfl rfl rfl ?_ | refine x9 rfl rfl rfl ?_); simp (maxSteps := 2000000) (disch := omega) only [go_sem, seval]; (first | refine ⟨_, GrowZ0_c, ?_⟩)) | ((first | refine z7 [] rfl ?_ | refine x7 [] rfl ?_); simp (maxSteps := 2000000) (disch := omega) only [go_sem, seval]; (repeat (first | refine ⟨by omega, ?_⟩ | refine ⟨True.intro, ?_⟩)))))
      refine awp_grow 6 6 1 3 (rowZ []) rfl (by kernel_rfl) rfl ?_
      (repeat (first | refine q0 ?_ | refine j6 rfl ?_ | refine q7 rfl ?_ | refine q6 ?_ | (refine q4 fun K hK => ?_) | (refine x4 (by kernel_rfl) (by kernel_rfl) fun K hK => ?_) | ((first | refine j5 ?_ | refine z6 ?_ | ((first | refine q5 (hK _ ?_) | refine x5 (hK _ _ (j4 (by kernel_rfl)) ?_)); clear hK K)); (first | show AWP _ _ _ _ _ | ((try simp only [x6]); first | show loopQ _ _ _ _ _ _ | show cutQ _ _ _ _ | show AWP _ _ _ _ _))) | ((first | refine z7 [] rfl ?_ | refine x7 [] rfl ?_); simp (maxSteps := 2000000) (disch := omega) only [go_sem, seval]; (repeat (first | refine ⟨by omega, ?_⟩ | refine ⟨True.intro, ?_⟩)))))
      refine awp_loop (concatZJ ss g) (fun s => ss.length - s.val.1) ⟨(0, []), by simp, by simp⟩ ?_ (fun s => ?_)
      · unfold concatZJ
        refine Weak.list ?_ ?_; (all_goals simp (disch := omega) only [AllF, AllL, x10, j10, z10, exists_eq_left', Option.some.injEq, go_sem, seval]); (all_goals (repeat' (with_reducible apply And.intro))); (all_goals try (first | exact j7 rfl | (refine q11 ?_; omega) | (refine j7 ?_; simp; done)))
      obtain ⟨⟨j, out⟩, hj, he⟩ := s
      unfold concatZJ
      simp only [] at hj he
      have hb : out.length ≤ 1099511627776 := by
        have := sumLZ_le ss j
        unfold sumLZ at this
        rw [← List.length_flatten, ← he, hN] at this
        omega
      by_cases hm : j < ss.length
      · have r1 := hg j hm
        have st : (ss.take (j + 1)).flatten = (ss.take j).flatten ++ ss.getD j [] := by
          rw [take_succ_getD ss j [] hm, List.flatten_append]; simp
        have hb2 : (ss.take (j + 1)).flatten.length ≤ 1099511627776 := by
          have := sumLZ_le ss (j + 1)
          unfold sumLZ at this
          rw [← List.length_flatten, hN] at this
          omega
        rw [st, List.length_append, ← he] at hb2
        unfold rowSZ at r1
        generalize ss.getD j [] = X at r1 st hb2
        (repeat (first | refine q0 ?_ | refine j6 rfl ?_ | refine q7 rfl ?_ | refine q6 ?_ | (refine q4 fun K hK => ?_) | (refine x4 (by kernel_rfl) (by kernel_rfl) fun K hK => ?_) | ((first | refine j5 ?_ | refine z6 ?_ | ((first | refine q5 (hK _ ?_) | refine x5 (hK _ _ (j4 (by kernel_rfl)) ?_)); clear hK K)); (first | show AWP _ _ _ _ _ | ((try simp only [x6]); first | show loopQ _ _ _ _ _ _ | show cutQ _ _ _ _ | show AWP _ _ _ _ _))) | ((first | refine z7 [] rfl ?_ | refine x7 [] rfl ?_); simp (maxSteps := 2000000) (disch := omega) only [go_sem, seval, r1]; (repeat (first | refine ⟨by omega, ?_⟩ | refine ⟨True.intro, ?_⟩)))))
        refine ⟨⟨(j + 1, out ++ X), by simp only []; omega, by rw [st, ← he]⟩, by simp only []; omega, ?_⟩
        refine Weak.list ?_ ?_; (all_goals simp (disch := omega) only [AllF, AllL, x10, j10, z10, exists_eq_left', Option.some.injEq, go_sem, seval, r1]); (all_goals (repeat' (with_reducible apply And.intro))); (all_goals try (first | exact j7 rfl | (refine q11 ?_; omega) | (refine j7 ?_; simp; done)))
        · exact le_grgr rfl (by simp) (fun k hk => rowZ_cat out X k)
        · exact lle_grow (by simp) rfl
      · have hjl : j = ss.length := by omega
        subst hjl
        rw [List.take_length] at he
        (repeat (first | refine q0 ?_ | refine j6 rfl ?_ | refine q7 rfl ?_ | refine q6 ?_ | (refine q4 fun K hK => ?_) | (refine x4 (by kernel_rfl) (by kernel_rfl) fun K hK => ?_) | ((first | refine j5 ?_ | refine z6 ?_ | ((first | refine q5 (hK _ ?_) | refine x5 (hK _ _ (j4 (by kernel_rfl)) ?_)); clear hK K)); (first | show AWP _ _ _ _ _ | ((try simp only [x6]); first | show loopQ _ _ _ _ _ _ | show cutQ _ _ _ _ | show AWP _ _ _ _ _))) | ((first | refine z7 [] rfl ?_ | refine x7 [] rfl ?_); simp (maxSteps := 2000000) (disch := omega) only [go_sem, seval]; (repeat (first | refine ⟨by omega, ?_⟩ | refine ⟨True.intro, ?_⟩)))))
        refine awp_slot 2 _ (.p (.d (.sl 1 out.length (rowZ out)))) rfl (le_gr rfl (fun _ _ => rfl)) ?_
        refine j9 ⟨_, ?_, rfl⟩; rw [Tryz.results157]; simp (disch := omega) only [ResVars, ResVar, ptrLoc, go_sem, seval]
        rw [← hN, ← he]
    · have gr := GrowZ_c n (by omega) hl
      (repeat ((fail_if_success (show AWP _ _ (.region 9 _ _) _ _)); first | refine q0 ?_ | refine j6 rfl ?_ | refine q7 rfl ?_ | refine q6 ?_ | (refine q4 fun K hK => ?_) | (refine x4 (by kernel_rfl) (by kernel_rfl) fun K hK => ?_) | ((first | refine j5 ?_ | refine z6 ?_ | ((first | refine q5 (hK _ ?_) | refine x5 (hK _ _ (j4 (by kernel_rfl)) ?_)); clear hK K)); (first | show AWP _ _ _ _ _ | ((try simp only [x6]); first | show loopQ _ _ _ _ _ _ | show cutQ _ _ _ _ | show AWP _ _ _ _ _))) | ((first | refine z7 [] rfl ?_ | refine x7 [] rfl ?_); simp (maxSteps := 2000000) (disch := omega) only [go_sem, seval]; (repeat (first | refine ⟨by omega, ?_⟩ | refine ⟨True.intro, ?_⟩)))))
      refine q4 fun K hK => ?_
      (first | refine q8 [] _ _ ?_ | refine z8 [] _ _ _ ?_); simp (maxSteps := 2000000) (disch := omega) only [go_sem, seval]; (repeat refine ⟨by omega, ?_⟩)
      refine walkS_cons _ (step_mcall [(1000, 6)] rfl rfl rfl rfl rfl rfl gr rfl (namesOK_new 6 (by kernel_rfl) rfl rfl)) ?_
      simp (maxSteps := 2000000) (disch := omega) only [go_sem, seval]
      (repeat (first | refine q0 ?_ | refine j6 rfl ?_ | refine q7 rfl ?_ | refine q6 ?_ | (refine q4 fun K hK => ?_) | (refine x4 (by kernel_rfl) (by kernel_rfl) fun K hK => ?_) | ((first | refine j5 ?_ | refine z6 ?_ | ((first | refine q5 (hK _ ?_) | refine x5 (hK _ _ (j4 (by kernel_rfl)) ?_)); clear hK K)); (first | show AWP _ _ _ _ _ | ((try simp only [x6]); first | show loopQ _ _ _ _ _ _ | show cutQ _ _ _ _ | show AWP _ _ _ _ _))) | ((first | refine z7 [] rfl ?_ | refine x7 [] rfl ?_); simp (maxSteps := 2000000) (disch := omega) only [go_sem, seval]; (repeat (first | refine ⟨by omega, ?_⟩ | refine ⟨True.intro, ?_⟩)))))
      refine awp_loop (concatZJ ss g) (fun s => ss.length - s.val.1) ⟨(0, []), by simp, by simp⟩ ?_ (fun s => ?_)
      · unfold concatZJ
        refine Weak.list ?_ ?_; (all_goals simp (disch := omega) only [AllF, AllL, x10, j10, z10, exists_eq_left', Option.some.injEq, go_sem, seval]); (all_goals (repeat' (with_reducible apply And.intro))); (all_goals try (first | exact j7 rfl | (refine q11 ?_; omega) | (refine j7 ?_; simp; done)))
      obtain ⟨⟨j, out⟩, hj, he⟩ := s
      unfold concatZJ
      simp only [] at hj he
      have hb : out.length ≤ 1099511627776 := by
        have := sumLZ_le ss j
        unfold sumLZ at this
        rw [← List.length_flatten, ← he, hN] at this
        omega
      by_cases hm : j < ss.length
      · have r1 := hg j hm
        have st : (ss.take (j + 1)).flatten = (ss.take j).flatten ++ ss.getD j [] := by
          rw [take_succ_getD ss j [] hm, List.flatten_append]; simp
        have hb2 : (ss.take (j + 1)).flatten.length ≤ 1099511627776 := by
          have := sumLZ_le ss (j + 1)
          unfold sumLZ at this
          rw [← List.length_flatten, hN] at this
          omega
        rw [st, List.length_append, ← he] at hb2
        unfold rowSZ at r1
        generalize ss.getD j [] = X at r1 st hb2
        (repeat (first | refine q0 ?_ | refine j6 rfl ?_ | refine q7 rfl ?_ | refine q6 ?_ | (refine q4 fun K hK => ?_) | (refine x4 (by kernel_rfl) (by kernel_rfl) fun K hK => ?_) | ((first | refine j5 ?_ | refine z6 ?_ | ((first | refine q5 (hK _ ?_) | refine x5 (hK _ _ (j4 (by kernel_rfl)) ?_)); clear hK K)); (first | show AWP _ _ _ _ _ | ((try simp only [x6]); first | show loopQ _ _ _ _ _ _ | show cutQ _ _ _ _ | show AWP _ _ _ _ _))) | ((first | refine z7 [] rfl ?_ | refine x7 [] rfl ?_); simp (maxSteps := 2000000) (disch := omega) only [go_sem, seval, r1]; (repeat (first | refine ⟨by omega, ?_⟩ | refine ⟨True.intro, ?_⟩)))))
        refine ⟨⟨(j + 1, out ++ X), by simp only []; omega, by rw [st, ← he]⟩, by simp only []; omega, ?_⟩
        refine Weak.list ?_ ?_; (all_goals simp (disch := omega) only [AllF, AllL, x10, j10, z10, exists_eq_left', Option.some.injEq, go_sem, seval, r1]); (all_goals (repeat' (with_reducible apply And.intro))); (all_goals try (first | exact j7 rfl | (refine q11 ?_; omega) | (refine j7 ?_; simp; done)))
        · exact le_grgr rfl (by simp) (fun k hk => rowZ_cat out X k)
        · exact lle_grow (by simp) rfl
      · have hjl : j = ss.length := by omega
        subst hjl
        rw [List.take_length] at he
        (repeat (first | refine q0 ?_ | refine j6 rfl ?_ | refine q7 rfl ?_ | refine q6 ?_ | (refine q4 fun K hK => ?_) | (refine x4 (by kernel_rfl) (by kernel_rfl) fun K hK => ?_) | ((first | refine j5 ?_ | refine z6 ?_ | ((first | refine q5 (hK _ ?_) | refine x5 (hK _ _ (j4 (by kernel_rfl)) ?_)); clear hK K)); (first | show AWP _ _ _ _ _ | ((try simp only [x6]); first | show loopQ _ _ _ _ _ _ | show cutQ _ _ _ _ | show AWP _ _ _ _ _))) | ((first | refine z7 [] rfl ?_ | refine x7 [] rfl ?_); simp (maxSteps := 2000000) (disch := omega) only [go_sem, seval]; (repeat (first | refine ⟨by omega, ?_⟩ | refine ⟨True.intro, ?_⟩)))))
        refine awp_slot 2 _ (.p (.d (.sl 1 out.length (rowZ out)))) rfl (le_gr rfl (fun _ _ => rfl)) ?_
        refine j9 ⟨_, ?_, rfl⟩; rw [Tryz.results157]; simp (disch := omega) only [ResVars, ResVar, ptrLoc, go_sem, seval]
        rw [← hN, ← he]
end Go.Proofs.YtemcdefpihkfpaaGreat
set_option linter.unusedSimpArgs false
set_option linter.unusedVariables false
namespace Go.Proofs.YtemcdefpihkfpaaGreat
open Go.Proofs.YtemcdefpihkfpaaGreat.AL
def mkZ (l : List Int) : List Int := if soundZ l then l else compZ (srtZ l)
theorem srtZ_len (l : List Int) : (srtZ l).length = l.length := by unfold srtZ; simp
theorem mkZ_len (l : List Int) : (mkZ l).length ≤ l.length := by
  unfold mkZ
  split
  · exact Nat.le_refl _
  · exact Nat.le_trans (compZ_len _) (by rw [srtZ_len]; exact Nat.le_refl _)
set_option maxRecDepth 100000 in
theorem MakeS_c (l : List Int) (hl : l.length ≤ 1099511627776) : ACalls Tryz.prog 90 [.d (.sl 1 l.length (rowZ l))] (· = [.d (.sl 1 (mkZ l).length (rowZ (mkZ l)))]) := by
  have hm := mkZ_len l
  have cl := ClipZ_c (mkZ l).length (rowZ (mkZ l)) (by omega)
  by_cases h : l.length = 0
  · have : l = [] := List.eq_nil_of_length_eq_zero h
    subst this
    have hs : soundZ [] = true := rfl
    have hk : mkZ [] = [] := rfl
    rw [hk] at cl ⊢
    refine acalls_empty fun a c => ?_
    cases a with
    | none =>
      have st := SoundZ_m [] 0 (by simp)
      rw [hs] at st
      refine q10 Tryz.func90 rfl (by decide +kernel) (by rw [Tryz.ntmps90]; simp) ?_; rw [Tryz.ntmps90]; simp only [frOf]
      (repeat (first | refine q0 ?_ | refine j6 rfl ?_ | refine q7 rfl ?_ | refine q6 ?_ | (refine q4 fun K hK => ?_) | (refine x4 (by kernel_rfl) (by kernel_rfl) fun K hK => ?_) | ((first | refine j5 ?_ | refine z6 ?_ | ((first | refine q5 (hK _ ?_) | refine x5 (hK _ _ (j4 (by kernel_rfl)) ?_)); clear hK K)); (first | show AWP _ _ _ _ _ | ((try simp only [x6]); first | show loopQ _ _ _ _ _ _ | show cutQ _ _ _ _ | show AWP _ _ _ _ _))) | ((first | refine z7 [] rfl ?_ | refine x7 [] rfl ?_); simp (maxSteps := 2000000) (disch := omega) only [go_sem, seval]; (repeat (first | refine ⟨by omega, ?_⟩ | refine ⟨True.intro, ?_⟩)))))
      (refine walkS_cons _ (step_mcall [(5, 5)] rfl rfl rfl rfl rfl rfl (CloneZ_nil c (rowZ [])) rfl (namesOK_of (by repeat (first | exact trivial | refine ⟨rfl, ?_⟩)) (by kernel_rfl))) ?_); simp (maxSteps := 2000000) (disch := omega) only [go_sem, seval]
      (repeat (first | refine q0 ?_ | refine j6 rfl ?_ | refine q7 rfl ?_ | refine q6 ?_ | (refine q4 fun K hK => ?_) | (refine x4 (by kernel_rfl) (by kernel_rfl) fun K hK => ?_) | ((first | refine j5 ?_ | refine z6 ?_ | ((first | refine q5 (hK _ ?_) | refine x5 (hK _ _ (j4 (by kernel_rfl)) ?_)); clear hK K)); (first | show AWP _ _ _ _ _ | ((try simp only [x6]); first | show loopQ _ _ _ _ _ _ | show cutQ _ _ _ _ | show AWP _ _ _ _ _))) | ((first | refine z7 [] rfl ?_ | refine x7 [] rfl ?_); simp (maxSteps := 2000000) (disch := omega) only [go_sem, seval]; (repeat (first | refine ⟨by omega, ?_⟩ | refine ⟨True.intro, ?_⟩)))))
      (refine walkS_cons _ (step_mcall [(1000, 5)] rfl rfl rfl rfl rfl rfl (st) rfl (namesOK_of (by repeat (first | exact trivial | refine ⟨rfl, ?_⟩)) (by kernel_rfl))) ?_); simp (maxSteps := 2000000) (disch := omega) only [go_sem, seval]
      (repeat ((fail_if_success (show AWP _ _ (.region 5 _ _) _ _)); first | refine q0 ?_ | refine j6 rfl ?_ | refine q7 rfl ?_ | refine q6 ?_ | (refine q4 fun K hK => ?_) | (refine x4 (by kernel_rfl) (by kernel_rfl) fun K hK => ?_) | ((first | refine j5 ?_ | refine z6 ?_ | ((first | refine q5 (hK _ ?_) | refine x5 (hK _ _ (j4 (by kernel_rfl)) ?_)); clear hK K)); (first | show AWP _ _ _ _ _ | ((try simp only [x6]); first | show loopQ _ _ _ _ _ _ | show cutQ _ _ _ _ | show AWP _ _ _ _ _))) | ((first | refine z7 [] rfl ?_ | refine x7 [] rfl ?_); simp (maxSteps := 2000000) (disch := omega) only [go_sem, seval]; (repeat (first | refine ⟨by omega, ?_⟩ | refine ⟨True.intro, ?_⟩)))))
      refine awp_freeze 3 5 0 1 0 3 _ rfl rfl ?_
      refine awp_slot 3 _ (.p (.d (.sl 1 ([] : List Int).length (rowZ [])))) rfl (le_sl rfl (fun i hi => by omega)) ?_
      (repeat (first | refine q0 ?_ | refine j6 rfl ?_ | refine q7 rfl ?_ | refine q6 ?_ | (refine q4 fun K hK => ?_) | (refine x4 (by kernel_rfl) (by kernel_rfl) fun K hK => ?_) | ((first | refine j5 ?_ | refine z6 ?_ | ((first | refine q5 (hK _ ?_) | refine x5 (hK _ _ (j4 (by kernel_rfl)) ?_)); clear hK K)); (first | show AWP _ _ _ _ _ | ((try simp only [x6]); first | show loopQ _ _ _ _ _ _ | show cutQ _ _ _ _ | show AWP _ _ _ _ _))) | ((first | refine q9 rfl rfl rfl ?_ | refine x9 rfl rfl rfl ?_); simp (maxSteps := 2000000) (disch := omega) only [go_sem, seval]; (first | refine ⟨_, cl, ?_⟩)) | ((first | refine z7 [] rfl ?_ | refine x7 [] rfl ?_); simp (maxSteps := 2000000) (disch := omega) only [go_sem, seval]; (repeat (first | refine ⟨by omega, ?_⟩ | refine ⟨True.intro, ?_⟩)))))
      refine j9 ⟨_, ?_, rfl⟩; rw [Tryz.results90]; simp (disch := omega) only [ResVars, ResVar, ptrLoc, go_sem, seval]
    | some a =>
      have st := SoundZ_m [] 1 (by simp)
      rw [hs] at st
      refine q10 Tryz.func90 rfl (by decide +kernel) (by rw [Tryz.ntmps90]; simp) ?_; rw [Tryz.ntmps90]; simp only [frOf]
      (repeat (first | refine q0 ?_ | refine j6 rfl ?_ | refine q7 rfl ?_ | refine q6 ?_ | (refine q4 fun K hK => ?_) | (refine x4 (by kernel_rfl) (by kernel_rfl) fun K hK => ?_) | ((first | refine j5 ?_ | refine z6 ?_ | ((first | refine q5 (hK _ ?_) | refine x5 (hK _ _ (j4 (by kernel_rfl)) ?_)); clear hK K)); (first | show AWP _ _ _ _ _ | ((try simp only [x6]); first | show loopQ _ _ _ _ _ _ | show cutQ _ _ _ _ | show AWP _ _ _ _ _))) | ((first | refine z7 [] rfl ?_ | refine x7 [] rfl ?_); simp (maxSteps := 2000000) (disch := omega) only [go_sem, seval]; (repeat (first | refine ⟨by omega, ?_⟩ | refine ⟨True.intro, ?_⟩)))))
      (refine walkS_cons _ (step_mcall [(5, 5)] rfl rfl rfl rfl rfl rfl (CloneZ_emp a c (rowZ [])) rfl (namesOK_of (by repeat (first | exact trivial | refine ⟨rfl, ?_⟩)) (by kernel_rfl))) ?_); simp (maxSteps := 2000000) (disch := omega) only [go_sem, seval]
      (repeat (first | refine q0 ?_ | refine j6 rfl ?_ | refine q7 rfl ?_ | refine q6 ?_ | (refine q4 fun K hK => ?_) | (refine x4 (by kernel_rfl) (by kernel_rfl) fun K hK => ?_) | ((first | refine j5 ?_ | refine z6 ?_ | ((first | refine q5 (hK _ ?_) | refine x5 (hK _ _ (j4 (by kernel_rfl)) ?_)); clear hK K)); (first | show AWP _ _ _ _ _ | ((try simp only [x6]); first | show loopQ _ _ _ _ _ _ | show cutQ _ _ _ _ | show AWP _ _ _ _ _))) | ((first | refine z7 [] rfl ?_ | refine x7 [] rfl ?_); simp (maxSteps := 2000000) (disch := omega) only [go_sem, seval]; (repeat (first | refine ⟨by omega, ?_⟩ | refine ⟨True.intro, ?_⟩)))))
      (refine walkS_cons _ (step_mcall [(1000, 5)] rfl rfl rfl rfl rfl rfl (st) rfl (namesOK_of (by repeat (first | exact trivial | refine ⟨rfl, ?_⟩)) (by kernel_rfl))) ?_); simp (maxSteps := 2000000) (disch := omega) only [go_sem, seval]
      (repeat ((fail_if_success (show AWP _ _ (.region 5 _ _) _ _)); first | refine q0 ?_ | refine j6 rfl ?_ | refine q7 rfl ?_ | refine q6 ?_ | (refine q4 fun K hK => ?_) | (refine x4 (by kernel_rfl) (by kernel_rfl) fun K hK => ?_) | ((first | refine j5 ?_ | refine z6 ?_ | ((first | refine q5 (hK _ ?_) | refine x5 (hK _ _ (j4 (by kernel_rfl)) ?_)); clear hK K)); (first | show AWP _ _ _ _ _ | ((try simp only [x6]); first | show loopQ _ _ _ _ _ _ | show cutQ _ _ _ _ | show AWP _ _ _ _ _))) | ((first | refine z7 [] rfl ?_ | refine x7 [] rfl ?_); simp (maxSteps := 2000000) (disch := omega) only [go_sem, seval]; (repeat (first | refine ⟨by omega, ?_⟩ | refine ⟨True.intro, ?_⟩)))))
      refine awp_freeze 3 5 1 1 0 3 _ rfl rfl ?_
      refine awp_slot 3 _ (.p (.d (.sl 1 ([] : List Int).length (rowZ [])))) rfl (le_sl rfl (fun i hi => by omega)) ?_
      (repeat (first | refine q0 ?_ | refine j6 rfl ?_ | refine q7 rfl ?_ | refine q6 ?_ | (refine q4 fun K hK => ?_) | (refine x4 (by kernel_rfl) (by kernel_rfl) fun K hK => ?_) | ((first | refine j5 ?_ | refine z6 ?_ | ((first | refine q5 (hK _ ?_) | refine x5 (hK _ _ (j4 (by kernel_rfl)) ?_)); clear hK K)); (first | show AWP _ _ _ _ _ | ((try simp only [x6]); first | show loopQ _ _ _ _ _ _ | show cutQ _ _ _ _ | show AWP _ _ _ _ _))) | ((first | refine q9 rfl rfl rfl ?_ | refine x9 rfl rfl rfl ?_); simp (maxSteps := 2000000) (disch := omega) only [go_sem, seval]; (first | refine ⟨_, cl, ?_⟩)) | ((first | refine z7 [] rfl ?_ | refine x7 [] rfl ?_); simp (maxSteps := 2000000) (disch := omega) only [go_sem, seval]; (repeat (first | refine ⟨by omega, ?_⟩ | refine ⟨True.intro, ?_⟩)))))
      refine j9 ⟨_, ?_, rfl⟩; rw [Tryz.results90]; simp (disch := omega) only [ResVars, ResVar, ptrLoc, go_sem, seval]
  · have st := SoundZ_m l 1 hl
    have c1 := CloneZ_some l.length (rowZ l) (by omega) hl
    cases hs : soundZ l
    · have hk : mkZ l = compZ (srtZ l) := by unfold mkZ; rw [hs]; rfl
      rw [hk] at cl ⊢
      rw [hs] at st
      have s1 := SortZ_c l 1 (by omega) hl
      have e1 := srtZ_len l
      have s2 := CompactZ_c (srtZ l) 1 (by omega) (by omega)
      rw [e1] at s2
      refine q10 Tryz.func90 rfl (by decide +kernel) (by rw [Tryz.ntmps90]; simp) ?_; rw [Tryz.ntmps90]; simp only [frOf]
      (repeat (first | refine q0 ?_ | refine j6 rfl ?_ | refine q7 rfl ?_ | refine q6 ?_ | (refine q4 fun K hK => ?_) | (refine x4 (by kernel_rfl) (by kernel_rfl) fun K hK => ?_) | ((first | refine j5 ?_ | refine z6 ?_ | ((first | refine q5 (hK _ ?_) | refine x5 (hK _ _ (j4 (by kernel_rfl)) ?_)); clear hK K)); (first | show AWP _ _ _ _ _ | ((try simp only [x6]); first | show loopQ _ _ _ _ _ _ | show cutQ _ _ _ _ | show AWP _ _ _ _ _))) | ((first | refine z7 [] rfl ?_ | refine x7 [] rfl ?_); simp (maxSteps := 2000000) (disch := omega) only [go_sem, seval]; (repeat (first | refine ⟨by omega, ?_⟩ | refine ⟨True.intro, ?_⟩)))))
      (refine walkS_cons _ (step_mcall [(5, 5)] rfl rfl rfl rfl rfl rfl (c1) rfl (namesOK_of (by repeat (first | exact trivial | refine ⟨rfl, ?_⟩)) (by kernel_rfl))) ?_); simp (maxSteps := 2000000) (disch := omega) only [go_sem, seval]
      (repeat (first | refine q0 ?_ | refine j6 rfl ?_ | refine q7 rfl ?_ | refine q6 ?_ | (refine q4 fun K hK => ?_) | (refine x4 (by kernel_rfl) (by kernel_rfl) fun K hK => ?_) | ((first | refine j5 ?_ | refine z6 ?_ | ((first | refine q5 (hK _ ?_) | refine x5 (hK _ _ (j4 (by kernel_rfl)) ?_)); clear hK K)); (first | show AWP _ _ _ _ _ | ((try simp only [x6]); first | show loopQ _ _ _ _ _ _ | show cutQ _ _ _ _ | show AWP _ _ _ _ _))) | ((first | refine z7 [] rfl ?_ | refine x7 [] rfl ?_); simp (maxSteps := 2000000) (disch := omega) only [go_sem, seval]; (repeat (first | refine ⟨by omega, ?_⟩ | refine ⟨True.intro, ?_⟩)))))
      (refine walkS_cons _ (step_mcall [(1000, 5)] rfl rfl rfl rfl rfl rfl (st) rfl (namesOK_of (by repeat (first | exact trivial | refine ⟨rfl, ?_⟩)) (by kernel_rfl))) ?_); simp (maxSteps := 2000000) (disch := omega) only [go_sem, seval]
      (repeat (first | refine q0 ?_ | refine j6 rfl ?_ | refine q7 rfl ?_ | refine q6 ?_ | (refine q4 fun K hK => ?_) | (refine x4 (by kernel_rfl) (by kernel_rfl) fun K hK => ?_) | ((first | refine j5 ?_ | refine z6 ?_ | ((first | refine q5 (hK _ ?_) | refine x5 (hK _ _ (j4 (by kernel_rfl)) ?_)); clear hK K)); (first | show AWP _ _ _ _ _ | ((try simp only [x6]); first | show loopQ _ _ _ _ _ _ | show cutQ _ _ _ _ | show AWP _ _ _ _ _))) | ((first | refine z7 [] rfl ?_ | refine x7 [] rfl ?_); simp (maxSteps := 2000000) (disch := omega) only [go_sem, seval]; (repeat (first | refine ⟨by omega, ?_⟩ | refine ⟨True.intro, ?_⟩)))))
      (refine walkS_cons _ (step_mcall [(1000, 5)] rfl rfl rfl rfl rfl rfl (s1) rfl (namesOK_of (by repeat (first | exact trivial | refine ⟨rfl, ?_⟩)) (by kernel_rfl))) ?_); simp (maxSteps := 2000000) (disch := omega) only [go_sem, seval]
      (repeat (first | refine q0 ?_ | refine j6 rfl ?_ | refine q7 rfl ?_ | refine q6 ?_ | (refine q4 fun K hK => ?_) | (refine x4 (by kernel_rfl) (by kernel_rfl) fun K hK => ?_) | ((first | refine j5 ?_ | refine z6 ?_ | ((first | refine q5 (hK _ ?_) | refine x5 (hK _ _ (j4 (by kernel_rfl)) ?_)); clear hK K)); (first | show AWP _ _ _ _ _ | ((try simp only [x6]); first | show loopQ _ _ _ _ _ _ | show cutQ _ _ _ _ | show AWP _ _ _ _ _))) | ((first | refine z7 [] rfl ?_ | refine x7 [] rfl ?_); simp (maxSteps := 2000000) (disch := omega) only [go_sem, seval]; (repeat (first | refine ⟨by omega, ?_⟩ | refine ⟨True.intro, ?_⟩)))))
      (refine walkS_cons _ (step_mcall [(1000, 5)] rfl rfl rfl rfl rfl rfl (s2) rfl (namesOK_of (by repeat (first | exact trivial | refine ⟨rfl, ?_⟩)) (by kernel_rfl))) ?_); simp (maxSteps := 2000000) (disch := omega) only [go_sem, seval]
      (repeat ((fail_if_success (show AWP _ _ (.region 5 _ _) _ _)); first | refine q0 ?_ | refine j6 rfl ?_ | refine q7 rfl ?_ | refine q6 ?_ | (refine q4 fun K hK => ?_) | (refine x4 (by kernel_rfl) (by kernel_rfl) fun K hK => ?_) | ((first | refine j5 ?_ | refine z6 ?_ | ((first | refine q5 (hK _ ?_) | refine x5 (hK _ _ (j4 (by kernel_rfl)) ?_)); clear hK K)); (first | show AWP _ _ _ _ _ | ((try simp only [x6]); first | show loopQ _ _ _ _ _ _ | show cutQ _ _ _ _ | show AWP _ _ _ _ _))) | ((first | refine z7 [] rfl ?_ | refine x7 [] rfl ?_); simp (maxSteps := 2000000) (disch := omega) only [go_sem, seval]; (repeat (first | refine ⟨by omega, ?_⟩ | refine ⟨True.intro, ?_⟩)))))
      refine awp_freeze 3 5 2 1 (compZ (srtZ l)).length 3 _ rfl rfl ?_
      (repeat (first | refine q0 ?_ | refine j6 rfl ?_ | refine q7 rfl ?_ | refine q6 ?_ | (refine q4 fun K hK => ?_) | (refine x4 (by kernel_rfl) (by kernel_rfl) fun K hK => ?_) | ((first | refine j5 ?_ | refine z6 ?_ | ((first | refine q5 (hK _ ?_) | refine x5 (hK _ _ (j4 (by kernel_rfl)) ?_)); clear hK K)); (first | show AWP _ _ _ _ _ | ((try simp only [x6]); first | show loopQ _ _ _ _ _ _ | show cutQ _ _ _ _ | show AWP _ _ _ _ _))) | ((first | refine q9 rfl rfl rfl ?_ | refine x9 rfl rfl rfl ?_); simp (maxSteps := 2000000) (disch := omega) only [go_sem, seval]; (first | refine ⟨_, cl, ?_⟩)) | ((first | refine z7 [] rfl ?_ | refine x7 [] rfl ?_); simp (maxSteps := 2000000) (disch := omega) only [go_sem, seval]; (repeat (first | refine ⟨by omega, ?_⟩ | refine ⟨True.intro, ?_⟩)))))
      refine j9 ⟨_, ?_, rfl⟩; rw [Tryz.results90]; simp (disch := omega) only [ResVars, ResVar, ptrLoc, go_sem, seval]
    · have hk : mkZ l = l := by unfold mkZ; rw [hs]; rfl
      rw [hk] at cl ⊢
      rw [hs] at st
      refine q10 Tryz.func90 rfl (by decide +kernel) (by rw [Tryz.ntmps90]; simp) ?_; rw [Tryz.ntmps90]; simp only [frOf]
      (repeat (first | refine q0 ?_ | refine j6 rfl ?_ | refine q7 rfl ?_ | refine q6 ?_ | (refine q4 fun K hK => ?_) | (refine x4 (by kernel_rfl) (by kernel_rfl) fun K hK => ?_) | ((first | refine j5 ?_ | refine z6 ?_ | ((first | refine q5 (hK _ ?_) | refine x5 (hK _ _ (j4 (by kernel_rfl)) ?_)); clear hK K)); (first | show AWP _ _ _ _ _ | ((try simp only [x6]); first | show loopQ _ _ _ _ _ _ | show cutQ _ _ _ _ | show AWP _ _ _ _ _))) | ((first | refine z7 [] rfl ?_ | refine x7 [] rfl ?_); simp (maxSteps := 2000000) (disch := omega) only [go_sem, seval]; (repeat (first | refine ⟨by omega, ?_⟩ | refine ⟨True.intro, ?_⟩)))))
      (refine walkS_cons _ (step_mcall [(5, 5)] rfl rfl rfl rfl rfl rfl (c1) rfl (namesOK_of (by repeat (first | exact trivial | refine ⟨rfl, ?_⟩)) (by kernel_rfl))) ?_); simp (maxSteps := 2000000) (disch := omega) only [go_sem, seval]
      (repeat (first | refine q0 ?_ | refine j6 rfl ?_ | refine q7 rfl ?_ | refine q6 ?_ | (refine q4 fun K hK => ?_) | (refine x4 (by kernel_rfl) (by kernel_rfl) fun K hK => ?_) | ((first | refine j5 ?_ | refine z6 ?_ | ((first | refine q5 (hK _ ?_) | refine x5 (hK _ _ (j4 (by kernel_rfl)) ?_)); clear hK K)); (first | show AWP _ _ _ _ _ | ((try simp only [x6]); first | show loopQ _ _ _ _ _ _ | show cutQ _ _ _ _ | show AWP _ _ _ _ _))) | ((first | refine z7 [] rfl ?_ | refine x7 [] rfl ?_); simp (maxSteps := 2000000) (disch := omega) only [go_sem, seval]; (repeat (first | refine ⟨by omega, ?_⟩ | refine ⟨True.intro, ?_⟩)))))
      (refine walkS_cons _ (step_mcall [(1000, 5)] rfl rfl rfl rfl rfl rfl (st) rfl (namesOK_of (by repeat (first | exact trivial | refine ⟨rfl, ?_⟩)) (by kernel_rfl))) ?_); simp (maxSteps := 2000000) (disch := omega) only [go_sem, seval]
      (repeat ((fail_if_success (show AWP _ _ (.region 5 _ _) _ _)); first | refine q0 ?_ | refine j6 rfl ?_ | refine q7 rfl ?_ | refine q6 ?_ | (refine q4 fun K hK => ?_) | (refine x4 (by kernel_rfl) (by kernel_rfl) fun K hK => ?_) | ((first | refine j5 ?_ | refine z6 ?_ | ((first | refine q5 (hK _ ?_) | refine x5 (hK _ _ (j4 (by kernel_rfl)) ?_)); clear hK K)); (first | show AWP _ _ _ _ _ | ((try simp only [x6]); first | show loopQ _ _ _ _ _ _ | show cutQ _ _ _ _ | show AWP _ _ _ _ _))) | ((first | refine z7 [] rfl ?_ | refine x7 [] rfl ?_); simp (maxSteps := 2000000) (disch := omega) only [go_sem, seval]; (repeat (first | refine ⟨by omega, ?_⟩ | refine ⟨True.intro, ?_⟩)))))
      refine awp_freeze 3 5 1 1 l.length 3 _ rfl rfl ?_
      (repeat (first | refine q0 ?_ | refine j6 rfl ?_ | refine q7 rfl ?_ | refine q6 ?_ | (refine q4 fun K hK => ?_) | (refine x4 (by kernel_rfl) (by kernel_rfl) fun K hK => ?_) | ((first | refine j5 ?_ | refine z6 ?_ | ((first | refine q5 (hK _ ?_) | refine x5 (hK _ _ (j4 (by kernel_rfl)) ?_)); clear hK K)); (first | show AWP _ _ _ _ _ | ((try simp only [x6]); first | show loopQ _ _ _ _ _ _ | show cutQ _ _ _ _ | show AWP _ _ _ _ _))) | ((first | refine q9 rfl rfl rfl ?_ | refine x9 rfl rfl rfl ?_); simp (maxSteps := 2000000) (disch := omega) only [go_sem, seval]; (first | refine ⟨_, cl, ?_⟩)) | ((first | refine z7 [] rfl ?_ | refine x7 [] rfl ?_); simp (maxSteps := 2000000) (disch := omega) only [go_sem, seval]; (repeat (first | refine ⟨by omega, ?_⟩ | refine ⟨True.intro, ?_⟩)))))
      refine j9 ⟨_, ?_, rfl⟩; rw [Tryz.results90]; simp (disch := omega) only [ResVars, ResVar, ptrLoc, go_sem, seval]
theorem getB (zs : List Int) {i : Nat} (h : i < zs.length) : zs.toArray[i]! = zs.getD i 0 := by simp [h]
theorem comp_step {zs : List Int} (hs : zs.Pairwise (· ≤ ·)) : ∀ m, m ≤ zs.length → (Go.Lib.compactUpTo zs.toArray m).Pairwise (· < ·) ∧ (∀ x, x ∈ Go.Lib.compactUpTo zs.toArray m ↔ ∃ j, j < m ∧ zs.getD j 0 = x)
  | 0, _ => ⟨by simp [Go.Lib.compactUpTo], fun x => by simp [Go.Lib.compactUpTo]⟩
  | m + 1, h => by
    obtain ⟨i1, i2⟩ := comp_step hs m (by omega)
    have le : ∀ j, j < m → zs.getD j 0 ≤ zs.getD m 0 := fun j hj => by
      have := (List.pairwise_iff_getElem.1 hs) j m (by omega) (by omega) hj
      simpa [show j < zs.length by omega, show m < zs.length by omega] using this
    rw [Go.Lib.compactUpTo_succ]
    by_cases hk : Go.Lib.keeps zs.toArray m = true
    · rw [if_pos hk, getB zs (by omega)]
      refine ⟨List.pairwise_append.2 ⟨i1, List.pairwise_singleton _ _, fun x hx y hy => ?_⟩, fun x => ?_⟩
      · rw [List.mem_singleton] at hy; subst hy
        obtain ⟨j, hj, rfl⟩ := (i2 x).1 hx
        unfold Go.Lib.keeps at hk
        rcases of_decide_eq_true hk with h0 | h0
        · omega
        · rw [getB zs (by omega), getB zs (by omega)] at h0
          have a1 := le (m - 1) (by omega)
          have a2 : zs.getD j 0 ≤ zs.getD (m - 1) 0 := by
            by_cases hjm : j = m - 1
            · rw [hjm]; exact Int.le_refl _
            · have := (List.pairwise_iff_getElem.1 hs) j (m - 1) (by omega) (by omega) (by omega)
              simpa [show j < zs.length by omega, show m - 1 < zs.length by omega] using this
          omega
      · rw [List.mem_append, i2, List.mem_singleton]
        constructor
        · rintro (⟨j, hj, e⟩ | e)
          · exact ⟨j, by omega, e⟩
          · exact ⟨m, by omega, e.symm⟩
        · rintro ⟨j, hj, e⟩
          by_cases hjm : j = m
          · right; rw [← e, hjm]
          · exact .inl ⟨j, by omega, e⟩
    · rw [if_neg hk, List.append_nil]
      refine ⟨i1, fun x => ?_⟩
      rw [i2]
      constructor
      · rintro ⟨j, hj, e⟩; exact ⟨j, by omega, e⟩
      · rintro ⟨j, hj, e⟩
        by_cases hjm : j = m
        · unfold Go.Lib.keeps at hk
          have hk' : ¬ (m = 0 ∨ zs.toArray[m]! ≠ zs.toArray[m - 1]!) := fun h => hk (decide_eq_true h)
          have h0 : m ≠ 0 := fun h => hk' (.inl h)
          have h1 : zs.toArray[m]! = zs.toArray[m - 1]! := Classical.byContradiction fun h => hk' (.inr h)
          rw [getB zs (by omega), getB zs (by omega)] at h1
          exact ⟨m - 1, by omega, by rw [← e, hjm, h1]⟩
        · exact ⟨j, by omega, e⟩
theorem srt_le (l : List Int) : (srtZ l).Pairwise (· ≤ ·) := by
  have := List.pairwise_mergeSort (le := fun x y : Int => decide (x ≤ y)) (fun a b c h1 h2 => by simp at *; omega) (fun a b => by simp; omega) l
  exact this.imp (fun h => of_decide_eq_true h)
theorem mem_getD {l : List Int} {x : Int} : x ∈ l ↔ ∃ j, j < l.length ∧ l.getD j 0 = x := by
  rw [← contains_at]; simp
theorem mkZ_inc (l : List Int) : Inc (mkZ l) := by
  unfold mkZ
  split
  · exact inc_of (by assumption)
  · exact (comp_step (srt_le l) _ (Nat.le_refl _)).1
theorem mkZ_mem (l : List Int) (x : Int) : x ∈ mkZ l ↔ x ∈ l := by
  unfold mkZ
  split
  · rfl
  · refine Iff.trans ((comp_step (srt_le l) _ (Nat.le_refl _)).2 x) ?_
    rw [← mem_getD]
    exact (List.mergeSort_perm l _).mem_iff
theorem mkZ_contains (l : List Int) (x : Int) : (mkZ l).contains x = l.contains x := by
  have := mkZ_mem l x
  rw [Bool.eq_iff_iff]; simpa using this
theorem HasS_c (l : List Int) (x : Int) (hl : l.length ≤ 1099511627776) : ACalls Tryz.prog 50 [.d (.sl 1 l.length (rowZ l)), .d (.v (.int .i64 x))] (· = [.d (.v (.bool (l.contains x)))]) := by
  have c1 := MakeS_c l hl
  have c2 := hasS_c (mkZ l) x (mkZ_inc l) (Nat.le_trans (mkZ_len l) hl)
  rw [mkZ_contains] at c2
  generalize l.contains x = b at c2
  refine q10 Tryz.func50 rfl (by decide +kernel) (by rw [Tryz.ntmps50]; simp) ?_; rw [Tryz.ntmps50]; simp only [frOf]
  (repeat (first | refine q0 ?_ | refine j6 rfl ?_ | refine q7 rfl ?_ | refine q6 ?_ | (refine q4 fun K hK => ?_) | (refine x4 (by kernel_rfl) (by kernel_rfl) fun K hK => ?_) | ((first | refine j5 ?_ | refine z6 ?_ | ((first | refine q5 (hK _ ?_) | refine x5 (hK _ _ (j4 (by kernel_rfl)) ?_)); clear hK K)); (first | show AWP _ _ _ _ _ | ((try simp only [x6]); first | show loopQ _ _ _ _ _ _ | show cutQ _ _ _ _ | show AWP _ _ _ _ _))) | ((first | refine q9 rfl rfl rfl ?_ | refine x9 rfl rfl rfl ?_); simp (maxSteps := 2000000) (disch := omega) only [go_sem, seval]; (first | refine ⟨_, c1, ?_⟩ | refine ⟨_, c2, ?_⟩)) | ((first | refine z7 [] rfl ?_ | refine x7 [] rfl ?_); simp (maxSteps := 2000000) (disch := omega) only [go_sem, seval]; (repeat (first | refine ⟨by omega, ?_⟩ | refine ⟨True.intro, ?_⟩)))))
  refine j9 ⟨_, ?_, rfl⟩; rw [Tryz.results50]; simp (disch := omega) only [ResVars, ResVar, ptrLoc, go_sem, seval]
def joinZ (a b : List Int) : List Int := mkZ (a ++ b)
def lessZ (a b : List Int) : List Int := (mkZ a).filter fun x => !b.contains x
theorem JoinS_c (a b : List Int) (ha : a.length ≤ 549755813888) (hb : b.length ≤ 549755813888) : ACalls Tryz.prog 127 [.d (.sl 1 a.length (rowZ a)), .d (.sl 1 b.length (rowZ b))] (· = [.d (.sl 1 (joinZ a b).length (rowZ (joinZ a b)))]) := by
  unfold joinZ
  have c1 := ConcatZ_c [a, b] (fun i => [[Dat.sl 1 a.length (rowZ a)], [Dat.sl 1 b.length (rowZ b)]].getD i []) (fun i hi => by rcases i with _ | _ | i <;> first | rfl | (simp only [List.length_cons, List.length_nil] at hi; omega)) (by simp) (by simp; omega)
  simp only [List.flatten_cons, List.flatten_nil, List.append_nil, List.length_cons, List.length_nil, Nat.zero_add, Nat.reduceAdd] at c1
  have c2 := MakeS_c (a ++ b) (by simp; omega)
  refine q10 Tryz.func127 rfl (by decide +kernel) (by rw [Tryz.ntmps127]; simp) ?_; rw [Tryz.ntmps127]; simp only [frOf]
  (repeat (first | refine q0 ?_ | refine j6 rfl ?_ | refine q7 rfl ?_ | refine q6 ?_ | (refine q4 fun K hK => ?_) | (refine x4 (by kernel_rfl) (by kernel_rfl) fun K hK => ?_) | ((first | refine j5 ?_ | refine z6 ?_ | ((first | refine q5 (hK _ ?_) | refine x5 (hK _ _ (j4 (by kernel_rfl)) ?_)); clear hK K)); (first | show AWP _ _ _ _ _ | ((try simp only [x6]); first | show loopQ _ _ _ _ _ _ | show cutQ _ _ _ _ | show AWP _ _ _ _ _))) | ((first | refine q9 rfl rfl rfl ?_ | refine x9 rfl rfl rfl ?_); simp (maxSteps := 2000000) (disch := omega) only [go_sem, seval]; (first | refine ⟨_, c1, ?_⟩ | refine ⟨_, c2, ?_⟩)) | ((first | refine z7 [] rfl ?_ | refine x7 [] rfl ?_); simp (maxSteps := 2000000) (disch := omega) only [go_sem, seval]; (repeat (first | refine ⟨by omega, ?_⟩ | refine ⟨True.intro, ?_⟩)))))
  refine j9 ⟨_, ?_, rfl⟩; rw [Tryz.results127]; simp (disch := omega) only [ResVars, ResVar, ptrLoc, go_sem, seval]
theorem LessS_c (a b : List Int) (ha : a.length ≤ 1099511627776) (hb : b.length ≤ 1099511627776) : ACalls Tryz.prog 59 [.d (.sl 1 a.length (rowZ a)), .d (.sl 1 b.length (rowZ b))] (· = [.d (.sl 1 (lessZ a b).length (rowZ (lessZ a b)))]) := by
  unfold lessZ
  have c1 := MakeS_c a ha
  have c2 := MakeS_c b hb
  have c3 := pickS_c (mkZ a) 95 [.d (.sl 1 (mkZ b).length (rowZ (mkZ b)))] (fun x => !b.contains x) (Nat.le_trans (mkZ_len a) ha) (fun x _ => by
    have := lacksS_c (mkZ b) x (mkZ_inc b) (Nat.le_trans (mkZ_len b) hb)
    rw [mkZ_contains] at this
    exact this)
  refine q10 Tryz.func59 rfl (by decide +kernel) (by rw [Tryz.ntmps59]; simp) ?_; rw [Tryz.ntmps59]; simp only [frOf]
  (repeat (first | refine q0 ?_ | refine j6 rfl ?_ | refine q7 rfl ?_ | refine q6 ?_ | (refine q4 fun K hK => ?_) | (refine x4 (by kernel_rfl) (by kernel_rfl) fun K hK => ?_) | ((first | refine j5 ?_ | refine z6 ?_ | ((first | refine q5 (hK _ ?_) | refine x5 (hK _ _ (j4 (by kernel_rfl)) ?_)); clear hK K)); (first | show AWP _ _ _ _ _ | ((try simp only [x6]); first | show loopQ _ _ _ _ _ _ | show cutQ _ _ _ _ | show AWP _ _ _ _ _))) | ((first | refine q9 rfl rfl rfl ?_ | refine x9 rfl rfl rfl ?_); simp (maxSteps := 2000000) (disch := omega) only [go_sem, seval]; (first | refine ⟨_, c1, ?_⟩ | refine ⟨_, c2, ?_⟩ | refine ⟨_, c3, ?_⟩)) | ((first | refine z7 [] rfl ?_ | refine x7 [] rfl ?_); simp (maxSteps := 2000000) (disch := omega) only [go_sem, seval]; (repeat (first | refine ⟨by omega, ?_⟩ | refine ⟨True.intro, ?_⟩)))))
  refine j9 ⟨_, ?_, rfl⟩; rw [Tryz.results59]; simp (disch := omega) only [ResVars, ResVar, ptrLoc, go_sem, seval]
end Go.Proofs.YtemcdefpihkfpaaGreat
set_option linter.unusedSimpArgs false
set_option linter.unusedVariables false
namespace Go.Proofs.YtemcdefpihkfpaaGreat
open Go.Proofs.YtemcdefpihkfpaaGreat.AL
end Go.Proofs.YtemcdefpihkfpaaGreat
set_option linter.unusedSimpArgs false
set_option linter.unusedVariables false
namespace Go.Proofs.YtemcdefpihkfpaaGreat
open Go.Proofs.YtemcdefpihkfpaaGreat.AL
def bitsI (x : BitVec 128) (i : Fin 129) : ASt := ⟨[(4, .p (.d (.v (.int .i64 (i.val : Int))))), (3, .loc 3 0), (2, .loc 2 0), (1, .p (.d (.bx (hd x))))],
  [(3, .arr 112 128 fun j => .v (.bool (decide (j < i.val) && x.getLsbD j))), (2, .arr 112 128 fun _ => .v (.bool false))]⟩
theorem Bits_c (x : BitVec 128) : ACalls Tryz.prog 55 [.agg (hd x)] (· = [.arr 128 fun i => .v (.bool (x.getLsbD i))]) := by
  refine q10 Tryz.func55 rfl (by decide +kernel) (by rw [Tryz.ntmps55]; simp) ?_; rw [Tryz.ntmps55]; simp only [frOf]
  (repeat refine q0 ?_); (first | refine q4 fun K hK => ?_ | refine x4 (by kernel_rfl) (by kernel_rfl) fun K hK => ?_); (first | refine q8 [] _ _ ?_ | refine z8 [] _ _ _ ?_); simp (maxSteps := 2000000) (disch := omega) only [go_sem, ↓reduceIte, reduceCtorEq, Nat.reduceLT, Nat.reducePow, Nat.reduceLeDiff, Nat.reduceAdd, Nat.reduceMul, Nat.reduceSub, Nat.reduceEqDiff, Nat.reduceBEq, Int.reduceToNat, Int.reduceBEq, Int.reduceBNe, hd, cb]; (repeat refine ⟨by omega, ?_⟩); (first | (refine q5 (hK _ ?_); clear hK K; show AWP _ _ _ _ _) | (refine x5 (hK _ _ (j4 (by kernel_rfl)) ?_); clear hK K; show AWP _ _ _ _ _))
  (repeat refine q0 ?_); (first | refine q4 fun K hK => ?_ | refine x4 (by kernel_rfl) (by kernel_rfl) fun K hK => ?_); (first | refine q8 [] _ _ ?_ | refine z8 [] _ _ _ ?_); simp (maxSteps := 2000000) (disch := omega) only [go_sem, ↓reduceIte, reduceCtorEq, Nat.reduceLT, Nat.reducePow, Nat.reduceLeDiff, Nat.reduceAdd, Nat.reduceMul, Nat.reduceSub, Nat.reduceEqDiff, Nat.reduceBEq, Int.reduceToNat, Int.reduceBEq, Int.reduceBNe, hd, cb]; (repeat refine ⟨by omega, ?_⟩); (first | (refine q5 (hK _ ?_); clear hK K; show AWP _ _ _ _ _) | (refine x5 (hK _ _ (j4 (by kernel_rfl)) ?_); clear hK K; show AWP _ _ _ _ _))
  (repeat refine q0 ?_); (first | refine q4 fun K hK => ?_ | refine x4 (by kernel_rfl) (by kernel_rfl) fun K hK => ?_); (first | refine q8 [] _ _ ?_ | refine z8 [] _ _ _ ?_); simp (maxSteps := 2000000) (disch := omega) only [go_sem, ↓reduceIte, reduceCtorEq, Nat.reduceLT, Nat.reducePow, Nat.reduceLeDiff, Nat.reduceAdd, Nat.reduceMul, Nat.reduceSub, Nat.reduceEqDiff, Nat.reduceBEq, Int.reduceToNat, Int.reduceBEq, Int.reduceBNe, hd, cb]; (repeat refine ⟨by omega, ?_⟩); (first | (refine q5 (hK _ ?_); clear hK K; show AWP _ _ _ _ _) | (refine x5 (hK _ _ (j4 (by kernel_rfl)) ?_); clear hK K; show AWP _ _ _ _ _))
  refine q6 (awp_loop (bitsI x) (fun i => 128 - i.val) ⟨0, by omega⟩ ?_ (fun i => ?_))
  · unfold bitsI
    refine Weak.list ?_ ?_; (all_goals simp (disch := omega) only [AllF, AllL, x10, j10, z10, exists_eq_left', Option.some.injEq, go_sem, ↓reduceIte, reduceCtorEq, Nat.reduceLT, Nat.reducePow, Nat.reduceLeDiff, Nat.reduceAdd, Nat.reduceMul, Nat.reduceSub, Nat.reduceEqDiff, Nat.reduceBEq, Int.reduceToNat, Int.reduceBEq, Int.reduceBNe, hd, cb]); (all_goals (repeat' (with_reducible apply And.intro))); (all_goals try (first | exact j7 rfl | (refine q11 ?_; omega) | (refine j7 ?_; simp; done)))
    exact ⟨rfl, rfl, fun i _ => by simp⟩
  unfold bitsI
  by_cases hn : i.val < 128
  · (repeat refine q0 ?_); (first | refine q4 fun K hK => ?_ | refine x4 (by kernel_rfl) (by kernel_rfl) fun K hK => ?_); (first | refine q8 [] _ _ ?_ | refine z8 [] _ _ _ ?_); simp (maxSteps := 2000000) (disch := omega) only [go_sem, ↓reduceIte, reduceCtorEq, Nat.reduceLT, Nat.reducePow, Nat.reduceLeDiff, Nat.reduceAdd, Nat.reduceMul, Nat.reduceSub, Nat.reduceEqDiff, Nat.reduceBEq, Int.reduceToNat, Int.reduceBEq, Int.reduceBNe, hd, cb]; (repeat refine ⟨by omega, ?_⟩); (first | (refine q5 (hK _ ?_); clear hK K; show AWP _ _ _ _ _) | (refine x5 (hK _ _ (j4 (by kernel_rfl)) ?_); clear hK K; show AWP _ _ _ _ _))
    (repeat refine q0 ?_); refine awp_cond rfl (fun _ => ?_) (fun ht => absurd ht (by decide))
    refine j5 ?_; show AWP _ _ _ _ _
    refine q0 (q6 ?_)
    (repeat refine q0 ?_); (first | refine q4 fun K hK => ?_ | refine x4 (by kernel_rfl) (by kernel_rfl) fun K hK => ?_); (first | refine q8 [] _ _ ?_ | refine z8 [] _ _ _ ?_); simp (maxSteps := 2000000) (disch := omega) only [go_sem, ↓reduceIte, reduceCtorEq, Nat.reduceLT, Nat.reducePow, Nat.reduceLeDiff, Nat.reduceAdd, Nat.reduceMul, Nat.reduceSub, Nat.reduceEqDiff, Nat.reduceBEq, Int.reduceToNat, Int.reduceBEq, Int.reduceBNe, hd, cb]; (repeat refine ⟨by omega, ?_⟩); (first | (refine q5 (hK _ ?_); clear hK K; show AWP _ _ _ _ _) | (refine x5 (hK _ _ (j4 (by kernel_rfl)) ?_); clear hK K; show AWP _ _ _ _ _))
    by_cases h6 : i.val < 64
    · refine awp_cond rfl (fun _ => ?_) (fun ht => by simp at ht; omega)
      (repeat refine q0 ?_); (first | refine q4 fun K hK => ?_ | refine x4 (by kernel_rfl) (by kernel_rfl) fun K hK => ?_); (first | refine q8 [] _ _ ?_ | refine z8 [] _ _ _ ?_); simp (maxSteps := 2000000) (disch := omega) only [go_sem, ↓reduceIte, reduceCtorEq, Nat.reduceLT, Nat.reducePow, Nat.reduceLeDiff, Nat.reduceAdd, Nat.reduceMul, Nat.reduceSub, Nat.reduceEqDiff, Nat.reduceBEq, Int.reduceToNat, Int.reduceBEq, Int.reduceBNe, hd, cb]; (repeat refine ⟨by omega, ?_⟩); (first | (refine q5 (hK _ ?_); clear hK K; show AWP _ _ _ _ _) | (refine x5 (hK _ _ (j4 (by kernel_rfl)) ?_); clear hK K; show AWP _ _ _ _ _))
      (repeat refine q0 ?_); (first | refine q4 fun K hK => ?_ | refine x4 (by kernel_rfl) (by kernel_rfl) fun K hK => ?_)
      (first | refine q8 [] _ _ ?_ | refine z8 [] _ _ _ ?_); simp (maxSteps := 2000000) (disch := omega) only [go_sem, ↓reduceIte, reduceCtorEq, Nat.reduceLT, Nat.reducePow, Nat.reduceLeDiff, Nat.reduceAdd, Nat.reduceMul, Nat.reduceSub, Nat.reduceEqDiff, Nat.reduceBEq, Int.reduceToNat, Int.reduceBEq, Int.reduceBNe, hd, cb]; (repeat refine ⟨by omega, ?_⟩)
      (first | (refine q5 (hK _ ?_); clear hK K; show loopQ _ _ _ _ _ _) | (refine x5 (hK _ _ (j4 (by kernel_rfl)) ?_); clear hK K; show loopQ _ _ _ _ _ _))
      refine ⟨⟨i.val + 1, by omega⟩, by simp only []; omega, ?_⟩
      refine Weak.list ?_ ?_; (all_goals simp (disch := omega) only [AllF, AllL, x10, j10, z10, exists_eq_left', Option.some.injEq, go_sem, ↓reduceIte, reduceCtorEq, Nat.reduceLT, Nat.reducePow, Nat.reduceLeDiff, Nat.reduceAdd, Nat.reduceMul, Nat.reduceSub, Nat.reduceEqDiff, Nat.reduceBEq, Int.reduceToNat, Int.reduceBEq, Int.reduceBNe, hd, cb]); (all_goals (repeat' (with_reducible apply And.intro))); (all_goals try (first | exact j7 rfl | (refine q11 ?_; omega) | (refine j7 ?_; simp; done)))
      · refine ⟨rfl, rfl, fun j hj => ?_⟩
        simp only [rem_lo x i.val h6]
        split
        · rename_i e; subst e; simp
        · rename_i e; simp; by_cases hlt : j < i.val
          · simp [hlt, show j < i.val + 1 from by omega]
          · simp [hlt, show ¬ j < i.val + 1 from by omega]
    · refine awp_cond rfl (fun ht => by simp at ht; omega) (fun _ => ?_)
      (repeat refine q0 ?_); (first | refine q4 fun K hK => ?_ | refine x4 (by kernel_rfl) (by kernel_rfl) fun K hK => ?_); (first | refine q8 [] _ _ ?_ | refine z8 [] _ _ _ ?_); simp (maxSteps := 2000000) (disch := omega) only [go_sem, ↓reduceIte, reduceCtorEq, Nat.reduceLT, Nat.reducePow, Nat.reduceLeDiff, Nat.reduceAdd, Nat.reduceMul, Nat.reduceSub, Nat.reduceEqDiff, Nat.reduceBEq, Int.reduceToNat, Int.reduceBEq, Int.reduceBNe, hd, cb]; (repeat refine ⟨by omega, ?_⟩); (first | (refine q5 (hK _ ?_); clear hK K; show AWP _ _ _ _ _) | (refine x5 (hK _ _ (j4 (by kernel_rfl)) ?_); clear hK K; show AWP _ _ _ _ _))
      (repeat refine q0 ?_); (first | refine q4 fun K hK => ?_ | refine x4 (by kernel_rfl) (by kernel_rfl) fun K hK => ?_)
      (first | refine q8 [] _ _ ?_ | refine z8 [] _ _ _ ?_); simp (maxSteps := 2000000) (disch := omega) only [go_sem, ↓reduceIte, reduceCtorEq, Nat.reduceLT, Nat.reducePow, Nat.reduceLeDiff, Nat.reduceAdd, Nat.reduceMul, Nat.reduceSub, Nat.reduceEqDiff, Nat.reduceBEq, Int.reduceToNat, Int.reduceBEq, Int.reduceBNe, hd, cb]; (repeat refine ⟨by omega, ?_⟩)
      (first | (refine q5 (hK _ ?_); clear hK K; show loopQ _ _ _ _ _ _) | (refine x5 (hK _ _ (j4 (by kernel_rfl)) ?_); clear hK K; show loopQ _ _ _ _ _ _))
      refine ⟨⟨i.val + 1, by omega⟩, by simp only []; omega, ?_⟩
      refine Weak.list ?_ ?_; (all_goals simp (disch := omega) only [AllF, AllL, x10, j10, z10, exists_eq_left', Option.some.injEq, go_sem, ↓reduceIte, reduceCtorEq, Nat.reduceLT, Nat.reducePow, Nat.reduceLeDiff, Nat.reduceAdd, Nat.reduceMul, Nat.reduceSub, Nat.reduceEqDiff, Nat.reduceBEq, Int.reduceToNat, Int.reduceBEq, Int.reduceBNe, hd, cb]); (all_goals (repeat' (with_reducible apply And.intro))); (all_goals try (first | exact j7 rfl | (refine q11 ?_; omega) | (refine j7 ?_; simp; done)))
      · refine ⟨rfl, rfl, fun j hj => ?_⟩
        simp only [rem_hi x i.val (by omega) hn]
        split
        · rename_i e; subst e; simp
        · rename_i e; simp; by_cases hlt : j < i.val
          · simp [hlt, show j < i.val + 1 from by omega]
          · simp [hlt, show ¬ j < i.val + 1 from by omega]
  · (repeat refine q0 ?_); (first | refine q4 fun K hK => ?_ | refine x4 (by kernel_rfl) (by kernel_rfl) fun K hK => ?_); (first | refine q8 [] _ _ ?_ | refine z8 [] _ _ _ ?_); simp (maxSteps := 2000000) (disch := omega) only [go_sem, ↓reduceIte, reduceCtorEq, Nat.reduceLT, Nat.reducePow, Nat.reduceLeDiff, Nat.reduceAdd, Nat.reduceMul, Nat.reduceSub, Nat.reduceEqDiff, Nat.reduceBEq, Int.reduceToNat, Int.reduceBEq, Int.reduceBNe, hd, cb]; (repeat refine ⟨by omega, ?_⟩); (first | (refine q5 (hK _ ?_); clear hK K; show AWP _ _ _ _ _) | (refine x5 (hK _ _ (j4 (by kernel_rfl)) ?_); clear hK K; show AWP _ _ _ _ _))
    refine awp_cond rfl (fun ht => absurd ht (by decide)) (fun _ => ?_)
    refine z6 ?_
    show AWP _ _ _ _ _
    (repeat refine q0 ?_); (first | refine q4 fun K hK => ?_ | refine x4 (by kernel_rfl) (by kernel_rfl) fun K hK => ?_); (first | refine q8 [] _ _ ?_ | refine z8 [] _ _ _ ?_); simp (maxSteps := 2000000) (disch := omega) only [go_sem, ↓reduceIte, reduceCtorEq, Nat.reduceLT, Nat.reducePow, Nat.reduceLeDiff, Nat.reduceAdd, Nat.reduceMul, Nat.reduceSub, Nat.reduceEqDiff, Nat.reduceBEq, Int.reduceToNat, Int.reduceBEq, Int.reduceBNe, hd, cb]; (repeat refine ⟨by omega, ?_⟩); (first | (refine q5 (hK _ ?_); clear hK K; show AWP _ _ _ _ _) | (refine x5 (hK _ _ (j4 (by kernel_rfl)) ?_); clear hK K; show AWP _ _ _ _ _))
    refine j9 ⟨_, ?_, rfl⟩; rw [Tryz.results55]; simp (disch := omega) only [ResVars, ResVar, ptrLoc, go_sem, ↓reduceIte, reduceCtorEq, Nat.reduceLT, Nat.reducePow, Nat.reduceLeDiff, Nat.reduceAdd, Nat.reduceMul, Nat.reduceSub, Nat.reduceEqDiff, Nat.reduceBEq, Int.reduceToNat, Int.reduceBEq, Int.reduceBNe, hd, cb]
    simp only [PV.arr.injEq, true_and]
    funext j
    by_cases hlt : j < i.val
    · simp [hlt]
    · simp [hlt, BitVec.getLsbD_of_ge x j (by omega)]
end Go.Proofs.YtemcdefpihkfpaaGreat
set_option linter.unusedSimpArgs false
set_option linter.unusedVariables false
namespace Go.Proofs.YtemcdefpihkfpaaGreat
open Go.Proofs.YtemcdefpihkfpaaGreat.AL
def textI (k : Cube) (s : {i : Fin 129 // ∀ j, j < i.val → k.v.getLsbD j = true → k.c.getLsbD j = true}) : ASt :=
  ⟨[(7, .p (.d (.v (.int .i64 (s.val.val : Int))))), (6, .row 15 1 0 128), (5, .loc 5 0), (4, .loc 4 0)],
   [(15, .arr 5 128 fun j => .v (.int .u8 (if 127 - j < s.val.val then chI k (127 - j) else 0))), (5, .arr 112 128 fun j => .v (.bool (k.c.getLsbD j))), (4, .arr 112 128 fun j => .v (.bool (k.v.getLsbD j)))]⟩
theorem text_step (k : Cube) (c : Int) (i j : Nat) (hi : i < 128) (hj : j < 128) (hc : chI k i = c) :
    (if j = 127 - i then Dat.v (.int .u8 c) else Dat.v (.int .u8 (if 127 - j < i then chI k (127 - j) else 0))) = Dat.v (.int .u8 (if 127 - j < i + 1 then chI k (127 - j) else 0)) := by
  by_cases h : j = 127 - i
  · rw [if_pos h, if_pos (by omega), show 127 - j = i from by omega, hc]
  · rw [if_neg h]
    by_cases h2 : 127 - j < i
    · rw [if_pos h2, if_pos (by omega)]
    · rw [if_neg h2, if_neg (by omega)]
theorem Text_c (k : Cube) : ACalls Tryz.prog 24 [.agg (cb k)] (· = [.d (.v (.string (if k.sound then txt k else ⟨#[]⟩))), .d (.v (.bool k.sound))]) := by
  refine q10 Tryz.func24 rfl (by decide +kernel) (by rw [Tryz.ntmps24]; simp) ?_; rw [Tryz.ntmps24]; simp only [frOf]
  (repeat refine q0 ?_); (first | refine q4 fun K hK => ?_ | refine x4 (by kernel_rfl) (by kernel_rfl) fun K hK => ?_); (first | refine q8 [] _ _ ?_ | refine z8 [] _ _ _ ?_); simp (maxSteps := 2000000) (disch := omega) only [go_sem, ↓reduceIte, reduceCtorEq, Nat.reduceLT, Nat.reducePow, Nat.reduceLeDiff, Nat.reduceAdd, Nat.reduceMul, Nat.reduceSub, Nat.reduceEqDiff, Nat.reduceBEq, Int.reduceToNat, Int.reduceBEq, Int.reduceBNe, hd, cb]; (repeat refine ⟨by omega, ?_⟩); (first | (refine q5 (hK _ ?_); clear hK K; show AWP _ _ _ _ _) | (refine x5 (hK _ _ (j4 (by kernel_rfl)) ?_); clear hK K; show AWP _ _ _ _ _))
  (repeat refine q0 ?_); (first | refine q4 fun K hK => ?_ | refine x4 (by kernel_rfl) (by kernel_rfl) fun K hK => ?_)
  (first | refine q8 [] _ _ ?_ | refine z8 [] _ _ _ ?_); simp (maxSteps := 2000000) (disch := omega) only [go_sem, ↓reduceIte, reduceCtorEq, Nat.reduceLT, Nat.reducePow, Nat.reduceLeDiff, Nat.reduceAdd, Nat.reduceMul, Nat.reduceSub, Nat.reduceEqDiff, Nat.reduceBEq, Int.reduceToNat, Int.reduceBEq, Int.reduceBNe, hd, cb]; (repeat refine ⟨by omega, ?_⟩)
  (first | refine q9 rfl rfl rfl ?_ | refine x9 rfl rfl rfl ?_); simp (maxSteps := 2000000) (disch := omega) only [go_sem, ↓reduceIte, reduceCtorEq, Nat.reduceLT, Nat.reducePow, Nat.reduceLeDiff, Nat.reduceAdd, Nat.reduceMul, Nat.reduceSub, Nat.reduceEqDiff, Nat.reduceBEq, Int.reduceToNat, Int.reduceBEq, Int.reduceBNe, hd, cb]
  refine ⟨_, Bits_c k.v, ?_⟩
  (first | refine q8 [] _ _ ?_ | refine z8 [] _ _ _ ?_); simp (maxSteps := 2000000) (disch := omega) only [go_sem, ↓reduceIte, reduceCtorEq, Nat.reduceLT, Nat.reducePow, Nat.reduceLeDiff, Nat.reduceAdd, Nat.reduceMul, Nat.reduceSub, Nat.reduceEqDiff, Nat.reduceBEq, Int.reduceToNat, Int.reduceBEq, Int.reduceBNe, hd, cb]; (repeat refine ⟨by omega, ?_⟩)
  (first | refine q9 rfl rfl rfl ?_ | refine x9 rfl rfl rfl ?_); simp (maxSteps := 2000000) (disch := omega) only [go_sem, ↓reduceIte, reduceCtorEq, Nat.reduceLT, Nat.reducePow, Nat.reduceLeDiff, Nat.reduceAdd, Nat.reduceMul, Nat.reduceSub, Nat.reduceEqDiff, Nat.reduceBEq, Int.reduceToNat, Int.reduceBEq, Int.reduceBNe, hd, cb]
  refine ⟨_, Bits_c k.c, ?_⟩
  (first | refine q8 [] _ _ ?_ | refine z8 [] _ _ _ ?_); simp (maxSteps := 2000000) (disch := omega) only [go_sem, ↓reduceIte, reduceCtorEq, Nat.reduceLT, Nat.reducePow, Nat.reduceLeDiff, Nat.reduceAdd, Nat.reduceMul, Nat.reduceSub, Nat.reduceEqDiff, Nat.reduceBEq, Int.reduceToNat, Int.reduceBEq, Int.reduceBNe, hd, cb]; (repeat refine ⟨by omega, ?_⟩)
  (first | (refine q5 (hK _ ?_); clear hK K; show AWP _ _ _ _ _) | (refine x5 (hK _ _ (j4 (by kernel_rfl)) ?_); clear hK K; show AWP _ _ _ _ _))
  (repeat refine q0 ?_); (first | refine q4 fun K hK => ?_ | refine x4 (by kernel_rfl) (by kernel_rfl) fun K hK => ?_); (first | refine q8 [] _ _ ?_ | refine z8 [] _ _ _ ?_); simp (maxSteps := 2000000) (disch := omega) only [go_sem, ↓reduceIte, reduceCtorEq, Nat.reduceLT, Nat.reducePow, Nat.reduceLeDiff, Nat.reduceAdd, Nat.reduceMul, Nat.reduceSub, Nat.reduceEqDiff, Nat.reduceBEq, Int.reduceToNat, Int.reduceBEq, Int.reduceBNe, hd, cb]; (repeat refine ⟨by omega, ?_⟩); (first | (refine q5 (hK _ ?_); clear hK K; show AWP _ _ _ _ _) | (refine x5 (hK _ _ (j4 (by kernel_rfl)) ?_); clear hK K; show AWP _ _ _ _ _))
  (repeat refine q0 ?_); (first | refine q4 fun K hK => ?_ | refine x4 (by kernel_rfl) (by kernel_rfl) fun K hK => ?_); (first | refine q8 [] _ _ ?_ | refine z8 [] _ _ _ ?_); simp (maxSteps := 2000000) (disch := omega) only [go_sem, ↓reduceIte, reduceCtorEq, Nat.reduceLT, Nat.reducePow, Nat.reduceLeDiff, Nat.reduceAdd, Nat.reduceMul, Nat.reduceSub, Nat.reduceEqDiff, Nat.reduceBEq, Int.reduceToNat, Int.reduceBEq, Int.reduceBNe, hd, cb]; (repeat refine ⟨by omega, ?_⟩); (first | (refine q5 (hK _ ?_); clear hK K; show AWP _ _ _ _ _) | (refine x5 (hK _ _ (j4 (by kernel_rfl)) ?_); clear hK K; show AWP _ _ _ _ _))
  refine q6 (awp_loop (textI k) (fun s => 128 - s.val.val) ⟨⟨0, by omega⟩, fun j hj => by simp at hj⟩ ?_ (fun s => ?_))
  · unfold textI
    refine Weak.list ?_ ?_; (all_goals simp (disch := omega) only [AllF, AllL, x10, j10, z10, exists_eq_left', Option.some.injEq, go_sem, ↓reduceIte, reduceCtorEq, Nat.reduceLT, Nat.reducePow, Nat.reduceLeDiff, Nat.reduceAdd, Nat.reduceMul, Nat.reduceSub, Nat.reduceEqDiff, Nat.reduceBEq, Int.reduceToNat, Int.reduceBEq, Int.reduceBNe, hd, cb]); (all_goals (repeat' (with_reducible apply And.intro))); (all_goals try (first | exact j7 rfl | (refine q11 ?_; omega) | (refine j7 ?_; simp; done)))
    · exact ⟨rfl, rfl, fun j _ => by simp⟩
  obtain ⟨⟨i, hi9⟩, hs⟩ := s
  unfold textI
  simp only [] at hs
  by_cases hn : i < 128
  · cases hv : k.v.getLsbD i <;> cases hc : k.c.getLsbD i
    all_goals
      (repeat refine q0 ?_); (first | refine q4 fun K hK => ?_ | refine x4 (by kernel_rfl) (by kernel_rfl) fun K hK => ?_); (first | refine q8 [] _ _ ?_ | refine z8 [] _ _ _ ?_); simp (maxSteps := 2000000) (disch := omega) only [go_sem, ↓reduceIte, reduceCtorEq, Nat.reduceLT, Nat.reducePow, Nat.reduceLeDiff, Nat.reduceAdd, Nat.reduceMul, Nat.reduceSub, Nat.reduceEqDiff, Nat.reduceBEq, Int.reduceToNat, Int.reduceBEq, Int.reduceBNe, hd, cb, hv, hc]; (repeat refine ⟨by omega, ?_⟩); (first | (refine q5 (hK _ ?_); clear hK K; show AWP _ _ _ _ _) | (refine x5 (hK _ _ (j4 (by kernel_rfl)) ?_); clear hK K; show AWP _ _ _ _ _))
      (repeat refine q0 ?_); refine awp_cond rfl (fun _ => ?_) (fun ht => absurd ht (by decide))
      refine j5 ?_; show AWP _ _ _ _ _
      refine q0 (q6 ?_)
      (repeat refine q0 ?_); (first | refine q4 fun K hK => ?_ | refine x4 (by kernel_rfl) (by kernel_rfl) fun K hK => ?_); (first | refine q8 [] _ _ ?_ | refine z8 [] _ _ _ ?_); simp (maxSteps := 2000000) (disch := omega) only [go_sem, ↓reduceIte, reduceCtorEq, Nat.reduceLT, Nat.reducePow, Nat.reduceLeDiff, Nat.reduceAdd, Nat.reduceMul, Nat.reduceSub, Nat.reduceEqDiff, Nat.reduceBEq, Int.reduceToNat, Int.reduceBEq, Int.reduceBNe, hd, cb, hv, hc]; (repeat refine ⟨by omega, ?_⟩); (first | (refine q5 (hK _ ?_); clear hK K; show AWP _ _ _ _ _) | (refine x5 (hK _ _ (j4 (by kernel_rfl)) ?_); clear hK K; show AWP _ _ _ _ _))
    · (repeat refine q0 ?_); refine awp_cond rfl (fun ht => absurd ht (by decide)) (fun _ => ?_); refine j5 ?_; show AWP _ _ _ _ _
      (repeat refine q0 ?_); (first | refine q4 fun K hK => ?_ | refine x4 (by kernel_rfl) (by kernel_rfl) fun K hK => ?_); (first | refine q8 [] _ _ ?_ | refine z8 [] _ _ _ ?_); simp (maxSteps := 2000000) (disch := omega) only [go_sem, ↓reduceIte, reduceCtorEq, Nat.reduceLT, Nat.reducePow, Nat.reduceLeDiff, Nat.reduceAdd, Nat.reduceMul, Nat.reduceSub, Nat.reduceEqDiff, Nat.reduceBEq, Int.reduceToNat, Int.reduceBEq, Int.reduceBNe, hd, cb, hv, hc]; (repeat refine ⟨by omega, ?_⟩); (first | (refine q5 (hK _ ?_); clear hK K; show AWP _ _ _ _ _) | (refine x5 (hK _ _ (j4 (by kernel_rfl)) ?_); clear hK K; show AWP _ _ _ _ _))
      (repeat refine q0 ?_); (first | refine q4 fun K hK => ?_ | refine x4 (by kernel_rfl) (by kernel_rfl) fun K hK => ?_); (first | refine q8 [] _ _ ?_ | refine z8 [] _ _ _ ?_); simp (maxSteps := 2000000) (disch := omega) only [go_sem, ↓reduceIte, reduceCtorEq, Nat.reduceLT, Nat.reducePow, Nat.reduceLeDiff, Nat.reduceAdd, Nat.reduceMul, Nat.reduceSub, Nat.reduceEqDiff, Nat.reduceBEq, Int.reduceToNat, Int.reduceBEq, Int.reduceBNe, hd, cb, hv, hc]; (repeat refine ⟨by omega, ?_⟩); (first | (refine q5 (hK _ ?_); clear hK K; show AWP _ _ _ _ _) | (refine x5 (hK _ _ (j4 (by kernel_rfl)) ?_); clear hK K; show AWP _ _ _ _ _))
      (repeat refine q0 ?_); refine awp_cond rfl (fun ht => absurd ht (by decide)) (fun _ => ?_); refine j5 ?_; show AWP _ _ _ _ _
      (repeat refine q0 ?_); (first | refine q4 fun K hK => ?_ | refine x4 (by kernel_rfl) (by kernel_rfl) fun K hK => ?_); (first | refine q8 [] _ _ ?_ | refine z8 [] _ _ _ ?_); simp (maxSteps := 2000000) (disch := omega) only [go_sem, ↓reduceIte, reduceCtorEq, Nat.reduceLT, Nat.reducePow, Nat.reduceLeDiff, Nat.reduceAdd, Nat.reduceMul, Nat.reduceSub, Nat.reduceEqDiff, Nat.reduceBEq, Int.reduceToNat, Int.reduceBEq, Int.reduceBNe, hd, cb, hv, hc]; (repeat refine ⟨by omega, ?_⟩); (first | (refine q5 (hK _ ?_); clear hK K; show AWP _ _ _ _ _) | (refine x5 (hK _ _ (j4 (by kernel_rfl)) ?_); clear hK K; show AWP _ _ _ _ _))
      (repeat refine q0 ?_); refine awp_cond rfl (fun ht => absurd ht (by decide)) (fun _ => ?_); refine j5 ?_; show AWP _ _ _ _ _
      (repeat refine q0 ?_); (first | refine q4 fun K hK => ?_ | refine x4 (by kernel_rfl) (by kernel_rfl) fun K hK => ?_); (first | refine q8 [] _ _ ?_ | refine z8 [] _ _ _ ?_); simp (maxSteps := 2000000) (disch := omega) only [go_sem, ↓reduceIte, reduceCtorEq, Nat.reduceLT, Nat.reducePow, Nat.reduceLeDiff, Nat.reduceAdd, Nat.reduceMul, Nat.reduceSub, Nat.reduceEqDiff, Nat.reduceBEq, Int.reduceToNat, Int.reduceBEq, Int.reduceBNe, hd, cb, hv, hc]; (repeat refine ⟨by omega, ?_⟩); (first | (refine q5 (hK _ ?_); clear hK K; show AWP _ _ _ _ _) | (refine x5 (hK _ _ (j4 (by kernel_rfl)) ?_); clear hK K; show AWP _ _ _ _ _))
      (repeat refine q0 ?_); (first | refine q4 fun K hK => ?_ | refine x4 (by kernel_rfl) (by kernel_rfl) fun K hK => ?_)
      (first | refine q8 [] _ _ ?_ | refine z8 [] _ _ _ ?_); simp (maxSteps := 2000000) (disch := omega) only [go_sem, ↓reduceIte, reduceCtorEq, Nat.reduceLT, Nat.reducePow, Nat.reduceLeDiff, Nat.reduceAdd, Nat.reduceMul, Nat.reduceSub, Nat.reduceEqDiff, Nat.reduceBEq, Int.reduceToNat, Int.reduceBEq, Int.reduceBNe, hd, cb, hv, hc]; (repeat refine ⟨by omega, ?_⟩)
      (first | (refine q5 (hK _ ?_); clear hK K; show loopQ _ _ _ _ _ _) | (refine x5 (hK _ _ (j4 (by kernel_rfl)) ?_); clear hK K; show loopQ _ _ _ _ _ _))
      refine ⟨⟨⟨i + 1, by omega⟩, fun j hj hvj => ?_⟩, by simp only []; omega, ?_⟩
      · by_cases e : j = i
        · subst e; first | exact hc | (rw [hv] at hvj; cases hvj)
        · exact hs j (by simp at hj; omega) hvj
      refine Weak.list ?_ ?_; (all_goals simp (disch := omega) only [AllF, AllL, x10, j10, z10, exists_eq_left', Option.some.injEq, go_sem, ↓reduceIte, reduceCtorEq, Nat.reduceLT, Nat.reducePow, Nat.reduceLeDiff, Nat.reduceAdd, Nat.reduceMul, Nat.reduceSub, Nat.reduceEqDiff, Nat.reduceBEq, Int.reduceToNat, Int.reduceBEq, Int.reduceBNe, hd, cb, hv, hc]); (all_goals (repeat' (with_reducible apply And.intro))); (all_goals try (first | exact j7 rfl | (refine q11 ?_; omega) | (refine j7 ?_; simp; done)))
      · exact ⟨rfl, rfl, fun j hj => text_step k _ i j hn hj (by simp [chI, hv, hc])⟩
    · (repeat refine q0 ?_); refine awp_cond rfl (fun ht => absurd ht (by decide)) (fun _ => ?_); refine j5 ?_; show AWP _ _ _ _ _
      (repeat refine q0 ?_); (first | refine q4 fun K hK => ?_ | refine x4 (by kernel_rfl) (by kernel_rfl) fun K hK => ?_); (first | refine q8 [] _ _ ?_ | refine z8 [] _ _ _ ?_); simp (maxSteps := 2000000) (disch := omega) only [go_sem, ↓reduceIte, reduceCtorEq, Nat.reduceLT, Nat.reducePow, Nat.reduceLeDiff, Nat.reduceAdd, Nat.reduceMul, Nat.reduceSub, Nat.reduceEqDiff, Nat.reduceBEq, Int.reduceToNat, Int.reduceBEq, Int.reduceBNe, hd, cb, hv, hc]; (repeat refine ⟨by omega, ?_⟩); (first | (refine q5 (hK _ ?_); clear hK K; show AWP _ _ _ _ _) | (refine x5 (hK _ _ (j4 (by kernel_rfl)) ?_); clear hK K; show AWP _ _ _ _ _))
      (repeat refine q0 ?_); (first | refine q4 fun K hK => ?_ | refine x4 (by kernel_rfl) (by kernel_rfl) fun K hK => ?_); (first | refine q8 [] _ _ ?_ | refine z8 [] _ _ _ ?_); simp (maxSteps := 2000000) (disch := omega) only [go_sem, ↓reduceIte, reduceCtorEq, Nat.reduceLT, Nat.reducePow, Nat.reduceLeDiff, Nat.reduceAdd, Nat.reduceMul, Nat.reduceSub, Nat.reduceEqDiff, Nat.reduceBEq, Int.reduceToNat, Int.reduceBEq, Int.reduceBNe, hd, cb, hv, hc]; (repeat refine ⟨by omega, ?_⟩); (first | (refine q5 (hK _ ?_); clear hK K; show AWP _ _ _ _ _) | (refine x5 (hK _ _ (j4 (by kernel_rfl)) ?_); clear hK K; show AWP _ _ _ _ _))
      (repeat refine q0 ?_); refine awp_cond rfl (fun ht => absurd ht (by decide)) (fun _ => ?_); refine j5 ?_; show AWP _ _ _ _ _
      (repeat refine q0 ?_); (first | refine q4 fun K hK => ?_ | refine x4 (by kernel_rfl) (by kernel_rfl) fun K hK => ?_); (first | refine q8 [] _ _ ?_ | refine z8 [] _ _ _ ?_); simp (maxSteps := 2000000) (disch := omega) only [go_sem, ↓reduceIte, reduceCtorEq, Nat.reduceLT, Nat.reducePow, Nat.reduceLeDiff, Nat.reduceAdd, Nat.reduceMul, Nat.reduceSub, Nat.reduceEqDiff, Nat.reduceBEq, Int.reduceToNat, Int.reduceBEq, Int.reduceBNe, hd, cb, hv, hc]; (repeat refine ⟨by omega, ?_⟩); (first | (refine q5 (hK _ ?_); clear hK K; show AWP _ _ _ _ _) | (refine x5 (hK _ _ (j4 (by kernel_rfl)) ?_); clear hK K; show AWP _ _ _ _ _))
      (repeat refine q0 ?_); refine awp_cond rfl (fun _ => ?_) (fun ht => absurd ht (by decide))
      (repeat refine q0 ?_); (first | refine q4 fun K hK => ?_ | refine x4 (by kernel_rfl) (by kernel_rfl) fun K hK => ?_); (first | refine q8 [] _ _ ?_ | refine z8 [] _ _ _ ?_); simp (maxSteps := 2000000) (disch := omega) only [go_sem, ↓reduceIte, reduceCtorEq, Nat.reduceLT, Nat.reducePow, Nat.reduceLeDiff, Nat.reduceAdd, Nat.reduceMul, Nat.reduceSub, Nat.reduceEqDiff, Nat.reduceBEq, Int.reduceToNat, Int.reduceBEq, Int.reduceBNe, hd, cb, hv, hc]; (repeat refine ⟨by omega, ?_⟩); (first | (refine q5 (hK _ ?_); clear hK K; show AWP _ _ _ _ _) | (refine x5 (hK _ _ (j4 (by kernel_rfl)) ?_); clear hK K; show AWP _ _ _ _ _))
      (repeat refine q0 ?_); (first | refine q4 fun K hK => ?_ | refine x4 (by kernel_rfl) (by kernel_rfl) fun K hK => ?_); (first | refine q8 [] _ _ ?_ | refine z8 [] _ _ _ ?_); simp (maxSteps := 2000000) (disch := omega) only [go_sem, ↓reduceIte, reduceCtorEq, Nat.reduceLT, Nat.reducePow, Nat.reduceLeDiff, Nat.reduceAdd, Nat.reduceMul, Nat.reduceSub, Nat.reduceEqDiff, Nat.reduceBEq, Int.reduceToNat, Int.reduceBEq, Int.reduceBNe, hd, cb, hv, hc]; (repeat refine ⟨by omega, ?_⟩); (first | (refine q5 (hK _ ?_); clear hK K; show AWP _ _ _ _ _) | (refine x5 (hK _ _ (j4 (by kernel_rfl)) ?_); clear hK K; show AWP _ _ _ _ _))
      (repeat refine q0 ?_); (first | refine q4 fun K hK => ?_ | refine x4 (by kernel_rfl) (by kernel_rfl) fun K hK => ?_)
      (first | refine q8 [] _ _ ?_ | refine z8 [] _ _ _ ?_); simp (maxSteps := 2000000) (disch := omega) only [go_sem, ↓reduceIte, reduceCtorEq, Nat.reduceLT, Nat.reducePow, Nat.reduceLeDiff, Nat.reduceAdd, Nat.reduceMul, Nat.reduceSub, Nat.reduceEqDiff, Nat.reduceBEq, Int.reduceToNat, Int.reduceBEq, Int.reduceBNe, hd, cb, hv, hc]; (repeat refine ⟨by omega, ?_⟩)
      (first | (refine q5 (hK _ ?_); clear hK K; show loopQ _ _ _ _ _ _) | (refine x5 (hK _ _ (j4 (by kernel_rfl)) ?_); clear hK K; show loopQ _ _ _ _ _ _))
      refine ⟨⟨⟨i + 1, by omega⟩, fun j hj hvj => ?_⟩, by simp only []; omega, ?_⟩
      · by_cases e : j = i
        · subst e; first | exact hc | (rw [hv] at hvj; cases hvj)
        · exact hs j (by simp at hj; omega) hvj
      refine Weak.list ?_ ?_; (all_goals simp (disch := omega) only [AllF, AllL, x10, j10, z10, exists_eq_left', Option.some.injEq, go_sem, ↓reduceIte, reduceCtorEq, Nat.reduceLT, Nat.reducePow, Nat.reduceLeDiff, Nat.reduceAdd, Nat.reduceMul, Nat.reduceSub, Nat.reduceEqDiff, Nat.reduceBEq, Int.reduceToNat, Int.reduceBEq, Int.reduceBNe, hd, cb, hv, hc]); (all_goals (repeat' (with_reducible apply And.intro))); (all_goals try (first | exact j7 rfl | (refine q11 ?_; omega) | (refine j7 ?_; simp; done)))
      · exact ⟨rfl, rfl, fun j hj => text_step k _ i j hn hj (by simp [chI, hv, hc])⟩
    · (repeat refine q0 ?_); refine awp_cond rfl (fun _ => ?_) (fun ht => absurd ht (by decide))
      (repeat refine q0 ?_); (first | refine q4 fun K hK => ?_ | refine x4 (by kernel_rfl) (by kernel_rfl) fun K hK => ?_); (first | refine q8 [] _ _ ?_ | refine z8 [] _ _ _ ?_); simp (maxSteps := 2000000) (disch := omega) only [go_sem, ↓reduceIte, reduceCtorEq, Nat.reduceLT, Nat.reducePow, Nat.reduceLeDiff, Nat.reduceAdd, Nat.reduceMul, Nat.reduceSub, Nat.reduceEqDiff, Nat.reduceBEq, Int.reduceToNat, Int.reduceBEq, Int.reduceBNe, hd, cb, hv, hc]; (repeat refine ⟨by omega, ?_⟩); (first | (refine q5 (hK _ ?_); clear hK K; show AWP _ _ _ _ _) | (refine x5 (hK _ _ (j4 (by kernel_rfl)) ?_); clear hK K; show AWP _ _ _ _ _))
      have hf : k.sound = false := by
        cases hf : k.sound
        · rfl
        · have := (sound_iff k).1 hf i hn hv
          rw [hc] at this; cases this
      rw [hf]
      refine j9 ⟨_, ?_, rfl⟩; rw [Tryz.results24]; simp (disch := omega) only [ResVars, ResVar, ptrLoc, go_sem, ↓reduceIte, reduceCtorEq, Nat.reduceLT, Nat.reducePow, Nat.reduceLeDiff, Nat.reduceAdd, Nat.reduceMul, Nat.reduceSub, Nat.reduceEqDiff, Nat.reduceBEq, Int.reduceToNat, Int.reduceBEq, Int.reduceBNe, hd, cb, hv, hc]
      try rfl
    · (repeat refine q0 ?_); refine awp_cond rfl (fun ht => absurd ht (by decide)) (fun _ => ?_); refine j5 ?_; show AWP _ _ _ _ _
      (repeat refine q0 ?_); (first | refine q4 fun K hK => ?_ | refine x4 (by kernel_rfl) (by kernel_rfl) fun K hK => ?_); (first | refine q8 [] _ _ ?_ | refine z8 [] _ _ _ ?_); simp (maxSteps := 2000000) (disch := omega) only [go_sem, ↓reduceIte, reduceCtorEq, Nat.reduceLT, Nat.reducePow, Nat.reduceLeDiff, Nat.reduceAdd, Nat.reduceMul, Nat.reduceSub, Nat.reduceEqDiff, Nat.reduceBEq, Int.reduceToNat, Int.reduceBEq, Int.reduceBNe, hd, cb, hv, hc]; (repeat refine ⟨by omega, ?_⟩); (first | (refine q5 (hK _ ?_); clear hK K; show AWP _ _ _ _ _) | (refine x5 (hK _ _ (j4 (by kernel_rfl)) ?_); clear hK K; show AWP _ _ _ _ _))
      (repeat refine q0 ?_); (first | refine q4 fun K hK => ?_ | refine x4 (by kernel_rfl) (by kernel_rfl) fun K hK => ?_); (first | refine q8 [] _ _ ?_ | refine z8 [] _ _ _ ?_); simp (maxSteps := 2000000) (disch := omega) only [go_sem, ↓reduceIte, reduceCtorEq, Nat.reduceLT, Nat.reducePow, Nat.reduceLeDiff, Nat.reduceAdd, Nat.reduceMul, Nat.reduceSub, Nat.reduceEqDiff, Nat.reduceBEq, Int.reduceToNat, Int.reduceBEq, Int.reduceBNe, hd, cb, hv, hc]; (repeat refine ⟨by omega, ?_⟩); (first | (refine q5 (hK _ ?_); clear hK K; show AWP _ _ _ _ _) | (refine x5 (hK _ _ (j4 (by kernel_rfl)) ?_); clear hK K; show AWP _ _ _ _ _))
      (repeat refine q0 ?_); refine awp_cond rfl (fun _ => ?_) (fun ht => absurd ht (by decide))
      (repeat refine q0 ?_); (first | refine q4 fun K hK => ?_ | refine x4 (by kernel_rfl) (by kernel_rfl) fun K hK => ?_); (first | refine q8 [] _ _ ?_ | refine z8 [] _ _ _ ?_); simp (maxSteps := 2000000) (disch := omega) only [go_sem, ↓reduceIte, reduceCtorEq, Nat.reduceLT, Nat.reducePow, Nat.reduceLeDiff, Nat.reduceAdd, Nat.reduceMul, Nat.reduceSub, Nat.reduceEqDiff, Nat.reduceBEq, Int.reduceToNat, Int.reduceBEq, Int.reduceBNe, hd, cb, hv, hc]; (repeat refine ⟨by omega, ?_⟩); (first | (refine q5 (hK _ ?_); clear hK K; show AWP _ _ _ _ _) | (refine x5 (hK _ _ (j4 (by kernel_rfl)) ?_); clear hK K; show AWP _ _ _ _ _))
      (repeat refine q0 ?_); (first | refine q4 fun K hK => ?_ | refine x4 (by kernel_rfl) (by kernel_rfl) fun K hK => ?_); (first | refine q8 [] _ _ ?_ | refine z8 [] _ _ _ ?_); simp (maxSteps := 2000000) (disch := omega) only [go_sem, ↓reduceIte, reduceCtorEq, Nat.reduceLT, Nat.reducePow, Nat.reduceLeDiff, Nat.reduceAdd, Nat.reduceMul, Nat.reduceSub, Nat.reduceEqDiff, Nat.reduceBEq, Int.reduceToNat, Int.reduceBEq, Int.reduceBNe, hd, cb, hv, hc]; (repeat refine ⟨by omega, ?_⟩); (first | (refine q5 (hK _ ?_); clear hK K; show AWP _ _ _ _ _) | (refine x5 (hK _ _ (j4 (by kernel_rfl)) ?_); clear hK K; show AWP _ _ _ _ _))
      (repeat refine q0 ?_); refine awp_cond rfl (fun ht => absurd ht (by decide)) (fun _ => ?_); refine j5 ?_; show AWP _ _ _ _ _
      (repeat refine q0 ?_); (first | refine q4 fun K hK => ?_ | refine x4 (by kernel_rfl) (by kernel_rfl) fun K hK => ?_); (first | refine q8 [] _ _ ?_ | refine z8 [] _ _ _ ?_); simp (maxSteps := 2000000) (disch := omega) only [go_sem, ↓reduceIte, reduceCtorEq, Nat.reduceLT, Nat.reducePow, Nat.reduceLeDiff, Nat.reduceAdd, Nat.reduceMul, Nat.reduceSub, Nat.reduceEqDiff, Nat.reduceBEq, Int.reduceToNat, Int.reduceBEq, Int.reduceBNe, hd, cb, hv, hc]; (repeat refine ⟨by omega, ?_⟩); (first | (refine q5 (hK _ ?_); clear hK K; show AWP _ _ _ _ _) | (refine x5 (hK _ _ (j4 (by kernel_rfl)) ?_); clear hK K; show AWP _ _ _ _ _))
      (repeat refine q0 ?_); (first | refine q4 fun K hK => ?_ | refine x4 (by kernel_rfl) (by kernel_rfl) fun K hK => ?_)
      (first | refine q8 [] _ _ ?_ | refine z8 [] _ _ _ ?_); simp (maxSteps := 2000000) (disch := omega) only [go_sem, ↓reduceIte, reduceCtorEq, Nat.reduceLT, Nat.reducePow, Nat.reduceLeDiff, Nat.reduceAdd, Nat.reduceMul, Nat.reduceSub, Nat.reduceEqDiff, Nat.reduceBEq, Int.reduceToNat, Int.reduceBEq, Int.reduceBNe, hd, cb, hv, hc]; (repeat refine ⟨by omega, ?_⟩)
      (first | (refine q5 (hK _ ?_); clear hK K; show loopQ _ _ _ _ _ _) | (refine x5 (hK _ _ (j4 (by kernel_rfl)) ?_); clear hK K; show loopQ _ _ _ _ _ _))
      refine ⟨⟨⟨i + 1, by omega⟩, fun j hj hvj => ?_⟩, by simp only []; omega, ?_⟩
      · by_cases e : j = i
        · subst e; first | exact hc | (rw [hv] at hvj; cases hvj)
        · exact hs j (by simp at hj; omega) hvj
      refine Weak.list ?_ ?_; (all_goals simp (disch := omega) only [AllF, AllL, x10, j10, z10, exists_eq_left', Option.some.injEq, go_sem, ↓reduceIte, reduceCtorEq, Nat.reduceLT, Nat.reducePow, Nat.reduceLeDiff, Nat.reduceAdd, Nat.reduceMul, Nat.reduceSub, Nat.reduceEqDiff, Nat.reduceBEq, Int.reduceToNat, Int.reduceBEq, Int.reduceBNe, hd, cb, hv, hc]); (all_goals (repeat' (with_reducible apply And.intro))); (all_goals try (first | exact j7 rfl | (refine q11 ?_; omega) | (refine j7 ?_; simp; done)))
      · exact ⟨rfl, rfl, fun j hj => text_step k _ i j hn hj (by simp [chI, hv, hc])⟩
  · have h128 : i = 128 := by omega
    subst h128
    (repeat refine q0 ?_); (first | refine q4 fun K hK => ?_ | refine x4 (by kernel_rfl) (by kernel_rfl) fun K hK => ?_); (first | refine q8 [] _ _ ?_ | refine z8 [] _ _ _ ?_); simp (maxSteps := 2000000) (disch := omega) only [go_sem, ↓reduceIte, reduceCtorEq, Nat.reduceLT, Nat.reducePow, Nat.reduceLeDiff, Nat.reduceAdd, Nat.reduceMul, Nat.reduceSub, Nat.reduceEqDiff, Nat.reduceBEq, Int.reduceToNat, Int.reduceBEq, Int.reduceBNe, hd, cb]; (repeat refine ⟨by omega, ?_⟩); (first | (refine q5 (hK _ ?_); clear hK K; show AWP _ _ _ _ _) | (refine x5 (hK _ _ (j4 (by kernel_rfl)) ?_); clear hK K; show AWP _ _ _ _ _))
    refine awp_cond rfl (fun ht => absurd ht (by decide)) (fun _ => ?_)
    refine z6 ?_
    show AWP _ _ _ _ _
    (repeat refine q0 ?_); (first | refine q4 fun K hK => ?_ | refine x4 (by kernel_rfl) (by kernel_rfl) fun K hK => ?_); (first | refine q8 [] _ _ ?_ | refine z8 [] _ _ _ ?_); simp (maxSteps := 2000000) (disch := omega) only [go_sem, ↓reduceIte, reduceCtorEq, Nat.reduceLT, Nat.reducePow, Nat.reduceLeDiff, Nat.reduceAdd, Nat.reduceMul, Nat.reduceSub, Nat.reduceEqDiff, Nat.reduceBEq, Int.reduceToNat, Int.reduceBEq, Int.reduceBNe, hd, cb]; (repeat refine ⟨by omega, ?_⟩); (first | (refine q5 (hK _ ?_); clear hK K; show AWP _ _ _ _ _) | (refine x5 (hK _ _ (j4 (by kernel_rfl)) ?_); clear hK K; show AWP _ _ _ _ _))
    have hf : k.sound = true := (sound_iff k).2 fun j hj hv => hs j hj hv
    rw [hf]
    refine j9 ⟨_, ?_, rfl⟩; rw [Tryz.results24]; simp (disch := omega) only [ResVars, ResVar, ptrLoc, go_sem, ↓reduceIte, reduceCtorEq, Nat.reduceLT, Nat.reducePow, Nat.reduceLeDiff, Nat.reduceAdd, Nat.reduceMul, Nat.reduceSub, Nat.reduceEqDiff, Nat.reduceBEq, Int.reduceToNat, Int.reduceBEq, Int.reduceBNe, hd, cb]
    unfold txt
    congr 2
    first | done | exact List.map_congr_left fun j hj => by rw [if_pos (by omega)]
theorem txt_size (k : Cube) : (txt k).size = 128 := by unfold txt; rw [strOfNums_size]; simp
theorem txt_at (k : Cube) (i : Nat) (hi : i < 128) : ((((txt k).data.toList.getD i 0).toNat : Nat) : Int) = chI k (127 - i) := by
  unfold txt
  rw [rng_eq, strOfNums_data, List.getD_eq_getElem?_getD, List.getElem?_map, List.getElem?_map, List.getElem?_range hi]
  simp only [Option.map_some, Option.getD_some]
  unfold chI
  split
  · split <;> decide
  · decide
end Go.Proofs.YtemcdefpihkfpaaGreat
set_option linter.unusedSimpArgs false
set_option linter.unusedVariables false
namespace Go.Proofs.YtemcdefpihkfpaaGreat
open Go.Proofs.YtemcdefpihkfpaaGreat.AL
def meetT (a b : Cube) : Cube := ⟨(a.v &&& a.c) ||| (b.v &&& b.c), a.c ||| b.c⟩
theorem apart_iff (a b : Cube) : (apart a b == 0) = true ↔ ∀ i, i < 128 → a.c.getLsbD i = true → b.c.getLsbD i = true → a.v.getLsbD i = b.v.getLsbD i := by
  unfold apart
  rw [beq_iff_eq]
  constructor
  · intro h i hlt ha hb
    have := congrArg (fun z => z.getLsbD i) h
    simp only [BitVec.getLsbD_and, BitVec.getLsbD_xor, ha, hb, Bool.and_self, Bool.and_true, BitVec.getLsbD_zero] at this
    simpa using this
  · intro h
    apply BitVec.eq_of_getLsbD_eq
    intro i hlt
    have := h i hlt
    simp only [BitVec.getLsbD_and, BitVec.getLsbD_xor, BitVec.getLsbD_zero]
    cases ha : a.c.getLsbD i <;> cases hb : b.c.getLsbD i <;> simp
    simpa using this ha hb
theorem meetT_b {a b : Cube} {n : Nat} (h : a.c.getLsbD n = false) : chI (meetT a b) n = chI b n := by
  simp only [chI, meetT, BitVec.getLsbD_or, BitVec.getLsbD_and, h, Bool.and_false, Bool.false_or]
  cases b.c.getLsbD n <;> simp
theorem meetT_a {a b : Cube} {n : Nat} (h : a.c.getLsbD n = true) (h2 : b.c.getLsbD n = true → a.v.getLsbD n = b.v.getLsbD n) : chI (meetT a b) n = chI a n := by
  simp only [chI, meetT, BitVec.getLsbD_or, BitVec.getLsbD_and, h, Bool.and_true, Bool.true_or, if_true]
  cases hb : b.c.getLsbD n
  · simp
  · have := h2 hb
    simp [this]
theorem merge_step (a b : Cube) (c : Int) (i j : Nat) (hi : i < 128) (hj : j < 128) (hc : chI (meetT a b) (127 - i) = c) :
    (if j = i then Dat.v (.int .u8 c) else Dat.v (.int .u8 (if j < i then chI (meetT a b) (127 - j) else chI a (127 - j)))) = Dat.v (.int .u8 (if j < i + 1 then chI (meetT a b) (127 - j) else chI a (127 - j))) := by
  by_cases h : j = i
  · subst h; rw [if_pos rfl, if_pos (by omega), hc]
  · rw [if_neg h]
    by_cases h2 : j < i
    · rw [if_pos h2, if_pos (by omega)]
    · rw [if_neg h2, if_neg (by omega)]
theorem merge_stay (a b : Cube) (i j : Nat) (hi : i < 128) (hj : j < 128) (hc : chI (meetT a b) (127 - i) = chI a (127 - i)) :
    Dat.v (.int .u8 (if j < i then chI (meetT a b) (127 - j) else chI a (127 - j))) = Dat.v (.int .u8 (if j < i + 1 then chI (meetT a b) (127 - j) else chI a (127 - j))) := by
  by_cases h : j = i
  · subst h; rw [if_neg (by omega), if_pos (by omega), hc]
  · by_cases h2 : j < i
    · rw [if_pos h2, if_pos (by omega)]
    · rw [if_neg h2, if_neg (by omega)]
def meetI (a b : Cube) (s : {i : Fin 129 // ∀ j, j < i.val → a.c.getLsbD (127 - j) = true → b.c.getLsbD (127 - j) = true → a.v.getLsbD (127 - j) = b.v.getLsbD (127 - j)}) : ASt :=
  ⟨[(7, .p (.d (.v (.int .i64 (s.val.val : Int))))), (6, .row 9 1 0 128), (1, .p (.d (.v (.string (txt b))))), (0, .p (.d (.v (.string (txt a)))))],
   [(9, .arr 5 128 fun j => .v (.int .u8 (if j < s.val.val then chI (meetT a b) (127 - j) else chI a (127 - j))))]⟩
theorem MeetT_c (a b : Cube) : ACalls Tryz.prog 53 [.d (.v (.string (txt a))), .d (.v (.string (txt b)))] (· = [.d (.v (.string (if apart a b == 0 then txt (meetT a b) else ⟨#[]⟩))), .d (.v (.bool (apart a b == 0)))]) := by
  have sz := txt_size a
  have sb := txt_size b
  refine q10 Tryz.func53 rfl (by decide +kernel) (by rw [Tryz.ntmps53]; simp) ?_; rw [Tryz.ntmps53]; simp only [frOf]
  (repeat (first | refine q0 ?_ | refine j6 rfl ?_ | refine q7 rfl ?_ | refine q6 ?_ | (refine q4 fun K hK => ?_) | (refine x4 (by kernel_rfl) (by kernel_rfl) fun K hK => ?_) | ((first | refine j5 ?_ | refine z6 ?_ | ((first | refine q5 (hK _ ?_) | refine x5 (hK _ _ (j4 (by kernel_rfl)) ?_)); clear hK K)); (first | show AWP _ _ _ _ _ | ((try simp only [x6]); first | show loopQ _ _ _ _ _ _ | show cutQ _ _ _ _ | show AWP _ _ _ _ _))) | ((first | refine z7 [] rfl ?_ | refine x7 [] rfl ?_); simp (maxSteps := 2000000) (disch := omega) only [go_sem, ↓reduceIte, reduceCtorEq, Nat.reduceLT, Nat.reducePow, Nat.reduceLeDiff, Nat.reduceAdd, Nat.reduceMul, Nat.reduceSub, Nat.reduceEqDiff, Nat.reduceBEq, Int.reduceToNat, Int.reduceBEq, Int.reduceBNe, hd, cb, sz, sb]; (repeat (first | refine ⟨by omega, ?_⟩ | refine ⟨True.intro, ?_⟩)))))
  refine awp_loop (meetI a b) (fun s => 128 - s.val.val) ⟨⟨0, by omega⟩, fun j hj => by simp at hj⟩ ?_ (fun s => ?_)
  · unfold meetI
    refine Weak.list ?_ ?_; (all_goals simp (disch := omega) only [AllF, AllL, x10, j10, z10, exists_eq_left', Option.some.injEq, go_sem, ↓reduceIte, reduceCtorEq, Nat.reduceLT, Nat.reducePow, Nat.reduceLeDiff, Nat.reduceAdd, Nat.reduceMul, Nat.reduceSub, Nat.reduceEqDiff, Nat.reduceBEq, Int.reduceToNat, Int.reduceBEq, Int.reduceBNe, hd, cb, sz, sb]); (all_goals (repeat' (with_reducible apply And.intro))); (all_goals try (first | exact j7 rfl | (refine q11 ?_; omega) | (refine j7 ?_; simp; done)))
    exact ⟨rfl, rfl, fun j hj => by
      have := txt_at a j hj
      simp only [this]
      simp⟩
  obtain ⟨⟨i, hi9⟩, hs⟩ := s
  unfold meetI
  simp only [] at hs
  by_cases hn : i < 128
  · have ai := txt_at a i hn
    have bi := txt_at b i hn
    cases hac : a.c.getLsbD (127 - i)
    · have mg : chI (meetT a b) (127 - i) = chI b (127 - i) := meetT_b hac
      rw [show chI a (127 - i) = 120 from by simp [chI, hac]] at ai
      (repeat (first | refine q0 ?_ | refine j6 rfl ?_ | refine q7 rfl ?_ | refine q6 ?_ | (refine q4 fun K hK => ?_) | (refine x4 (by kernel_rfl) (by kernel_rfl) fun K hK => ?_) | ((first | refine j5 ?_ | refine z6 ?_ | ((first | refine q5 (hK _ ?_) | refine x5 (hK _ _ (j4 (by kernel_rfl)) ?_)); clear hK K)); (first | show AWP _ _ _ _ _ | ((try simp only [x6]); first | show loopQ _ _ _ _ _ _ | show cutQ _ _ _ _ | show AWP _ _ _ _ _))) | ((first | refine z7 [] rfl ?_ | refine x7 [] rfl ?_); simp (maxSteps := 2000000) (disch := omega) only [go_sem, ↓reduceIte, reduceCtorEq, Nat.reduceLT, Nat.reducePow, Nat.reduceLeDiff, Nat.reduceAdd, Nat.reduceMul, Nat.reduceSub, Nat.reduceEqDiff, Nat.reduceBEq, Int.reduceToNat, Int.reduceBEq, Int.reduceBNe, hd, cb, sz, sb, ai, bi]; (repeat (first | refine ⟨by omega, ?_⟩ | refine ⟨True.intro, ?_⟩)))))
      refine ⟨⟨⟨i + 1, by omega⟩, fun j hj h1 h2 => ?_⟩, by simp only []; omega, ?_⟩
      · by_cases e : j = i
        · subst e; rw [hac] at h1; cases h1
        · exact hs j (by simp at hj; omega) h1 h2
      refine Weak.list ?_ ?_; (all_goals simp (disch := omega) only [AllF, AllL, x10, j10, z10, exists_eq_left', Option.some.injEq, go_sem, ↓reduceIte, reduceCtorEq, Nat.reduceLT, Nat.reducePow, Nat.reduceLeDiff, Nat.reduceAdd, Nat.reduceMul, Nat.reduceSub, Nat.reduceEqDiff, Nat.reduceBEq, Int.reduceToNat, Int.reduceBEq, Int.reduceBNe, hd, cb, sz, sb, ai, bi]); (all_goals (repeat' (with_reducible apply And.intro))); (all_goals try (first | exact j7 rfl | (refine q11 ?_; omega) | (refine j7 ?_; simp; done)))
      exact ⟨rfl, rfl, fun j hj => merge_step a b _ i j hn hj mg⟩
    · cases hbc : b.c.getLsbD (127 - i)
      · have mg : chI (meetT a b) (127 - i) = chI a (127 - i) := meetT_a hac (fun h => by rw [hbc] at h; cases h)
        rw [show chI b (127 - i) = 120 from by simp [chI, hbc]] at bi
        cases hav : a.v.getLsbD (127 - i)
        · rw [show chI a (127 - i) = 48 from by simp [chI, hac, hav]] at ai
          (repeat (first | refine q0 ?_ | refine j6 rfl ?_ | refine q7 rfl ?_ | refine q6 ?_ | (refine q4 fun K hK => ?_) | (refine x4 (by kernel_rfl) (by kernel_rfl) fun K hK => ?_) | ((first | refine j5 ?_ | refine z6 ?_ | ((first | refine q5 (hK _ ?_) | refine x5 (hK _ _ (j4 (by kernel_rfl)) ?_)); clear hK K)); (first | show AWP _ _ _ _ _ | ((try simp only [x6]); first | show loopQ _ _ _ _ _ _ | show cutQ _ _ _ _ | show AWP _ _ _ _ _))) | ((first | refine z7 [] rfl ?_ | refine x7 [] rfl ?_); simp (maxSteps := 2000000) (disch := omega) only [go_sem, ↓reduceIte, reduceCtorEq, Nat.reduceLT, Nat.reducePow, Nat.reduceLeDiff, Nat.reduceAdd, Nat.reduceMul, Nat.reduceSub, Nat.reduceEqDiff, Nat.reduceBEq, Int.reduceToNat, Int.reduceBEq, Int.reduceBNe, hd, cb, sz, sb, ai, bi]; (repeat (first | refine ⟨by omega, ?_⟩ | refine ⟨True.intro, ?_⟩)))))
          refine ⟨⟨⟨i + 1, by omega⟩, fun j hj h1 h2 => ?_⟩, by simp only []; omega, ?_⟩
          · by_cases e : j = i
            · subst e; rw [hbc] at h2; cases h2
            · exact hs j (by simp at hj; omega) h1 h2
          refine Weak.list ?_ ?_; (all_goals simp (disch := omega) only [AllF, AllL, x10, j10, z10, exists_eq_left', Option.some.injEq, go_sem, ↓reduceIte, reduceCtorEq, Nat.reduceLT, Nat.reducePow, Nat.reduceLeDiff, Nat.reduceAdd, Nat.reduceMul, Nat.reduceSub, Nat.reduceEqDiff, Nat.reduceBEq, Int.reduceToNat, Int.reduceBEq, Int.reduceBNe, hd, cb, sz, sb, ai, bi]); (all_goals (repeat' (with_reducible apply And.intro))); (all_goals try (first | exact j7 rfl | (refine q11 ?_; omega) | (refine j7 ?_; simp; done)))
          exact ⟨rfl, rfl, fun j hj => merge_stay a b i j hn hj mg⟩
        · rw [show chI a (127 - i) = 49 from by simp [chI, hac, hav]] at ai
          (repeat (first | refine q0 ?_ | refine j6 rfl ?_ | refine q7 rfl ?_ | refine q6 ?_ | (refine q4 fun K hK => ?_) | (refine x4 (by kernel_rfl) (by kernel_rfl) fun K hK => ?_) | ((first | refine j5 ?_ | refine z6 ?_ | ((first | refine q5 (hK _ ?_) | refine x5 (hK _ _ (j4 (by kernel_rfl)) ?_)); clear hK K)); (first | show AWP _ _ _ _ _ | ((try simp only [x6]); first | show loopQ _ _ _ _ _ _ | show cutQ _ _ _ _ | show AWP _ _ _ _ _))) | ((first | refine z7 [] rfl ?_ | refine x7 [] rfl ?_); simp (maxSteps := 2000000) (disch := omega) only [go_sem, ↓reduceIte, reduceCtorEq, Nat.reduceLT, Nat.reducePow, Nat.reduceLeDiff, Nat.reduceAdd, Nat.reduceMul, Nat.reduceSub, Nat.reduceEqDiff, Nat.reduceBEq, Int.reduceToNat, Int.reduceBEq, Int.reduceBNe, hd, cb, sz, sb, ai, bi]; (repeat (first | refine ⟨by omega, ?_⟩ | refine ⟨True.intro, ?_⟩)))))
          refine ⟨⟨⟨i + 1, by omega⟩, fun j hj h1 h2 => ?_⟩, by simp only []; omega, ?_⟩
          · by_cases e : j = i
            · subst e; rw [hbc] at h2; cases h2
            · exact hs j (by simp at hj; omega) h1 h2
          refine Weak.list ?_ ?_; (all_goals simp (disch := omega) only [AllF, AllL, x10, j10, z10, exists_eq_left', Option.some.injEq, go_sem, ↓reduceIte, reduceCtorEq, Nat.reduceLT, Nat.reducePow, Nat.reduceLeDiff, Nat.reduceAdd, Nat.reduceMul, Nat.reduceSub, Nat.reduceEqDiff, Nat.reduceBEq, Int.reduceToNat, Int.reduceBEq, Int.reduceBNe, hd, cb, sz, sb, ai, bi]); (all_goals (repeat' (with_reducible apply And.intro))); (all_goals try (first | exact j7 rfl | (refine q11 ?_; omega) | (refine j7 ?_; simp; done)))
          exact ⟨rfl, rfl, fun j hj => merge_stay a b i j hn hj mg⟩
      · cases hav : a.v.getLsbD (127 - i) <;> cases hbv : b.v.getLsbD (127 - i)
        all_goals
          simp only [chI, hac, hav, hbc, hbv, if_true, if_false, Bool.false_eq_true] at ai bi
          (repeat (first | refine q0 ?_ | refine j6 rfl ?_ | refine q7 rfl ?_ | refine q6 ?_ | (refine q4 fun K hK => ?_) | (refine x4 (by kernel_rfl) (by kernel_rfl) fun K hK => ?_) | ((first | refine j5 ?_ | refine z6 ?_ | ((first | refine q5 (hK _ ?_) | refine x5 (hK _ _ (j4 (by kernel_rfl)) ?_)); clear hK K)); (first | show AWP _ _ _ _ _ | ((try simp only [x6]); first | show loopQ _ _ _ _ _ _ | show cutQ _ _ _ _ | show AWP _ _ _ _ _))) | ((first | refine z7 [] rfl ?_ | refine x7 [] rfl ?_); simp (maxSteps := 2000000) (disch := omega) only [go_sem, ↓reduceIte, reduceCtorEq, Nat.reduceLT, Nat.reducePow, Nat.reduceLeDiff, Nat.reduceAdd, Nat.reduceMul, Nat.reduceSub, Nat.reduceEqDiff, Nat.reduceBEq, Int.reduceToNat, Int.reduceBEq, Int.reduceBNe, hd, cb, sz, sb, ai, bi]; (repeat (first | refine ⟨by omega, ?_⟩ | refine ⟨True.intro, ?_⟩)))))
        all_goals first
          | skip
            refine ⟨⟨⟨i + 1, by omega⟩, fun j hj h1 h2 => ?_⟩, by simp only []; omega, ?_⟩
            · by_cases e : j = i
              · subst e; rw [hav, hbv]
              · exact hs j (by simp at hj; omega) h1 h2
            refine Weak.list ?_ ?_; (all_goals simp (disch := omega) only [AllF, AllL, x10, j10, z10, exists_eq_left', Option.some.injEq, go_sem, ↓reduceIte, reduceCtorEq, Nat.reduceLT, Nat.reducePow, Nat.reduceLeDiff, Nat.reduceAdd, Nat.reduceMul, Nat.reduceSub, Nat.reduceEqDiff, Nat.reduceBEq, Int.reduceToNat, Int.reduceBEq, Int.reduceBNe, hd, cb, sz, sb, ai, bi]); (all_goals (repeat' (with_reducible apply And.intro))); (all_goals try (first | exact j7 rfl | (refine q11 ?_; omega) | (refine j7 ?_; simp; done)))
            exact ⟨rfl, rfl, fun j hj => merge_stay a b i j hn hj (meetT_a hac (fun _ => by rw [hav, hbv]))⟩
          | skip
            have hf : (apart a b == 0) = false := by
              cases hf : (apart a b == 0)
              · rfl
              · have := (apart_iff a b).1 hf (127 - i) (by omega) hac hbc
                rw [hav, hbv] at this; cases this
            rw [hf]
            refine j9 ⟨_, ?_, rfl⟩; rw [Tryz.results53]; simp (disch := omega) only [ResVars, ResVar, ptrLoc, go_sem, ↓reduceIte, reduceCtorEq, Nat.reduceLT, Nat.reducePow, Nat.reduceLeDiff, Nat.reduceAdd, Nat.reduceMul, Nat.reduceSub, Nat.reduceEqDiff, Nat.reduceBEq, Int.reduceToNat, Int.reduceBEq, Int.reduceBNe, hd, cb, sz, sb, ai, bi]
            try rfl
  · have h128 : i = 128 := by omega
    subst h128
    (repeat (first | refine q0 ?_ | refine j6 rfl ?_ | refine q7 rfl ?_ | refine q6 ?_ | (refine q4 fun K hK => ?_) | (refine x4 (by kernel_rfl) (by kernel_rfl) fun K hK => ?_) | ((first | refine j5 ?_ | refine z6 ?_ | ((first | refine q5 (hK _ ?_) | refine x5 (hK _ _ (j4 (by kernel_rfl)) ?_)); clear hK K)); (first | show AWP _ _ _ _ _ | ((try simp only [x6]); first | show loopQ _ _ _ _ _ _ | show cutQ _ _ _ _ | show AWP _ _ _ _ _))) | ((first | refine z7 [] rfl ?_ | refine x7 [] rfl ?_); simp (maxSteps := 2000000) (disch := omega) only [go_sem, ↓reduceIte, reduceCtorEq, Nat.reduceLT, Nat.reducePow, Nat.reduceLeDiff, Nat.reduceAdd, Nat.reduceMul, Nat.reduceSub, Nat.reduceEqDiff, Nat.reduceBEq, Int.reduceToNat, Int.reduceBEq, Int.reduceBNe, hd, cb, sz, sb]; (repeat (first | refine ⟨by omega, ?_⟩ | refine ⟨True.intro, ?_⟩)))))
    have hf : (apart a b == 0) = true := (apart_iff a b).2 fun j hj h1 h2 => by
      have := hs (127 - j) (by omega)
      rw [show 127 - (127 - j) = j from by omega] at this
      exact this h1 h2
    rw [hf]
    refine j9 ⟨_, ?_, rfl⟩; rw [Tryz.results53]; simp (disch := omega) only [ResVars, ResVar, ptrLoc, go_sem, ↓reduceIte, reduceCtorEq, Nat.reduceLT, Nat.reducePow, Nat.reduceLeDiff, Nat.reduceAdd, Nat.reduceMul, Nat.reduceSub, Nat.reduceEqDiff, Nat.reduceBEq, Int.reduceToNat, Int.reduceBEq, Int.reduceBNe, hd, cb, sz, sb]
    unfold txt
    congr 2
    first | done | exact List.map_congr_left fun j hj => by rw [if_pos (by simpa using hj)]
def withinT (a b : Cube) : Bool := (b.c &&& ~~~a.c == 0) && (apart a b == 0)
theorem withinT_iff (a b : Cube) : withinT a b = true ↔ ∀ i, i < 128 → b.c.getLsbD i = true → a.c.getLsbD i = true ∧ a.v.getLsbD i = b.v.getLsbD i := by
  unfold withinT
  rw [Bool.and_eq_true, apart_iff, beq_iff_eq]
  constructor
  · intro ⟨h, h2⟩ i hlt hb
    have := congrArg (fun z => z.getLsbD i) h
    have e : a.c.getLsbD i = true := by
      simp only [BitVec.getLsbD_and, BitVec.getLsbD_not, hb, hlt, decide_true, Bool.true_and, BitVec.getLsbD_zero] at this
      simpa using this
    exact ⟨e, h2 i hlt e hb⟩
  · intro h
    refine ⟨?_, fun i hlt _ hb => (h i hlt hb).2⟩
    apply BitVec.eq_of_getLsbD_eq
    intro i hlt
    have := h i hlt
    simp only [BitVec.getLsbD_and, BitVec.getLsbD_not, hlt, decide_true, Bool.true_and, BitVec.getLsbD_zero]
    cases hb : b.c.getLsbD i
    · simp
    · rw [(this hb).1]; simp
def withinI (a b : Cube) (s : {i : Fin 129 // ∀ j, j < i.val → b.c.getLsbD (127 - j) = true → a.c.getLsbD (127 - j) = true ∧ a.v.getLsbD (127 - j) = b.v.getLsbD (127 - j)}) : ASt :=
  ⟨[(5, .p (.d (.v (.int .i64 (s.val.val : Int))))), (1, .p (.d (.v (.string (txt b))))), (0, .p (.d (.v (.string (txt a)))))], []⟩
theorem WithinT_c (a b : Cube) : ACalls Tryz.prog 52 [.d (.v (.string (txt a))), .d (.v (.string (txt b)))] (· = [.d (.v (.bool (withinT a b)))]) := by
  have sz := txt_size a
  have sb := txt_size b
  refine q10 Tryz.func52 rfl (by decide +kernel) (by rw [Tryz.ntmps52]; simp) ?_; rw [Tryz.ntmps52]; simp only [frOf]
  (repeat (first | refine q0 ?_ | refine j6 rfl ?_ | refine q7 rfl ?_ | refine q6 ?_ | (refine q4 fun K hK => ?_) | (refine x4 (by kernel_rfl) (by kernel_rfl) fun K hK => ?_) | ((first | refine j5 ?_ | refine z6 ?_ | ((first | refine q5 (hK _ ?_) | refine x5 (hK _ _ (j4 (by kernel_rfl)) ?_)); clear hK K)); (first | show AWP _ _ _ _ _ | ((try simp only [x6]); first | show loopQ _ _ _ _ _ _ | show cutQ _ _ _ _ | show AWP _ _ _ _ _))) | ((first | refine z7 [] rfl ?_ | refine x7 [] rfl ?_); simp (maxSteps := 2000000) (disch := omega) only [go_sem, ↓reduceIte, reduceCtorEq, Nat.reduceLT, Nat.reducePow, Nat.reduceLeDiff, Nat.reduceAdd, Nat.reduceMul, Nat.reduceSub, Nat.reduceEqDiff, Nat.reduceBEq, Int.reduceToNat, Int.reduceBEq, Int.reduceBNe, hd, cb, sz, sb]; (repeat (first | refine ⟨by omega, ?_⟩ | refine ⟨True.intro, ?_⟩)))))
  refine awp_loop (withinI a b) (fun s => 128 - s.val.val) ⟨⟨0, by omega⟩, fun j hj => by simp at hj⟩ ?_ (fun s => ?_)
  · unfold withinI
    refine Weak.list ?_ ?_; (all_goals simp (disch := omega) only [AllF, AllL, x10, j10, z10, exists_eq_left', Option.some.injEq, go_sem, ↓reduceIte, reduceCtorEq, Nat.reduceLT, Nat.reducePow, Nat.reduceLeDiff, Nat.reduceAdd, Nat.reduceMul, Nat.reduceSub, Nat.reduceEqDiff, Nat.reduceBEq, Int.reduceToNat, Int.reduceBEq, Int.reduceBNe, hd, cb, sz, sb]); (all_goals (repeat' (with_reducible apply And.intro))); (all_goals try (first | exact j7 rfl | (refine q11 ?_; omega) | (refine j7 ?_; simp; done)))
  obtain ⟨⟨i, hi9⟩, hs⟩ := s
  unfold withinI
  simp only [] at hs
  by_cases hn : i < 128
  · have ai := txt_at a i hn
    have bi := txt_at b i hn
    cases hbc : b.c.getLsbD (127 - i) <;> cases hbv : b.v.getLsbD (127 - i) <;> cases hac : a.c.getLsbD (127 - i) <;> cases hav : a.v.getLsbD (127 - i)
    all_goals
      simp only [chI, hac, hav, hbc, hbv, if_true, if_false, Bool.false_eq_true] at ai bi
      (repeat (first | refine q0 ?_ | refine j6 rfl ?_ | refine q7 rfl ?_ | refine q6 ?_ | (refine q4 fun K hK => ?_) | (refine x4 (by kernel_rfl) (by kernel_rfl) fun K hK => ?_) | ((first | refine j5 ?_ | refine z6 ?_ | ((first | refine q5 (hK _ ?_) | refine x5 (hK _ _ (j4 (by kernel_rfl)) ?_)); clear hK K)); (first | show AWP _ _ _ _ _ | ((try simp only [x6]); first | show loopQ _ _ _ _ _ _ | show cutQ _ _ _ _ | show AWP _ _ _ _ _))) | ((first | refine z7 [] rfl ?_ | refine x7 [] rfl ?_); simp (maxSteps := 2000000) (disch := omega) only [go_sem, ↓reduceIte, reduceCtorEq, Nat.reduceLT, Nat.reducePow, Nat.reduceLeDiff, Nat.reduceAdd, Nat.reduceMul, Nat.reduceSub, Nat.reduceEqDiff, Nat.reduceBEq, Int.reduceToNat, Int.reduceBEq, Int.reduceBNe, hd, cb, sz, sb, ai, bi]; (repeat (first | refine ⟨by omega, ?_⟩ | refine ⟨True.intro, ?_⟩)))))
    all_goals first
      | skip
        refine ⟨⟨⟨i + 1, by omega⟩, fun j hj h1 => ?_⟩, by simp only []; omega, ?_⟩
        · by_cases e : j = i
          · subst e; first | (rw [hbc] at h1; cases h1; done) | (rw [hav, hbv, hac]; exact ⟨rfl, rfl⟩)
          · exact hs j (by simp at hj; omega) h1
        refine Weak.list ?_ ?_; (all_goals simp (disch := omega) only [AllF, AllL, x10, j10, z10, exists_eq_left', Option.some.injEq, go_sem, ↓reduceIte, reduceCtorEq, Nat.reduceLT, Nat.reducePow, Nat.reduceLeDiff, Nat.reduceAdd, Nat.reduceMul, Nat.reduceSub, Nat.reduceEqDiff, Nat.reduceBEq, Int.reduceToNat, Int.reduceBEq, Int.reduceBNe, hd, cb, sz, sb, ai, bi]); (all_goals (repeat' (with_reducible apply And.intro))); (all_goals try (first | exact j7 rfl | (refine q11 ?_; omega) | (refine j7 ?_; simp; done)))
      | skip
        have hf : withinT a b = false := by
          cases hf : withinT a b
          · rfl
          · have := (withinT_iff a b).1 hf (127 - i) (by omega) hbc
            rw [hav, hbv, hac] at this; simp at this
        rw [hf]
        refine j9 ⟨_, ?_, rfl⟩; rw [Tryz.results52]; simp (disch := omega) only [ResVars, ResVar, ptrLoc, go_sem, ↓reduceIte, reduceCtorEq, Nat.reduceLT, Nat.reducePow, Nat.reduceLeDiff, Nat.reduceAdd, Nat.reduceMul, Nat.reduceSub, Nat.reduceEqDiff, Nat.reduceBEq, Int.reduceToNat, Int.reduceBEq, Int.reduceBNe, hd, cb, sz, sb, ai, bi]
        try rfl
  · have h128 : i = 128 := by omega
    subst h128
    (repeat (first | refine q0 ?_ | refine j6 rfl ?_ | refine q7 rfl ?_ | refine q6 ?_ | (refine q4 fun K hK => ?_) | (refine x4 (by kernel_rfl) (by kernel_rfl) fun K hK => ?_) | ((first | refine j5 ?_ | refine z6 ?_ | ((first | refine q5 (hK _ ?_) | refine x5 (hK _ _ (j4 (by kernel_rfl)) ?_)); clear hK K)); (first | show AWP _ _ _ _ _ | ((try simp only [x6]); first | show loopQ _ _ _ _ _ _ | show cutQ _ _ _ _ | show AWP _ _ _ _ _))) | ((first | refine z7 [] rfl ?_ | refine x7 [] rfl ?_); simp (maxSteps := 2000000) (disch := omega) only [go_sem, ↓reduceIte, reduceCtorEq, Nat.reduceLT, Nat.reducePow, Nat.reduceLeDiff, Nat.reduceAdd, Nat.reduceMul, Nat.reduceSub, Nat.reduceEqDiff, Nat.reduceBEq, Int.reduceToNat, Int.reduceBEq, Int.reduceBNe, hd, cb, sz, sb]; (repeat (first | refine ⟨by omega, ?_⟩ | refine ⟨True.intro, ?_⟩)))))
    have hf : withinT a b = true := (withinT_iff a b).2 fun j hj h1 => by
      have := hs (127 - j) (by omega)
      rw [show 127 - (127 - j) = j from by omega] at this
      exact this h1
    rw [hf]
    refine j9 ⟨_, ?_, rfl⟩; rw [Tryz.results52]; simp (disch := omega) only [ResVars, ResVar, ptrLoc, go_sem, ↓reduceIte, reduceCtorEq, Nat.reduceLT, Nat.reducePow, Nat.reduceLeDiff, Nat.reduceAdd, Nat.reduceMul, Nat.reduceSub, Nat.reduceEqDiff, Nat.reduceBEq, Int.reduceToNat, Int.reduceBEq, Int.reduceBNe, hd, cb, sz, sb]
end Go.Proofs.YtemcdefpihkfpaaGreat
set_option linter.unusedSimpArgs false
set_option linter.unusedVariables false
namespace Go.Proofs.YtemcdefpihkfpaaGreat
open Go.Proofs.YtemcdefpihkfpaaGreat.AL
theorem catF_put {α : Type} (d : α → List Dat) (z : α) (out : List α) (c : α) (f' : Nat → List Dat) (hf : f' 0 = d c) (i : Nat) (hlt : i < out.length + 1) : catF out.length (fun i => d (out.getD i z)) f' i = d ((out ++ [c]).getD i z) := by
  unfold catF
  by_cases h : i < out.length
  · simp only [if_pos h, List.getD_eq_getElem?_getD, List.getElem?_append_left h]
  · have : i = out.length := by omega
    subst this
    simp [hf]
def rowT (l : List Cube) : Nat → List Dat := fun i => [.v (.string (txt (l.getD i ⟨0, 0⟩)))]
theorem one_bit (n j : Nat) (hn : n < 128) (hj : j < 128) : (ones 1 <<< n).getLsbD j = decide (j = n) := by
  rw [BitVec.getLsbD_shiftLeft, show ones 1 = 1#128 from rfl, BitVec.getLsbD_one]
  by_cases h : j = n
  · subst h; simp [hj]
  · by_cases h2 : j < n
    · simp [h, h2]
    · simp [h, h2]; omega
theorem chI_eq {k k' : Cube} {j : Nat} (hc : k.c.getLsbD j = k'.c.getLsbD j) (hv : k.c.getLsbD j = true → k.v.getLsbD j = k'.v.getLsbD j) : chI k j = chI k' j := by
  unfold chI
  rw [← hc]
  split
  · rw [hv ‹_›]
  · rfl
def plus (r b : Cube) (n : Nat) : Cube := ⟨r.v ||| (b.v &&& (ones 1 <<< n)), r.c ||| (ones 1 <<< n)⟩
def other (r b : Cube) (n : Nat) : Cube := ⟨(r.v ||| (b.v &&& (ones 1 <<< n))) ^^^ (ones 1 <<< n), r.c ||| (ones 1 <<< n)⟩
theorem plus_c {r b : Cube} {n j : Nat} (hn : n < 128) (hj : j < 128) : (plus r b n).c.getLsbD j = (r.c.getLsbD j || decide (j = n)) := by
  simp only [plus, BitVec.getLsbD_or, one_bit n j hn hj]
theorem plus_v {r b : Cube} {n j : Nat} (hn : n < 128) (hj : j < 128) : (plus r b n).v.getLsbD j = (r.v.getLsbD j || (b.v.getLsbD j && decide (j = n))) := by
  simp only [plus, BitVec.getLsbD_or, BitVec.getLsbD_and, one_bit n j hn hj]
theorem other_c {r b : Cube} {n j : Nat} (hn : n < 128) (hj : j < 128) : (other r b n).c.getLsbD j = (r.c.getLsbD j || decide (j = n)) := by
  simp only [other, BitVec.getLsbD_or, one_bit n j hn hj]
theorem other_v {r b : Cube} {n j : Nat} (hn : n < 128) (hj : j < 128) : (other r b n).v.getLsbD j = ((r.v.getLsbD j || (b.v.getLsbD j && decide (j = n))) ^^ decide (j = n)) := by
  simp only [other, BitVec.getLsbD_xor, BitVec.getLsbD_or, BitVec.getLsbD_and, one_bit n j hn hj]
theorem lessGo_succ (b : Cube) (more : BitVec 128) (n : Nat) (r : Cube) : lessGo b more (n + 1) r = if more.getLsbD n then other r b n :: lessGo b more n (plus r b n) else lessGo b more n r := rfl
theorem chI_other {r b : Cube} {n j : Nat} (hn : n < 128) (hj : j < 128) (hv : r.v.getLsbD n = false) : chI (other r b n) j = if j = n then (if b.v.getLsbD n then 48 else 49) else chI r j := by
  by_cases h : j = n
  · subst h
    simp only [chI, other_c hn hj, other_v hn hj, hv]
    cases b.v.getLsbD j <;> simp
  · rw [if_neg h]
    exact chI_eq (by rw [other_c hn hj]; simp [h]) (fun _ => by rw [other_v hn hj]; simp [h])
theorem chI_plus {r b : Cube} {n j : Nat} (hn : n < 128) (hj : j < 128) (hv : r.v.getLsbD n = false) : chI (plus r b n) j = if j = n then (if b.v.getLsbD n then 49 else 48) else chI r j := by
  by_cases h : j = n
  · subst h
    simp only [chI, plus_c hn hj, plus_v hn hj, hv]
    cases b.v.getLsbD j <;> simp
  · rw [if_neg h]
    exact chI_eq (by rw [plus_c hn hj]; simp [h]) (fun _ => by rw [plus_v hn hj]; simp [h])
structure LessU where
  i : Nat
  out : List Cube
  r : Cube
def lessTI (a b : Cube) (L : List Cube) (s : {s : LessU // s.i ≤ 128 ∧ s.out.length ≤ s.i ∧ s.out ++ lessGo b (b.c &&& ~~~a.c) (128 - s.i) s.r = L ∧ ∀ j, j < 128 - s.i → s.r.v.getLsbD j = a.v.getLsbD j}) : ASt :=
  ⟨[(9, .p (.d (.v (.int .i64 (s.val.i : Int))))), (8, .row 23 1 0 128), (7, .gr 21 s.val.out.length 1 s.val.out.length (rowT s.val.out)), (1, .p (.d (.v (.string (txt b))))), (0, .p (.d (.v (.string (txt a)))))],
   [(23, .arr 5 128 fun j => .v (.int .u8 (chI s.val.r (127 - j)))), (21, .grow 9 1 s.val.out.length s.val.out.length)]⟩
set_option maxHeartbeats 1000000 in
theorem LessT_c' (a b : Cube) (ha : a.sound = true) (hb : b.sound = true) (L : List Cube) (hL : lessL a b = L) : ACalls Tryz.prog 54 [.d (.v (.string (txt a))), .d (.v (.string (txt b)))] (· = [.d (.sl 1 L.length (rowT L))]) := by
  have sz := txt_size a
  have sb := txt_size b
  have mt := MeetT_c a b
  have hmo : meetO a b = (apart a b == 0) := by unfold meetO; rw [ha, hb]; rfl
  unfold lessL at hL
  simp only [ha, hb, Bool.and_self, if_true] at hL
  rw [hmo] at hL
  cases h : (apart a b == 0)
  · rw [h] at hL mt
    simp only [Bool.false_eq_true, if_false] at hL mt
    subst hL
    refine q10 Tryz.func54 rfl (by decide +kernel) (by rw [Tryz.ntmps54]; simp) ?_; rw [Tryz.ntmps54]; simp only [frOf]
    (repeat (first | refine q0 ?_ | refine j6 rfl ?_ | refine q7 rfl ?_ | refine q6 ?_ | (refine q4 fun K hK => ?_) | (refine x4 (by kernel_rfl) (by kernel_rfl) fun K hK => ?_) | ((first | refine j5 ?_ | refine z6 ?_ | ((first | refine q5 (hK _ ?_) | refine x5 (hK _ _ (j4 (by kernel_rfl)) ?_)); clear hK K)); (first | show AWP _ _ _ _ _ | ((try simp only [x6]); first | show loopQ _ _ _ _ _ _ | show cutQ _ _ _ _ | show AWP _ _ _ _ _))) | ((first | refine q9 rfl rfl rfl ?_ | refine x9 rfl rfl rfl ?_); simp (maxSteps := 2000000) (disch := omega) only [go_sem, ↓reduceIte, reduceCtorEq, Nat.reduceLT, Nat.reducePow, Nat.reduceLeDiff, Nat.reduceAdd, Nat.reduceMul, Nat.reduceSub, Nat.reduceEqDiff, Nat.reduceBEq, Int.reduceToNat, Int.reduceBEq, Int.reduceBNe, hd, cb, sz, sb, h]; (first | refine ⟨_, mt, ?_⟩)) | ((first | refine z7 [21] rfl ?_ | refine x7 [21] rfl ?_); simp (maxSteps := 2000000) (disch := omega) only [go_sem, ↓reduceIte, reduceCtorEq, Nat.reduceLT, Nat.reducePow, Nat.reduceLeDiff, Nat.reduceAdd, Nat.reduceMul, Nat.reduceSub, Nat.reduceEqDiff, Nat.reduceBEq, Int.reduceToNat, Int.reduceBEq, Int.reduceBNe, hd, cb, sz, sb, h]; (repeat (first | refine ⟨by omega, ?_⟩ | refine ⟨fun _ _ => rfl, ?_⟩)))))
    refine awp_slot 4 _ _ rfl (le_sl (n' := 1) (f' := rowT [a]) rfl (fun i hlt => ?_)) ?_
    · have : i = 0 := by omega
      subst this; rfl
    refine j9 ⟨_, ?_, rfl⟩; rw [Tryz.results54]; simp (disch := omega) only [ResVars, ResVar, ptrLoc, go_sem, ↓reduceIte, reduceCtorEq, Nat.reduceLT, Nat.reducePow, Nat.reduceLeDiff, Nat.reduceAdd, Nat.reduceMul, Nat.reduceSub, Nat.reduceEqDiff, Nat.reduceBEq, Int.reduceToNat, Int.reduceBEq, Int.reduceBNe, hd, cb, sz, sb, h]
  · rw [h] at hL mt
    simp only [if_true] at hL mt
    refine q10 Tryz.func54 rfl (by decide +kernel) (by rw [Tryz.ntmps54]; simp) ?_; rw [Tryz.ntmps54]; simp only [frOf]
    (repeat (first | refine q0 ?_ | refine j6 rfl ?_ | refine q7 rfl ?_ | refine q6 ?_ | (refine q4 fun K hK => ?_) | (refine x4 (by kernel_rfl) (by kernel_rfl) fun K hK => ?_) | ((first | refine j5 ?_ | refine z6 ?_ | ((first | refine q5 (hK _ ?_) | refine x5 (hK _ _ (j4 (by kernel_rfl)) ?_)); clear hK K)); (first | show AWP _ _ _ _ _ | ((try simp only [x6]); first | show loopQ _ _ _ _ _ _ | show cutQ _ _ _ _ | show AWP _ _ _ _ _))) | ((first | refine q9 rfl rfl rfl ?_ | refine x9 rfl rfl rfl ?_); simp (maxSteps := 2000000) (disch := omega) only [go_sem, ↓reduceIte, reduceCtorEq, Nat.reduceLT, Nat.reducePow, Nat.reduceLeDiff, Nat.reduceAdd, Nat.reduceMul, Nat.reduceSub, Nat.reduceEqDiff, Nat.reduceBEq, Int.reduceToNat, Int.reduceBEq, Int.reduceBNe, hd, cb, sz, sb, h]; (first | refine ⟨_, mt, ?_⟩)) | ((first | refine z7 [21] rfl ?_ | refine x7 [21] rfl ?_); simp (maxSteps := 2000000) (disch := omega) only [go_sem, ↓reduceIte, reduceCtorEq, Nat.reduceLT, Nat.reducePow, Nat.reduceLeDiff, Nat.reduceAdd, Nat.reduceMul, Nat.reduceSub, Nat.reduceEqDiff, Nat.reduceBEq, Int.reduceToNat, Int.reduceBEq, Int.reduceBNe, hd, cb, sz, sb, h]; (repeat (first | refine ⟨by omega, ?_⟩ | refine ⟨fun _ _ => rfl, ?_⟩)))))
    refine awp_loop (lessTI a b L) (fun s => 128 - s.val.i) ⟨⟨0, [], a⟩, by simp, by simp, by rw [List.nil_append]; exact hL, fun j _ => rfl⟩ ?_ (fun s => ?_)
    · unfold lessTI
      refine Weak.list ?_ ?_; (all_goals simp (disch := omega) only [AllF, AllL, x10, j10, z10, exists_eq_left', Option.some.injEq, go_sem, ↓reduceIte, reduceCtorEq, Nat.reduceLT, Nat.reducePow, Nat.reduceLeDiff, Nat.reduceAdd, Nat.reduceMul, Nat.reduceSub, Nat.reduceEqDiff, Nat.reduceBEq, Int.reduceToNat, Int.reduceBEq, Int.reduceBNe, hd, cb, sz, sb, h]); (all_goals (repeat' (with_reducible apply And.intro))); (all_goals try (first | exact j7 rfl | (refine q11 ?_; omega) | (refine j7 ?_; simp; done)))
      · exact le_grgr rfl rfl (fun i hlt => by omega)
      · exact ⟨rfl, rfl, fun j hj => by have := txt_at a j hj; simp only [this]⟩
    obtain ⟨⟨i, out, r⟩, hi, hl, he, hv⟩ := s
    unfold lessTI
    simp only [] at hi hl he hv
    by_cases hn : i < 128
    · have ai := txt_at a i hn
      have bi := txt_at b i hn
      have mb : (b.c &&& ~~~a.c).getLsbD (127 - i) = (b.c.getLsbD (127 - i) && !a.c.getLsbD (127 - i)) := by
        rw [BitVec.getLsbD_and, BitVec.getLsbD_not, decide_eq_true (show 127 - i < 128 from by omega), Bool.true_and]
      rw [show 128 - i = (127 - i) + 1 from by omega, lessGo_succ, mb] at he
      have sn := (sound_iff a).1 ha (127 - i) (by omega)
      have hvn := hv (127 - i) (by omega)
      cases hac : a.c.getLsbD (127 - i) <;> cases hbc : b.c.getLsbD (127 - i)
      rotate_left
      · have hr : r.v.getLsbD (127 - i) = false := by
          rw [hvn]; cases hav : a.v.getLsbD (127 - i)
          · rfl
          · rw [sn hav] at hac; cases hac
        rw [show chI a (127 - i) = 120 from by simp [chI, hac]] at ai
        cases hbv : b.v.getLsbD (127 - i)
        all_goals
          simp only [chI, hbc, hbv, if_true, if_false, Bool.false_eq_true] at bi
          simp only [hac, hbc, Bool.not_false, Bool.and_self, if_true] at he
          (repeat ((fail_if_success (show AWP _ _ (.region 14 _ _) _ _)); first | refine q0 ?_ | refine j6 rfl ?_ | refine q7 rfl ?_ | refine q6 ?_ | (refine q4 fun K hK => ?_) | (refine x4 (by kernel_rfl) (by kernel_rfl) fun K hK => ?_) | ((first | refine j5 ?_ | refine z6 ?_ | ((first | refine q5 (hK _ ?_) | refine x5 (hK _ _ (j4 (by kernel_rfl)) ?_)); clear hK K)); (first | show AWP _ _ _ _ _ | ((try simp only [x6]); first | show loopQ _ _ _ _ _ _ | show cutQ _ _ _ _ | show AWP _ _ _ _ _))) | ((first | refine z7 [21] rfl ?_ | refine x7 [21] rfl ?_); simp (maxSteps := 2000000) (disch := omega) only [go_sem, ↓reduceIte, reduceCtorEq, Nat.reduceLT, Nat.reducePow, Nat.reduceLeDiff, Nat.reduceAdd, Nat.reduceMul, Nat.reduceSub, Nat.reduceEqDiff, Nat.reduceBEq, Int.reduceToNat, Int.reduceBEq, Int.reduceBNe, hd, cb, sz, sb, ai, bi]; (repeat (first | refine ⟨by omega, ?_⟩ | refine ⟨fun _ _ => rfl, ?_⟩)))))
          refine awp_arr 23 (fun j => .v (.int .u8 (chI (other r b (127 - i)) (127 - j)))) rfl (fun j hj => ?_) ?_
          · rw [chI_other (by omega) (by omega) hr, hbv]
            by_cases e : j = i
            · subst e; simp
            · simp [e, show ¬ 127 - j = 127 - i from by omega]
          (repeat (first | refine q0 ?_ | refine j6 rfl ?_ | refine q7 rfl ?_ | refine q6 ?_ | (refine q4 fun K hK => ?_) | (refine x4 (by kernel_rfl) (by kernel_rfl) fun K hK => ?_) | ((first | refine j5 ?_ | refine z6 ?_ | ((first | refine q5 (hK _ ?_) | refine x5 (hK _ _ (j4 (by kernel_rfl)) ?_)); clear hK K)); (first | show AWP _ _ _ _ _ | ((try simp only [x6]); first | show loopQ _ _ _ _ _ _ | show cutQ _ _ _ _ | show AWP _ _ _ _ _))) | ((first | refine z7 [21] rfl ?_ | refine x7 [21] rfl ?_); simp (maxSteps := 2000000) (disch := omega) only [go_sem, ↓reduceIte, reduceCtorEq, Nat.reduceLT, Nat.reducePow, Nat.reduceLeDiff, Nat.reduceAdd, Nat.reduceMul, Nat.reduceSub, Nat.reduceEqDiff, Nat.reduceBEq, Int.reduceToNat, Int.reduceBEq, Int.reduceBNe, hd, cb, sz, sb, ai, bi]; (repeat (first | refine ⟨by omega, ?_⟩ | refine ⟨fun _ _ => rfl, ?_⟩)))))
          refine ⟨⟨⟨i + 1, out ++ [other r b (127 - i)], plus r b (127 - i)⟩, by simp only []; omega, by simp; omega, ?_, fun j hj => ?_⟩, by simp only []; omega, ?_⟩
          · rw [List.append_assoc, show 128 - (i + 1) = 127 - i from by omega]; exact he
          · have hj' : j < 127 - i := by simp only [] at hj; omega
            have hne : ¬ j = 127 - i := by omega
            simp only []
            rw [plus_v (by omega) (by omega), decide_eq_false hne, Bool.and_false, Bool.or_false]
            exact hv j (by omega)
          refine Weak.list ?_ ?_; (all_goals simp (disch := omega) only [AllF, AllL, x10, j10, z10, exists_eq_left', Option.some.injEq, go_sem, ↓reduceIte, reduceCtorEq, Nat.reduceLT, Nat.reducePow, Nat.reduceLeDiff, Nat.reduceAdd, Nat.reduceMul, Nat.reduceSub, Nat.reduceEqDiff, Nat.reduceBEq, Int.reduceToNat, Int.reduceBEq, Int.reduceBNe, hd, cb, sz, sb, ai, bi]); (all_goals (repeat' (with_reducible apply And.intro))); (all_goals try (first | exact j7 rfl | (refine q11 ?_; omega) | (refine j7 ?_; simp; done)))
          all_goals first
            | exact le_grgr (by simp) (by simp) (fun j hlt => catF_put (fun k => [.v (.string (txt k))]) _ out _ _ rfl j hlt)
            | exact ⟨rfl, rfl, by simp, by simp⟩
            | (refine ⟨rfl, rfl, fun j hj => ?_⟩
               have p1 := chI_plus (r := r) (b := b) (n := 127 - i) (j := 127 - j) (by omega) (by omega) hr
               have p2 := chI_other (r := r) (b := b) (n := 127 - i) (j := 127 - j) (by omega) (by omega) hr
               simp only [p1, p2, hbv]
               by_cases e : j = i
               · subst e; simp
               · simp [e, show ¬ 127 - j = 127 - i from by omega])
      all_goals
        cases hav : a.v.getLsbD (127 - i)
        all_goals
          simp only [chI, hac, hav, hbc, if_true, if_false, Bool.false_eq_true] at ai bi
          simp only [hac, hbc, Bool.not_false, Bool.not_true, Bool.and_self, Bool.and_true, Bool.and_false, if_false, Bool.false_eq_true] at he
          try (have := sn hav; rw [hac] at this; cases this; done)
          try (cases hbv : b.v.getLsbD (127 - i) <;> simp only [hbv, if_true, if_false, Bool.false_eq_true] at bi)
          all_goals
            (repeat (first | refine q0 ?_ | refine j6 rfl ?_ | refine q7 rfl ?_ | refine q6 ?_ | (refine q4 fun K hK => ?_) | (refine x4 (by kernel_rfl) (by kernel_rfl) fun K hK => ?_) | ((first | refine j5 ?_ | refine z6 ?_ | ((first | refine q5 (hK _ ?_) | refine x5 (hK _ _ (j4 (by kernel_rfl)) ?_)); clear hK K)); (first | show AWP _ _ _ _ _ | ((try simp only [x6]); first | show loopQ _ _ _ _ _ _ | show cutQ _ _ _ _ | show AWP _ _ _ _ _))) | ((first | refine z7 [21] rfl ?_ | refine x7 [21] rfl ?_); simp (maxSteps := 2000000) (disch := omega) only [go_sem, ↓reduceIte, reduceCtorEq, Nat.reduceLT, Nat.reducePow, Nat.reduceLeDiff, Nat.reduceAdd, Nat.reduceMul, Nat.reduceSub, Nat.reduceEqDiff, Nat.reduceBEq, Int.reduceToNat, Int.reduceBEq, Int.reduceBNe, hd, cb, sz, sb, ai, bi]; (repeat (first | refine ⟨by omega, ?_⟩ | refine ⟨fun _ _ => rfl, ?_⟩)))))
            refine ⟨⟨⟨i + 1, out, r⟩, by simp only []; omega, by simp only []; omega, ?_, fun j hj => hv j (by simp only [] at hj; omega)⟩, by simp only []; omega, ?_⟩
            · rw [show 128 - (i + 1) = 127 - i from by omega]; exact he
            refine Weak.list ?_ ?_; (all_goals simp (disch := omega) only [AllF, AllL, x10, j10, z10, exists_eq_left', Option.some.injEq, go_sem, ↓reduceIte, reduceCtorEq, Nat.reduceLT, Nat.reducePow, Nat.reduceLeDiff, Nat.reduceAdd, Nat.reduceMul, Nat.reduceSub, Nat.reduceEqDiff, Nat.reduceBEq, Int.reduceToNat, Int.reduceBEq, Int.reduceBNe, hd, cb, sz, sb, ai, bi]); (all_goals (repeat' (with_reducible apply And.intro))); (all_goals try (first | exact j7 rfl | (refine q11 ?_; omega) | (refine j7 ?_; simp; done)))
    · have h128 : i = 128 := by omega
      subst h128
      simp only [Nat.sub_self, lessGo, List.append_nil] at he
      (repeat (first | refine q0 ?_ | refine j6 rfl ?_ | refine q7 rfl ?_ | refine q6 ?_ | (refine q4 fun K hK => ?_) | (refine x4 (by kernel_rfl) (by kernel_rfl) fun K hK => ?_) | ((first | refine j5 ?_ | refine z6 ?_ | ((first | refine q5 (hK _ ?_) | refine x5 (hK _ _ (j4 (by kernel_rfl)) ?_)); clear hK K)); (first | show AWP _ _ _ _ _ | ((try simp only [x6]); first | show loopQ _ _ _ _ _ _ | show cutQ _ _ _ _ | show AWP _ _ _ _ _))) | ((first | refine z7 [21] rfl ?_ | refine x7 [21] rfl ?_); simp (maxSteps := 2000000) (disch := omega) only [go_sem, ↓reduceIte, reduceCtorEq, Nat.reduceLT, Nat.reducePow, Nat.reduceLeDiff, Nat.reduceAdd, Nat.reduceMul, Nat.reduceSub, Nat.reduceEqDiff, Nat.reduceBEq, Int.reduceToNat, Int.reduceBEq, Int.reduceBNe, hd, cb, sz, sb]; (repeat (first | refine ⟨by omega, ?_⟩ | refine ⟨fun _ _ => rfl, ?_⟩)))))
      refine awp_slot 4 _ (.p (.d (.sl 1 L.length (rowT L)))) rfl ?_ ?_
      · rw [← he]
        exact le_gr rfl (fun _ _ => rfl)
      refine j9 ⟨_, ?_, rfl⟩; rw [Tryz.results54]; simp (disch := omega) only [ResVars, ResVar, ptrLoc, go_sem, ↓reduceIte, reduceCtorEq, Nat.reduceLT, Nat.reducePow, Nat.reduceLeDiff, Nat.reduceAdd, Nat.reduceMul, Nat.reduceSub, Nat.reduceEqDiff, Nat.reduceBEq, Int.reduceToNat, Int.reduceBEq, Int.reduceBNe, hd, cb, sz, sb]
theorem LessT_c (a b : Cube) (ha : a.sound = true) (hb : b.sound = true) : ACalls Tryz.prog 54 [.d (.v (.string (txt a))), .d (.v (.string (txt b)))] (· = [.d (.sl 1 (lessL a b).length (rowT (lessL a b)))]) := LessT_c' a b ha hb _ rfl
end Go.Proofs.YtemcdefpihkfpaaGreat
set_option linter.unusedSimpArgs false
set_option linter.unusedVariables false
namespace Go.Proofs.YtemcdefpihkfpaaGreat
open Go.Proofs.YtemcdefpihkfpaaGreat.AL
theorem plus_sound {r b : Cube} {n : Nat} (hn : n < 128) (hr : r.sound = true) : (plus r b n).sound = true := by
  refine (sound_iff _).2 fun i hi hv => ?_
  rw [plus_v hn hi] at hv
  rw [plus_c hn hi]
  cases h : r.v.getLsbD i
  · rw [h] at hv; simp at hv; simp [hv.2]
  · rw [(sound_iff r).1 hr i hi h]; rfl
theorem other_sound {r b : Cube} {n : Nat} (hn : n < 128) (hr : r.sound = true) : (other r b n).sound = true := by
  refine (sound_iff _).2 fun i hi hv => ?_
  rw [other_v hn hi] at hv
  rw [other_c hn hi]
  by_cases h : i = n
  · simp [h]
  · simp only [h, decide_false, Bool.and_false, Bool.or_false, Bool.xor_false] at hv ⊢
    exact (sound_iff r).1 hr i hi hv
theorem lessGo_mem (b : Cube) (more : BitVec 128) : ∀ (n : Nat) (r : Cube), n ≤ 128 → r.sound = true → (∀ j, j < n → more.getLsbD j = true → r.c.getLsbD j = false) → ∀ k ∈ lessGo b more n r, k.sound = true ∧ ∀ j, j < 128 → r.c.getLsbD j = true → k.c.getLsbD j = true ∧ k.v.getLsbD j = r.v.getLsbD j
  | 0, r, _, _, _, k, hk => by simp [lessGo] at hk
  | n + 1, r, hn, hr, hm, k, hk => by
    rw [lessGo_succ] at hk
    have pc : ∀ j, j < 128 → r.c.getLsbD j = true → more.getLsbD n = true → j ≠ n := fun j hj hc hmn e => by subst e; rw [hm j (by omega) hmn] at hc; cases hc
    split at hk
    · rename_i hmn
      rcases List.mem_cons.1 hk with rfl | hk
      · refine ⟨other_sound (by omega) hr, fun j hj hc => ?_⟩
        have hne := pc j hj hc hmn
        rw [other_c (by omega) hj, other_v (by omega) hj, hc]
        simp [hne]
      · obtain ⟨h1, h2⟩ := lessGo_mem b more n (plus r b n) (by omega) (plus_sound (by omega) hr) (fun j hj hmj => by rw [plus_c (by omega) (by omega), hm j (by omega) hmj]; simp; omega) k hk
        refine ⟨h1, fun j hj hc => ?_⟩
        have hne := pc j hj hc hmn
        obtain ⟨h3, h4⟩ := h2 j hj (by rw [plus_c (by omega) hj, hc]; rfl)
        refine ⟨h3, ?_⟩
        rw [h4, plus_v (by omega) hj]
        simp [hne]
    · exact lessGo_mem b more n r (by omega) hr (fun j hj => hm j (by omega)) k hk
theorem more_free (a b : Cube) (j : Nat) (hj : j < 128) (h : (b.c &&& ~~~a.c).getLsbD j = true) : a.c.getLsbD j = false := by
  rw [BitVec.getLsbD_and, BitVec.getLsbD_not, decide_eq_true hj, Bool.true_and] at h
  cases hc : a.c.getLsbD j
  · rfl
  · rw [hc] at h; simp at h
theorem lessL_mem {a b : Cube} (ha : a.sound = true) {k : Cube} (hk : k ∈ lessL a b) : k.sound = true ∧ ∀ j, j < 128 → a.c.getLsbD j = true → k.c.getLsbD j = true ∧ k.v.getLsbD j = a.v.getLsbD j := by
  unfold lessL at hk
  split at hk
  · split at hk
    · exact lessGo_mem b _ 128 a (Nat.le_refl _) ha (fun j hj h => more_free a b j hj h) k hk
    · simp at hk; subst hk; exact ⟨ha, fun j hj hc => ⟨hc, rfl⟩⟩
  · simp at hk
theorem within_iff {a b : Cube} (ha : a.sound = true) (hb : b.sound = true) : withinC a b = true ↔ ∀ i, i < 128 → b.c.getLsbD i = true → a.c.getLsbD i = true ∧ a.v.getLsbD i = b.v.getLsbD i := by
  rw [← withinT_iff]; unfold withinC withinT; rw [ha, hb]; rfl
theorem has_iff {k : Cube} (hk : k.sound = true) (h : BitVec 128) : hasC k h = true ↔ ∀ i, i < 128 → k.c.getLsbD i = true → h.getLsbD i = k.v.getLsbD i := by
  unfold hasC
  rw [hk, Bool.true_and, beq_iff_eq]
  constructor
  · intro e i hi hc
    have := congrArg (fun z => z.getLsbD i) e
    simpa [hc] using this
  · intro e
    apply BitVec.eq_of_getLsbD_eq
    intro i hi
    rw [BitVec.getLsbD_and]
    cases hc : k.c.getLsbD i
    · cases hv : k.v.getLsbD i
      · simp
      · rw [(sound_iff k).1 hk i hi hv] at hc; cases hc
    · rw [e i hi hc, Bool.and_true]
theorem bool_iff {x y : Bool} (h : x = true ↔ y = true) : x = y := by cases x <;> cases y <;> simp at h <;> rfl
theorem has_plus {r b : Cube} {n : Nat} (hn : n < 128) (hr : r.sound = true) (hc : r.c.getLsbD n = false) (h : BitVec 128) : hasC (plus r b n) h = (hasC r h && (h.getLsbD n == b.v.getLsbD n)) := by
  have hv : r.v.getLsbD n = false := by
    cases hv : r.v.getLsbD n
    · rfl
    · rw [(sound_iff r).1 hr n hn hv] at hc; cases hc
  apply bool_iff
  rw [Bool.and_eq_true, has_iff (plus_sound hn hr), has_iff hr, beq_iff_eq]
  constructor
  · intro e
    refine ⟨fun i hi hci => ?_, ?_⟩
    · have hne : i ≠ n := fun e => by subst e; rw [hc] at hci; cases hci
      rw [e i hi (by rw [plus_c hn hi, hci]; rfl), plus_v hn hi]
      simp [hne]
    · rw [e n hn (by rw [plus_c hn hn]; simp), plus_v hn hn, hv]; simp
  · rintro ⟨e1, e2⟩ i hi hci
    rw [plus_v hn hi]
    by_cases hne : i = n
    · subst hne; rw [hv]; simpa using e2
    · rw [plus_c hn hi] at hci
      simp only [hne, decide_false, Bool.or_false] at hci
      rw [e1 i hi hci]; simp [hne]
theorem has_other {r b : Cube} {n : Nat} (hn : n < 128) (hr : r.sound = true) (hc : r.c.getLsbD n = false) (h : BitVec 128) : hasC (other r b n) h = (hasC r h && !(h.getLsbD n == b.v.getLsbD n)) := by
  have hv : r.v.getLsbD n = false := by
    cases hv : r.v.getLsbD n
    · rfl
    · rw [(sound_iff r).1 hr n hn hv] at hc; cases hc
  apply bool_iff
  rw [Bool.and_eq_true, has_iff (other_sound hn hr), has_iff hr]
  constructor
  · intro e
    refine ⟨fun i hi hci => ?_, ?_⟩
    · have hne : i ≠ n := fun e => by subst e; rw [hc] at hci; cases hci
      rw [e i hi (by rw [other_c hn hi, hci]; rfl), other_v hn hi]
      simp [hne]
    · rw [e n hn (by rw [other_c hn hn]; simp), other_v hn hn, hv]; cases b.v.getLsbD n <;> simp
  · rintro ⟨e1, e2⟩ i hi hci
    rw [other_v hn hi]
    by_cases hne : i = n
    · subst hne; rw [hv]; revert e2; cases h.getLsbD i <;> cases b.v.getLsbD i <;> simp
    · rw [other_c hn hi] at hci
      simp only [hne, decide_false, Bool.or_false] at hci
      rw [e1 i hi hci]; simp [hne]
def lessEnd (b : Cube) (more : BitVec 128) : Nat → Cube → Cube
  | 0, r => r
  | n + 1, r => if more.getLsbD n then lessEnd b more n (plus r b n) else lessEnd b more n r
theorem lessEnd_bits (b : Cube) (more : BitVec 128) : ∀ (n : Nat) (r : Cube), n ≤ 128 → ∀ j, j < 128 → (lessEnd b more n r).c.getLsbD j = (r.c.getLsbD j || (more.getLsbD j && decide (j < n))) ∧ (lessEnd b more n r).v.getLsbD j = (r.v.getLsbD j || (b.v.getLsbD j && (more.getLsbD j && decide (j < n))))
  | 0, r, _, j, hj => by simp [lessEnd]
  | n + 1, r, hn, j, hj => by
    unfold lessEnd
    split
    · rename_i hm
      obtain ⟨h1, h2⟩ := lessEnd_bits b more n (plus r b n) (by omega) j hj
      rw [h1, h2, plus_c (by omega) hj, plus_v (by omega) hj]
      by_cases e : j = n
      · subst e; simp [hm]
      · have : decide (j < n + 1) = decide (j < n) := decide_eq_decide.2 (by omega)
        rw [this]; simp [e]
    · rename_i hm
      obtain ⟨h1, h2⟩ := lessEnd_bits b more n r (by omega) j hj
      rw [h1, h2]
      by_cases e : j = n
      · subst e; simp [hm]
      · have : decide (j < n + 1) = decide (j < n) := decide_eq_decide.2 (by omega)
        rw [this]; simp
theorem cube_ext {x y : Cube} (hc : ∀ j, j < 128 → x.c.getLsbD j = y.c.getLsbD j) (hv : ∀ j, j < 128 → x.v.getLsbD j = y.v.getLsbD j) : x = y := by
  obtain ⟨a, b⟩ := x
  obtain ⟨c, d⟩ := y
  have h1 : a = c := BitVec.eq_of_getLsbD_eq hv
  have h2 : b = d := BitVec.eq_of_getLsbD_eq hc
  rw [h1, h2]
theorem lessEnd_meet {a b : Cube} (h : meetO a b = true) : lessEnd b (b.c &&& ~~~a.c) 128 a = meetV a b := by
  have hm := h
  unfold meetO at h
  simp only [Bool.and_eq_true] at h
  obtain ⟨⟨ha, hb⟩, hap⟩ := h
  have hap := (apart_iff a b).1 hap
  have e : meetV a b = ⟨a.v ||| b.v, a.c ||| b.c⟩ := by unfold meetV; rw [hm]; rfl
  rw [e]
  refine cube_ext (fun j hj => ?_) (fun j hj => ?_)
  · rw [(lessEnd_bits b _ 128 a (Nat.le_refl _) j hj).1]
    simp only [BitVec.getLsbD_and, BitVec.getLsbD_or, BitVec.getLsbD_not, hj, decide_true, Bool.true_and, Bool.and_true]
    cases a.c.getLsbD j <;> cases b.c.getLsbD j <;> rfl
  · rw [(lessEnd_bits b _ 128 a (Nat.le_refl _) j hj).2]
    have h1 := (sound_iff a).1 ha j hj; have h2 := (sound_iff b).1 hb j hj; have h3 := hap j hj
    simp only [BitVec.getLsbD_and, BitVec.getLsbD_or, BitVec.getLsbD_not, hj, decide_true, Bool.true_and, Bool.and_true]
    revert h1 h2 h3
    cases a.c.getLsbD j <;> cases b.c.getLsbD j <;> cases a.v.getLsbD j <;> cases b.v.getLsbD j <;> simp
def cnt (x : Bool) : Nat := if x then 1 else 0
theorem less_count (b : Cube) (more : BitVec 128) (h : BitVec 128) : ∀ (n : Nat) (r : Cube), n ≤ 128 → r.sound = true → (∀ j, j < n → more.getLsbD j = true → r.c.getLsbD j = false) →
    (lessGo b more n r).countP (hasC · h) + cnt (hasC (lessEnd b more n r) h) = cnt (hasC r h)
  | 0, r, _, _, _ => by simp [lessGo, lessEnd]
  | n + 1, r, hn, hr, hm => by
    rw [lessGo_succ]
    unfold lessEnd
    split
    · rename_i hmn
      have hc := hm n (by omega) hmn
      have ih := less_count b more h n (plus r b n) (by omega) (plus_sound (by omega) hr) (fun j hj hmj => by rw [plus_c (by omega) (by omega), hm j (by omega) hmj]; simp; omega)
      rw [List.countP_cons]
      rw [has_plus (by omega) hr hc] at ih
      simp only [has_other (show n < 128 by omega) hr hc]
      generalize cnt (hasC (lessEnd b more n (plus r b n)) h) = e at ih ⊢
      generalize List.countP (hasC · h) (lessGo b more n (plus r b n)) = c at ih ⊢
      revert ih
      cases hasC r h <;> cases (h.getLsbD n == b.v.getLsbD n) <;> simp [cnt] <;> omega
    · exact less_count b more h n r (by omega) hr (fun j hj => hm j (by omega))
theorem parts_count {a b : Cube} (ha : a.sound = true) (hb : b.sound = true) (h : BitVec 128) : cnt (meetO a b && hasC (meetV a b) h) + (lessL a b).countP (hasC · h) = cnt (hasC a h) := by
  unfold lessL
  rw [ha, hb]
  cases hm : meetO a b
  · simp [cnt, List.countP_cons]
  · have := less_count b (b.c &&& ~~~a.c) h 128 a (Nat.le_refl _) ha (fun j hj hh => more_free a b j hj hh)
    rw [lessEnd_meet hm] at this
    simp only [Bool.and_self, if_true, Bool.true_and]
    omega
end Go.Proofs.YtemcdefpihkfpaaGreat
set_option linter.unusedSimpArgs false
set_option linter.unusedVariables false
namespace Go.Proofs.YtemcdefpihkfpaaGreat
open Go.Proofs.YtemcdefpihkfpaaGreat.AL
theorem rowT_of (L : List Cube) (i : Nat) : rowT L i = [.v (.string (txt (L.getD i ⟨0, 0⟩)))] := rfl
theorem rowT_put (out : List Cube) (c : Cube) (i : Nat) (hlt : i < out.length + 1) : catF out.length (rowT out) (fun i => [[Dat.v (.string (txt c))]].getD i []) i = rowT (out ++ [c]) i :=
  catF_put (fun k => [.v (.string (txt k))]) ⟨0, 0⟩ out c _ rfl i hlt
theorem all_take {α : Type} (p : α → Bool) (l : List α) (i : Nat) (z : α) (h : i < l.length) : (l.take (i + 1)).all p = ((l.take i).all p && p (l.getD i z)) := by
  rw [take_succ_getD l i z h, List.all_append]; simp
def textsI (l : List Cube) (s : {i : Nat // i ≤ l.length ∧ (l.take i).all Cube.sound = true}) : ASt :=
  ⟨[(5, .p (.d (.v (.int .i64 (s.val : Int))))), (4, .gr 8 s.val 1 s.val (rowT (l.take s.val))), (0, .p (.d (.sl 4 l.length (rowC l))))], [(8, .grow 9 1 s.val s.val)]⟩
def textsV (l : List Cube) : List Cube := if l.all Cube.sound then l else []
set_option maxHeartbeats 1000000 in
theorem Texts_c (l : List Cube) (hl : l.length ≤ 1099511627776) : ACalls Tryz.prog 11 [.d (.sl 4 l.length (rowC l))] (· = [.d (.sl 1 (textsV l).length (rowT (textsV l))), .d (.v (.bool (soundP l)))]) := by
  refine q10 Tryz.func11 rfl (by decide +kernel) (by rw [Tryz.ntmps11]; simp) ?_; rw [Tryz.ntmps11]; simp only [frOf]
  (repeat (first | refine q0 ?_ | refine j6 rfl ?_ | refine q7 rfl ?_ | refine q6 ?_ | (refine q4 fun K hK => ?_) | (refine x4 (by kernel_rfl) (by kernel_rfl) fun K hK => ?_) | ((first | refine j5 ?_ | refine z6 ?_ | ((first | refine q5 (hK _ ?_) | refine x5 (hK _ _ (j4 (by kernel_rfl)) ?_)); clear hK K)); (first | show AWP _ _ _ _ _ | ((try simp only [x6]); first | show loopQ _ _ _ _ _ _ | show cutQ _ _ _ _ | show AWP _ _ _ _ _))) | ((first | refine z7 [8] rfl ?_ | refine x7 [8] rfl ?_); simp (maxSteps := 2000000) (disch := omega) only [go_sem, seval, hd, cb, j0, x3]; (repeat (first | refine ⟨by omega, ?_⟩ | refine ⟨True.intro, ?_⟩)))))
  refine awp_loop (textsI l) (fun s => l.length - s.val) ⟨0, by omega, by simp⟩ ?_ (fun s => ?_)
  · unfold textsI
    refine Weak.list ?_ ?_; (all_goals simp (disch := omega) only [AllF, AllL, x10, j10, z10, exists_eq_left', Option.some.injEq, go_sem, seval, hd, cb, j0, x3]); (all_goals (repeat' (with_reducible apply And.intro))); (all_goals try (first | exact j7 rfl | (refine q11 ?_; omega) | (refine j7 ?_; simp; done)))
    exact le_grgr rfl rfl (fun i hi => by omega)
  obtain ⟨i, hi, he⟩ := s
  unfold textsI
  by_cases hn : i < l.length
  · have r1 := rowC_at l i
    have st := all_take Cube.sound l i ⟨0, 0⟩ hn
    have sk := take_succ_getD l i ⟨0, 0⟩ hn
    have hin := getD_in hn ⟨0, 0⟩
    generalize l.getD i ⟨0, 0⟩ = K at r1 st sk hin
    have tx := Text_c K
    rw [he, Bool.true_and] at st
    cases h : K.sound
    all_goals
      rw [h] at tx st
      simp only [Bool.false_eq_true, if_false, if_true] at tx
      (repeat (first | refine q0 ?_ | refine j6 rfl ?_ | refine q7 rfl ?_ | refine q6 ?_ | (refine q4 fun K hK => ?_) | (refine x4 (by kernel_rfl) (by kernel_rfl) fun K hK => ?_) | ((first | refine j5 ?_ | refine z6 ?_ | ((first | refine q5 (hK _ ?_) | refine x5 (hK _ _ (j4 (by kernel_rfl)) ?_)); clear hK K)); (first | show AWP _ _ _ _ _ | ((try simp only [x6]); first | show loopQ _ _ _ _ _ _ | show cutQ _ _ _ _ | show AWP _ _ _ _ _))) | ((first | refine q9 rfl rfl rfl ?_ | refine x9 rfl rfl rfl ?_); simp (maxSteps := 2000000) (disch := omega) only [go_sem, seval, hd, cb, j0, x3, r1]; (first | refine ⟨_, tx, ?_⟩)) | ((first | refine z7 [8] rfl ?_ | refine x7 [8] rfl ?_); simp (maxSteps := 2000000) (disch := omega) only [go_sem, seval, hd, cb, j0, x3, r1]; (repeat (first | refine ⟨by omega, ?_⟩ | refine ⟨True.intro, ?_⟩)))))
    · have hf : l.all Cube.sound = false := by
        rw [List.all_eq_false]; exact ⟨K, hin, by rw [h]; simp⟩
      have e1 : textsV l = [] := by unfold textsV; rw [hf]; rfl
      have e2 : soundP l = false := by unfold soundP; rw [hf, Bool.and_false]
      rw [e1, e2]
      refine awp_slot 2 _ (.p (.d (.sl 1 ([] : List Cube).length (rowT [])))) rfl (le_nil 1 _ _ rfl) ?_
      refine j9 ⟨_, ?_, rfl⟩; rw [Tryz.results11]; simp (disch := omega) only [ResVars, ResVar, ptrLoc, go_sem, seval, hd, cb, j0, x3, r1]
    · refine ⟨⟨i + 1, by omega, st⟩, by simp only []; omega, ?_⟩
      refine Weak.list ?_ ?_; (all_goals simp (disch := omega) only [AllF, AllL, x10, j10, z10, exists_eq_left', Option.some.injEq, go_sem, seval, hd, cb, j0, x3, r1]); (all_goals (repeat' (with_reducible apply And.intro))); (all_goals try (first | exact j7 rfl | (refine q11 ?_; omega) | (refine j7 ?_; simp; done)))
      · refine le_grgr rfl rfl (fun j hj => ?_)
        have hlen : (l.take i).length = i := by simp; omega
        have := rowT_put (l.take i) K j (by omega)
        rw [hlen] at this
        rw [sk]; exact this
  · have hil : i = l.length := by omega
    subst hil
    rw [List.take_length] at he
    have e1 : textsV l = l := by unfold textsV; rw [he]; rfl
    have e2 : soundP l = decide (l.length ≤ 200) := by unfold soundP; rw [he, Bool.and_true]
    rw [e1, e2]
    by_cases h2 : l.length ≤ 200
    · (repeat (first | refine q0 ?_ | refine j6 rfl ?_ | refine q7 rfl ?_ | refine q6 ?_ | (refine q4 fun K hK => ?_) | (refine x4 (by kernel_rfl) (by kernel_rfl) fun K hK => ?_) | ((first | refine j5 ?_ | refine z6 ?_ | ((first | refine q5 (hK _ ?_) | refine x5 (hK _ _ (j4 (by kernel_rfl)) ?_)); clear hK K)); (first | show AWP _ _ _ _ _ | ((try simp only [x6]); first | show loopQ _ _ _ _ _ _ | show cutQ _ _ _ _ | show AWP _ _ _ _ _))) | ((first | refine z7 [8] rfl ?_ | refine x7 [8] rfl ?_); simp (maxSteps := 2000000) (disch := omega) only [go_sem, seval, hd, cb, j0, x3]; (repeat (first | refine ⟨by omega, ?_⟩ | refine ⟨True.intro, ?_⟩)))))
      refine awp_slot 2 _ (.p (.d (.sl 1 l.length (rowT l)))) rfl (le_gr rfl (fun k _ => by simp only [List.take_length])) ?_
      refine j9 ⟨_, ?_, rfl⟩; rw [Tryz.results11]; simp (disch := omega) only [ResVars, ResVar, ptrLoc, go_sem, seval, hd, cb, j0, x3]
      rw [decide_eq_true h2]
    · (repeat (first | refine q0 ?_ | refine j6 rfl ?_ | refine q7 rfl ?_ | refine q6 ?_ | (refine q4 fun K hK => ?_) | (refine x4 (by kernel_rfl) (by kernel_rfl) fun K hK => ?_) | ((first | refine j5 ?_ | refine z6 ?_ | ((first | refine q5 (hK _ ?_) | refine x5 (hK _ _ (j4 (by kernel_rfl)) ?_)); clear hK K)); (first | show AWP _ _ _ _ _ | ((try simp only [x6]); first | show loopQ _ _ _ _ _ _ | show cutQ _ _ _ _ | show AWP _ _ _ _ _))) | ((first | refine z7 [8] rfl ?_ | refine x7 [8] rfl ?_); simp (maxSteps := 2000000) (disch := omega) only [go_sem, seval, hd, cb, j0, x3]; (repeat (first | refine ⟨by omega, ?_⟩ | refine ⟨True.intro, ?_⟩)))))
      refine awp_slot 2 _ (.p (.d (.sl 1 l.length (rowT l)))) rfl (le_gr rfl (fun k _ => by simp only [List.take_length])) ?_
      refine j9 ⟨_, ?_, rfl⟩; rw [Tryz.results11]; simp (disch := omega) only [ResVars, ResVar, ptrLoc, go_sem, seval, hd, cb, j0, x3]
      rw [decide_eq_false h2]
end Go.Proofs.YtemcdefpihkfpaaGreat
set_option linter.unusedSimpArgs false
set_option linter.unusedVariables false
namespace Go.Proofs.YtemcdefpihkfpaaGreat
open Go.Proofs.YtemcdefpihkfpaaGreat.AL
def leanR : List Cube → List Cube → List Cube
  | _, [] => []
  | pre, x :: s => if x.sound && !(pre.any (withinC x)) && !(s.any fun y => withinC x y && x != y) then x :: leanR (pre ++ [x]) s else leanR (pre ++ [x]) s
theorem leanR_cons (pre s : List Cube) (x : Cube) : leanR pre (x :: s) = if x.sound && !(pre.any (withinC x)) && !(s.any fun y => withinC x y && x != y) then x :: leanR (pre ++ [x]) s else leanR (pre ++ [x]) s := rfl
theorem map_getD {α : Type} (l : List α) (z : α) : (List.range l.length).map (fun i => l.getD i z) = l := by
  apply List.ext_getElem
  · simp
  · intro i h1 h2
    simp at h1
    simp [h1]
theorem range_any {α : Type} (P : α → Bool) (l : List α) (z : α) : (List.range l.length).any (fun i => P (l.getD i z)) = l.any P := by
  have := congrArg (List.any · P) (map_getD l z)
  simp only [List.any_map] at this
  exact this
theorem any_congr' {α : Type} {p q : α → Bool} {l : List α} (h : ∀ x ∈ l, p x = q x) : l.any p = l.any q := by
  induction l with
  | nil => rfl
  | cons x l ih => rw [List.any_cons, List.any_cons, h x (by simp), ih fun y hy => h y (by simp [hy])]
theorem spareP_app (pre s : List Cube) (x : Cube) : spareP (pre ++ x :: s) pre.length = (pre.any (withinC x) || (s.any (fun y => withinC x y && x != y)) || !x.sound) := by
  unfold spareP
  have e0 : (pre ++ x :: s).getD pre.length ⟨0, 0⟩ = x := by simp
  rw [e0]
  congr 1
  have hl : (pre ++ x :: s).length = pre.length + (1 + s.length) := by simp; omega
  rw [hl, List.range_add, List.any_append, List.range_add, List.map_append, List.any_append, List.any_map, List.any_map, List.any_map]
  have e1 : (List.range pre.length).any (spareBy (pre ++ x :: s) pre.length) = pre.any (withinC x) := by
    rw [← range_any (withinC x) pre ⟨0, 0⟩]
    refine any_congr' fun i hi => ?_
    have hi := List.mem_range.1 hi
    unfold spareBy
    have eg : (pre ++ x :: s).getD i ⟨0, 0⟩ = pre.getD i ⟨0, 0⟩ := by rw [List.getD_eq_getElem?_getD, List.getD_eq_getElem?_getD, List.getElem?_append_left hi]
    rw [e0, eg]
    have : (i != pre.length) = true := by simp; omega
    rw [this, decide_eq_true hi, Bool.or_true, Bool.and_true, Bool.true_and]
  have e2 : (List.range 1).any (spareBy (pre ++ x :: s) pre.length ∘ fun y => pre.length + y) = false := by
    simp [spareBy, List.range_succ]
  have e3 : (List.range s.length).any ((spareBy (pre ++ x :: s) pre.length ∘ fun y => pre.length + y) ∘ fun y => 1 + y) = s.any (fun y => withinC x y && x != y) := by
    rw [← range_any (fun y => withinC x y && x != y) s ⟨0, 0⟩]
    refine any_congr' fun i hi => ?_
    have hi := List.mem_range.1 hi
    simp only [Function.comp]
    unfold spareBy
    have eg : (pre ++ x :: s).getD (pre.length + (1 + i)) ⟨0, 0⟩ = s.getD i ⟨0, 0⟩ := by rw [List.getD_eq_getElem?_getD, List.getD_eq_getElem?_getD, List.getElem?_append_right (by omega), show pre.length + (1 + i) - pre.length = i + 1 from by omega, List.getElem?_cons_succ]
    rw [e0, eg]
    have : (pre.length + (1 + i) != pre.length) = true := by simp
    rw [this, decide_eq_false (show ¬ pre.length + (1 + i) < pre.length by omega), Bool.or_false, Bool.true_and]
  rw [e1, e2, e3, Bool.false_or]
theorem leanR_range (s : List Cube) : ∀ pre, (List.range' pre.length s.length).filterMap (fun n => if spareP (pre ++ s) n then none else some ((pre ++ s).getD n ⟨0, 0⟩)) = leanR pre s := by
  induction s with
  | nil => intro pre; rfl
  | cons x s ih =>
    intro pre
    have ih := ih (pre ++ [x])
    have e : pre ++ [x] ++ s = pre ++ x :: s := by simp
    rw [e, show (pre ++ [x]).length = pre.length + 1 from by simp] at ih
    rw [List.length_cons, List.range'_succ, List.filterMap_cons, ih, spareP_app]
    have e0 : (pre ++ x :: s).getD pre.length ⟨0, 0⟩ = x := by simp
    rw [leanR_cons, e0]
    cases x.sound <;> cases pre.any (withinC x) <;> cases s.any (fun y => withinC x y && x != y) <;> rfl
theorem leanP_eq (l : List Cube) : leanP l = leanR [] l := by
  have := leanR_range l []
  rw [← this]
  unfold leanP leanTo
  rw [List.range_eq_range']
  rfl
theorem within_sound {x y : Cube} (h : withinC x y = true) : y.sound = true := by
  unfold withinC at h
  simp only [Bool.and_eq_true] at h
  exact h.1.1.2
theorem leanR_mem : ∀ (s pre : List Cube), ∀ k ∈ leanR pre s, k ∈ s ∧ k.sound = true
  | [], pre, k, h => by simp [leanR] at h
  | x :: s, pre, k, h => by
    rw [leanR_cons] at h
    split at h
    · rename_i hc
      rcases List.mem_cons.1 h with rfl | h
      · simp only [Bool.and_eq_true] at hc; exact ⟨by simp, hc.1.1⟩
      · obtain ⟨h1, h2⟩ := leanR_mem s _ k h; exact ⟨by simp [h1], h2⟩
    · obtain ⟨h1, h2⟩ := leanR_mem s _ k h; exact ⟨by simp [h1], h2⟩
theorem leanP_mem {l : List Cube} {k : Cube} (h : k ∈ leanP l) : k ∈ l ∧ k.sound = true := by
  rw [leanP_eq] at h; exact leanR_mem l [] k h
theorem txt_inj {a b : Cube} (ha : a.sound = true) (hb : b.sound = true) (h : txt a = txt b) : a = b := by
  have hc : ∀ n, n < 128 → chI a n = chI b n := by
    intro n hn
    have h1 := txt_at a (127 - n) (by omega)
    have h2 := txt_at b (127 - n) (by omega)
    rw [show 127 - (127 - n) = n from by omega] at h1 h2
    rw [← h1, ← h2, h]
  have key : ∀ n, n < 128 → a.c.getLsbD n = b.c.getLsbD n ∧ a.v.getLsbD n = b.v.getLsbD n := by
    intro n hn
    have h1 := hc n hn
    have sa := (sound_iff a).1 ha n hn
    have sb := (sound_iff b).1 hb n hn
    unfold chI at h1
    revert h1 sa sb
    cases a.c.getLsbD n <;> cases b.c.getLsbD n <;> cases a.v.getLsbD n <;> cases b.v.getLsbD n <;> simp
  exact cube_ext (fun j hj => (key j hj).1) (fun j hj => (key j hj).2)
theorem txt_beq {a b : Cube} (ha : a.sound = true) (hb : b.sound = true) : (txt a == txt b) = (a == b) := by
  have e : ((txt a).data == (txt b).data) = (a == b) := by
    rw [Bool.eq_iff_iff, beq_iff_eq, beq_iff_eq]
    exact ⟨fun h => txt_inj ha hb (by cases h1 : txt a; cases h2 : txt b; rw [h1, h2] at h; simp only at h; rw [h]), fun h => by rw [h]⟩
  exact e
end Go.Proofs.YtemcdefpihkfpaaGreat
set_option linter.unusedSimpArgs false
set_option linter.unusedVariables false
namespace Go.Proofs.YtemcdefpihkfpaaGreat
open Go.Proofs.YtemcdefpihkfpaaGreat.AL
theorem has_sound {k : Cube} {h : BitVec 128} (e : hasC k h = true) : k.sound = true := by unfold hasC at e; rw [Bool.and_eq_true] at e; exact e.1
theorem within_has {x y : Cube} {h : BitVec 128} (w : withinC x y = true) (hx : hasC x h = true) : hasC y h = true := by
  have sx := has_sound hx
  have sy := within_sound w
  refine (has_iff sy h).2 fun i hi hc => ?_
  obtain ⟨h1, h2⟩ := (within_iff sx sy).1 w i hi hc
  rw [← h2]; exact (has_iff sx h).1 hx i hi h1
theorem within_lt {x y : Cube} (w : withinC x y = true) (hx : x.sound = true) : y.c.toNat ≤ x.c.toNat ∧ (y.c.toNat = x.c.toNat → x = y) := by
  have sy := within_sound w
  have wi := (within_iff hx sy).1 w
  have e : y.c = y.c &&& x.c := by
    apply BitVec.eq_of_getLsbD_eq
    intro i hi
    rw [BitVec.getLsbD_and]
    cases hc : y.c.getLsbD i
    · rfl
    · rw [(wi i hi hc).1]; rfl
  refine ⟨?_, fun q => ?_⟩
  · rw [e, BitVec.toNat_and]; exact Nat.and_le_right
  · have hc : x.c = y.c := (BitVec.eq_of_toNat_eq q).symm
    refine cube_ext (fun j _ => by rw [hc]) (fun j hj => ?_)
    cases hcj : y.c.getLsbD j
    · have a := (sound_iff x).1 hx j hj
      have b := (sound_iff y).1 sy j hj
      rw [hc, hcj] at a
      rw [hcj] at b
      cases hv : x.v.getLsbD j
      · cases hv2 : y.v.getLsbD j
        · rfl
        · exact absurd (b hv2) (by decide)
      · exact absurd (a hv) (by decide)
    · exact (wi j hj hcj).2
theorem first_min {α : Type} (p : α → Bool) (m : α → Nat) (z : α) : ∀ (l : List α), l.any p = true → ∃ n, n < l.length ∧ p (l.getD n z) = true ∧ ∀ i, i < l.length → p (l.getD i z) = true → m (l.getD n z) ≤ m (l.getD i z) ∧ (i < n → m (l.getD n z) < m (l.getD i z))
  | [], h => by simp at h
  | x :: l, h => by
    by_cases hl : l.any p = true
    · obtain ⟨n, hn, hp, hm⟩ := first_min p m z l hl
      by_cases hx : p x = true ∧ m x ≤ m (l.getD n z)
      · refine ⟨0, by simp, by simpa using hx.1, fun i hi hpi => ⟨?_, by omega⟩⟩
        cases i with
        | zero => exact Nat.le_refl _
        | succ i =>
          rw [List.getD_cons_succ] at hpi
          rw [List.getD_cons_zero, List.getD_cons_succ]
          exact Nat.le_trans hx.2 (hm i (by simpa using hi) hpi).1
      · refine ⟨n + 1, by simpa using hn, by simpa using hp, fun i hi hpi => ?_⟩
        rw [List.getD_cons_succ]
        cases i with
        | zero =>
          rw [List.getD_cons_zero] at hpi ⊢
          have : m (l.getD n z) < m x := Nat.lt_of_not_le fun hle => hx ⟨hpi, hle⟩
          exact ⟨Nat.le_of_lt this, fun _ => this⟩
        | succ i =>
          rw [List.getD_cons_succ] at hpi ⊢
          have := hm i (by simpa using hi) hpi
          exact ⟨this.1, fun h => this.2 (by omega)⟩
    · have hx : p x = true := by simpa [hl] using h
      refine ⟨0, by simp, by simpa using hx, fun i hi hpi => ⟨?_, by omega⟩⟩
      cases i with
      | zero => exact Nat.le_refl _
      | succ i =>
        rw [List.getD_cons_succ] at hpi
        exact absurd (List.any_eq_true.2 ⟨l.getD i z, getD_in (by simpa using hi) z, hpi⟩) hl
theorem leanP_in {l : List Cube} {n : Nat} (hn : n < l.length) (hs : spareP l n = false) : l.getD n ⟨0, 0⟩ ∈ leanP l := by
  unfold leanP leanTo
  exact List.mem_filterMap.2 ⟨n, List.mem_range.2 hn, by rw [hs]; rfl⟩
theorem lean_has (l : List Cube) (h : BitVec 128) : hasP (leanP l) h = hasP l h := by
  apply bool_iff
  unfold hasP
  constructor
  · intro e
    obtain ⟨k, hk, hh⟩ := List.any_eq_true.1 e
    exact List.any_eq_true.2 ⟨k, (leanP_mem hk).1, hh⟩
  · intro e
    obtain ⟨n, hn, hp, hm⟩ := first_min (hasC · h) (fun k => k.c.toNat) ⟨0, 0⟩ l e
    refine List.any_eq_true.2 ⟨_, leanP_in hn ?_, hp⟩
    have sx := has_sound hp
    cases hs : spareP l n
    · rfl
    unfold spareP at hs
    rw [sx, Bool.not_true, Bool.or_false] at hs
    obtain ⟨i, hi, hb⟩ := List.any_eq_true.1 hs
    have hi := List.mem_range.1 hi
    unfold spareBy at hb
    simp only [Bool.and_eq_true, Bool.or_eq_true, bne_iff_ne, ne_eq, decide_eq_true_eq] at hb
    obtain ⟨hne, hw, ho⟩ := hb
    have hh := within_has hw hp
    obtain ⟨h1, h2⟩ := within_lt hw sx
    obtain ⟨h3, h4⟩ := hm i hi hh
    have q := h2 (by omega)
    rcases ho with ho | ho
    · exact absurd q ho
    · have := h4 ho
      rw [q] at this
      omega
theorem leanP_pair (l : List Cube) : (leanP l).Pairwise (fun x y => withinC x y = false ∧ withinC y x = false) := by
  unfold leanP leanTo
  rw [List.pairwise_filterMap]
  have hr : (List.range l.length).Pairwise (fun i j => i < j ∧ j < l.length) := by
    refine List.Pairwise.imp_of_mem ?_ List.pairwise_lt_range
    intro a b ha hb hab
    exact ⟨hab, List.mem_range.1 hb⟩
  refine hr.imp ?_
  intro i j ⟨hij, hj⟩ x hx y hy
  have key : ∀ n, n < l.length → spareP l n = false → (l.getD n ⟨0, 0⟩).sound = true ∧ ∀ i, i < l.length → i ≠ n → withinC (l.getD n ⟨0, 0⟩) (l.getD i ⟨0, 0⟩) = true → l.getD n ⟨0, 0⟩ = l.getD i ⟨0, 0⟩ ∧ n < i := by
    intro n hn hs
    unfold spareP at hs
    rw [Bool.or_eq_false_iff, List.any_eq_false] at hs
    refine ⟨by simpa using hs.2, fun i hi hne hw => ?_⟩
    have := hs.1 i (List.mem_range.2 hi)
    unfold spareBy at this
    rw [hw] at this
    simp only [Bool.true_and, Bool.and_eq_true, Bool.or_eq_true, bne_iff_ne, ne_eq, decide_eq_true_eq] at this
    by_cases e : l.getD n ⟨0, 0⟩ = l.getD i ⟨0, 0⟩
    · exact ⟨e, by
        refine Classical.byContradiction fun hlt => this ⟨hne, .inr (by omega)⟩⟩
    · exact absurd ⟨hne, .inl e⟩ this
  cases hs : spareP l i
  · cases hs2 : spareP l j
    · rw [hs] at hx
      rw [hs2] at hy
      simp only [Bool.false_eq_true, if_false, Option.some.injEq] at hx hy
      obtain ⟨s1, k1⟩ := key i (by omega) hs
      obtain ⟨s2, k2⟩ := key j hj hs2
      rw [hx] at s1 k1
      rw [hy] at s2 k2
      have k1 := k1 j hj (by omega)
      have k2 := k2 i (by omega) (by omega)
      rw [hy] at k1
      rw [hx] at k2
      constructor
      · cases hw : withinC x y
        · rfl
        · obtain ⟨e, _⟩ := k1 hw
          subst e
          have := (k2 hw).2
          omega
      · cases hw : withinC y x
        · rfl
        · have := (k2 hw).2
          omega
    · rw [hs2] at hy; simp at hy
  · rw [hs] at hx; simp at hx
theorem meet_hasC (x y : Cube) (h : BitVec 128) : (meetO x y && hasC (meetV x y) h) = (hasC x h && hasC y h) := by
  apply bool_iff
  rw [Bool.and_eq_true, Bool.and_eq_true]
  constructor
  · rintro ⟨hm, hh⟩
    have hm' := hm
    unfold meetO at hm'
    simp only [Bool.and_eq_true] at hm'
    obtain ⟨⟨sx, sy⟩, ha⟩ := hm'
    have ha := (apart_iff x y).1 ha
    have sm := has_sound hh
    have hh := (has_iff sm h).1 hh
    have e : meetV x y = ⟨x.v ||| y.v, x.c ||| y.c⟩ := by unfold meetV; rw [hm]; rfl
    rw [e] at hh
    simp only [BitVec.getLsbD_or, Bool.or_eq_true] at hh
    constructor
    · refine (has_iff sx h).2 fun i hi hc => ?_
      rw [hh i hi (.inl hc)]
      cases hy : y.v.getLsbD i
      · simp
      · have hcy := (sound_iff y).1 sy i hi hy
        rw [ha i hi hc hcy, hy]; rfl
    · refine (has_iff sy h).2 fun i hi hc => ?_
      rw [hh i hi (.inr hc)]
      cases hx : x.v.getLsbD i
      · simp
      · have hcx := (sound_iff x).1 sx i hi hx
        rw [← ha i hi hcx hc, hx]; rfl
  · rintro ⟨hx, hy⟩
    have sx := has_sound hx
    have sy := has_sound hy
    have ex := (has_iff sx h).1 hx
    have ey := (has_iff sy h).1 hy
    have hm : meetO x y = true := by
      unfold meetO
      rw [sx, sy, Bool.true_and, Bool.true_and]
      exact (apart_iff x y).2 fun i hi h1 h2 => by rw [← ex i hi h1, ← ey i hi h2]
    refine ⟨hm, ?_⟩
    have e : meetV x y = ⟨x.v ||| y.v, x.c ||| y.c⟩ := by unfold meetV; rw [hm]; rfl
    have sm : (meetV x y).sound = true := by
      rw [e]
      refine (sound_iff _).2 fun i hi hv => ?_
      simp only [BitVec.getLsbD_or, Bool.or_eq_true] at hv ⊢
      rcases hv with hv | hv
      · exact .inl ((sound_iff x).1 sx i hi hv)
      · exact .inr ((sound_iff y).1 sy i hi hv)
    refine (has_iff sm h).2 fun i hi hc => ?_
    rw [e] at hc ⊢
    simp only [BitVec.getLsbD_or, Bool.or_eq_true] at hc ⊢
    have z : ∀ (k : Cube), k.sound = true → k.c.getLsbD i = false → k.v.getLsbD i = false := by
      intro k sk hc
      cases hv : k.v.getLsbD i
      · rfl
      · rw [(sound_iff k).1 sk i hi hv] at hc; cases hc
    cases hcx : x.c.getLsbD i
    · rw [hcx] at hc
      simp only [Bool.false_eq_true, false_or] at hc
      rw [z x sx hcx, ey i hi hc]; simp
    · cases hcy : y.c.getLsbD i
      · rw [z y sy hcy, ex i hi hcx]; simp
      · rw [← ex i hi hcx, ← ey i hi hcy]; simp
theorem meets_has (a b : List Cube) (h : BitVec 128) : hasP (meetsP a b) h = (hasP a h && hasP b h) := by
  apply bool_iff
  unfold hasP meetsP meetRow
  rw [Bool.and_eq_true]
  constructor
  · intro e
    obtain ⟨k, hk, hh⟩ := List.any_eq_true.1 e
    obtain ⟨x, hx, hk⟩ := List.mem_flatMap.1 hk
    obtain ⟨y, hy, hk⟩ := List.mem_filterMap.1 hk
    unfold meetOne at hk
    split at hk
    · rename_i hm
      have hk := Option.some.inj hk
      have mh := meet_hasC x y h
      rw [hm, hk, hh] at mh
      have mh := mh.symm
      rw [Bool.and_self, Bool.and_eq_true] at mh
      exact ⟨List.any_eq_true.2 ⟨x, hx, mh.1⟩, List.any_eq_true.2 ⟨y, hy, mh.2⟩⟩
    · cases hk
  · rintro ⟨e1, e2⟩
    obtain ⟨x, hx, h1⟩ := List.any_eq_true.1 e1
    obtain ⟨y, hy, h2⟩ := List.any_eq_true.1 e2
    have mh := meet_hasC x y h
    rw [h1, h2, Bool.and_self, Bool.and_eq_true] at mh
    refine List.any_eq_true.2 ⟨meetV x y, List.mem_flatMap.2 ⟨x, hx, List.mem_filterMap.2 ⟨y, hy, ?_⟩⟩, mh.2⟩
    unfold meetOne; rw [mh.1]; rfl
theorem countP_any {α : Type} (p : α → Bool) (l : List α) : l.any p = decide (l.countP p ≠ 0) := by
  apply bool_iff
  rw [List.any_eq_true, decide_eq_true_eq, ← List.countP_pos_iff]
  omega
theorem lessL_has {x y : Cube} (hx : x.sound = true) (hy : y.sound = true) (h : BitVec 128) : (lessL x y).any (hasC · h) = (hasC x h && !hasC y h) := by
  have pc := parts_count hx hy h
  rw [meet_hasC] at pc
  rw [countP_any]
  generalize (lessL x y).countP (hasC · h) = c at pc ⊢
  revert pc
  cases hasC x h <;> cases hasC y h <;> simp [cnt] <;> omega
theorem lessRest_has {out : List Cube} {y : Cube} (hs : ∀ k ∈ out, k.sound = true) (hy : y.sound = true) (h : BitVec 128) : hasP (lessRest out y) h = (hasP out h && !hasC y h) := by
  unfold hasP lessRest
  rw [List.any_flatMap]
  have : ∀ x ∈ out, ((lessL x y).any (hasC · h)) = (hasC x h && !hasC y h) := fun x hx => lessL_has (hs x hx) hy h
  rw [any_congr' this]
  induction out with
  | nil => rfl
  | cons x out ih =>
    rw [List.any_cons, List.any_cons, ih (fun k hk => hs k (by simp [hk])) (fun k hk => this k (by simp [hk]))]
    cases hasC x h <;> cases hasC y h <;> simp
theorem lessRest_sound {out : List Cube} {y : Cube} (hs : ∀ k ∈ out, k.sound = true) : ∀ k ∈ lessRest out y, k.sound = true := by
  intro k hk
  unfold lessRest at hk
  obtain ⟨x, hx, hk⟩ := List.mem_flatMap.1 hk
  exact (lessL_mem (hs x hx) hk).1
theorem leanE_val (l : List Cube) (h : leanE l = 0) : leanV l = leanP l := by
  unfold leanE at h
  unfold leanV
  split at h
  · cases h
  · rename_i h2; rw [if_neg h2]
theorem leanE_or (l : List Cube) : leanE l = 0 ∨ leanE l = 10 ∧ leanV l = [] := by
  unfold leanE leanV
  split
  · exact .inr ⟨rfl, rfl⟩
  · exact .inl rfl
theorem less_has (h : BitVec 128) : ∀ (b out : List Cube), (∀ k ∈ b, k.sound = true) → (∀ k ∈ out, k.sound = true) → (lessP b out).2 = 0 → (hasP (lessP b out).1 h = (hasP out h && !hasP b h) ∧ ∀ k ∈ (lessP b out).1, k.sound = true)
  | [], out, _, hs, _ => by unfold lessP; exact ⟨by simp [hasP], hs⟩
  | y :: r, out, hb, hs, he => by
    unfold lessP at he ⊢
    split
    · rename_i h0
      rw [if_pos h0] at he
      have sv : ∀ k ∈ leanV (lessRest out y), k.sound = true := by
        rw [leanE_val _ h0]
        exact fun k hk => (leanP_mem hk).2
      obtain ⟨h1, h2⟩ := less_has h r _ (fun k hk => hb k (by simp [hk])) sv he
      refine ⟨?_, h2⟩
      rw [h1, leanE_val _ h0, lean_has, lessRest_has hs (hb y (by simp))]
      unfold hasP
      rw [List.any_cons]
      cases hasC y h <;> simp
    · rename_i h0
      rw [if_neg h0] at he
      exact absurd he h0
theorem soundP_all {l : List Cube} (h : soundP l = true) : ∀ k ∈ l, k.sound = true := by
  unfold soundP at h
  rw [Bool.and_eq_true] at h
  exact List.all_eq_true.1 h.2
def meetPV (a b : List Cube) : List Cube := if soundP a && soundP b then leanV (meetsP a b) else []
def meetPE (a b : List Cube) : Int := if soundP a && soundP b then leanE (meetsP a b) else 2
theorem lessP_len : ∀ (b out : List Cube), out.length ≤ 200 → (lessP b out).1.length ≤ 200
  | [], out, h => h
  | y :: r, out, h => by
    unfold lessP
    split
    · exact lessP_len r _ (leanV_len _)
    · simp
theorem lessPR_len (a b : List Cube) : (lessPR a b).1.length ≤ 200 := by
  unfold lessPR
  split
  · rename_i h
    rw [Bool.and_eq_true] at h
    exact lessP_len b a (soundP_len h.1)
  · simp
theorem joinV_len (a b : List Cube) : (joinV a b).length ≤ 200 := by
  unfold joinV
  split
  · exact leanV_len _
  · simp
theorem meetPV_len (a b : List Cube) : (meetPV a b).length ≤ 200 := by
  unfold meetPV
  split
  · exact leanV_len _
  · simp
theorem meetsP_len (a b : List Cube) : (meetsP a b).length ≤ a.length * b.length := by
  unfold meetsP
  induction a with
  | nil => simp
  | cons x a ih =>
    rw [List.flatMap_cons, List.length_append, List.length_cons, Nat.add_mul, Nat.one_mul]
    have : (meetRow b x).length ≤ b.length := List.length_filterMap_le _ _
    omega
end Go.Proofs.YtemcdefpihkfpaaGreat
set_option linter.unusedSimpArgs false
set_option linter.unusedVariables false
namespace Go.Proofs.YtemcdefpihkfpaaGreat
open Go.Proofs.YtemcdefpihkfpaaGreat.AL
theorem meetP_has {a b : List Cube} (h : BitVec 128) (e : meetPE a b = 0) : hasP (meetPV a b) h = (hasP a h && hasP b h) := by
  unfold meetPE at e
  unfold meetPV
  split at e
  · rename_i s
    rw [if_pos s, leanE_val _ e, lean_has, meets_has]
  · cases e
theorem lessPR_has {a b : List Cube} (h : BitVec 128) (e : (lessPR a b).2 = 0) : hasP (lessPR a b).1 h = (hasP a h && !hasP b h) := by
  unfold lessPR at e ⊢
  split
  · rename_i s
    rw [if_pos s] at e
    rw [Bool.and_eq_true] at s
    exact (less_has h b a (soundP_all s.2) (soundP_all s.1) e).1
  · rename_i s
    rw [if_neg s] at e
    cases e
end Go.Proofs.YtemcdefpihkfpaaGreat
set_option linter.unusedSimpArgs false
set_option linter.unusedVariables false
namespace Go.Proofs.YtemcdefpihkfpaaGreat
open Go Go.Proofs.YtemcdefpihkfpaaGreat.AL
def DLe (x y : Dat) : Prop := ∀ (w : World) (g : Nat → Nat) (v : Value), RelD w g v x → RelD w g v y
inductive DLes : List Dat → List Dat → Prop
  | nil : DLes [] []
  | cons {x y : Dat} {xs ys : List Dat} (h : DLe x y) (t : DLes xs ys) : DLes (x :: xs) (y :: ys)
theorem dle_refl (x : Dat) : DLe x x := fun _ _ _ h => h
theorem DLes.refl : ∀ xs : List Dat, DLes xs xs
  | [] => .nil
  | x :: xs => .cons (dle_refl x) (DLes.refl xs)
theorem DLes.of_eq {xs ys : List Dat} (h : xs = ys) : DLes xs ys := h ▸ DLes.refl xs
theorem DLes.length {xs ys : List Dat} (h : DLes xs ys) : xs.length = ys.length := by
  induction h with
  | nil => rfl
  | cons _ _ ih => simp [ih]
theorem DLes.at {xs ys : List Dat} (h : DLes xs ys) : ∀ {j : Nat} {y : Dat}, ys[j]? = some y → ∃ x, xs[j]? = some x ∧ DLe x y := by
  induction h with
  | nil => intro j y h; simp at h
  | cons h t ih =>
    intro j y hy
    cases j with
    | zero => simp at hy; subst hy; exact ⟨_, by simp, h⟩
    | succ j => simp at hy; obtain ⟨x, h1, h2⟩ := ih hy; exact ⟨x, by simpa using h1, h2⟩
theorem dle_sl {sz n n' : Nat} {f f' : Nat → List Dat} (hn : n = n') (hf : ∀ i, i < n → DLes (f i) (f' i)) : DLe (.sl sz n f) (.sl sz n' f') := by
  subst hn
  intro w g v r
  cases r with
  | sl0 a c sz f => exact .sl0 _ _ _ _
  | sl b off n c sz f u h1 h2 h3 h4 h5 =>
    refine .sl b off n c sz f' u h1 (fun i hi => by rw [← (hf i hi).length]; exact h2 i hi) h3 h4 (fun i j y hi hy => ?_)
    obtain ⟨x, k1, k2⟩ := (hf i hi).at hy
    exact k2 _ _ _ (h5 i j x hi k1)
theorem dle_emp {a : Option Addr} {c sz : Nat} {f : Nat → List Dat} : DLe (.v (.slice a 0 c)) (.sl sz 0 f) := by
  intro w g v r
  cases r
  exact .sl0 _ _ _ _
theorem ple_d {x y : Dat} (h : DLe x y) : PLe (.d x) (.d y) := by
  intro w g v r
  cases r with
  | d _ _ r => exact .d _ _ (h _ _ _ r)
end Go.Proofs.YtemcdefpihkfpaaGreat
set_option linter.unusedSimpArgs false
set_option linter.unusedVariables false
namespace Go.Proofs.YtemcdefpihkfpaaGreat
open Go Go.Proofs.YtemcdefpihkfpaaGreat.AL
structure Atm where
  ids : List Int
  h : BitVec 128
  p : List Cube
def at0 : Atm := ⟨[], 0, []⟩
def atD (a : Atm) : List Dat := [.sl 1 a.ids.length (rowZ a.ids), .v (.int .u64 (hi a.h)), .v (.int .u64 (lo a.h)), .sl 4 a.p.length (rowC a.p)]
def rowAt (l : List Atm) : Nat → List Dat := fun i => atD (l.getD i at0)
theorem rowAt_at (l : List Atm) (i : Nat) : rowAt l i = atD (l.getD i at0) := rfl
theorem rowAt_put (out : List Atm) (a : Atm) (i : Nat) (hlt : i < out.length + 1) : catF out.length (rowAt out) (fun i => [atD a].getD i []) i = rowAt (out ++ [a]) i := catF_put atD at0 out a _ rfl i hlt
theorem rowAt_app (a b : List Atm) (i : Nat) : catF a.length (rowAt a) (rowAt b) i = rowAt (a ++ b) i := by
  unfold catF rowAt
  split
  · rename_i h
    rw [List.getD_eq_getElem?_getD, List.getD_eq_getElem?_getD, List.getElem?_append_left h]
  · rename_i h
    rw [List.getD_eq_getElem?_getD, List.getD_eq_getElem?_getD, List.getElem?_append_right (by omega)]
def smallA (l : List Atm) : Prop := l.length ≤ 1048576 ∧ ∀ a ∈ l, a.ids.length ≤ 1048576 ∧ a.p.length ≤ 1048576
def pickH (p : List Cube) : BitVec 128 := ((pickP p).getD ⟨0, 0⟩).v
theorem atom_c (ids : List Int) (p : List Cube) (hp : p.length ≤ 1099511627776) : ACalls Tryz.prog 126 [.d (.sl 1 ids.length (rowZ ids)), .d (.sl 4 p.length (rowC p))] (· = [.agg (atD ⟨ids, pickH p, p⟩), .d (.v (.bool (pickP p).isSome))]) := by
  have pk := Pick_c p (by omega)
  unfold pickH atD
  simp only []
  generalize ((pickP p).getD ⟨0, 0⟩).v = h at pk
  generalize (pickP p).isSome = b at pk
  refine q10 Tryz.func126 rfl (by decide +kernel) (by rw [Tryz.ntmps126]; simp) ?_; rw [Tryz.ntmps126]; simp only [frOf]
  (repeat (first | refine q0 ?_ | refine j6 rfl ?_ | refine q7 rfl ?_ | refine q6 ?_ | (refine q4 fun K hK => ?_) | (refine x4 (by kernel_rfl) (by kernel_rfl) fun K hK => ?_) | ((first | refine j5 ?_ | refine z6 ?_ | ((first | refine q5 (hK _ ?_) | refine x5 (hK _ _ (j4 (by kernel_rfl)) ?_)); clear hK K)); (first | show AWP _ _ _ _ _ | ((try simp only [x6]); first | show loopQ _ _ _ _ _ _ | show cutQ _ _ _ _ | show AWP _ _ _ _ _))) | ((first | refine q9 rfl rfl rfl ?_ | refine x9 rfl rfl rfl ?_); simp (maxSteps := 2000000) (disch := omega) only [go_sem, seval, hd, cb]; (first | refine ⟨_, pk, ?_⟩)) | ((first | refine z7 [4] rfl ?_ | refine x7 [4] rfl ?_); simp (maxSteps := 2000000) (disch := omega) only [go_sem, seval, hd, cb]; (repeat (first | refine ⟨by omega, ?_⟩ | refine ⟨True.intro, ?_⟩)))))
  refine j9 ⟨_, ?_, rfl⟩; rw [Tryz.results126]; simp (disch := omega) only [ResVars, ResVar, ptrLoc, go_sem, seval, hd, cb]
def pickAt (ids : List Int) (p : List Cube) : List Atm := if (pickP p).isSome then [⟨ids, pickH p, p⟩] else []
def partA (a : Atm) (id : Int) (q : List Cube) : List Atm × Int :=
  if meetPE a.p q ≠ 0 then ([], meetPE a.p q) else if (lessPR a.p q).2 ≠ 0 then ([], (lessPR a.p q).2)
  else (pickAt (joinZ a.ids [id]) (meetPV a.p q) ++ pickAt a.ids (lessPR a.p q).1, 0)
theorem pickAt_len (ids : List Int) (p : List Cube) : (pickAt ids p).length ≤ 1 := by
  unfold pickAt; split <;> simp
theorem partA_len (a : Atm) (id : Int) (q : List Cube) : (partA a id q).1.length ≤ 2 := by
  have h1 := pickAt_len (joinZ a.ids [id]) (meetPV a.p q)
  have h2 := pickAt_len a.ids (lessPR a.p q).1
  unfold partA
  split
  · simp
  · split
    · simp
    · simp only [List.length_append]; omega
set_option maxRecDepth 100000 in
set_option maxHeartbeats 4000000 in
theorem part_c (a : Atm) (id : Int) (q : List Cube) (h1 : a.ids.length ≤ 1048576) (h2 : a.p.length ≤ 1048576) (h3 : q.length ≤ 1048576) : ACalls Tryz.prog 87 [.agg (atD a), .d (.v (.int .i64 id)), .d (.sl 4 q.length (rowC q))]
    (· = [.d (.sl 4 (partA a id q).1.length (rowAt (partA a id q).1)), .d (.v (.int .i64 (partA a id q).2))]) := by
  have mt : ACalls Tryz.prog 67 [.d (.sl 4 a.p.length (rowC a.p)), .d (.sl 4 q.length (rowC q))] (· = [.d (.sl 4 (meetPV a.p q).length (rowC (meetPV a.p q))), .d (.v (.int .i64 (meetPE a.p q)))]) := MeetP_c a.p q (by omega) (by omega)
  have ls := LessP_c a.p q (by omega) (by omega)
  have jn := JoinS_c a.ids [id] (by omega) (by simp)
  have ml := meetPV_len a.p q
  have ll := lessPR_len a.p q
  have a1 := atom_c (joinZ a.ids [id]) (meetPV a.p q) (by omega)
  have a2 := atom_c a.ids (lessPR a.p q).1 (by omega)
  have cz := CloneZ_c a.ids (by omega)
  have jn : ACalls Tryz.prog 127 [.d (.sl 1 a.ids.length (rowZ a.ids)), .d (.sl 1 1 fun i => [[Dat.v (.int .i64 id)]].getD i [])] (· = [.d (.sl 1 (joinZ a.ids [id]).length (rowZ (joinZ a.ids [id])))]) :=
    acalls_le (.cons (ple_refl _) (.cons (ple_sl rfl fun i hi => by
      obtain rfl : i = 0 := by omega
      rfl) .nil)) jn
  unfold partA pickAt
  generalize meetPE a.p q = e1 at mt
  generalize (lessPR a.p q).2 = e2 at ls
  generalize joinZ a.ids [id] = js at jn a1
  generalize pickH (meetPV a.p q) = k1 at a1
  generalize (pickP (meetPV a.p q)).isSome = b1 at a1
  generalize pickH (lessPR a.p q).1 = k2 at a2
  generalize (pickP (lessPR a.p q).1).isSome = b2 at a2
  generalize meetPV a.p q = mV at mt a1
  generalize (lessPR a.p q).1 = lV at ls a2
  unfold atD at *
  simp only [] at a1 a2
  by_cases h4 : e1 = 0
  · subst h4
    rw [if_neg (by simp)]
    by_cases h5 : e2 = 0
    · subst h5
      rw [if_neg (by simp)]
      cases b1 <;> cases b2
      all_goals
        simp only [Bool.false_eq_true, if_false, if_true]
        refine q10 Tryz.func87 rfl (by decide +kernel) (by rw [Tryz.ntmps87]; simp) ?_; rw [Tryz.ntmps87]; simp only [frOf]
        (repeat ((fail_if_success (show AWP _ _ (.region 2 _ _) _ _)); first | refine q0 ?_ | refine j6 rfl ?_ | refine q7 rfl ?_ | refine q6 ?_ | (refine q4 fun K hK => ?_) | (refine x4 (by kernel_rfl) (by kernel_rfl) fun K hK => ?_) | ((first | refine j5 ?_ | refine z6 ?_ | ((first | refine q5 (hK _ ?_) | refine x5 (hK _ _ (j4 (by kernel_rfl)) ?_)); clear hK K)); (first | show AWP _ _ _ _ _ | ((try simp only [x6]); first | show loopQ _ _ _ _ _ _ | show cutQ _ _ _ _ | show AWP _ _ _ _ _))) | ((first | refine z7 [] rfl ?_ | refine x7 [] rfl ?_); simp (maxSteps := 2000000) (disch := omega) only [go_sem, seval, hd, cb]; (repeat (first | refine ⟨by omega, ?_⟩ | refine ⟨True.intro, ?_⟩)))))
        refine awp_grow 8 8 4 42 (rowAt []) rfl (by kernel_rfl) rfl ?_
        (repeat (first | refine q0 ?_ | refine j6 rfl ?_ | refine q7 rfl ?_ | refine q6 ?_ | (refine q4 fun K hK => ?_) | (refine x4 (by kernel_rfl) (by kernel_rfl) fun K hK => ?_) | ((first | refine j5 ?_ | refine z6 ?_ | ((first | refine q5 (hK _ ?_) | refine x5 (hK _ _ (j4 (by kernel_rfl)) ?_)); clear hK K)); (first | show AWP _ _ _ _ _ | ((try simp only [x6]); first | show loopQ _ _ _ _ _ _ | show cutQ _ _ _ _ | show AWP _ _ _ _ _))) | ((first | refine q9 rfl rfl rfl ?_ | refine x9 rfl rfl rfl ?_); simp (maxSteps := 2000000) (disch := omega) only [go_sem, seval, hd, cb]; (first | refine ⟨_, mt, ?_⟩ | refine ⟨_, jn, ?_⟩ | refine ⟨_, a1, ?_⟩ | refine ⟨_, ls, ?_⟩ | refine ⟨_, cz, ?_⟩ | refine ⟨_, a2, ?_⟩)) | ((first | refine z7 [] rfl ?_ | refine x7 [] rfl ?_); simp (maxSteps := 2000000) (disch := omega) only [go_sem, seval, hd, cb]; (repeat (first | refine ⟨by omega, ?_⟩ | refine ⟨True.intro, ?_⟩)))))
      · refine awp_slot 6 _ (.p (.d (.sl 4 ([] : List Atm).length (rowAt [])))) rfl (le_gr rfl (fun i hi => by omega)) ?_
        refine j9 ⟨_, ?_, rfl⟩; rw [Tryz.results87]; simp (disch := omega) only [ResVars, ResVar, ptrLoc, go_sem, seval, hd, cb]
      · refine awp_slot 6 _ (.p (.d (.sl 4 1 (rowAt [⟨a.ids, k2, lV⟩])))) rfl (le_gr rfl (fun i (hi : i < 1) => by
          obtain rfl : i = 0 := by omega
          rfl)) ?_
        refine j9 ⟨_, ?_, rfl⟩; rw [Tryz.results87]; simp (disch := omega) only [ResVars, ResVar, ptrLoc, go_sem, seval, hd, cb]
      · refine awp_slot 6 _ (.p (.d (.sl 4 1 (rowAt [⟨js, k1, mV⟩])))) rfl (le_gr rfl (fun i (hi : i < 1) => by
          obtain rfl : i = 0 := by omega
          rfl)) ?_
        refine j9 ⟨_, ?_, rfl⟩; rw [Tryz.results87]; simp (disch := omega) only [ResVars, ResVar, ptrLoc, go_sem, seval, hd, cb]
      · refine awp_slot 6 _ (.p (.d (.sl 4 2 (rowAt [⟨js, k1, mV⟩, ⟨a.ids, k2, lV⟩])))) rfl (le_gr rfl (fun i (hi : i < 2) => by
          have : i = 0 ∨ i = 1 := by omega
          rcases this with rfl | rfl <;> rfl)) ?_
        refine j9 ⟨_, ?_, rfl⟩; rw [Tryz.results87]; simp (disch := omega) only [ResVars, ResVar, ptrLoc, go_sem, seval, hd, cb]
    · rw [if_pos h5]
      have q2 := ine_tt h5
      cases b1
      all_goals
        refine q10 Tryz.func87 rfl (by decide +kernel) (by rw [Tryz.ntmps87]; simp) ?_; rw [Tryz.ntmps87]; simp only [frOf]
        (repeat ((fail_if_success (show AWP _ _ (.region 2 _ _) _ _)); first | refine q0 ?_ | refine j6 rfl ?_ | refine q7 rfl ?_ | refine q6 ?_ | (refine q4 fun K hK => ?_) | (refine x4 (by kernel_rfl) (by kernel_rfl) fun K hK => ?_) | ((first | refine j5 ?_ | refine z6 ?_ | ((first | refine q5 (hK _ ?_) | refine x5 (hK _ _ (j4 (by kernel_rfl)) ?_)); clear hK K)); (first | show AWP _ _ _ _ _ | ((try simp only [x6]); first | show loopQ _ _ _ _ _ _ | show cutQ _ _ _ _ | show AWP _ _ _ _ _))) | ((first | refine z7 [] rfl ?_ | refine x7 [] rfl ?_); simp (maxSteps := 2000000) (disch := omega) only [go_sem, seval, hd, cb, q2]; (repeat (first | refine ⟨by omega, ?_⟩ | refine ⟨True.intro, ?_⟩)))))
        refine awp_grow 8 8 4 42 (rowAt []) rfl (by kernel_rfl) rfl ?_
        (repeat (first | refine q0 ?_ | refine j6 rfl ?_ | refine q7 rfl ?_ | refine q6 ?_ | (refine q4 fun K hK => ?_) | (refine x4 (by kernel_rfl) (by kernel_rfl) fun K hK => ?_) | ((first | refine j5 ?_ | refine z6 ?_ | ((first | refine q5 (hK _ ?_) | refine x5 (hK _ _ (j4 (by kernel_rfl)) ?_)); clear hK K)); (first | show AWP _ _ _ _ _ | ((try simp only [x6]); first | show loopQ _ _ _ _ _ _ | show cutQ _ _ _ _ | show AWP _ _ _ _ _))) | ((first | refine q9 rfl rfl rfl ?_ | refine x9 rfl rfl rfl ?_); simp (maxSteps := 2000000) (disch := omega) only [go_sem, seval, hd, cb, q2]; (first | refine ⟨_, mt, ?_⟩ | refine ⟨_, jn, ?_⟩ | refine ⟨_, a1, ?_⟩ | refine ⟨_, ls, ?_⟩)) | ((first | refine z7 [] rfl ?_ | refine x7 [] rfl ?_); simp (maxSteps := 2000000) (disch := omega) only [go_sem, seval, hd, cb, q2]; (repeat (first | refine ⟨by omega, ?_⟩ | refine ⟨True.intro, ?_⟩)))))
        refine awp_slot 6 _ (.p (.d (.sl 4 ([] : List Atm).length (rowAt [])))) rfl (le_nil 4 _ _ rfl) ?_
        refine j9 ⟨_, ?_, rfl⟩; rw [Tryz.results87]; simp (disch := omega) only [ResVars, ResVar, ptrLoc, go_sem, seval, hd, cb, q2]
  · rw [if_pos h4]
    have q1 := ine_tt h4
    refine q10 Tryz.func87 rfl (by decide +kernel) (by rw [Tryz.ntmps87]; simp) ?_; rw [Tryz.ntmps87]; simp only [frOf]
    (repeat (first | refine q0 ?_ | refine j6 rfl ?_ | refine q7 rfl ?_ | refine q6 ?_ | (refine q4 fun K hK => ?_) | (refine x4 (by kernel_rfl) (by kernel_rfl) fun K hK => ?_) | ((first | refine j5 ?_ | refine z6 ?_ | ((first | refine q5 (hK _ ?_) | refine x5 (hK _ _ (j4 (by kernel_rfl)) ?_)); clear hK K)); (first | show AWP _ _ _ _ _ | ((try simp only [x6]); first | show loopQ _ _ _ _ _ _ | show cutQ _ _ _ _ | show AWP _ _ _ _ _))) | ((first | refine q9 rfl rfl rfl ?_ | refine x9 rfl rfl rfl ?_); simp (maxSteps := 2000000) (disch := omega) only [go_sem, seval, hd, cb, q1]; (first | refine ⟨_, mt, ?_⟩)) | ((first | refine z7 [] rfl ?_ | refine x7 [] rfl ?_); simp (maxSteps := 2000000) (disch := omega) only [go_sem, seval, hd, cb, q1]; (repeat (first | refine ⟨by omega, ?_⟩ | refine ⟨True.intro, ?_⟩)))))
    refine awp_slot 6 _ (.p (.d (.sl 4 ([] : List Atm).length (rowAt [])))) rfl (le_nil 4 _ _ rfl) ?_
    refine j9 ⟨_, ?_, rfl⟩; rw [Tryz.results87]; simp (disch := omega) only [ResVars, ResVar, ptrLoc, go_sem, seval, hd, cb, q1]
end Go.Proofs.YtemcdefpihkfpaaGreat
set_option linter.unusedSimpArgs false
set_option linter.unusedVariables false
namespace Go.Proofs.YtemcdefpihkfpaaGreat
open Go.Proofs.YtemcdefpihkfpaaGreat.AL
def ixAtI (l : List Atm) (g : FuncId) (caps : List PV) (p : Atm → Bool) (R : Int) (s : {i : Nat // i ≤ l.length ∧ idxF p (l.drop i) i = R}) : ASt :=
  ⟨[(8, .p (.d (.v (.int .i64 (s.val : Int))))), (7, .p (.d (.v (.int .i64 (l.length : Int))))), (1, .p (.fn (.func g) [] caps)), (0, .p (.d (.sl 4 l.length (rowAt l))))], []⟩
theorem IndexAt_c (g : FuncId) (caps : List PV) (p : Atm → Bool) (l : List Atm) (hl : l.length ≤ 140737488355328) (hp : ∀ k ∈ l, ACalls Tryz.prog g (.agg (atD k) :: caps) (· = [.d (.v (.bool (p k)))])) :
    ACalls Tryz.prog 47 [.d (.sl 4 l.length (rowAt l)), .fn (.func g) [] caps] (· = [.d (.v (.int .i64 (idxF p l 0)))]) := by
  obtain ⟨R, hR⟩ : ∃ R, idxF p l 0 = R := ⟨_, rfl⟩
  rw [hR]
  refine q10 Tryz.func47 rfl (by decide +kernel) (by rw [Tryz.ntmps47]; simp) ?_; rw [Tryz.ntmps47]; simp only [frOf]
  (repeat (first | refine q0 ?_ | refine j6 rfl ?_ | refine q7 rfl ?_ | refine q6 ?_ | (refine q4 fun K hK => ?_) | (refine x4 (by kernel_rfl) (by kernel_rfl) fun K hK => ?_) | ((first | refine j5 ?_ | refine z6 ?_ | ((first | refine q5 (hK _ ?_) | refine x5 (hK _ _ (j4 (by kernel_rfl)) ?_)); clear hK K)); (first | show AWP _ _ _ _ _ | ((try simp only [x6]); first | show loopQ _ _ _ _ _ _ | show cutQ _ _ _ _ | show AWP _ _ _ _ _))) | ((first | refine z7 [] rfl ?_ | refine x7 [] rfl ?_); simp (maxSteps := 2000000) (disch := omega) only [go_sem, seval, hd, cb, atD]; (repeat (first | refine ⟨by omega, ?_⟩ | refine ⟨True.intro, ?_⟩)))))
  refine awp_loop (ixAtI l g caps p R) (fun s => l.length - s.val) ⟨0, by omega, by rw [List.drop_zero]; exact hR⟩ ?_ (fun s => ?_)
  · unfold ixAtI
    refine Weak.list ?_ ?_; (all_goals simp (disch := omega) only [AllF, AllL, x10, j10, z10, exists_eq_left', Option.some.injEq, go_sem, seval, hd, cb, atD]); (all_goals (repeat' (with_reducible apply And.intro))); (all_goals try (first | exact j7 rfl | (refine q11 ?_; omega) | (refine j7 ?_; simp; done)))
  obtain ⟨i, hi, he⟩ := s
  unfold ixAtI
  by_cases hn : i < l.length
  · rw [drop_getD l i at0 hn] at he
    have r1 := rowAt_at l i
    have hk := hp _ (getD_in hn at0)
    generalize l.getD i at0 = K at he r1 hk
    unfold idxF at he
    cases hb : p K
    all_goals
      rw [hb] at he hk
      simp only [Bool.false_eq_true, if_false, if_true] at he
      (repeat (first | refine q0 ?_ | refine j6 rfl ?_ | refine q7 rfl ?_ | refine q6 ?_ | (refine q4 fun K hK => ?_) | (refine x4 (by kernel_rfl) (by kernel_rfl) fun K hK => ?_) | ((first | refine j5 ?_ | refine z6 ?_ | ((first | refine q5 (hK _ ?_) | refine x5 (hK _ _ (j4 (by kernel_rfl)) ?_)); clear hK K)); (first | show AWP _ _ _ _ _ | ((try simp only [x6]); first | show loopQ _ _ _ _ _ _ | show cutQ _ _ _ _ | show AWP _ _ _ _ _))) | ((first | refine q9 rfl rfl rfl ?_ | refine x9 rfl rfl rfl ?_); simp (maxSteps := 2000000) (disch := omega) only [go_sem, seval, hd, cb, atD, r1]; (first | refine ⟨_, hk, ?_⟩)) | ((first | refine z7 [] rfl ?_ | refine x7 [] rfl ?_); simp (maxSteps := 2000000) (disch := omega) only [go_sem, seval, hd, cb, atD, r1]; (repeat (first | refine ⟨by omega, ?_⟩ | refine ⟨True.intro, ?_⟩)))))
    · refine ⟨⟨i + 1, by omega, he⟩, by simp only []; omega, ?_⟩
      refine Weak.list ?_ ?_; (all_goals simp (disch := omega) only [AllF, AllL, x10, j10, z10, exists_eq_left', Option.some.injEq, go_sem, seval, hd, cb, atD, r1]); (all_goals (repeat' (with_reducible apply And.intro))); (all_goals try (first | exact j7 rfl | (refine q11 ?_; omega) | (refine j7 ?_; simp; done)))
    · refine j9 ⟨_, ?_, rfl⟩; rw [Tryz.results47]; simp (disch := omega) only [ResVars, ResVar, ptrLoc, go_sem, seval, hd, cb, atD, r1]
      rw [he]
  · have : i = l.length := by omega
    subst this
    rw [List.drop_length] at he
    unfold idxF at he
    (repeat (first | refine q0 ?_ | refine j6 rfl ?_ | refine q7 rfl ?_ | refine q6 ?_ | (refine q4 fun K hK => ?_) | (refine x4 (by kernel_rfl) (by kernel_rfl) fun K hK => ?_) | ((first | refine j5 ?_ | refine z6 ?_ | ((first | refine q5 (hK _ ?_) | refine x5 (hK _ _ (j4 (by kernel_rfl)) ?_)); clear hK K)); (first | show AWP _ _ _ _ _ | ((try simp only [x6]); first | show loopQ _ _ _ _ _ _ | show cutQ _ _ _ _ | show AWP _ _ _ _ _))) | ((first | refine z7 [] rfl ?_ | refine x7 [] rfl ?_); simp (maxSteps := 2000000) (disch := omega) only [go_sem, seval, hd, cb, atD]; (repeat (first | refine ⟨by omega, ?_⟩ | refine ⟨True.intro, ?_⟩)))))
    refine j9 ⟨_, ?_, rfl⟩; rw [Tryz.results47]; simp (disch := omega) only [ResVars, ResVar, ptrLoc, go_sem, seval, hd, cb, atD]
    rw [he]
theorem ContainsAt_c (g : FuncId) (caps : List PV) (p : Atm → Bool) (l : List Atm) (hl : l.length ≤ 140737488355328) (hp : ∀ k ∈ l, ACalls Tryz.prog g (.agg (atD k) :: caps) (· = [.d (.v (.bool (p k)))])) :
    ACalls Tryz.prog 57 [.d (.sl 4 l.length (rowAt l)), .fn (.func g) [] caps] (· = [.d (.v (.bool (l.any p)))]) := by
  have ix := IndexAt_c g caps p l hl hp
  have ia := idxF_any p l 0
  generalize idxF p l 0 = R at ix ia
  refine q10 Tryz.func57 rfl (by decide +kernel) (by rw [Tryz.ntmps57]; simp) ?_; rw [Tryz.ntmps57]; simp only [frOf]
  (repeat (first | refine q0 ?_ | refine j6 rfl ?_ | refine q7 rfl ?_ | refine q6 ?_ | (refine q4 fun K hK => ?_) | (refine x4 (by kernel_rfl) (by kernel_rfl) fun K hK => ?_) | ((first | refine j5 ?_ | refine z6 ?_ | ((first | refine q5 (hK _ ?_) | refine x5 (hK _ _ (j4 (by kernel_rfl)) ?_)); clear hK K)); (first | show AWP _ _ _ _ _ | ((try simp only [x6]); first | show loopQ _ _ _ _ _ _ | show cutQ _ _ _ _ | show AWP _ _ _ _ _))) | ((first | refine q9 rfl rfl rfl ?_ | refine x9 rfl rfl rfl ?_); simp (maxSteps := 2000000) (disch := omega) only [go_sem, seval, hd, cb, atD]; (first | refine ⟨_, ix, ?_⟩)) | ((first | refine z7 [] rfl ?_ | refine x7 [] rfl ?_); simp (maxSteps := 2000000) (disch := omega) only [go_sem, seval, hd, cb, atD]; (repeat (first | refine ⟨by omega, ?_⟩ | refine ⟨True.intro, ?_⟩)))))
  refine j9 ⟨_, ?_, rfl⟩; rw [Tryz.results57]; simp (disch := omega) only [ResVars, ResVar, ptrLoc, go_sem, seval, hd, cb, atD]
  rw [ia]
end Go.Proofs.YtemcdefpihkfpaaGreat
set_option linter.unusedSimpArgs false
set_option linter.unusedVariables false
namespace Go.Proofs.YtemcdefpihkfpaaGreat.AL
open Go
theorem step_max {P : Program} {nt : Nat} {ops : Array Oper} {o : Oper} {A : ASt} {c : Call} {x y : Operand} {k : IntKind} {a b : Int} (ho : o.op = .call c) (hc : c.callee = .builtin .max) (hargs : c.args = #[x, y])
    (hd : dstOK nt o = true) (hw : wantedA ops o A = some true) (hx : A.eval x = .p (.d (.v (.int k a)))) (hy : A.eval y = .p (.d (.v (.int k b)))) :
    StepS P nt ops o A (A.apply o.dst { val := .p (.d (.v (.int k (if b > a then b else a)))) }) := by
  refine OpDo.step (lo := none) (E := { val := .p (.d (.v (.int k (if b > a then b else a)))) }) ⟨dstOK_spec hd, .inr ⟨hw, OpSem.toT ?_⟩, fun hf => (by cases hf), fun l L hu => (by cases hu)⟩
  have hops : o.op.operands.toList.map A.eval = [A.eval x, A.eval y] := by simp [ho, Op.operands, Call.operands, hc, hargs]
  rw [hops, hx, hy]
  refine z11 fun B w h r hr hL => ?_
  have hops2 : o.op.operands.toList.map r = [r x, r y] := by simp [ho, Op.operands, Call.operands, hc, hargs]
  rw [hops2] at hr
  have h0 := relA_v (hr.2 0 (r x) _ rfl rfl)
  have h1 := relA_v (hr.2 1 (r y) _ rfl rfl)
  refine ⟨.int k (if b > a then b else a), ?_, relA_mk rfl⟩
  refine run_builtin_op ho hc r w w fun consts => ?_
  simp [builtin, hargs, h0, h1, Builtin.max_, Builtin.max2]
end Go.Proofs.YtemcdefpihkfpaaGreat.AL
set_option linter.unusedSimpArgs false
set_option linter.unusedVariables false
namespace Go.Proofs.YtemcdefpihkfpaaGreat
open Go Go.Proofs.YtemcdefpihkfpaaGreat.AL
theorem ClipAt_c (n : Nat) (f : Nat → List Dat) (hn : n ≤ 1099511627776) : ACalls Tryz.prog 45 [.d (.sl 4 n f)] (· = [.d (.sl 4 n f)]) := by
  refine q10 Tryz.func45 rfl (by decide +kernel) (by rw [Tryz.ntmps45]; simp) ?_; rw [Tryz.ntmps45]; simp only [frOf]
  (repeat (first | refine q0 ?_ | refine j6 rfl ?_ | refine q7 rfl ?_ | refine q6 ?_ | (refine q4 fun K hK => ?_) | (refine x4 (by kernel_rfl) (by kernel_rfl) fun K hK => ?_) | ((first | refine j5 ?_ | refine z6 ?_ | ((first | refine q5 (hK _ ?_) | refine x5 (hK _ _ (j4 (by kernel_rfl)) ?_)); clear hK K)); (first | show AWP _ _ _ _ _ | ((try simp only [x6]); first | show loopQ _ _ _ _ _ _ | show cutQ _ _ _ _ | show AWP _ _ _ _ _))) | ((first | refine z7 [] rfl ?_ | refine x7 [] rfl ?_); simp (maxSteps := 2000000) (disch := omega) only [go_sem, seval, hd, cb, atD]; (repeat (first | refine ⟨by omega, ?_⟩ | refine ⟨True.intro, ?_⟩)))))
  refine j9 ⟨_, ?_, rfl⟩; rw [Tryz.results45]; simp (disch := omega) only [ResVars, ResVar, ptrLoc, go_sem, seval, hd, cb, atD]
  rfl
def splitL (id : Int) (k : Cube) : List Atm → List Atm → List Atm × Int
  | [], out => if 600 < out.length then ([], 11) else (out, 0)
  | a :: r, out => if (partA a id [k]).2 ≠ 0 then ([], (partA a id [k]).2) else splitL id k r (out ++ (partA a id [k]).1)
theorem splitL_len (id : Int) (k : Cube) : ∀ (l out : List Atm), (splitL id k l out).1.length ≤ 600
  | [], out => by unfold splitL; split <;> simp; omega
  | a :: r, out => by
    unfold splitL; split
    · simp
    · exact splitL_len id k r _
def splitI (id : Int) (k : Cube) (l : List Atm) (R : List Atm × Int) (s : {s : Nat × List Atm × Nat // s.1 ≤ l.length ∧ splitL id k (l.drop s.1) s.2.1 = R ∧ s.2.1.length ≤ 2 * s.1}) : ASt :=
  ⟨[(15, .p (.d (.v (.int .i64 (s.val.1 : Int))))), (14, .p (.d (.v (.int .i64 (l.length : Int))))), (13, .p (.d (.sl 4 l.length (rowAt l)))), (8, .gr 8 s.val.2.2 4 s.val.2.1.length (rowAt s.val.2.1)), (5, .p (.d (.bx (cb k)))), (1, .p (.d (.v (.int .i64 id))))],
   [(8, .grow 42 4 s.val.2.1.length s.val.2.2)]⟩
set_option maxRecDepth 100000 in
set_option maxHeartbeats 4000000 in
theorem split_c (l : List Atm) (id : Int) (k : Cube) (hl : smallA l) : ACalls Tryz.prog 44 [.d (.sl 4 l.length (rowAt l)), .d (.v (.int .i64 id)), .agg (cb k)]
    (· = [.d (.sl 4 (splitL id k l []).1.length (rowAt (splitL id k l []).1)), .d (.v (.int .i64 (splitL id k l []).2))]) := by
  obtain ⟨l1, l2⟩ := hl
  obtain ⟨R, hR⟩ : ∃ R, splitL id k l [] = R := ⟨_, rfl⟩
  rw [hR]
  refine q10 Tryz.func44 rfl (by decide +kernel) (by rw [Tryz.ntmps44]; simp) ?_; rw [Tryz.ntmps44]; simp only [frOf]
  (repeat ((fail_if_success (show AWP _ _ (.region 2 _ _) _ _)); first | refine q0 ?_ | refine j6 rfl ?_ | refine q7 rfl ?_ | refine q6 ?_ | (refine q4 fun K hK => ?_) | (refine x4 (by kernel_rfl) (by kernel_rfl) fun K hK => ?_) | ((first | refine j5 ?_ | refine z6 ?_ | ((first | refine q5 (hK _ ?_) | refine x5 (hK _ _ (j4 (by kernel_rfl)) ?_)); clear hK K)); (first | show AWP _ _ _ _ _ | ((try simp only [x6]); first | show loopQ _ _ _ _ _ _ | show cutQ _ _ _ _ | show AWP _ _ _ _ _))) | ((first | refine z7 [] rfl ?_ | refine x7 [] rfl ?_); simp (maxSteps := 2000000) (disch := omega) only [go_sem, seval, hd, cb, atD]; (repeat (first | refine ⟨by omega, ?_⟩ | refine ⟨True.intro, ?_⟩)))))
  refine awp_grow 8 8 4 42 (rowAt []) rfl (by kernel_rfl) rfl ?_
  (repeat (first | refine q0 ?_ | refine j6 rfl ?_ | refine q7 rfl ?_ | refine q6 ?_ | (refine q4 fun K hK => ?_) | (refine x4 (by kernel_rfl) (by kernel_rfl) fun K hK => ?_) | ((first | refine j5 ?_ | refine z6 ?_ | ((first | refine q5 (hK _ ?_) | refine x5 (hK _ _ (j4 (by kernel_rfl)) ?_)); clear hK K)); (first | show AWP _ _ _ _ _ | ((try simp only [x6]); first | show loopQ _ _ _ _ _ _ | show cutQ _ _ _ _ | show AWP _ _ _ _ _))) | ((first | refine z7 [] rfl ?_ | refine x7 [] rfl ?_); simp (maxSteps := 2000000) (disch := omega) only [go_sem, seval, hd, cb, atD]; (repeat (first | refine ⟨by omega, ?_⟩ | refine ⟨True.intro, ?_⟩)))))
  refine awp_loop (splitI id k l R) (fun s => l.length - s.val.1) ⟨(0, [], 0), by omega, by rw [List.drop_zero]; exact hR, by simp⟩ ?_ (fun s => ?_)
  · unfold splitI
    refine Weak.list ?_ ?_; (all_goals simp (disch := omega) only [AllF, AllL, x10, j10, z10, exists_eq_left', Option.some.injEq, go_sem, seval, hd, cb, atD]); (all_goals (repeat' (with_reducible apply And.intro))); (all_goals try (first | exact j7 rfl | (refine q11 ?_; omega) | (refine j7 ?_; simp; done)))
  obtain ⟨⟨i, out, g⟩, hi, h1, h2⟩ := s
  simp only [] at hi h1 h2
  unfold splitI
  simp only []
  by_cases hn : i < l.length
  · have r1 := rowAt_at l i
    obtain ⟨b1, b2⟩ := l2 _ (getD_in hn at0)
    rw [drop_getD l i at0 hn] at h1
    unfold splitL at h1
    generalize l.getD i at0 = a at r1 b1 b2 h1
    have pt := part_c a id [k] b1 b2 (by simp)
    have pl := partA_len a id [k]
    have pt : ACalls Tryz.prog 87 [.agg (atD a), .d (.v (.int .i64 id)), .d (.sl 4 1 fun i => [cb k].getD i [])] (· = [.d (.sl 4 (partA a id [k]).1.length (rowAt (partA a id [k]).1)), .d (.v (.int .i64 (partA a id [k]).2))]) :=
      acalls_le (.cons (ple_refl _) (.cons (ple_refl _) (.cons (ple_sl rfl fun i hi => by
        obtain rfl : i = 0 := by omega
        rfl) .nil))) pt
    generalize partA a id [k] = pr at pt pl h1
    obtain ⟨two, e⟩ := pr
    simp only [] at pt pl h1
    unfold cb at pt
    by_cases he : e = 0
    · subst he
      rw [if_neg (by simp)] at h1
      (repeat (first | refine q0 ?_ | refine j6 rfl ?_ | refine q7 rfl ?_ | refine q6 ?_ | (refine q4 fun K hK => ?_) | (refine x4 (by kernel_rfl) (by kernel_rfl) fun K hK => ?_) | ((first | refine j5 ?_ | refine z6 ?_ | ((first | refine q5 (hK _ ?_) | refine x5 (hK _ _ (j4 (by kernel_rfl)) ?_)); clear hK K)); (first | show AWP _ _ _ _ _ | ((try simp only [x6]); first | show loopQ _ _ _ _ _ _ | show cutQ _ _ _ _ | show AWP _ _ _ _ _))) | ((first | refine q9 rfl rfl rfl ?_ | refine x9 rfl rfl rfl ?_); simp (maxSteps := 2000000) (disch := omega) only [go_sem, seval, hd, cb, atD, r1]; (first | refine ⟨_, pt, ?_⟩)) | ((first | refine z7 [] rfl ?_ | refine x7 [] rfl ?_); simp (maxSteps := 2000000) (disch := omega) only [go_sem, seval, hd, cb, atD, r1]; (repeat (first | refine ⟨by omega, ?_⟩ | refine ⟨True.intro, ?_⟩)))))
      refine ⟨⟨(i + 1, out ++ two, g + 1), by simp only []; omega, h1, by simp only [List.length_append]; omega⟩, by simp only []; omega, ?_⟩
      refine Weak.list ?_ ?_; (all_goals simp (disch := omega) only [AllF, AllL, x10, j10, z10, exists_eq_left', Option.some.injEq, go_sem, seval, hd, cb, atD, r1]); (all_goals (repeat' (with_reducible apply And.intro))); (all_goals try (first | exact j7 rfl | (refine q11 ?_; omega) | (refine j7 ?_; simp; done)))
      · exact le_grgr rfl (by simp) (fun j hj => rowAt_app out two j)
      · exact lle_grow (by simp) rfl
    · rw [if_pos he] at h1
      subst h1
      have q := ine_tt he
      (repeat (first | refine q0 ?_ | refine j6 rfl ?_ | refine q7 rfl ?_ | refine q6 ?_ | (refine q4 fun K hK => ?_) | (refine x4 (by kernel_rfl) (by kernel_rfl) fun K hK => ?_) | ((first | refine j5 ?_ | refine z6 ?_ | ((first | refine q5 (hK _ ?_) | refine x5 (hK _ _ (j4 (by kernel_rfl)) ?_)); clear hK K)); (first | show AWP _ _ _ _ _ | ((try simp only [x6]); first | show loopQ _ _ _ _ _ _ | show cutQ _ _ _ _ | show AWP _ _ _ _ _))) | ((first | refine q9 rfl rfl rfl ?_ | refine x9 rfl rfl rfl ?_); simp (maxSteps := 2000000) (disch := omega) only [go_sem, seval, hd, cb, atD, r1, q]; (first | refine ⟨_, pt, ?_⟩)) | ((first | refine z7 [] rfl ?_ | refine x7 [] rfl ?_); simp (maxSteps := 2000000) (disch := omega) only [go_sem, seval, hd, cb, atD, r1, q]; (repeat (first | refine ⟨by omega, ?_⟩ | refine ⟨True.intro, ?_⟩)))))
      refine awp_slot 6 _ (.p (.d (.sl 4 ([] : List Atm).length (rowAt [])))) rfl (le_nil 4 _ _ rfl) ?_
      refine j9 ⟨_, ?_, rfl⟩; rw [Tryz.results44]; simp (disch := omega) only [ResVars, ResVar, ptrLoc, go_sem, seval, hd, cb, atD, r1, q]
  · have : i = l.length := by omega
    subst this
    rw [List.drop_length] at h1
    unfold splitL at h1
    by_cases h6 : 600 < out.length
    · rw [if_pos h6] at h1
      subst h1
      (repeat (first | refine q0 ?_ | refine j6 rfl ?_ | refine q7 rfl ?_ | refine q6 ?_ | (refine q4 fun K hK => ?_) | (refine x4 (by kernel_rfl) (by kernel_rfl) fun K hK => ?_) | ((first | refine j5 ?_ | refine z6 ?_ | ((first | refine q5 (hK _ ?_) | refine x5 (hK _ _ (j4 (by kernel_rfl)) ?_)); clear hK K)); (first | show AWP _ _ _ _ _ | ((try simp only [x6]); first | show loopQ _ _ _ _ _ _ | show cutQ _ _ _ _ | show AWP _ _ _ _ _))) | ((first | refine z7 [] rfl ?_ | refine x7 [] rfl ?_); simp (maxSteps := 2000000) (disch := omega) only [go_sem, seval, hd, cb, atD]; (repeat (first | refine ⟨by omega, ?_⟩ | refine ⟨True.intro, ?_⟩)))))
      refine awp_slot 6 _ (.p (.d (.sl 4 ([] : List Atm).length (rowAt [])))) rfl (le_nil 4 _ _ rfl) ?_
      refine j9 ⟨_, ?_, rfl⟩; rw [Tryz.results44]; simp (disch := omega) only [ResVars, ResVar, ptrLoc, go_sem, seval, hd, cb, atD]
    · rw [if_neg h6] at h1
      subst h1
      (repeat (first | refine q0 ?_ | refine j6 rfl ?_ | refine q7 rfl ?_ | refine q6 ?_ | (refine q4 fun K hK => ?_) | (refine x4 (by kernel_rfl) (by kernel_rfl) fun K hK => ?_) | ((first | refine j5 ?_ | refine z6 ?_ | ((first | refine q5 (hK _ ?_) | refine x5 (hK _ _ (j4 (by kernel_rfl)) ?_)); clear hK K)); (first | show AWP _ _ _ _ _ | ((try simp only [x6]); first | show loopQ _ _ _ _ _ _ | show cutQ _ _ _ _ | show AWP _ _ _ _ _))) | ((first | refine z7 [] rfl ?_ | refine x7 [] rfl ?_); simp (maxSteps := 2000000) (disch := omega) only [go_sem, seval, hd, cb, atD]; (repeat (first | refine ⟨by omega, ?_⟩ | refine ⟨True.intro, ?_⟩)))))
      refine awp_slot 6 _ (.p (.d (.sl 4 out.length (rowAt out)))) rfl (le_gr rfl (fun _ _ => rfl)) ?_
      refine j9 ⟨_, ?_, rfl⟩; rw [Tryz.results44]; simp (disch := omega) only [ResVars, ResVar, ptrLoc, go_sem, seval, hd, cb, atD]
def splitAll : List Cube → Nat → List Atm → List Atm × Int
  | [], _, out => (out, 0)
  | k :: r, id, out => if (splitL (id : Int) k out []).2 ≠ 0 then ([], (splitL (id : Int) k out []).2) else splitAll r (id + 1) (splitL (id : Int) k out []).1
def splitV (p : List Cube) : List Atm × Int := if 500 < p.length then ([], 6) else if p.all Cube.sound then splitAll p 0 [⟨[], 0, [⟨0, 0⟩]⟩] else ([], 2)
theorem joinZ_len (a b : List Int) : (joinZ a b).length ≤ a.length + b.length := by
  unfold joinZ
  have := mkZ_len (a ++ b)
  rw [List.length_append] at this; exact this
theorem partA_small {a : Atm} {id : Int} {q : List Cube} {N : Nat} (h : a.ids.length ≤ N) : ∀ x ∈ (partA a id q).1, x.ids.length ≤ N + 1 ∧ x.p.length ≤ 200 := by
  intro x hx
  have k1 : ∀ ids p, ids.length ≤ N + 1 → p.length ≤ 200 → ∀ x ∈ pickAt ids p, x.ids.length ≤ N + 1 ∧ x.p.length ≤ 200 := by
    intro ids p h1 h2 x hx
    unfold pickAt at hx
    split at hx
    · simp at hx; subst hx; exact ⟨h1, h2⟩
    · simp at hx
  unfold partA at hx
  split at hx
  · simp at hx
  · split at hx
    · simp at hx
    · rcases List.mem_append.1 hx with hx | hx
      · have := joinZ_len a.ids [id]
        exact k1 _ _ (by simp at this; omega) (meetPV_len _ _) x hx
      · exact k1 _ _ (by omega) (lessPR_len _ _) x hx
theorem splitL_small {id : Int} {k : Cube} {N : Nat} : ∀ (l out : List Atm), (∀ a ∈ l, a.ids.length ≤ N) → (∀ a ∈ out, a.ids.length ≤ N + 1 ∧ a.p.length ≤ 200) → ∀ x ∈ (splitL id k l out).1, x.ids.length ≤ N + 1 ∧ x.p.length ≤ 200
  | [], out, hl, ho => by
    unfold splitL; split
    · intro x hx; simp at hx
    · exact ho
  | a :: r, out, hl, ho => by
    unfold splitL; split
    · intro x hx; simp at hx
    · refine splitL_small r _ (fun b hb => hl b (by simp [hb])) (fun x hx => ?_)
      rcases List.mem_append.1 hx with hx | hx
      · exact ho x hx
      · exact partA_small (hl a (by simp)) x hx
def splitAI (p : List Cube) (R : List Atm × Int) (s : {s : Nat × List Atm // s.1 ≤ p.length ∧ splitAll (p.drop s.1) s.1 s.2 = R ∧ s.2.length ≤ 600 ∧ ∀ a ∈ s.2, a.ids.length ≤ s.1 ∧ a.p.length ≤ 200}) : ASt :=
  ⟨[(22, .p (.d (.v (.int .i64 (s.val.1 : Int))))), (21, .p (.d (.v (.int .i64 (p.length : Int))))), (20, .p (.d (.sl 4 p.length (rowC p)))), (4, .p (.d (.sl 4 s.val.2.length (rowAt s.val.2))))], []⟩
theorem Split1_c (k : Cube) : ACalls Tryz.prog 41 [.agg (cb k)] (· = [.d (.v (.bool (!k.sound)))]) := by
  refine q10 Tryz.func41 rfl (by decide +kernel) (by rw [Tryz.ntmps41]; simp) ?_; rw [Tryz.ntmps41]; simp only [frOf]
  (repeat (first | refine q0 ?_ | refine j6 rfl ?_ | refine q7 rfl ?_ | refine q6 ?_ | (refine q4 fun K hK => ?_) | (refine x4 (by kernel_rfl) (by kernel_rfl) fun K hK => ?_) | ((first | refine j5 ?_ | refine z6 ?_ | ((first | refine q5 (hK _ ?_) | refine x5 (hK _ _ (j4 (by kernel_rfl)) ?_)); clear hK K)); (first | show AWP _ _ _ _ _ | ((try simp only [x6]); first | show loopQ _ _ _ _ _ _ | show cutQ _ _ _ _ | show AWP _ _ _ _ _))) | ((first | refine q9 rfl rfl rfl ?_ | refine x9 rfl rfl rfl ?_); simp (maxSteps := 2000000) (disch := omega) only [go_sem, seval, hd, cb, atD]; (first | refine ⟨_, Sound_c k, ?_⟩)) | ((first | refine z7 [] rfl ?_ | refine x7 [] rfl ?_); simp (maxSteps := 2000000) (disch := omega) only [go_sem, seval, hd, cb, atD]; (repeat (first | refine ⟨by omega, ?_⟩ | refine ⟨True.intro, ?_⟩)))))
  refine j9 ⟨_, ?_, rfl⟩; rw [Tryz.results41]; simp (disch := omega) only [ResVars, ResVar, ptrLoc, go_sem, seval, hd, cb, atD]
theorem le_pd {x y : Dat} (h : DLe x y) : Le (.p (.d x)) (.p (.d y)) := fun w g v r => ple_d h w g.g v r
theorem le_first : Le (.p (.d (.sl 4 1 fun i => [[Dat.v (Value.slice none 0 0), Dat.v (.int .u64 0), Dat.v (.int .u64 0), Dat.sl 4 1 fun i => [[Dat.v (.int .u64 (hi 0)), Dat.v (.int .u64 (lo 0)), Dat.v (.int .u64 (hi 0)), Dat.v (.int .u64 (lo 0))]].getD i []]].getD i [])))
    (.p (.d (.sl 4 1 (rowAt [⟨[], 0, [⟨0, 0⟩]⟩])))) := by
  refine le_pd (dle_sl rfl fun i (hi : i < 1) => ?_)
  obtain rfl : i = 0 := by omega
  show DLes [Dat.v (Value.slice none 0 0), Dat.v (.int .u64 0), Dat.v (.int .u64 0), _] (atD ⟨[], 0, [⟨0, 0⟩]⟩)
  unfold atD
  simp only [hi_zero, lo_zero]
  refine .cons dle_emp (.cons (dle_refl _) (.cons (dle_refl _) (.cons (dle_sl rfl fun i (hi : i < 1) => ?_) .nil)))
  obtain rfl : i = 0 := by omega
  refine .of_eq ?_
  show _ = cb ⟨0, 0⟩
  unfold cb
  simp only [hi_zero, lo_zero]
  rfl
set_option maxRecDepth 100000 in
set_option maxHeartbeats 4000000 in
theorem Split_c (p : List Cube) (hp : p.length ≤ 1048576) : ACalls Tryz.prog 12 [.d (.sl 4 p.length (rowC p))] (· = [.d (.sl 4 (splitV p).1.length (rowAt (splitV p).1)), .d (.v (.int .i64 (splitV p).2))]) := by
  have cf := ContainsFunc_c 41 [] (fun k => !k.sound) p (by omega) (fun k _ => Split1_c k)
  rw [any_not] at cf
  unfold splitV
  by_cases h5 : 500 < p.length
  · rw [if_pos h5]
    refine q10 Tryz.func12 rfl (by decide +kernel) (by rw [Tryz.ntmps12]; simp) ?_; rw [Tryz.ntmps12]; simp only [frOf]
    (repeat (first | refine q0 ?_ | refine j6 rfl ?_ | refine q7 rfl ?_ | refine q6 ?_ | (refine q4 fun K hK => ?_) | (refine x4 (by kernel_rfl) (by kernel_rfl) fun K hK => ?_) | ((first | refine j5 ?_ | refine z6 ?_ | ((first | refine q5 (hK _ ?_) | refine x5 (hK _ _ (j4 (by kernel_rfl)) ?_)); clear hK K)); (first | show AWP _ _ _ _ _ | ((try simp only [x6]); first | show loopQ _ _ _ _ _ _ | show cutQ _ _ _ _ | show AWP _ _ _ _ _))) | ((first | refine z7 [] rfl ?_ | refine x7 [] rfl ?_); simp (maxSteps := 2000000) (disch := omega) only [go_sem, seval, hd, cb, atD]; (repeat (first | refine ⟨by omega, ?_⟩ | refine ⟨True.intro, ?_⟩)))))
    refine awp_slot 2 _ (.p (.d (.sl 4 ([] : List Atm).length (rowAt [])))) rfl (le_nil 4 _ _ rfl) ?_
    refine j9 ⟨_, ?_, rfl⟩; rw [Tryz.results12]; simp (disch := omega) only [ResVars, ResVar, ptrLoc, go_sem, seval, hd, cb, atD]
  rw [if_neg h5]
  cases hs : p.all Cube.sound
  · rw [hs] at cf
    simp only [Bool.false_eq_true, if_false]
    refine q10 Tryz.func12 rfl (by decide +kernel) (by rw [Tryz.ntmps12]; simp) ?_; rw [Tryz.ntmps12]; simp only [frOf]
    (repeat (first | refine q0 ?_ | refine j6 rfl ?_ | refine q7 rfl ?_ | refine q6 ?_ | (refine q4 fun K hK => ?_) | (refine x4 (by kernel_rfl) (by kernel_rfl) fun K hK => ?_) | ((first | refine j5 ?_ | refine z6 ?_ | ((first | refine q5 (hK _ ?_) | refine x5 (hK _ _ (j4 (by kernel_rfl)) ?_)); clear hK K)); (first | show AWP _ _ _ _ _ | ((try simp only [x6]); first | show loopQ _ _ _ _ _ _ | show cutQ _ _ _ _ | show AWP _ _ _ _ _))) | ((first | refine q9 rfl rfl rfl ?_ | refine x9 rfl rfl rfl ?_); simp (maxSteps := 2000000) (disch := omega) only [go_sem, seval, hd, cb, atD]; (first | refine ⟨_, cf, ?_⟩)) | ((first | refine z7 [] rfl ?_ | refine x7 [] rfl ?_); simp (maxSteps := 2000000) (disch := omega) only [go_sem, seval, hd, cb, atD]; (repeat (first | refine ⟨by omega, ?_⟩ | refine ⟨True.intro, ?_⟩)))))
    refine awp_slot 2 _ (.p (.d (.sl 4 ([] : List Atm).length (rowAt [])))) rfl (le_nil 4 _ _ rfl) ?_
    refine j9 ⟨_, ?_, rfl⟩; rw [Tryz.results12]; simp (disch := omega) only [ResVars, ResVar, ptrLoc, go_sem, seval, hd, cb, atD]
  · rw [hs] at cf
    simp only [if_true]
    obtain ⟨R, hR⟩ : ∃ R, splitAll p 0 [⟨[], 0, [⟨0, 0⟩]⟩] = R := ⟨_, rfl⟩
    rw [hR]
    refine q10 Tryz.func12 rfl (by decide +kernel) (by rw [Tryz.ntmps12]; simp) ?_; rw [Tryz.ntmps12]; simp only [frOf]
    (repeat (first | refine q0 ?_ | refine j6 rfl ?_ | refine q7 rfl ?_ | refine q6 ?_ | (refine q4 fun K hK => ?_) | (refine x4 (by kernel_rfl) (by kernel_rfl) fun K hK => ?_) | ((first | refine j5 ?_ | refine z6 ?_ | ((first | refine q5 (hK _ ?_) | refine x5 (hK _ _ (j4 (by kernel_rfl)) ?_)); clear hK K)); (first | show AWP _ _ _ _ _ | ((try simp only [x6]); first | show loopQ _ _ _ _ _ _ | show cutQ _ _ _ _ | show AWP _ _ _ _ _))) | ((first | refine q9 rfl rfl rfl ?_ | refine x9 rfl rfl rfl ?_); simp (maxSteps := 2000000) (disch := omega) only [go_sem, seval, hd, cb, atD]; (first | refine ⟨_, cf, ?_⟩ | refine ⟨_, All_c, ?_⟩)) | ((first | refine z7 [] rfl ?_ | refine x7 [] rfl ?_); simp (maxSteps := 2000000) (disch := omega) only [go_sem, seval, hd, cb, atD]; (repeat (first | refine ⟨by omega, ?_⟩ | refine ⟨True.intro, ?_⟩)))))
    refine awp_slot 4 _ (.p (.d (.sl 4 1 (rowAt [⟨[], 0, [⟨0, 0⟩]⟩])))) rfl le_first ?_
    refine awp_loop (splitAI p R) (fun s => p.length - s.val.1) ⟨(0, [⟨[], 0, [⟨0, 0⟩]⟩]), by omega, by rw [List.drop_zero]; exact hR, by simp, by simp⟩ ?_ (fun s => ?_)
    · unfold splitAI
      refine Weak.list ?_ ?_; (all_goals simp (disch := omega) only [AllF, AllL, x10, j10, z10, exists_eq_left', Option.some.injEq, go_sem, seval, hd, cb, atD]); (all_goals (repeat' (with_reducible apply And.intro))); (all_goals try (first | exact j7 rfl | (refine q11 ?_; omega) | (refine j7 ?_; simp; done)))
    obtain ⟨⟨i, out⟩, hi, h1, h2, h3⟩ := s
    simp only [] at hi h1 h2 h3
    unfold splitAI
    simp only []
    by_cases hn : i < p.length
    · have r1 := rowC_at p i
      rw [drop_getD p i ⟨0, 0⟩ hn] at h1
      unfold splitAll at h1
      generalize p.getD i ⟨0, 0⟩ = k at r1 h1
      have sp := split_c out i k ⟨by omega, fun a ha => by have := h3 a ha; omega⟩
      have sl := splitL_len (i : Int) k out []
      have ss := splitL_small (id := (i : Int)) (k := k) (N := i) out [] (fun a ha => (h3 a ha).1) (fun a ha => by simp at ha)
      generalize splitL (i : Int) k out [] = q at sp sl ss h1
      obtain ⟨ou2, e⟩ := q
      simp only [] at sp sl ss h1
      unfold cb at sp
      by_cases he : e = 0
      · subst he
        rw [if_neg (by simp)] at h1
        (repeat (first | refine q0 ?_ | refine j6 rfl ?_ | refine q7 rfl ?_ | refine q6 ?_ | (refine q4 fun K hK => ?_) | (refine x4 (by kernel_rfl) (by kernel_rfl) fun K hK => ?_) | ((first | refine j5 ?_ | refine z6 ?_ | ((first | refine q5 (hK _ ?_) | refine x5 (hK _ _ (j4 (by kernel_rfl)) ?_)); clear hK K)); (first | show AWP _ _ _ _ _ | ((try simp only [x6]); first | show loopQ _ _ _ _ _ _ | show cutQ _ _ _ _ | show AWP _ _ _ _ _))) | ((first | refine q9 rfl rfl rfl ?_ | refine x9 rfl rfl rfl ?_); simp (maxSteps := 2000000) (disch := omega) only [go_sem, seval, hd, cb, atD, r1]; (first | refine ⟨_, sp, ?_⟩)) | ((first | refine z7 [] rfl ?_ | refine x7 [] rfl ?_); simp (maxSteps := 2000000) (disch := omega) only [go_sem, seval, hd, cb, atD, r1]; (repeat (first | refine ⟨by omega, ?_⟩ | refine ⟨True.intro, ?_⟩)))))
        refine ⟨⟨(i + 1, ou2), by simp only []; omega, h1, sl, ss⟩, by simp only []; omega, ?_⟩
        refine Weak.list ?_ ?_; (all_goals simp (disch := omega) only [AllF, AllL, x10, j10, z10, exists_eq_left', Option.some.injEq, go_sem, seval, hd, cb, atD, r1]); (all_goals (repeat' (with_reducible apply And.intro))); (all_goals try (first | exact j7 rfl | (refine q11 ?_; omega) | (refine j7 ?_; simp; done)))
      · rw [if_pos he] at h1
        subst h1
        have q1 := ine_tt he
        (repeat (first | refine q0 ?_ | refine j6 rfl ?_ | refine q7 rfl ?_ | refine q6 ?_ | (refine q4 fun K hK => ?_) | (refine x4 (by kernel_rfl) (by kernel_rfl) fun K hK => ?_) | ((first | refine j5 ?_ | refine z6 ?_ | ((first | refine q5 (hK _ ?_) | refine x5 (hK _ _ (j4 (by kernel_rfl)) ?_)); clear hK K)); (first | show AWP _ _ _ _ _ | ((try simp only [x6]); first | show loopQ _ _ _ _ _ _ | show cutQ _ _ _ _ | show AWP _ _ _ _ _))) | ((first | refine q9 rfl rfl rfl ?_ | refine x9 rfl rfl rfl ?_); simp (maxSteps := 2000000) (disch := omega) only [go_sem, seval, hd, cb, atD, r1, q1]; (first | refine ⟨_, sp, ?_⟩)) | ((first | refine z7 [] rfl ?_ | refine x7 [] rfl ?_); simp (maxSteps := 2000000) (disch := omega) only [go_sem, seval, hd, cb, atD, r1, q1]; (repeat (first | refine ⟨by omega, ?_⟩ | refine ⟨True.intro, ?_⟩)))))
        refine awp_slot 2 _ (.p (.d (.sl 4 ([] : List Atm).length (rowAt [])))) rfl (le_nil 4 _ _ rfl) ?_
        refine j9 ⟨_, ?_, rfl⟩; rw [Tryz.results12]; simp (disch := omega) only [ResVars, ResVar, ptrLoc, go_sem, seval, hd, cb, atD, r1, q1]
    · have : i = p.length := by omega
      subst this
      rw [List.drop_length] at h1
      unfold splitAll at h1
      subst h1
      have cp := ClipAt_c out.length (rowAt out) (by omega)
      (repeat (first | refine q0 ?_ | refine j6 rfl ?_ | refine q7 rfl ?_ | refine q6 ?_ | (refine q4 fun K hK => ?_) | (refine x4 (by kernel_rfl) (by kernel_rfl) fun K hK => ?_) | ((first | refine j5 ?_ | refine z6 ?_ | ((first | refine q5 (hK _ ?_) | refine x5 (hK _ _ (j4 (by kernel_rfl)) ?_)); clear hK K)); (first | show AWP _ _ _ _ _ | ((try simp only [x6]); first | show loopQ _ _ _ _ _ _ | show cutQ _ _ _ _ | show AWP _ _ _ _ _))) | ((first | refine q9 rfl rfl rfl ?_ | refine x9 rfl rfl rfl ?_); simp (maxSteps := 2000000) (disch := omega) only [go_sem, seval, hd, cb, atD]; (first | refine ⟨_, cp, ?_⟩)) | ((first | refine z7 [] rfl ?_ | refine x7 [] rfl ?_); simp (maxSteps := 2000000) (disch := omega) only [go_sem, seval, hd, cb, atD]; (repeat (first | refine ⟨by omega, ?_⟩ | refine ⟨True.intro, ?_⟩)))))
      refine j9 ⟨_, ?_, rfl⟩; rw [Tryz.results12]; simp (disch := omega) only [ResVars, ResVar, ptrLoc, go_sem, seval, hd, cb, atD]
def soundAL (l : List Atm) : Bool := l.all fun a => soundP a.p
theorem sound1_c (a : Atm) (h : a.p.length ≤ 1048576) : ACalls Tryz.prog 92 [.agg (atD a)] (· = [.d (.v (.bool (!soundP a.p)))]) := by
  have sp := SoundP_c a.p (by omega)
  refine q10 Tryz.func92 rfl (by decide +kernel) (by rw [Tryz.ntmps92]; simp) ?_; rw [Tryz.ntmps92]; simp only [frOf]
  (repeat (first | refine q0 ?_ | refine j6 rfl ?_ | refine q7 rfl ?_ | refine q6 ?_ | (refine q4 fun K hK => ?_) | (refine x4 (by kernel_rfl) (by kernel_rfl) fun K hK => ?_) | ((first | refine j5 ?_ | refine z6 ?_ | ((first | refine q5 (hK _ ?_) | refine x5 (hK _ _ (j4 (by kernel_rfl)) ?_)); clear hK K)); (first | show AWP _ _ _ _ _ | ((try simp only [x6]); first | show loopQ _ _ _ _ _ _ | show cutQ _ _ _ _ | show AWP _ _ _ _ _))) | ((first | refine q9 rfl rfl rfl ?_ | refine x9 rfl rfl rfl ?_); simp (maxSteps := 2000000) (disch := omega) only [go_sem, seval, hd, cb, atD]; (first | refine ⟨_, sp, ?_⟩)) | ((first | refine z7 [] rfl ?_ | refine x7 [] rfl ?_); simp (maxSteps := 2000000) (disch := omega) only [go_sem, seval, hd, cb, atD]; (repeat (first | refine ⟨by omega, ?_⟩ | refine ⟨True.intro, ?_⟩)))))
  refine j9 ⟨_, ?_, rfl⟩; rw [Tryz.results92]; simp (disch := omega) only [ResVars, ResVar, ptrLoc, go_sem, seval, hd, cb, atD]
theorem soundAL_c (l : List Atm) (hl : smallA l) : ACalls Tryz.prog 56 [.d (.sl 4 l.length (rowAt l))] (· = [.d (.v (.bool (soundAL l)))]) := by
  obtain ⟨l1, l2⟩ := hl
  have cf := ContainsAt_c 92 [] (fun a => !soundP a.p) l (by omega) (fun a ha => sound1_c a (l2 a ha).2)
  rw [any_not] at cf
  unfold soundAL
  generalize (l.all fun a => soundP a.p) = b at cf
  refine q10 Tryz.func56 rfl (by decide +kernel) (by rw [Tryz.ntmps56]; simp) ?_; rw [Tryz.ntmps56]; simp only [frOf]
  (repeat (first | refine q0 ?_ | refine j6 rfl ?_ | refine q7 rfl ?_ | refine q6 ?_ | (refine q4 fun K hK => ?_) | (refine x4 (by kernel_rfl) (by kernel_rfl) fun K hK => ?_) | ((first | refine j5 ?_ | refine z6 ?_ | ((first | refine q5 (hK _ ?_) | refine x5 (hK _ _ (j4 (by kernel_rfl)) ?_)); clear hK K)); (first | show AWP _ _ _ _ _ | ((try simp only [x6]); first | show loopQ _ _ _ _ _ _ | show cutQ _ _ _ _ | show AWP _ _ _ _ _))) | ((first | refine q9 rfl rfl rfl ?_ | refine x9 rfl rfl rfl ?_); simp (maxSteps := 2000000) (disch := omega) only [go_sem, seval, hd, cb, atD]; (first | refine ⟨_, cf, ?_⟩)) | ((first | refine z7 [] rfl ?_ | refine x7 [] rfl ?_); simp (maxSteps := 2000000) (disch := omega) only [go_sem, seval, hd, cb, atD]; (repeat (first | refine ⟨by omega, ?_⟩ | refine ⟨True.intro, ?_⟩)))))
  refine j9 ⟨_, ?_, rfl⟩; rw [Tryz.results56]; simp (disch := omega) only [ResVars, ResVar, ptrLoc, go_sem, seval, hd, cb, atD]
  simp
theorem Find1_c (a : Atm) (h : BitVec 128) (hp : a.p.length ≤ 1048576) : ACalls Tryz.prog 48 [.agg (atD a), .d (.bx (hd h))] (· = [.d (.v (.bool (hasP a.p h)))]) := by
  have hs := HasP_c a.p h (by omega)
  generalize hasP a.p h = b at hs
  refine q10 Tryz.func48 rfl (by decide +kernel) (by rw [Tryz.ntmps48]; simp) ?_; rw [Tryz.ntmps48]; simp only [frOf]
  (repeat (first | refine q0 ?_ | refine j6 rfl ?_ | refine q7 rfl ?_ | refine q6 ?_ | (refine q4 fun K hK => ?_) | (refine x4 (by kernel_rfl) (by kernel_rfl) fun K hK => ?_) | ((first | refine j5 ?_ | refine z6 ?_ | ((first | refine q5 (hK _ ?_) | refine x5 (hK _ _ (j4 (by kernel_rfl)) ?_)); clear hK K)); (first | show AWP _ _ _ _ _ | ((try simp only [x6]); first | show loopQ _ _ _ _ _ _ | show cutQ _ _ _ _ | show AWP _ _ _ _ _))) | ((first | refine q9 rfl rfl rfl ?_ | refine x9 rfl rfl rfl ?_); simp (maxSteps := 2000000) (disch := omega) only [go_sem, seval, hd, cb, atD]; (first | refine ⟨_, hs, ?_⟩)) | ((first | refine z7 [] rfl ?_ | refine x7 [] rfl ?_); simp (maxSteps := 2000000) (disch := omega) only [go_sem, seval, hd, cb, atD]; (repeat (first | refine ⟨by omega, ?_⟩ | refine ⟨True.intro, ?_⟩)))))
  refine j9 ⟨_, ?_, rfl⟩; rw [Tryz.results48]; simp (disch := omega) only [ResVars, ResVar, ptrLoc, go_sem, seval, hd, cb, atD]
def findA (l : List Atm) (h : BitVec 128) : Int := idxF (fun a => hasP a.p h) l 0
theorem FindA_c (l : List Atm) (h : BitVec 128) (hl : smallA l) : ACalls Tryz.prog 16 [.d (.sl 4 l.length (rowAt l)), .agg (hd h)] (· = [.d (.v (.int .i64 (max (findA l h) 0))), .d (.v (.bool (decide (findA l h ≥ 0))))]) := by
  have ix := IndexAt_c 48 [.d (.bx (hd h))] (fun a => hasP a.p h) l (by have := hl.1; omega) (fun a ha => Find1_c a h (hl.2 a ha).2)
  unfold findA
  generalize idxF (fun a => hasP a.p h) l 0 = R at ix
  rw [show max R 0 = if (0 : Int) > R then 0 else R by omega]
  refine q10 Tryz.func16 rfl (by decide +kernel) (by rw [Tryz.ntmps16]; simp) ?_; rw [Tryz.ntmps16]; simp only [frOf]
  (repeat ((fail_if_success (show AWP _ _ (.region 2 _ _) _ _)); first | refine q0 ?_ | refine j6 rfl ?_ | refine q7 rfl ?_ | refine q6 ?_ | (refine q4 fun K hK => ?_) | (refine x4 (by kernel_rfl) (by kernel_rfl) fun K hK => ?_) | ((first | refine j5 ?_ | refine z6 ?_ | ((first | refine q5 (hK _ ?_) | refine x5 (hK _ _ (j4 (by kernel_rfl)) ?_)); clear hK K)); (first | show AWP _ _ _ _ _ | ((try simp only [x6]); first | show loopQ _ _ _ _ _ _ | show cutQ _ _ _ _ | show AWP _ _ _ _ _))) | ((first | refine q9 rfl rfl rfl ?_ | refine x9 rfl rfl rfl ?_); simp (maxSteps := 2000000) (disch := omega) only [go_sem, seval, hd, cb, atD]; (first | refine ⟨_, ix, ?_⟩)) | ((first | refine z7 [] rfl ?_ | refine x7 [] rfl ?_); simp (maxSteps := 2000000) (disch := omega) only [go_sem, seval, hd, cb, atD]; (repeat (first | refine ⟨by omega, ?_⟩ | refine ⟨True.intro, ?_⟩)))))
  refine q4 fun K hK => ?_
  (first | refine walkS_op2 [] rfl rfl ?_ | refine walkD_op2 [] rfl rfl ?_ | refine walkS_skip rfl rfl ?_ | refine walkD_skip rfl rfl ?_)
  simp (maxSteps := 2000000) (disch := omega) only [go_sem, seval, hd, cb, atD]
  refine walkS_cons _ (step_max rfl rfl rfl rfl rfl rfl rfl) ?_
  simp (maxSteps := 2000000) (disch := omega) only [go_sem, seval, hd, cb, atD]
  (repeat (first | refine q0 ?_ | refine j6 rfl ?_ | refine q7 rfl ?_ | refine q6 ?_ | (refine q4 fun K hK => ?_) | (refine x4 (by kernel_rfl) (by kernel_rfl) fun K hK => ?_) | ((first | refine j5 ?_ | refine z6 ?_ | ((first | refine q5 (hK _ ?_) | refine x5 (hK _ _ (j4 (by kernel_rfl)) ?_)); clear hK K)); (first | show AWP _ _ _ _ _ | ((try simp only [x6]); first | show loopQ _ _ _ _ _ _ | show cutQ _ _ _ _ | show AWP _ _ _ _ _))) | ((first | refine z7 [] rfl ?_ | refine x7 [] rfl ?_); simp (maxSteps := 2000000) (disch := omega) only [go_sem, seval, hd, cb, atD]; (repeat (first | refine ⟨by omega, ?_⟩ | refine ⟨True.intro, ?_⟩)))))
  refine j9 ⟨_, ?_, rfl⟩; rw [Tryz.results16]; simp (disch := omega) only [ResVars, ResVar, ptrLoc, go_sem, seval, hd, cb, atD]
end Go.Proofs.YtemcdefpihkfpaaGreat
set_option linter.unusedSimpArgs false
set_option linter.unusedVariables false
namespace Go.Proofs.YtemcdefpihkfpaaGreat
open Go.Proofs.YtemcdefpihkfpaaGreat.AL
theorem mkZ_eq {l m : List Int} (hm : Inc m) (h : ∀ x, x ∈ l ↔ x ∈ m) : mkZ l = m := inc_unique (mkZ_inc l) hm fun x => by rw [mkZ_mem, h]
end Go.Proofs.YtemcdefpihkfpaaGreat
set_option linter.unusedSimpArgs false
set_option linter.unusedVariables false
namespace Go.Proofs.YtemcdefpihkfpaaGreat.AL
open Go
def LLes (M M2 : List (Nat × LV)) : Prop := ∀ l X2, look M2 l = some X2 → ∃ X, look M l = some X ∧ LLe X X2
theorem LLes.nil (M : List (Nat × LV)) : LLes M [] := fun l X2 h => by simp [look] at h
theorem LLes.cons {M M2 : List (Nat × LV)} {l : Nat} {X X2 : LV} (h : look M l = some X) (hl : LLe X X2) (t : LLes M M2) : LLes M ((l, X2) :: M2) := fun k Y hk => by
  simp only [look] at hk
  split at hk
  · rename_i e; subst e; cases hk; exact ⟨X, h, hl⟩
  · exact t k Y hk
theorem LLe.refl (X : LV) : LLe X X := of_eq_true (z10 X)
theorem MCalls.out {P : Program} {f : FuncId} {xs : List AV} {L M M2 : List (Nat × LV)} {rs : List AV} (h : MCalls P f xs L (fun r M' => r = rs ∧ M' = M)) (hM : LLes M M2) : MCalls P f xs L (fun r M' => r = rs ∧ M' = M2) := by
  intro w g vs hz hr hl
  have key := h w g vs hz hr hl
  have fin : ∀ v w', (∃ h' r M', (r = rs ∧ M' = M) ∧ RelRA w' h' v r ∧ LocsOK (fun _ => True) w' h' M' ∧ Chg L M' w g w' h') → ∃ h' r M', (r = rs ∧ M' = M2) ∧ RelRA w' h' v r ∧ LocsOK (fun _ => True) w' h' M' ∧ Chg L M' w g w' h' := by
    rintro v w' ⟨h', r, M', ⟨rfl, rfl⟩, h1, h2, h3⟩
    refine ⟨h', _, M2, ⟨rfl, rfl⟩, h1, ⟨fun l X2 hX => ?_, fun l l' X X' b hne e1 e2 hb hb' => ?_⟩, ⟨h3.below, h3.gam, h3.gz, h3.keep, h3.ρ, h3.up, fun b hb => ?_⟩⟩
    · obtain ⟨X, e1, e2⟩ := hM l X2 hX
      exact (lle_ok e2 (h2.1 l X e1)).1
    · obtain ⟨Y, y1, y2⟩ := hM l X e1
      obtain ⟨Y', z1, z2⟩ := hM l' X' e2
      rw [(lle_ok y2 (h2.1 l Y y1)).2] at hb
      rw [(lle_ok z2 (h2.1 l' Y' z1)).2] at hb'
      exact h2.2 l l' Y Y' b hne y1 z1 hb hb'
    · obtain ⟨l, X2, e1, e2⟩ := hb
      obtain ⟨Y, y1, y2⟩ := hM l X2 e1
      rw [(lle_ok y2 (h2.1 l Y y1)).2] at e2
      exact h3.own b ⟨l, Y, y1, e2⟩
  unfold CallRes at *
  split at key
  · exact key.mono fun e w' ⟨v, he, hh⟩ => ⟨v, he, fin v w' hh⟩
  · exact fin _ _ key
  · exact key.elim
end Go.Proofs.YtemcdefpihkfpaaGreat.AL
set_option linter.unusedSimpArgs false
set_option linter.unusedVariables false
namespace Go.Proofs.YtemcdefpihkfpaaGreat.AL
variable {P : Program} {nt : Nat} {Q : Exit → ASt → Prop} {A : ASt}
def cutQ {ι : Type} (I : ι → ASt) (Q : Exit → ASt → Prop) : Exit → ASt → Prop
  | .normal, A => ∃ i, Weak A (I i)
  | e, A => Q e A
attribute [irreducible] cutQ
theorem look_of_all {α : Type} {M : List (Nat × α)} : ∀ {L : List (Nat × α)}, (∀ p ∈ L, look M p.1 = some p.2) → ∀ l X, look L l = some X → look M l = some X
  | [], _, l, X, h => by cases h
  | p :: r, hl, l, X, h => by
    simp only [look] at h
    split at h
    · rename_i e; subst e; cases h; exact hl p (by simp)
    · exact look_of_all (fun q hq => hl q (by simp [hq])) l X h
theorem retM_of {fn : Func} {Q : List AV → List (Nat × LV) → Prop} (rs : List AV) (L : List (Nat × LV)) (hr : ResVarsA P A fn.results.toList rs) (hl : ∀ p ∈ L, look A.locs p.1 = some p.2) (hq : Q rs L) : retM P fn Q .ret A :=
  ⟨rs, L, hr, look_of_all hl, hq⟩
end Go.Proofs.YtemcdefpihkfpaaGreat.AL
set_option linter.unusedSimpArgs false
set_option linter.unusedVariables false
namespace Go.Proofs.YtemcdefpihkfpaaGreat.AL
variable {P : Program} {nt : Nat} {Q : Exit → ASt → Prop} {A : ASt}
end Go.Proofs.YtemcdefpihkfpaaGreat.AL
set_option linter.unusedSimpArgs false
set_option linter.unusedVariables false
namespace Go.Proofs.YtemcdefpihkfpaaGreat
open Go Go.Proofs.YtemcdefpihkfpaaGreat.AL
def eqZI (a b : List Int) (R : Bool) (s : {i : Nat // i ≤ a.length ∧ (a.drop i == b.drop i) = R}) : ASt :=
  ⟨[(13, .p (.d (.v (.int .i64 (s.val : Int))))), (12, .p (.d (.v (.int .i64 (a.length : Int))))), (1, .p (.d (.sl 1 b.length (rowZ b)))), (0, .p (.d (.sl 1 a.length (rowZ a))))], []⟩
theorem EqualZ_c (a b : List Int) (ha : a.length ≤ 1099511627776) (hb : b.length ≤ 1099511627776) : ACalls Tryz.prog 61 [.d (.sl 1 a.length (rowZ a)), .d (.sl 1 b.length (rowZ b))] (· = [.d (.v (.bool (a == b)))]) := by
  by_cases hlen : a.length = b.length
  · have q : ((a.length : Int) != (b.length : Int)) = false := ine_ff (by rw [hlen])
    obtain ⟨R, hR⟩ : ∃ R, (a == b) = R := ⟨_, rfl⟩
    rw [hR]
    refine q10 Tryz.func61 rfl (by decide +kernel) (by rw [Tryz.ntmps61]; simp) ?_; rw [Tryz.ntmps61]; simp only [frOf]
    (repeat (first | refine q0 ?_ | refine j6 rfl ?_ | refine q7 rfl ?_ | refine q6 ?_ | (refine q4 fun K hK => ?_) | (refine x4 (by kernel_rfl) (by kernel_rfl) fun K hK => ?_) | ((first | refine j5 ?_ | refine z6 ?_ | ((first | refine q5 (hK _ ?_) | refine x5 (hK _ _ (j4 (by kernel_rfl)) ?_)); clear hK K)); (first | show AWP _ _ _ _ _ | ((try simp only [x6]); first | show loopQ _ _ _ _ _ _ | show cutQ _ _ _ _ | show AWP _ _ _ _ _))) | ((first | refine z7 [] rfl ?_ | refine x7 [] rfl ?_); simp (maxSteps := 2000000) (disch := omega) only [go_sem, seval, hd, cb, atD, q]; (repeat (first | refine ⟨by omega, ?_⟩ | refine ⟨True.intro, ?_⟩)))))
    refine awp_loop (eqZI a b R) (fun s => a.length - s.val) ⟨0, by omega, by rw [List.drop_zero, List.drop_zero]; exact hR⟩ ?_ (fun s => ?_)
    · unfold eqZI
      refine Weak.list ?_ ?_; (all_goals simp (disch := omega) only [AllF, AllL, x10, j10, z10, exists_eq_left', Option.some.injEq, go_sem, seval, hd, cb, atD, q]); (all_goals (repeat' (with_reducible apply And.intro))); (all_goals try (first | exact j7 rfl | (refine q11 ?_; omega) | (refine j7 ?_; simp; done)))
    obtain ⟨i, hi, he⟩ := s
    unfold eqZI
    simp only []
    by_cases hn : i < a.length
    · have r1 := rowZ_at a i
      have r2 := rowZ_at b i
      rw [drop_getD a i 0 hn, drop_getD b i 0 (by omega), List.cons_beq_cons] at he
      generalize a.getD i 0 = x at r1 he
      generalize b.getD i 0 = y at r2 he
      by_cases hxy : x = y
      · subst hxy
        rw [beq_self_eq_true, Bool.true_and] at he
        have q2 : (x != x) = false := ine_ff rfl
        (repeat (first | refine q0 ?_ | refine j6 rfl ?_ | refine q7 rfl ?_ | refine q6 ?_ | (refine q4 fun K hK => ?_) | (refine x4 (by kernel_rfl) (by kernel_rfl) fun K hK => ?_) | ((first | refine j5 ?_ | refine z6 ?_ | ((first | refine q5 (hK _ ?_) | refine x5 (hK _ _ (j4 (by kernel_rfl)) ?_)); clear hK K)); (first | show AWP _ _ _ _ _ | ((try simp only [x6]); first | show loopQ _ _ _ _ _ _ | show cutQ _ _ _ _ | show AWP _ _ _ _ _))) | ((first | refine z7 [] rfl ?_ | refine x7 [] rfl ?_); simp (maxSteps := 2000000) (disch := omega) only [go_sem, seval, hd, cb, atD, r1, r2, q2]; (repeat (first | refine ⟨by omega, ?_⟩ | refine ⟨True.intro, ?_⟩)))))
        refine ⟨⟨i + 1, by omega, he⟩, by simp only []; omega, ?_⟩
        refine Weak.list ?_ ?_; (all_goals simp (disch := omega) only [AllF, AllL, x10, j10, z10, exists_eq_left', Option.some.injEq, go_sem, seval, hd, cb, atD, r1, r2, q2]); (all_goals (repeat' (with_reducible apply And.intro))); (all_goals try (first | exact j7 rfl | (refine q11 ?_; omega) | (refine j7 ?_; simp; done)))
      · have q2 : (x != y) = true := ine_tt hxy
        rw [beq_false_of_ne hxy, Bool.false_and] at he
        subst he
        (repeat (first | refine q0 ?_ | refine j6 rfl ?_ | refine q7 rfl ?_ | refine q6 ?_ | (refine q4 fun K hK => ?_) | (refine x4 (by kernel_rfl) (by kernel_rfl) fun K hK => ?_) | ((first | refine j5 ?_ | refine z6 ?_ | ((first | refine q5 (hK _ ?_) | refine x5 (hK _ _ (j4 (by kernel_rfl)) ?_)); clear hK K)); (first | show AWP _ _ _ _ _ | ((try simp only [x6]); first | show loopQ _ _ _ _ _ _ | show cutQ _ _ _ _ | show AWP _ _ _ _ _))) | ((first | refine z7 [] rfl ?_ | refine x7 [] rfl ?_); simp (maxSteps := 2000000) (disch := omega) only [go_sem, seval, hd, cb, atD, r1, r2, q2]; (repeat (first | refine ⟨by omega, ?_⟩ | refine ⟨True.intro, ?_⟩)))))
        refine j9 ⟨_, ?_, rfl⟩; rw [Tryz.results61]; simp (disch := omega) only [ResVars, ResVar, ptrLoc, go_sem, seval, hd, cb, atD, r1, r2, q2]
    · have : i = a.length := by omega
      subst this
      rw [List.drop_length, List.drop_eq_nil_of_le (show b.length ≤ a.length by omega)] at he
      have he : true = R := he
      subst he
      (repeat (first | refine q0 ?_ | refine j6 rfl ?_ | refine q7 rfl ?_ | refine q6 ?_ | (refine q4 fun K hK => ?_) | (refine x4 (by kernel_rfl) (by kernel_rfl) fun K hK => ?_) | ((first | refine j5 ?_ | refine z6 ?_ | ((first | refine q5 (hK _ ?_) | refine x5 (hK _ _ (j4 (by kernel_rfl)) ?_)); clear hK K)); (first | show AWP _ _ _ _ _ | ((try simp only [x6]); first | show loopQ _ _ _ _ _ _ | show cutQ _ _ _ _ | show AWP _ _ _ _ _))) | ((first | refine z7 [] rfl ?_ | refine x7 [] rfl ?_); simp (maxSteps := 2000000) (disch := omega) only [go_sem, seval, hd, cb, atD]; (repeat (first | refine ⟨by omega, ?_⟩ | refine ⟨True.intro, ?_⟩)))))
      refine j9 ⟨_, ?_, rfl⟩; rw [Tryz.results61]; simp (disch := omega) only [ResVars, ResVar, ptrLoc, go_sem, seval, hd, cb, atD]
  · have q : ((a.length : Int) != (b.length : Int)) = true := ine_tt (by omega)
    have e : (a == b) = false := by
      rw [beq_eq_false_iff_ne]; exact fun h => hlen (by rw [h])
    rw [e]
    refine q10 Tryz.func61 rfl (by decide +kernel) (by rw [Tryz.ntmps61]; simp) ?_; rw [Tryz.ntmps61]; simp only [frOf]
    (repeat (first | refine q0 ?_ | refine j6 rfl ?_ | refine q7 rfl ?_ | refine q6 ?_ | (refine q4 fun K hK => ?_) | (refine x4 (by kernel_rfl) (by kernel_rfl) fun K hK => ?_) | ((first | refine j5 ?_ | refine z6 ?_ | ((first | refine q5 (hK _ ?_) | refine x5 (hK _ _ (j4 (by kernel_rfl)) ?_)); clear hK K)); (first | show AWP _ _ _ _ _ | ((try simp only [x6]); first | show loopQ _ _ _ _ _ _ | show cutQ _ _ _ _ | show AWP _ _ _ _ _))) | ((first | refine z7 [] rfl ?_ | refine x7 [] rfl ?_); simp (maxSteps := 2000000) (disch := omega) only [go_sem, seval, hd, cb, atD, q]; (repeat (first | refine ⟨by omega, ?_⟩ | refine ⟨True.intro, ?_⟩)))))
    refine j9 ⟨_, ?_, rfl⟩; rw [Tryz.results61]; simp (disch := omega) only [ResVars, ResVar, ptrLoc, go_sem, seval, hd, cb, atD, q]
def caX (a : Atm) : LV := .cells 42 [.p (.d (.sl 1 a.ids.length (rowZ a.ids))), .p (.d (.v (.int .u64 (hi a.h)))), .p (.d (.v (.int .u64 (lo a.h)))), .p (.d (.sl 4 a.p.length (rowC a.p)))]
def ixOI (out : List Atm) (gen : Nat) (a : Atm) (g : FuncId) (p : Atm → Bool) (R : Int) (s : {i : Nat // i ≤ out.length ∧ idxF p (out.drop i) i = R}) : ASt :=
  ⟨[(8, .p (.d (.v (.int .i64 (s.val : Int))))), (7, .p (.d (.v (.int .i64 (out.length : Int))))), (1, .cl (.func g) [] [.loc 1001 0]), (0, .ow 1000 gen 4 out.length)], [(1000, .own 42 4 out.length gen (rowAt out)), (1001, caX a)]⟩
set_option maxRecDepth 100000 in
set_option maxHeartbeats 2000000 in
theorem IndexOwn_c (out : List Atm) (gen : Nat) (a : Atm) (g : FuncId) (p : Atm → Bool) (hl : out.length ≤ 140737488355328) (hg : ∀ b ∈ out, MCalls Tryz.prog g [.p (.agg (atD b)), .loc 1001 0] [(1001, caX a)] (fun rs M => rs = [.p (.d (.v (.bool (p b))))] ∧ M = [(1001, caX a)])) :
    MCalls Tryz.prog 47 [.ow 1000 gen 4 out.length, .cl (.func g) [] [.loc 1001 0]] [(1000, .own 42 4 out.length gen (rowAt out)), (1001, caX a)]
      (fun rs M => rs = [.p (.d (.v (.int .i64 (idxF p out 0))))] ∧ M = [(1000, .own 42 4 out.length gen (rowAt out)), (1001, caX a)]) := by
  obtain ⟨R, hR⟩ : ∃ R, idxF p out 0 = R := ⟨_, rfl⟩
  rw [hR]
  unfold caX at *
  refine mcalls_of_awp Tryz.func47 rfl (by decide +kernel) (by rw [Tryz.ntmps47]; simp) (fun l X h => by simp only [AL.look] at h; (repeat' split at h); all_goals first | omega | cases h) ?_; rw [Tryz.ntmps47]; simp only [frA]
  (repeat (first | refine q0 ?_ | refine j6 rfl ?_ | refine q7 rfl ?_ | refine q6 ?_ | (refine q4 fun K hK => ?_) | (refine x4 (by kernel_rfl) (by kernel_rfl) fun K hK => ?_) | ((first | refine j5 ?_ | refine z6 ?_ | ((first | refine q5 (hK _ ?_) | refine x5 (hK _ _ (j4 (by kernel_rfl)) ?_)); clear hK K)); (first | show AWP _ _ _ _ _ | ((try simp only [x6]); first | show loopQ _ _ _ _ _ _ | show cutQ _ _ _ _ | show AWP _ _ _ _ _))) | ((first | refine z7 [] rfl ?_ | refine x7 [] rfl ?_); simp (maxSteps := 2000000) (disch := omega) only [go_sem, seval, hd, cb, atD]; (repeat (first | refine ⟨by omega, ?_⟩ | refine ⟨True.intro, ?_⟩)))))
  refine awp_loop (ixOI out gen a g p R) (fun s => out.length - s.val) ⟨0, by omega, by rw [List.drop_zero]; exact hR⟩ ?_ (fun s => ?_)
  · unfold ixOI caX
    refine Weak.list ?_ ?_; (all_goals simp (disch := omega) only [AllF, AllL, x10, j10, z10, exists_eq_left', Option.some.injEq, go_sem, seval, hd, cb, atD]); (all_goals (repeat' (with_reducible apply And.intro))); (all_goals try (first | exact j7 rfl | (refine q11 ?_; omega) | (refine j7 ?_; simp; done)))
  obtain ⟨i, hi', he⟩ := s
  unfold ixOI caX
  simp only []
  by_cases hn : i < out.length
  · rw [drop_getD out i at0 hn] at he
    have r1 := rowAt_at out i
    have hk := hg _ (getD_in hn at0)
    generalize out.getD i at0 = b at he r1 hk
    unfold idxF at he
    unfold atD at hk
    cases hb : p b
    all_goals
      rw [hb] at he hk
      simp only [Bool.false_eq_true, if_false, if_true] at he
      (repeat (first | refine q0 ?_ | refine j6 rfl ?_ | refine q7 rfl ?_ | refine q6 ?_ | (refine q4 fun K hK => ?_) | (refine x4 (by kernel_rfl) (by kernel_rfl) fun K hK => ?_) | ((first | refine j5 ?_ | refine z6 ?_ | ((first | refine q5 (hK _ ?_) | refine x5 (hK _ _ (j4 (by kernel_rfl)) ?_)); clear hK K)); (first | show AWP _ _ _ _ _ | ((try simp only [x6]); first | show loopQ _ _ _ _ _ _ | show cutQ _ _ _ _ | show AWP _ _ _ _ _))) | ((first | refine z7 [] rfl ?_ | refine x7 [] rfl ?_); simp (maxSteps := 2000000) (disch := omega) only [go_sem, seval, hd, cb, atD, r1]; (repeat (first | refine ⟨by omega, ?_⟩ | refine ⟨True.intro, ?_⟩)))))
      (refine walkS_cons _ (step_mcall [(1001, 1001)] rfl rfl rfl rfl rfl rfl (hk) rfl (namesOK_of (by repeat (first | exact trivial | refine ⟨rfl, ?_⟩)) (by kernel_rfl))) ?_); simp (maxSteps := 2000000) (disch := omega) only [go_sem, seval, hd, cb, atD, r1]
      (repeat (first | refine q0 ?_ | refine j6 rfl ?_ | refine q7 rfl ?_ | refine q6 ?_ | (refine q4 fun K hK => ?_) | (refine x4 (by kernel_rfl) (by kernel_rfl) fun K hK => ?_) | ((first | refine j5 ?_ | refine z6 ?_ | ((first | refine q5 (hK _ ?_) | refine x5 (hK _ _ (j4 (by kernel_rfl)) ?_)); clear hK K)); (first | show AWP _ _ _ _ _ | ((try simp only [x6]); first | show loopQ _ _ _ _ _ _ | show cutQ _ _ _ _ | show AWP _ _ _ _ _))) | ((first | refine z7 [] rfl ?_ | refine x7 [] rfl ?_); simp (maxSteps := 2000000) (disch := omega) only [go_sem, seval, hd, cb, atD, r1]; (repeat (first | refine ⟨by omega, ?_⟩ | refine ⟨True.intro, ?_⟩)))))
    · refine ⟨⟨i + 1, by omega, he⟩, by simp only []; omega, ?_⟩
      refine Weak.list ?_ ?_; (all_goals simp (disch := omega) only [AllF, AllL, x10, j10, z10, exists_eq_left', Option.some.injEq, go_sem, seval, hd, cb, atD, r1]); (all_goals (repeat' (with_reducible apply And.intro))); (all_goals try (first | exact j7 rfl | (refine q11 ?_; omega) | (refine j7 ?_; simp; done)))
    · refine j9 (retM_of [.p (.d (.v (.int .i64 R)))] [(1000, .own 42 4 out.length gen (rowAt out)), (1001, caX a)] ⟨by rw [← he]; rfl, trivial⟩ ?_ ⟨rfl, rfl⟩)
      simp [AL.look, caX]
  · have : i = out.length := by omega
    subst this
    rw [List.drop_length] at he
    unfold idxF at he
    (repeat (first | refine q0 ?_ | refine j6 rfl ?_ | refine q7 rfl ?_ | refine q6 ?_ | (refine q4 fun K hK => ?_) | (refine x4 (by kernel_rfl) (by kernel_rfl) fun K hK => ?_) | ((first | refine j5 ?_ | refine z6 ?_ | ((first | refine q5 (hK _ ?_) | refine x5 (hK _ _ (j4 (by kernel_rfl)) ?_)); clear hK K)); (first | show AWP _ _ _ _ _ | ((try simp only [x6]); first | show loopQ _ _ _ _ _ _ | show cutQ _ _ _ _ | show AWP _ _ _ _ _))) | ((first | refine z7 [] rfl ?_ | refine x7 [] rfl ?_); simp (maxSteps := 2000000) (disch := omega) only [go_sem, seval, hd, cb, atD]; (repeat (first | refine ⟨by omega, ?_⟩ | refine ⟨True.intro, ?_⟩)))))
    refine j9 (retM_of [.p (.d (.v (.int .i64 R)))] [(1000, .own 42 4 out.length gen (rowAt out)), (1001, caX a)] ⟨by rw [← he]; rfl, trivial⟩ ?_ ⟨rfl, rfl⟩)
    simp [AL.look, caX]
set_option maxRecDepth 100000 in
theorem Coarsen1_c (a b : Atm) (ha : a.ids.length ≤ 1048576) (hb : b.ids.length ≤ 1048576) : MCalls Tryz.prog 60 [.p (.agg (atD b)), .loc 1001 0] [(1001, caX a)] (fun rs M => rs = [.p (.d (.v (.bool (a.ids == b.ids))))] ∧ M = [(1001, caX a)]) := by
  have eq := EqualZ_c a.ids b.ids (by omega) (by omega)
  generalize (a.ids == b.ids) = R at eq
  unfold caX
  refine mcalls_of_awp Tryz.func60 rfl (by decide +kernel) (by rw [Tryz.ntmps60]; simp) (fun l X h => by simp only [AL.look] at h; (repeat' split at h); all_goals first | omega | cases h) ?_; rw [Tryz.ntmps60]; simp only [frA]
  (repeat (first | refine q0 ?_ | refine j6 rfl ?_ | refine q7 rfl ?_ | refine q6 ?_ | (refine q4 fun K hK => ?_) | (refine x4 (by kernel_rfl) (by kernel_rfl) fun K hK => ?_) | ((first | refine j5 ?_ | refine z6 ?_ | ((first | refine q5 (hK _ ?_) | refine x5 (hK _ _ (j4 (by kernel_rfl)) ?_)); clear hK K)); (first | show AWP _ _ _ _ _ | ((try simp only [x6]); first | show loopQ _ _ _ _ _ _ | show cutQ _ _ _ _ | show AWP _ _ _ _ _))) | ((first | refine q9 rfl rfl rfl ?_ | refine x9 rfl rfl rfl ?_); simp (maxSteps := 2000000) (disch := omega) only [go_sem, seval, hd, cb, atD]; (first | refine ⟨_, eq, ?_⟩)) | ((first | refine z7 [] rfl ?_ | refine x7 [] rfl ?_); simp (maxSteps := 2000000) (disch := omega) only [go_sem, seval, hd, cb, atD]; (repeat (first | refine ⟨by omega, ?_⟩ | refine ⟨True.intro, ?_⟩)))))
  refine j9 (retM_of [_] _ ⟨rfl, trivial⟩ ?_ ⟨rfl, rfl⟩)
  simp [AL.look]
end Go.Proofs.YtemcdefpihkfpaaGreat
set_option linter.unusedSimpArgs false
set_option linter.unusedVariables false
namespace Go.Proofs.YtemcdefpihkfpaaGreat
open Go Go.Proofs.YtemcdefpihkfpaaGreat.AL
def sameIds (ids : List Int) (b : Atm) : Bool := ids == b.ids
def coarseGo (id : Int) : List Atm → List Atm → List Atm × Int
  | [], out => (out, 0)
  | a :: r, out =>
    if idxF (sameIds (lessZ a.ids [id])) out 0 < 0 then coarseGo id r (out ++ [⟨lessZ a.ids [id], a.h, a.p⟩])
    else if joinE (out.getD (idxF (sameIds (lessZ a.ids [id])) out 0).toNat at0).p a.p ≠ 0 then ([], joinE (out.getD (idxF (sameIds (lessZ a.ids [id])) out 0).toNat at0).p a.p)
    else coarseGo id r (out.set (idxF (sameIds (lessZ a.ids [id])) out 0).toNat ⟨(out.getD (idxF (sameIds (lessZ a.ids [id])) out 0).toNat at0).ids, (out.getD (idxF (sameIds (lessZ a.ids [id])) out 0).toNat at0).h, joinV (out.getD (idxF (sameIds (lessZ a.ids [id])) out 0).toNat at0).p a.p⟩)
def coarseV (l : List Atm) (id : Int) : List Atm × Int := if soundAL l then coarseGo id l [] else ([], 2)
def coI (l : List Atm) (id : Int) (R : List Atm × Int) (s : {s : Nat × List Atm × Nat // s.1 ≤ l.length ∧ coarseGo id (l.drop s.1) s.2.1 = R ∧ s.2.1.length ≤ s.1 ∧ ∀ b ∈ s.2.1, b.ids.length ≤ 1048576 ∧ b.p.length ≤ 1048576}) : ASt :=
  ⟨[(16, .p (.d (.v (.int .i64 (s.val.1 : Int))))), (15, .p (.d (.v (.int .i64 (l.length : Int))))), (14, .p (.d (.sl 4 l.length (rowAt l)))), (6, .ow 6 s.val.2.2 4 s.val.2.1.length), (1, .p (.d (.v (.int .i64 id))))],
   [(6, .own 42 4 s.val.2.1.length s.val.2.2 (rowAt s.val.2.1))]⟩
theorem set_row (out : List Atm) (j : Nat) (hj : j < out.length) (p : List Cube) (i : Nat) (hi : i < out.length) :
    putEl (rowAt out) j 3 [.sl 4 p.length (rowC p)] i = rowAt (out.set j ⟨(out.getD j at0).ids, (out.getD j at0).h, p⟩) i := by
  unfold putEl rowAt
  by_cases h : i = j
  · subst h
    rw [if_pos rfl]
    rw [show (out.set i ⟨(out.getD i at0).ids, (out.getD i at0).h, p⟩).getD i at0 = ⟨(out.getD i at0).ids, (out.getD i at0).h, p⟩ by
      rw [List.getD_eq_getElem?_getD, List.getElem?_set_self hi]; rfl]
    rfl
  · rw [if_neg h]
    congr 1
    rw [List.getD_eq_getElem?_getD, List.getD_eq_getElem?_getD, List.getElem?_set_ne (fun e => h e.symm)]
set_option maxRecDepth 100000 in
set_option maxHeartbeats 8000000 in
theorem Coarsen_c (l : List Atm) (id : Int) (hl : smallA l) : ACalls Tryz.prog 26 [.d (.sl 4 l.length (rowAt l)), .d (.v (.int .i64 id))] (· = [.d (.sl 4 (coarseV l id).1.length (rowAt (coarseV l id).1)), .d (.v (.int .i64 (coarseV l id).2))]) := by
  have so := soundAL_c l hl
  obtain ⟨l1, l2⟩ := hl
  unfold coarseV
  cases hs : soundAL l
  · rw [hs] at so
    simp only [Bool.false_eq_true, if_false]
    refine q10 Tryz.func26 rfl (by decide +kernel) (by rw [Tryz.ntmps26]; simp) ?_; rw [Tryz.ntmps26]; simp only [frOf]
    (repeat (first | refine q0 ?_ | refine j6 rfl ?_ | refine q7 rfl ?_ | refine q6 ?_ | (refine q4 fun K hK => ?_) | (refine x4 (by kernel_rfl) (by kernel_rfl) fun K hK => ?_) | ((first | refine j5 ?_ | refine z6 ?_ | ((first | refine q5 (hK _ ?_) | refine x5 (hK _ _ (j4 (by kernel_rfl)) ?_)); clear hK K)); (first | show AWP _ _ _ _ _ | ((try simp only [x6]); first | show loopQ _ _ _ _ _ _ | show cutQ _ _ _ _ | show AWP _ _ _ _ _))) | ((first | refine q9 rfl rfl rfl ?_ | refine x9 rfl rfl rfl ?_); simp (maxSteps := 2000000) (disch := omega) only [go_sem, seval, hd, cb, atD]; (first | refine ⟨_, so, ?_⟩)) | ((first | refine z7 [] rfl ?_ | refine x7 [] rfl ?_); simp (maxSteps := 2000000) (disch := omega) only [go_sem, seval, hd, cb, atD]; (repeat (first | refine ⟨by omega, ?_⟩ | refine ⟨True.intro, ?_⟩)))))
    refine awp_slot 4 _ (.p (.d (.sl 4 ([] : List Atm).length (rowAt [])))) rfl (le_nil 4 _ _ rfl) ?_
    refine j9 ⟨_, ?_, rfl⟩; rw [Tryz.results26]; simp (disch := omega) only [ResVars, ResVar, ptrLoc, go_sem, seval, hd, cb, atD]
  · rw [hs] at so
    simp only [if_true]
    obtain ⟨R, hR⟩ : ∃ R, coarseGo id l [] = R := ⟨_, rfl⟩
    rw [hR]
    refine q10 Tryz.func26 rfl (by decide +kernel) (by rw [Tryz.ntmps26]; simp) ?_; rw [Tryz.ntmps26]; simp only [frOf]
    (repeat ((fail_if_success (show AWP _ _ (.region 4 _ _) _ _)); first | refine q0 ?_ | refine j6 rfl ?_ | refine q7 rfl ?_ | refine q6 ?_ | (refine q4 fun K hK => ?_) | (refine x4 (by kernel_rfl) (by kernel_rfl) fun K hK => ?_) | ((first | refine j5 ?_ | refine z6 ?_ | ((first | refine q5 (hK _ ?_) | refine x5 (hK _ _ (j4 (by kernel_rfl)) ?_)); clear hK K)); (first | show AWP _ _ _ _ _ | ((try simp only [x6]); first | show loopQ _ _ _ _ _ _ | show cutQ _ _ _ _ | show AWP _ _ _ _ _))) | ((first | refine q9 rfl rfl rfl ?_ | refine x9 rfl rfl rfl ?_); simp (maxSteps := 2000000) (disch := omega) only [go_sem, seval, hd, cb, atD]; (first | refine ⟨_, so, ?_⟩)) | ((first | refine z7 [] rfl ?_ | refine x7 [] rfl ?_); simp (maxSteps := 2000000) (disch := omega) only [go_sem, seval, hd, cb, atD]; (repeat (first | refine ⟨by omega, ?_⟩ | refine ⟨True.intro, ?_⟩)))))
    refine awp_own 6 6 4 42 (rowAt []) rfl (by kernel_rfl) rfl ?_
    (repeat (first | refine q0 ?_ | refine j6 rfl ?_ | refine q7 rfl ?_ | refine q6 ?_ | (refine q4 fun K hK => ?_) | (refine x4 (by kernel_rfl) (by kernel_rfl) fun K hK => ?_) | ((first | refine j5 ?_ | refine z6 ?_ | ((first | refine q5 (hK _ ?_) | refine x5 (hK _ _ (j4 (by kernel_rfl)) ?_)); clear hK K)); (first | show AWP _ _ _ _ _ | ((try simp only [x6]); first | show loopQ _ _ _ _ _ _ | show cutQ _ _ _ _ | show AWP _ _ _ _ _))) | ((first | refine z7 [] rfl ?_ | refine x7 [] rfl ?_); simp (maxSteps := 2000000) (disch := omega) only [go_sem, seval, hd, cb, atD]; (repeat (first | refine ⟨by omega, ?_⟩ | refine ⟨True.intro, ?_⟩)))))
    refine awp_loop (coI l id R) (fun s => l.length - s.val.1) ⟨(0, [], 0), by omega, by rw [List.drop_zero]; exact hR, by simp, by simp⟩ ?_ (fun s => ?_)
    · unfold coI
      refine Weak.list ?_ ?_; (all_goals simp (disch := omega) only [AllF, AllL, x10, j10, z10, exists_eq_left', Option.some.injEq, go_sem, seval, hd, cb, atD]); (all_goals (repeat' (with_reducible apply And.intro))); (all_goals try (first | exact j7 rfl | (refine q11 ?_; omega) | (refine j7 ?_; simp; done)))
    obtain ⟨⟨i, out, g⟩, hi', h1, h2, h3⟩ := s
    simp only [] at hi' h1 h2 h3
    unfold coI
    simp only []
    by_cases hn : i < l.length
    · have r1 := rowAt_at l i
      obtain ⟨b1, b2⟩ := l2 _ (getD_in hn at0)
      rw [drop_getD l i at0 hn] at h1
      unfold coarseGo at h1
      generalize l.getD i at0 = a at r1 b1 b2 h1
      have ls := LessS_c a.ids [id] (by omega) (by simp)
      have ls : ACalls Tryz.prog 59 [.d (.sl 1 a.ids.length (rowZ a.ids)), .d (.sl 1 1 fun i => [[Dat.v (.int .i64 id)]].getD i [])] (· = [.d (.sl 1 (lessZ a.ids [id]).length (rowZ (lessZ a.ids [id])))]) :=
        acalls_le (.cons (ple_refl _) (.cons (ple_sl rfl fun i hi => by
          obtain rfl : i = 0 := by omega
          rfl) .nil)) ls
      have lz : (lessZ a.ids [id]).length ≤ 1048576 := by
        have : (lessZ a.ids [id]).length ≤ a.ids.length := Nat.le_trans (List.length_filter_le _ _) (mkZ_len a.ids)
        omega
      generalize lessZ a.ids [id] = ids at ls lz h1
      have ix := IndexOwn_c out g ⟨ids, a.h, a.p⟩ 60 (sameIds ids) (by omega) (fun b hb => Coarsen1_c ⟨ids, a.h, a.p⟩ b lz (h3 b hb).1)
      have cn := Clone_c a.p (by omega)
      have cp := Clip_c a.p.length (rowC a.p) (by omega)
      have il := idxF_lt (sameIds ids) out 0
      generalize idxF (sameIds ids) out 0 = J at ix il h1
      unfold caX at ix
      simp only [] at ix
      rcases il with rfl | ⟨j, rfl, -, hj⟩
      · rw [if_pos (by decide)] at h1
        (repeat (first | refine q0 ?_ | refine j6 rfl ?_ | refine q7 rfl ?_ | refine q6 ?_ | (refine q4 fun K hK => ?_) | (refine x4 (by kernel_rfl) (by kernel_rfl) fun K hK => ?_) | ((first | refine j5 ?_ | refine z6 ?_ | ((first | refine q5 (hK _ ?_) | refine x5 (hK _ _ (j4 (by kernel_rfl)) ?_)); clear hK K)); (first | show AWP _ _ _ _ _ | ((try simp only [x6]); first | show loopQ _ _ _ _ _ _ | show cutQ _ _ _ _ | show AWP _ _ _ _ _))) | ((first | refine q9 rfl rfl rfl ?_ | refine x9 rfl rfl rfl ?_); simp (maxSteps := 2000000) (disch := omega) only [go_sem, seval, hd, cb, atD, r1]; (first | refine ⟨_, ls, ?_⟩)) | ((first | refine z7 [] rfl ?_ | refine x7 [] rfl ?_); simp (maxSteps := 2000000) (disch := omega) only [go_sem, seval, hd, cb, atD, r1]; (repeat (first | refine ⟨by omega, ?_⟩ | refine ⟨True.intro, ?_⟩)))))
        (refine walkS_cons _ (step_mcall [(1000, 6), (1001, 8)] rfl rfl rfl rfl rfl rfl (ix) rfl (namesOK_of (by repeat (first | exact trivial | refine ⟨rfl, ?_⟩)) (by kernel_rfl))) ?_); simp (maxSteps := 2000000) (disch := omega) only [go_sem, seval, hd, cb, atD, r1]
        (repeat (first | refine q0 ?_ | refine j6 rfl ?_ | refine q7 rfl ?_ | refine q6 ?_ | (refine q4 fun K hK => ?_) | (refine x4 (by kernel_rfl) (by kernel_rfl) fun K hK => ?_) | ((first | refine j5 ?_ | refine z6 ?_ | ((first | refine q5 (hK _ ?_) | refine x5 (hK _ _ (j4 (by kernel_rfl)) ?_)); clear hK K)); (first | show AWP _ _ _ _ _ | ((try simp only [x6]); first | show loopQ _ _ _ _ _ _ | show cutQ _ _ _ _ | show AWP _ _ _ _ _))) | ((first | refine q9 rfl rfl rfl ?_ | refine x9 rfl rfl rfl ?_); simp (maxSteps := 2000000) (disch := omega) only [go_sem, seval, hd, cb, atD, r1]; (first | refine ⟨_, cn, ?_⟩ | refine ⟨_, cp, ?_⟩)) | ((first | refine z7 [] rfl ?_ | refine x7 [] rfl ?_); simp (maxSteps := 2000000) (disch := omega) only [go_sem, seval, hd, cb, atD, r1]; (repeat (first | refine ⟨by omega, ?_⟩ | refine ⟨True.intro, ?_⟩)))))
        refine ⟨⟨(i + 1, out ++ [⟨ids, a.h, a.p⟩], g + 1), by simp only []; omega, h1, by simp only [List.length_append, List.length_cons, List.length_nil]; omega, fun b hb => ?_⟩, by simp only []; omega, ?_⟩
        · rcases List.mem_append.1 hb with hb | hb
          · exact h3 b hb
          · simp at hb; subst hb; exact ⟨lz, b2⟩
        refine Weak.list ?_ ?_; (all_goals simp (disch := omega) only [AllF, AllL, x10, j10, z10, exists_eq_left', Option.some.injEq, go_sem, seval, hd, cb, atD, r1]); (all_goals (repeat' (with_reducible apply And.intro))); (all_goals try (first | exact j7 rfl | (refine q11 ?_; omega) | (refine j7 ?_; simp; done)))
        all_goals first | exact le_ow rfl (by first | rfl | simp) | exact lle_own (by first | rfl | simp) rfl (fun k hk => rowAt_put out ⟨ids, a.h, a.p⟩ k hk)
      · rw [if_neg (by omega), Int.toNat_natCast] at h1
        have hj : j < out.length := by omega
        have sr := set_row out j hj
        have r2 := rowAt_at out j
        obtain ⟨c1, c2⟩ := h3 _ (getD_in hj at0)
        generalize out.getD j at0 = b at r2 c1 c2 h1 sr
        have jn := JoinP_c b.p a.p (by omega) (by omega)
        have jl := joinV_len b.p a.p
        generalize joinE b.p a.p = e at jn h1
        generalize joinV b.p a.p = np at jn jl h1
        by_cases he : e = 0
        · subst he
          rw [if_neg (by simp)] at h1
          (repeat (first | refine q0 ?_ | refine j6 rfl ?_ | refine q7 rfl ?_ | refine q6 ?_ | (refine q4 fun K hK => ?_) | (refine x4 (by kernel_rfl) (by kernel_rfl) fun K hK => ?_) | ((first | refine j5 ?_ | refine z6 ?_ | ((first | refine q5 (hK _ ?_) | refine x5 (hK _ _ (j4 (by kernel_rfl)) ?_)); clear hK K)); (first | show AWP _ _ _ _ _ | ((try simp only [x6]); first | show loopQ _ _ _ _ _ _ | show cutQ _ _ _ _ | show AWP _ _ _ _ _))) | ((first | refine q9 rfl rfl rfl ?_ | refine x9 rfl rfl rfl ?_); simp (maxSteps := 2000000) (disch := omega) only [go_sem, seval, hd, cb, atD, r1, r2]; (first | refine ⟨_, ls, ?_⟩)) | ((first | refine z7 [] rfl ?_ | refine x7 [] rfl ?_); simp (maxSteps := 2000000) (disch := omega) only [go_sem, seval, hd, cb, atD, r1, r2]; (repeat (first | refine ⟨by omega, ?_⟩ | refine ⟨True.intro, ?_⟩)))))
          (refine walkS_cons _ (step_mcall [(1000, 6), (1001, 8)] rfl rfl rfl rfl rfl rfl (ix) rfl (namesOK_of (by repeat (first | exact trivial | refine ⟨rfl, ?_⟩)) (by kernel_rfl))) ?_); simp (maxSteps := 2000000) (disch := omega) only [go_sem, seval, hd, cb, atD, r1, r2]
          (repeat (first | refine q0 ?_ | refine j6 rfl ?_ | refine q7 rfl ?_ | refine q6 ?_ | (refine q4 fun K hK => ?_) | (refine x4 (by kernel_rfl) (by kernel_rfl) fun K hK => ?_) | ((first | refine j5 ?_ | refine z6 ?_ | ((first | refine q5 (hK _ ?_) | refine x5 (hK _ _ (j4 (by kernel_rfl)) ?_)); clear hK K)); (first | show AWP _ _ _ _ _ | ((try simp only [x6]); first | show loopQ _ _ _ _ _ _ | show cutQ _ _ _ _ | show AWP _ _ _ _ _))) | ((first | refine q9 rfl rfl rfl ?_ | refine x9 rfl rfl rfl ?_); simp (maxSteps := 2000000) (disch := omega) only [go_sem, seval, hd, cb, atD, r1, r2]; (first | refine ⟨_, jn, ?_⟩)) | ((first | refine z7 [] rfl ?_ | refine x7 [] rfl ?_); simp (maxSteps := 2000000) (disch := omega) only [go_sem, seval, hd, cb, atD, r1, r2]; (repeat (first | refine ⟨by omega, ?_⟩ | refine ⟨True.intro, ?_⟩)))))
          refine ⟨⟨(i + 1, out.set j ⟨b.ids, b.h, np⟩, g), by simp only []; omega, h1, by simp only [List.length_set]; omega, fun x hx => ?_⟩, by simp only []; omega, ?_⟩
          · rcases List.mem_or_eq_of_mem_set hx with hx | rfl
            · exact h3 x hx
            · exact ⟨c1, by simp only []; omega⟩
          refine Weak.list ?_ ?_; (all_goals simp (disch := omega) only [AllF, AllL, x10, j10, z10, exists_eq_left', Option.some.injEq, go_sem, seval, hd, cb, atD, r1, r2]); (all_goals (repeat' (with_reducible apply And.intro))); (all_goals try (first | exact j7 rfl | (refine q11 ?_; omega) | (refine j7 ?_; simp; done)))
          all_goals first | exact le_ow rfl (by first | rfl | simp) | exact lle_own (by first | rfl | simp) rfl (fun k hk => sr np k hk)
        · rw [if_pos he] at h1
          subst h1
          have q := ine_tt he
          (repeat (first | refine q0 ?_ | refine j6 rfl ?_ | refine q7 rfl ?_ | refine q6 ?_ | (refine q4 fun K hK => ?_) | (refine x4 (by kernel_rfl) (by kernel_rfl) fun K hK => ?_) | ((first | refine j5 ?_ | refine z6 ?_ | ((first | refine q5 (hK _ ?_) | refine x5 (hK _ _ (j4 (by kernel_rfl)) ?_)); clear hK K)); (first | show AWP _ _ _ _ _ | ((try simp only [x6]); first | show loopQ _ _ _ _ _ _ | show cutQ _ _ _ _ | show AWP _ _ _ _ _))) | ((first | refine q9 rfl rfl rfl ?_ | refine x9 rfl rfl rfl ?_); simp (maxSteps := 2000000) (disch := omega) only [go_sem, seval, hd, cb, atD, r1, r2, q]; (first | refine ⟨_, ls, ?_⟩)) | ((first | refine z7 [] rfl ?_ | refine x7 [] rfl ?_); simp (maxSteps := 2000000) (disch := omega) only [go_sem, seval, hd, cb, atD, r1, r2, q]; (repeat (first | refine ⟨by omega, ?_⟩ | refine ⟨True.intro, ?_⟩)))))
          (refine walkS_cons _ (step_mcall [(1000, 6), (1001, 8)] rfl rfl rfl rfl rfl rfl (ix) rfl (namesOK_of (by repeat (first | exact trivial | refine ⟨rfl, ?_⟩)) (by kernel_rfl))) ?_); simp (maxSteps := 2000000) (disch := omega) only [go_sem, seval, hd, cb, atD, r1, r2, q]
          (repeat (first | refine q0 ?_ | refine j6 rfl ?_ | refine q7 rfl ?_ | refine q6 ?_ | (refine q4 fun K hK => ?_) | (refine x4 (by kernel_rfl) (by kernel_rfl) fun K hK => ?_) | ((first | refine j5 ?_ | refine z6 ?_ | ((first | refine q5 (hK _ ?_) | refine x5 (hK _ _ (j4 (by kernel_rfl)) ?_)); clear hK K)); (first | show AWP _ _ _ _ _ | ((try simp only [x6]); first | show loopQ _ _ _ _ _ _ | show cutQ _ _ _ _ | show AWP _ _ _ _ _))) | ((first | refine q9 rfl rfl rfl ?_ | refine x9 rfl rfl rfl ?_); simp (maxSteps := 2000000) (disch := omega) only [go_sem, seval, hd, cb, atD, r1, r2, q]; (first | refine ⟨_, jn, ?_⟩)) | ((first | refine z7 [] rfl ?_ | refine x7 [] rfl ?_); simp (maxSteps := 2000000) (disch := omega) only [go_sem, seval, hd, cb, atD, r1, r2, q]; (repeat (first | refine ⟨by omega, ?_⟩ | refine ⟨True.intro, ?_⟩)))))
          refine awp_slot 4 _ (.p (.d (.sl 4 ([] : List Atm).length (rowAt [])))) rfl (le_nil 4 _ _ rfl) ?_
          refine j9 ⟨_, ?_, rfl⟩; rw [Tryz.results26]; simp (disch := omega) only [ResVars, ResVar, ptrLoc, go_sem, seval, hd, cb, atD, r1, r2, q]
    · have : i = l.length := by omega
      subst this
      rw [List.drop_length] at h1
      unfold coarseGo at h1
      subst h1
      have cp := ClipAt_c out.length (rowAt out) (by omega)
      (repeat ((fail_if_success (show AWP _ _ (.region 17 _ _) _ _)); first | refine q0 ?_ | refine j6 rfl ?_ | refine q7 rfl ?_ | refine q6 ?_ | (refine q4 fun K hK => ?_) | (refine x4 (by kernel_rfl) (by kernel_rfl) fun K hK => ?_) | ((first | refine j5 ?_ | refine z6 ?_ | ((first | refine q5 (hK _ ?_) | refine x5 (hK _ _ (j4 (by kernel_rfl)) ?_)); clear hK K)); (first | show AWP _ _ _ _ _ | ((try simp only [x6]); first | show loopQ _ _ _ _ _ _ | show cutQ _ _ _ _ | show AWP _ _ _ _ _))) | ((first | refine z7 [] rfl ?_ | refine x7 [] rfl ?_); simp (maxSteps := 2000000) (disch := omega) only [go_sem, seval, hd, cb, atD, look_dropL]; (repeat (first | refine ⟨by omega, ?_⟩ | refine ⟨True.intro, ?_⟩)))))
      refine awp_freeze 6 6 g 4 out.length 42 (rowAt out) rfl rfl ?_
      (repeat (first | refine q0 ?_ | refine j6 rfl ?_ | refine q7 rfl ?_ | refine q6 ?_ | (refine q4 fun K hK => ?_) | (refine x4 (by kernel_rfl) (by kernel_rfl) fun K hK => ?_) | ((first | refine j5 ?_ | refine z6 ?_ | ((first | refine q5 (hK _ ?_) | refine x5 (hK _ _ (j4 (by kernel_rfl)) ?_)); clear hK K)); (first | show AWP _ _ _ _ _ | ((try simp only [x6]); first | show loopQ _ _ _ _ _ _ | show cutQ _ _ _ _ | show AWP _ _ _ _ _))) | ((first | refine q9 rfl rfl rfl ?_ | refine x9 rfl rfl rfl ?_); simp (maxSteps := 2000000) (disch := omega) only [go_sem, seval, hd, cb, atD, look_dropL]; (first | refine ⟨_, cp, ?_⟩)) | ((first | refine z7 [] rfl ?_ | refine x7 [] rfl ?_); simp (maxSteps := 2000000) (disch := omega) only [go_sem, seval, hd, cb, atD, look_dropL]; (repeat (first | refine ⟨by omega, ?_⟩ | refine ⟨True.intro, ?_⟩)))))
      refine j9 ⟨_, ?_, rfl⟩; rw [Tryz.results26]; simp (disch := omega) only [ResVars, ResVar, ptrLoc, go_sem, seval, hd, cb, atD, look_dropL]
def ofTo (l : List Atm) (id : Int) (i : Nat) : List Int := ((List.range i).filter fun k => (l.getD k at0).ids.contains id).map fun k => ((k : Nat) : Int)
theorem ofTo_succ (l : List Atm) (id : Int) (i : Nat) : ofTo l id (i + 1) = ofTo l id i ++ if (l.getD i at0).ids.contains id then [(i : Int)] else [] := by
  unfold ofTo
  rw [List.range_succ, List.filter_append, List.map_append]
  congr 1
  rw [List.filter_cons]
  split <;> rfl
def ofAI (l : List Atm) (id : Int) (s : {s : Nat × List Int × Nat // s.1 ≤ l.length ∧ s.2.1 = ofTo l id s.1 ∧ s.2.1.length ≤ s.1}) : ASt :=
  ⟨[(10, .p (.d (.v (.int .i64 (s.val.1 : Int))))), (9, .p (.d (.v (.int .i64 (l.length : Int))))), (8, .p (.d (.sl 4 l.length (rowAt l)))), (5, .gr 5 s.val.2.2 1 s.val.2.1.length (rowZ s.val.2.1)), (1, .p (.d (.v (.int .i64 id))))],
   [(5, .grow 3 1 s.val.2.1.length s.val.2.2)]⟩
set_option maxRecDepth 100000 in
set_option maxHeartbeats 4000000 in
theorem OfA_c (l : List Atm) (id : Int) (hl : smallA l) : ACalls Tryz.prog 19 [.d (.sl 4 l.length (rowAt l)), .d (.v (.int .i64 id))] (· = [.d (.sl 1 (ofTo l id l.length).length (rowZ (ofTo l id l.length)))]) := by
  obtain ⟨l1, l2⟩ := hl
  refine q10 Tryz.func19 rfl (by decide +kernel) (by rw [Tryz.ntmps19]; simp) ?_; rw [Tryz.ntmps19]; simp only [frOf]
  (repeat ((fail_if_success (show AWP _ _ (.region 2 _ _) _ _)); first | refine q0 ?_ | refine j6 rfl ?_ | refine q7 rfl ?_ | refine q6 ?_ | (refine q4 fun K hK => ?_) | (refine x4 (by kernel_rfl) (by kernel_rfl) fun K hK => ?_) | ((first | refine j5 ?_ | refine z6 ?_ | ((first | refine q5 (hK _ ?_) | refine x5 (hK _ _ (j4 (by kernel_rfl)) ?_)); clear hK K)); (first | show AWP _ _ _ _ _ | ((try simp only [x6]); first | show loopQ _ _ _ _ _ _ | show cutQ _ _ _ _ | show AWP _ _ _ _ _))) | ((first | refine z7 [] rfl ?_ | refine x7 [] rfl ?_); simp (maxSteps := 2000000) (disch := omega) only [go_sem, seval, hd, cb, atD]; (repeat (first | refine ⟨by omega, ?_⟩ | refine ⟨True.intro, ?_⟩)))))
  refine awp_grow 5 5 1 3 (rowZ []) rfl (by kernel_rfl) rfl ?_
  (repeat (first | refine q0 ?_ | refine j6 rfl ?_ | refine q7 rfl ?_ | refine q6 ?_ | (refine q4 fun K hK => ?_) | (refine x4 (by kernel_rfl) (by kernel_rfl) fun K hK => ?_) | ((first | refine j5 ?_ | refine z6 ?_ | ((first | refine q5 (hK _ ?_) | refine x5 (hK _ _ (j4 (by kernel_rfl)) ?_)); clear hK K)); (first | show AWP _ _ _ _ _ | ((try simp only [x6]); first | show loopQ _ _ _ _ _ _ | show cutQ _ _ _ _ | show AWP _ _ _ _ _))) | ((first | refine z7 [] rfl ?_ | refine x7 [] rfl ?_); simp (maxSteps := 2000000) (disch := omega) only [go_sem, seval, hd, cb, atD]; (repeat (first | refine ⟨by omega, ?_⟩ | refine ⟨True.intro, ?_⟩)))))
  refine awp_loop (ofAI l id) (fun s => l.length - s.val.1) ⟨(0, [], 0), by omega, rfl, by simp⟩ ?_ (fun s => ?_)
  · unfold ofAI
    refine Weak.list ?_ ?_; (all_goals simp (disch := omega) only [AllF, AllL, x10, j10, z10, exists_eq_left', Option.some.injEq, go_sem, seval, hd, cb, atD]); (all_goals (repeat' (with_reducible apply And.intro))); (all_goals try (first | exact j7 rfl | (refine q11 ?_; omega) | (refine j7 ?_; simp; done)))
  obtain ⟨⟨i, out, g⟩, hi', h1, h2⟩ := s
  simp only [] at hi' h1 h2
  unfold ofAI
  simp only []
  by_cases hn : i < l.length
  · have r1 := rowAt_at l i
    have os := ofTo_succ l id i
    obtain ⟨b1, b2⟩ := l2 _ (getD_in hn at0)
    generalize l.getD i at0 = a at r1 b1 b2 os
    have hs := HasS_c a.ids id (by omega)
    cases hb : a.ids.contains id
    all_goals
      rw [hb] at hs os
      simp only [Bool.false_eq_true, if_false, if_true, List.append_nil] at os
      (repeat (first | refine q0 ?_ | refine j6 rfl ?_ | refine q7 rfl ?_ | refine q6 ?_ | (refine q4 fun K hK => ?_) | (refine x4 (by kernel_rfl) (by kernel_rfl) fun K hK => ?_) | ((first | refine j5 ?_ | refine z6 ?_ | ((first | refine q5 (hK _ ?_) | refine x5 (hK _ _ (j4 (by kernel_rfl)) ?_)); clear hK K)); (first | show AWP _ _ _ _ _ | ((try simp only [x6]); first | show loopQ _ _ _ _ _ _ | show cutQ _ _ _ _ | show AWP _ _ _ _ _))) | ((first | refine q9 rfl rfl rfl ?_ | refine x9 rfl rfl rfl ?_); simp (maxSteps := 2000000) (disch := omega) only [go_sem, seval, hd, cb, atD, r1]; (first | refine ⟨_, hs, ?_⟩)) | ((first | refine z7 [] rfl ?_ | refine x7 [] rfl ?_); simp (maxSteps := 2000000) (disch := omega) only [go_sem, seval, hd, cb, atD, r1]; (repeat (first | refine ⟨by omega, ?_⟩ | refine ⟨True.intro, ?_⟩)))))
    · refine ⟨⟨(i + 1, out, g), by simp only []; omega, by rw [os]; exact h1, by simp only []; omega⟩, by simp only []; omega, ?_⟩
      refine Weak.list ?_ ?_; (all_goals simp (disch := omega) only [AllF, AllL, x10, j10, z10, exists_eq_left', Option.some.injEq, go_sem, seval, hd, cb, atD, r1]); (all_goals (repeat' (with_reducible apply And.intro))); (all_goals try (first | exact j7 rfl | (refine q11 ?_; omega) | (refine j7 ?_; simp; done)))
    · refine ⟨⟨(i + 1, out ++ [(i : Int)], g + 1), by simp only []; omega, by rw [os, ← h1], by simp only [List.length_append, List.length_cons, List.length_nil]; omega⟩, by simp only []; omega, ?_⟩
      refine Weak.list ?_ ?_; (all_goals simp (disch := omega) only [AllF, AllL, x10, j10, z10, exists_eq_left', Option.some.injEq, go_sem, seval, hd, cb, atD, r1]); (all_goals (repeat' (with_reducible apply And.intro))); (all_goals try (first | exact j7 rfl | (refine q11 ?_; omega) | (refine j7 ?_; simp; done)))
      · exact le_grgr rfl (by simp) (fun j hj => rowZ_put out (i : Int) j hj)
      · exact lle_grow (by simp) rfl
  · have : i = l.length := by omega
    subst this
    subst h1
    have cz := ClipZ_c (ofTo l id l.length).length (rowZ (ofTo l id l.length)) (by omega)
    (repeat ((fail_if_success (show AWP _ _ (.region 8 _ _) _ _)); first | refine q0 ?_ | refine j6 rfl ?_ | refine q7 rfl ?_ | refine q6 ?_ | (refine q4 fun K hK => ?_) | (refine x4 (by kernel_rfl) (by kernel_rfl) fun K hK => ?_) | ((first | refine j5 ?_ | refine z6 ?_ | ((first | refine q5 (hK _ ?_) | refine x5 (hK _ _ (j4 (by kernel_rfl)) ?_)); clear hK K)); (first | show AWP _ _ _ _ _ | ((try simp only [x6]); first | show loopQ _ _ _ _ _ _ | show cutQ _ _ _ _ | show AWP _ _ _ _ _))) | ((first | refine z7 [] rfl ?_ | refine x7 [] rfl ?_); simp (maxSteps := 2000000) (disch := omega) only [go_sem, seval, hd, cb, atD]; (repeat (first | refine ⟨by omega, ?_⟩ | refine ⟨True.intro, ?_⟩)))))
    refine awp_slot 5 _ (.p (.d (.sl 1 (ofTo l id l.length).length (rowZ (ofTo l id l.length))))) rfl (le_gr rfl (fun _ _ => rfl)) ?_
    (repeat (first | refine q0 ?_ | refine j6 rfl ?_ | refine q7 rfl ?_ | refine q6 ?_ | (refine q4 fun K hK => ?_) | (refine x4 (by kernel_rfl) (by kernel_rfl) fun K hK => ?_) | ((first | refine j5 ?_ | refine z6 ?_ | ((first | refine q5 (hK _ ?_) | refine x5 (hK _ _ (j4 (by kernel_rfl)) ?_)); clear hK K)); (first | show AWP _ _ _ _ _ | ((try simp only [x6]); first | show loopQ _ _ _ _ _ _ | show cutQ _ _ _ _ | show AWP _ _ _ _ _))) | ((first | refine q9 rfl rfl rfl ?_ | refine x9 rfl rfl rfl ?_); simp (maxSteps := 2000000) (disch := omega) only [go_sem, seval, hd, cb, atD]; (first | refine ⟨_, cz, ?_⟩)) | ((first | refine z7 [] rfl ?_ | refine x7 [] rfl ?_); simp (maxSteps := 2000000) (disch := omega) only [go_sem, seval, hd, cb, atD]; (repeat (first | refine ⟨by omega, ?_⟩ | refine ⟨True.intro, ?_⟩)))))
    refine j9 ⟨_, ?_, rfl⟩; rw [Tryz.results19]; simp (disch := omega) only [ResVars, ResVar, ptrLoc, go_sem, seval, hd, cb, atD]
end Go.Proofs.YtemcdefpihkfpaaGreat
