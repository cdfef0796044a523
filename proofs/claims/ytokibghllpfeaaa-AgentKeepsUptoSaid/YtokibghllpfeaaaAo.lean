/- Rows of own memory that may be written and may grow: what operations do to them; function values that hold own memory. Conditions: none; it holds over every program. -/
import Derived.Test.YtokibghllpfeaaaAb
set_option linter.unusedSimpArgs false
set_option linter.unusedVariables false
namespace Go.Proofs.Ytokibghllpfeaaa.AL
open Go.RowKit
variable {P : Program}
def ownX : List AV → Bool
  | .el .. :: _ => true
  | .ow .. :: _ => true
  | _ => false
/-- an element of a row, said anew from cell j on -/
def putEl (f : Nat → List Dat) (i j : Nat) (ys : List Dat) : Nat → List Dat := fun k => if k = i then (f i).take j ++ ys ++ (f i).drop (j + ys.length) else f k
/-- An own row's block, and what it holds. -/
theorem own_block {B : Nat → Prop} {w : World} {h : Gh} {l sz n gen : Nat} {e : TypeId} {f : Nat → List Dat} (hL : LocOK B w h l (.own e sz n gen f)) {b : Nat} (hb : (h.κ l).ownBlock = some b) :
    ∃ cap cur, h.κ l = .slice (some ⟨b, 0, none⟩) n cap ∧ w.heap[b]? = some (.cells cur e (0, 0)) ∧ n ≤ cap ∧ cap ≤ maxLen ∧ cur.size = cap * sz ∧ h.g b = 0 ∧ B b ∧ RowIs w h.g sz n (cur.toList.take (n * sz)) f := by
  obtain ⟨_, ⟨xs, h2, hr⟩, h4⟩ := hL
  obtain ⟨g1, g2⟩ := h4 b hb
  rcases h2 with ⟨a1, ⟨a2, _⟩ | ⟨gb, cap, cur, a2, a3, a4, a5, a6, a7, a8⟩⟩
  · rw [a2] at hb; cases hb
  · rw [a2] at hb
    simp [Value.ownBlock] at hb
    subst hb
    exact ⟨cap, cur, a2, a4, a5, a6, a7, g1, g2, by rw [a8]; exact hr⟩
theorem RowIs.cell {w : World} {g : Nat → Nat} {sz n : Nat} {cur : Array Value} {f : Nat → List Dat} (r : RowIs w g sz n (cur.toList.take (n * sz)) f) {i j : Nat} (hi : i < n) (hj : j < sz) {d : Dat} (hd : (f i)[j]? = some d) :
    ∃ u, cur[i * sz + j]? = some u ∧ RelD w g u d := by
  obtain ⟨u, h1, h2⟩ := r.2 i j d hi hj hd
  rw [List.getElem?_take_of_lt (idx_lt hi hj)] at h1
  exact ⟨u, by simpa using h1, h2⟩
theorem RowIs.at {w : World} {g : Nat → Nat} {sz n : Nat} {cur : Array Value} {f : Nat → List Dat} (r : RowIs w g sz n (cur.toList.take (n * sz)) f) {i j : Nat} (hi : i < n) (hj : j < sz) : ∃ u d, (f i)[j]? = some d ∧ cur[i * sz + j]? = some u ∧ RelD w g u d := by
  have hl := r.1 i hi
  obtain ⟨u, h1, h2⟩ := r.cell hi hj (List.getElem?_eq_getElem (by omega))
  exact ⟨u, _, List.getElem?_eq_getElem (by omega), h1, h2⟩

def effLoadO (P : Program) (t : TypeId) (xs : List AV) (lL : Option (Nat × LV)) : Option Eff :=
  match tiOf P t, xs, lL with
  | some ti, [.el l gen sz i j], some (l', .own _ sz' n gen' f) =>
    bif ti.k.agg then some { val := .p (.agg (((f i).drop j).take ti.size)), obl := (l' = l ∧ gen' = gen ∧ sz' = sz) ∧ i < n ∧ j + ti.size ≤ sz }
    else ((f i)[j]?).map fun d => { val := .p (.d d), obl := (l' = l ∧ gen' = gen ∧ sz' = sz) ∧ i < n }
  | _, _, _ => none
theorem sem_loadO {o : Oper} {t : TypeId} {x : Operand} (ho : o.op = .load t x) {xs : List AV} {lL : Option (Nat × LV)} {E : Eff} (hE : effLoadO P t xs lL = some E) (hobl : E.obl) : OpSem P o xs lL E := by
  unfold effLoadO at hE
  split at hE
  · rename_i ti l gen sz i j l' e sz' n gen' f hti
    have blk : ∀ (B : Nat → Prop) (w : World) (h : Gh) (r : Operand → Value), RelAs w h (o.op.operands.toList.map r) [.el l gen sz i j] → LocOK B w h l (.own e sz n gen f) →
        ∃ b cap cur, r x = .pointer (some ⟨b, i * sz + j, none⟩) ∧ w.heap[b]? = some (.cells cur e (0, 0)) ∧ RowIs w h.g sz n (cur.toList.take (n * sz)) f ∧ n ≤ cap ∧ cur.size = cap * sz := by
      intro B w h r hr hL
      simp only [ho, Op.operands] at hr
      obtain ⟨q1, b, q2, q3⟩ := hr.2 0 (r x) _ rfl rfl
      obtain ⟨cap, cur, c1, c2, c3, c4, c5, c6, c7, c8⟩ := own_block hL (q3 hL.1)
      exact ⟨b, cap, cur, q2, c2, c8, c3, c5⟩
    cases ha : ti.k.agg with
    | true =>
      rw [ha] at hE
      simp only [cond_true] at hE
      cases hE
      obtain ⟨⟨rfl, rfl, rfl⟩, hi, hj⟩ := hobl
      refine opSem_pure fun B w h r hr hL => ?_
      obtain ⟨b, cap, cur, h1, h2, h3, h4, h5⟩ := blk B w h r hr (hL _ _ rfl)
      have hcs : i * sz' + sz' ≤ cur.size := by
        have : (i + 1) * sz' ≤ cap * sz' := Nat.mul_le_mul_right _ (by omega)
        rw [Nat.add_mul] at this; omega
      have hv : (Instr.loadAt t (.pointer (some ⟨b, i * sz' + j, none⟩))).run P w = .ok (.agg ((cur.toList.drop (i * sz' + j)).take ti.size).toArray) w := by
        refine run_load_agg hti ha (by simp; omega) fun k v hk => ?_
        have hlt : k < ti.size := by have := (List.getElem?_eq_some_iff.1 hk).1; simp at this; omega
        rw [List.getElem?_take_of_lt hlt, List.getElem?_drop] at hk
        rw [heap_cell h2]; simpa [Nat.add_assoc] using hk
      refine ⟨_, run_load_op ho r w h1 hv, ?_⟩
      refine .agg _ _ ?_ fun k v d hk hd => ?_
      · have := h3.1 i hi; simp; omega
      · have hlt : k < ti.size := by have := (List.getElem?_eq_some_iff.1 hk).1; simp at this; omega
        rw [List.getElem?_take_of_lt hlt, List.getElem?_drop] at hk hd
        obtain ⟨u, k1, k2⟩ := h3.cell hi (by omega) hd
        have : cur[i * sz' + (j + k)]? = some v := by simpa [Nat.add_assoc] using hk
        rw [k1] at this; cases this; exact k2
    | false =>
      rw [ha] at hE
      simp only [cond_false] at hE
      cases hd : (f i)[j]? with
      | none => rw [hd] at hE; cases hE
      | some d =>
        rw [hd] at hE
        cases hE
        obtain ⟨⟨rfl, rfl, rfl⟩, hi⟩ := hobl
        refine opSem_pure fun B w h r hr hL => ?_
        obtain ⟨b, cap, cur, h1, h2, h3, h4, h5⟩ := blk B w h r hr (hL _ _ rfl)
        have hj : j < sz' := by have := (List.getElem?_eq_some_iff.1 hd).1; rw [h3.1 i hi] at this; exact this
        obtain ⟨u, k1, k2⟩ := h3.cell hi hj hd
        exact ⟨u, run_load_op ho r w h1 (run_load_scalar hti ha (by rw [heap_cell h2]; exact k1)), .d _ _ k2⟩
  · cases hE

def effStoreO (P : Program) (t : TypeId) (xs : List AV) (lL : Option (Nat × LV)) : Option Eff :=
  match tiOf P t, xs, lL with
  | some ti, [.el l gen sz i j, x], some (l', .own e sz' n gen' f) =>
    (datsAV x).map fun ys => { val := .top, obl := (l' = l ∧ gen' = gen ∧ sz' = sz) ∧ i < n ∧ j + ti.size ≤ sz ∧ ys.length = ti.size, upd := some (l, .own e sz n gen (putEl f i j ys)) }
  | _, _, _ => none
theorem sem_storeO {o : Oper} {t : TypeId} {x y : Operand} (ho : o.op = .store t x y) {xs : List AV} {lL : Option (Nat × LV)} {E : Eff} (hE : effStoreO P t xs lL = some E) (hobl : E.obl) : OpSem P o xs lL E := by
  unfold effStoreO at hE
  split at hE
  · rename_i ti l gen sz i j z l' e sz' n gen' f hti
    cases hc : datsAV z with
    | none => rw [hc] at hE; cases hE
    | some ys =>
      rw [hc] at hE
      cases hE
      obtain ⟨⟨rfl, rfl, rfl⟩, hi, hj, hyl⟩ := hobl
      intro B w h r hB hz hr hL
      simp only [ho, Op.operands] at hr
      have hL := hL _ _ rfl
      obtain ⟨q1, b, q2, q3⟩ := hr.2 0 (r x) _ rfl rfl
      obtain ⟨cap, cur, c1, c2, c3, c4, c5, c6, c7, c8⟩ := own_block hL (q3 hL.1)
      obtain ⟨y1, y2, y3⟩ := datsAV_spec hc (hr.2 1 (r y) _ rfl rfl)
      have hcs : i * sz' + sz' ≤ cur.size := by
        have : (i + 1) * sz' ≤ cap * sz' := Nat.mul_le_mul_right _ (by omega)
        rw [Nat.add_mul] at this; omega
      have hfit : i * sz' + j + (r y).cells.size ≤ cur.size := by omega
      have hst := run_storeAt hti (w := w) c2 (.inl rfl) (by omega) hfit y3
      have tr : Trans B w h (w.setRow b (cur.toList.take (i * sz' + j) ++ (r y).cells.toList ++ cur.toList.drop (i * sz' + j + (r y).cells.size)).toArray) h (fun k => b = k) (some l') false := trans_set hz c7 c6 _
      refine ⟨.skip, undef, _, h, run_store_op ho r w _ q2 hst, .inr ⟨rfl, rfl⟩, trivial, ?_, fun l2 L2 hl => ?_⟩
      · have : ownOf h (some (l', LV.own e sz' n gen' f)) ⟨.top, (l' = l' ∧ gen' = gen' ∧ sz' = sz') ∧ i < n ∧ j + ti.size ≤ sz' ∧ ys.length = ti.size, some (l', .own e sz' n gen' (putEl f i j ys)), false⟩ = (fun k => b = k) := by
          funext k; simp [ownOf, inB, c1, Value.ownBlock]
        rw [this]; exact tr
      · cases hl
        have hh := setRow_heap w b cur (cur.toList.take (i * sz' + j) ++ (r y).cells.toList ++ cur.toList.drop (i * sz' + j + (r y).cells.size)).toArray e _ c2
        refine ⟨⟨hL.1, ⟨_, ⟨?_, .inr ⟨b, cap, _, c1, Nat.zero_le _, hh, c3, c4, ?_, rfl⟩⟩, ?_, ?_⟩, fun b' hb' => ?_⟩, fun b' hb' => .inr ⟨rfl, _, rfl, hb'⟩⟩
        · have : n * sz' ≤ cap * sz' := Nat.mul_le_mul_right _ c3
          simp; omega
        · simp; omega
        · intro k hk
          unfold putEl
          split
          · rename_i e; subst e
            have := c8.1 _ hi
            simp; omega
          · exact c8.1 k hk
        · intro k q d hk hq hd
          have hkq := idx_lt hk hq
          have hn : n * sz' ≤ cap * sz' := Nat.mul_le_mul_right _ c3
          have g1 := splice_get cur.toList (r y).cells.toList (i * sz' + j) (by simp; omega) (k * sz' + q)
          simp only [Array.length_toList] at g1
          simp only []
          rw [List.getElem?_take_of_lt hkq, g1]
          unfold putEl at hd
          have lt1 := c8.1 i hi
          by_cases hki : k = i
          · subst hki
            rw [if_pos rfl] at hd
            have g2 := splice_get (f k) ys j (by omega) q
            rw [g2] at hd
            by_cases hin : j ≤ q ∧ q < j + ys.length
            · rw [if_pos hin] at hd
              rw [if_pos (by omega)]
              have : q - j < (r y).cells.size := by omega
              refine ⟨(r y).cells[q - j], ?_, (y2 (q - j) _ d (by simp [this]) hd).keep tr.keep⟩
              have e : k * sz' + q - (k * sz' + j) = q - j := by omega
              rw [e]; simp [this]
            · rw [if_neg hin] at hd
              rw [if_neg (by omega)]
              obtain ⟨u, k1, k2⟩ := c8.cell hk hq hd
              exact ⟨u, by simpa using k1, k2.keep tr.keep⟩
          · rw [if_neg hki] at hd
            have hno : ¬ (i * sz' + j ≤ k * sz' + q ∧ k * sz' + q < i * sz' + j + (r y).cells.size) := by
              intro ⟨h1, h2⟩
              rcases Nat.lt_or_gt_of_ne hki with hlt | hgt
              · have : (k + 1) * sz' ≤ i * sz' := Nat.mul_le_mul_right _ hlt
                rw [Nat.add_mul] at this; omega
              · have : (i + 1) * sz' ≤ k * sz' := Nat.mul_le_mul_right _ hgt
                rw [Nat.add_mul] at this; omega
            rw [if_neg hno]
            obtain ⟨u, k1, k2⟩ := c8.cell hk hq hd
            exact ⟨u, by simpa using k1, k2.keep tr.keep⟩
        · rw [c1] at hb'
          simp [Value.ownBlock] at hb'
          subst hb'
          exact ⟨c6, c7⟩
  · cases hE

def effIndexAddrO (P : Program) (t : TypeId) (xs : List AV) : Option Eff :=
  match tiOf P t, xs with
  | some ti, [x, ix] => match intAV ix with
    | some (_, i) => match ti.k, x with
      | .slice _ sz _, .ow l gen sz' n => some { val := .el l gen sz' i.toNat 0, obl := (0 ≤ i ∧ i < n) ∧ sz' = sz }
      | .array n _ s _, .el l gen sz k j => some { val := .el l gen sz k (j + i.toNat * s), obl := 0 ≤ i ∧ i < n }
      | _, _ => none
    | none => none
  | _, _ => none
theorem sem_indexAddrO {o : Oper} {t : TypeId} {x y : Operand} (ho : o.op = .indexAddr t x y) {xs : List AV} {lL : Option (Nat × LV)} {E : Eff} (hE : effIndexAddrO P t xs = some E) (hobl : E.obl) : OpSem P o xs lL E := by
  unfold effIndexAddrO at hE
  split at hE
  · rename_i ti zx zi hti
    split at hE
    · rename_i k i hi
      split at hE
      · rename_i e sz by_ l gen sz' n hk
        cases hE
        obtain ⟨⟨i0, i1⟩, rfl⟩ := hobl
        refine opSem_pure fun B w h r hr hL => ?_
        simp only [ho, Op.operands] at hr
        obtain ⟨r1, ⟨a, c, hv, ha⟩, r3⟩ := hr.2 0 (r x) _ rfl rfl
        have h1 := intAV_spec hi (hr.2 1 (r y) _ rfl rfl)
        obtain ⟨b, rfl⟩ := ha (by omega)
        refine ⟨_, run_indexAddr_op ho r w hv h1 (run_indexAt_slice' hti hk i0 i1), r1, b, by simp, fun he => ?_⟩
        rw [← r3 he, hv]; rfl
      · rename_i n e s ag l gen sz q j hk
        cases hE
        obtain ⟨i0, i1⟩ := hobl
        refine opSem_pure fun B w h r hr hL => ?_
        simp only [ho, Op.operands] at hr
        obtain ⟨r1, b, r2, r3⟩ := hr.2 0 (r x) _ rfl rfl
        have h1 := intAV_spec hi (hr.2 1 (r y) _ rfl rfl)
        exact ⟨_, run_indexAddr_op ho r w r2 h1 (run_indexAt_array' hti hk i0 i1), r1, b, by rw [Nat.add_assoc], r3⟩
      · cases hE
    · cases hE
  · cases hE
def effFieldAddrO (P : Program) (t : TypeId) (n : Nat) (xs : List AV) : Option Eff :=
  match tiOf P t with
  | some ti => match ti.k with
    | .struct fs => match fs[n]?, xs with
      | some (off, sz, _), [.el l gen s i j] => some { val := .el l gen s i (j + off), obl := sz ≠ 0 }
      | _, _ => none
    | _ => none
  | none => none
theorem sem_fieldAddrO {o : Oper} {t : TypeId} {x : Operand} {n : Nat} (ho : o.op = .fieldAddr t x n) {xs : List AV} {lL : Option (Nat × LV)} {E : Eff} (hE : effFieldAddrO P t n xs = some E) (hobl : E.obl) : OpSem P o xs lL E := by
  unfold effFieldAddrO at hE
  split at hE
  · rename_i ti hti
    split at hE
    · rename_i fs hk
      split at hE
      · rename_i off sz ag l gen s i j hn
        cases hE
        refine opSem_pure fun B w h r hr hL => ?_
        simp only [ho, Op.operands] at hr
        obtain ⟨r1, b, r2, r3⟩ := hr.2 0 (r x) _ rfl rfl
        exact ⟨.pointer (some ⟨b, i * s + j + off, none⟩), by simp [execOp, ho, r2, run_fieldAt hti hk hn hobl], r1, b, by rw [Nat.add_assoc], r3⟩
      · cases hE
    · cases hE
  · cases hE

/-- A new row of its own. -/
theorem opSem_newO {o : Oper} {xs : List AV} {lL : Option (Nat × LV)} {l sz n : Nat} {e : TypeId} {f : Nat → List Dat} {obl : Prop}
    (H : ∀ (w : World) (h : Gh) (r : Operand → Value), GZ w h.g → RelAs w h (o.op.operands.toList.map r) xs → ∃ arr : Array Value, (execOp r o).run P w = .ok (.value (.slice (some ⟨w.heap.size, 0, none⟩) n n)) (w.alloc (.cells arr e)) ∧ n ≤ maxLen ∧ arr.size = n * sz ∧
      RowIs (w.alloc (.cells arr e)) h.g sz n arr.toList f) :
    OpSem P o xs lL ⟨.ow l 0 sz n, obl, some (l, .own e sz n 0 f), true⟩ := by
  intro B w h r hB hz hr hL
  obtain ⟨arr, h1, h2, h3, h4⟩ := H w h r hz hr
  let v : Value := .slice (some ⟨w.heap.size, 0, none⟩) n n
  let h' : Gh := { h with κ := fun k => if k = l then v else h.κ k, μ := fun k => if k = l then 0 else h.μ k }
  have nl : h'.κ l = v := by simp [h']
  refine ⟨_, v, _, h', h1, .inl rfl, ⟨by simp [h'], ⟨_, _, rfl, fun _ => ⟨_, rfl⟩⟩, fun _ => nl.symm⟩, ?_, fun l' L' hl => ?_⟩
  · have : ownOf h lL ⟨.ow l 0 sz n, obl, some (l, .own e sz n 0 f), true⟩ = (fun _ => False) := rfl
    rw [this]
    have t := trans_new hB hz (.cells arr e) l
    refine ⟨t.below, t.blocks, t.keep, t.gz, t.gB, fun _ _ => rfl, fun k hk => ?_, fun _ _ hf => by cases hf⟩
    have : k ≠ l := fun e => hk (by rw [e]; rfl)
    simp [h', this]
  · cases hl
    refine ⟨⟨by simp [h'], ⟨arr.toList, ?_, h4⟩, fun b hb => ?_⟩, fun b hb => .inl ?_⟩
    · rw [nl]
      exact ⟨by simp [h3], .inr ⟨w.heap.size, n, arr, rfl, Nat.zero_le _, _root_.Go.heap_alloc_new w _, Nat.le_refl _, h2, h3, by rw [← h3, ← Array.length_toList, List.take_length]⟩⟩
    · rw [nl] at hb
      simp only [v, Value.ownBlock, Option.some.injEq] at hb
      subst hb
      exact ⟨hz _ (Nat.le_refl _), hB _ (Nat.le_refl _)⟩
    · simp only [inB, nl, v, Value.ownBlock, Option.some.injEq] at hb
      omega
def effMakeO (P : Program) (t : TypeId) (dst : Option Tmp) (xs : List AV) : Option Eff :=
  match tiOf P t, dst, xs with
  | some ti, some d, [.p (.d (.v (.int _ n))), .p (.d (.v (.int _ c)))] => match ti.k with
    | .slice e sz by_ => match tiOf P e with
      | some te => some { val := .ow d 0 sz n.toNat, obl := (0 ≤ n ∧ c = n ∧ by_ * n.toNat ≤ 140737488355328 ∧ n ≤ 140737488355328) ∧ te.zero.length = sz ∧ (te.zero.all (·.oneCell')) = true, upd := some (d, .own e sz n.toNat 0 fun _ => te.zero.map Dat.v), fresh := true }
      | none => none
    | _ => none
  | _, _, _ => none
theorem sem_makeO {o : Oper} {t : TypeId} {x y : Operand} (ho : o.op = .makeSlice t x y) {xs : List AV} {lL : Option (Nat × LV)} {E : Eff} (hE : effMakeO P t o.dst xs = some E) (hobl : E.obl) : OpSem P o xs lL E := by
  unfold effMakeO at hE
  split at hE
  · rename_i ti d k n k' c hti hd
    split at hE
    · rename_i e sz by_ hk
      split at hE
      · rename_i te hte
        cases hE
        obtain ⟨⟨n0, rfl, n1, n2⟩, hz0, hz1⟩ := hobl
        refine opSem_newO fun w h r hz hr => ?_
        simp only [ho, Op.operands] at hr
        have h0 := relA_v (hr.2 0 (r x) _ rfl rfl)
        have h1 := relA_v (hr.2 1 (r y) _ rfl rfl)
        obtain ⟨_, dd, _, _, hdd, _, hkk, _, _⟩ := tiOf_spec hti
        rw [hk] at hkk
        obtain ⟨rfl, ie, hie, hs, hb⟩ := kindOf_slice hkk
        obtain ⟨ie', _, z', hie', _, hzz, _, hsz, hzc⟩ := tiOf_spec hte
        rw [hie] at hie'; cases hie'
        have hbb : (ie.bytes : Int) * ((c.toNat : Nat) : Int) ≤ 281474976710656 := by
          have : ((ie.bytes * c.toNat : Nat) : Int) ≤ 281474976710656 := by rw [hb]; omega
          rwa [Int.natCast_mul] at this
        have hrun := run_make (P := P) w t e ie z' hdd hie hzz k k' c.toNat c.toNat (by omega) (Int.le_refl _) hbb (by omega)
        simp only [hs] at hrun
        rw [Int.toNat_of_nonneg n0] at hrun
        have hzl : z'.cells.size = sz := by rw [← hz0, hzc]; simp
        refine ⟨madeCells z'.cells (c.toNat * sz), by simp [execOp, ho, h0, h1, hrun], by unfold maxLen; omega, size_madeCells _ _, fun i hi => by simp [hz0], fun i j d hi hj hd => ?_⟩
        have hlt := idx_lt hi hj
        have hm : (i * sz + j) % z'.cells.size = j := by rw [hzl, Nat.mul_comm, Nat.mul_add_mod, Nat.mod_eq_of_lt hj]
        have hjz : j < z'.cells.size := by omega
        refine ⟨z'.cells[j], by simp [madeCells, hlt, hm, hjz], ?_⟩
        simp only [List.getElem?_map, hzc] at hd
        rw [Array.getElem?_toList, Array.getElem?_eq_getElem hjz] at hd
        simp at hd
        subst hd
        refine .v _ (List.all_eq_true.1 hz1 _ ?_)
        rw [hzc]; simp
      · cases hE
    · cases hE
  · cases hE
theorem run_buildSlice0 (w : World) (t e : TypeId) (ie : TypeInfo) (hu : P.underlying t = some (.slice e)) (hie : P.info? e = some ie) :
    (Instr.buildSlice t 0 #[]).run P w = .ok (.slice (some ⟨w.heap.size, 0, none⟩) 0 0) (w.alloc (.cells #[] e)) := by
  simp [Instr.buildSlice, run_underlying hu, sizeOf, typeInfo, hie, newRow, Instr.fill]
  rw [show Array.range 0 = #[] from by simp]; simp
def effBuildSlice0O (P : Program) (t : TypeId) (dst : Option Tmp) (is : List Nat) : Option Eff :=
  match tiOf P t, dst with
  | some ti, some d => match ti.k with
    | .slice e sz _ => match tiOf P e with
      | some te => some { val := .ow d 0 sz 0, obl := is = [], upd := some (d, .own e sz 0 0 fun _ => []), fresh := true }
      | none => none
    | _ => none
  | _, _ => none
theorem sem_buildSlice0O {o : Oper} {t : TypeId} {parts : Array (Nat × Operand)} (ho : o.op = .buildSlice t 0 parts) {xs : List AV} {lL : Option (Nat × LV)} {E : Eff} (hE : effBuildSlice0O P t o.dst (parts.toList.map (·.1)) = some E) (hobl : E.obl) : OpSem P o xs lL E := by
  unfold effBuildSlice0O at hE
  split at hE
  · rename_i ti d hti hd
    split at hE
    · rename_i e sz by_ hk
      split at hE
      · rename_i te hte
        cases hE
        obtain ⟨_, dd, _, _, hdd, _, hkk, _, _⟩ := tiOf_spec hti
        rw [hk] at hkk
        obtain ⟨rfl, ie, hie, hs, hb⟩ := kindOf_slice hkk
        have hp : parts = #[] := by
          have : parts.toList.map (·.1) = [] := hobl
          apply Array.ext'; simpa using this
        refine opSem_newO fun w h r hz hr => ⟨#[], ?_, by unfold maxLen; omega, by simp, fun i hi => by omega, fun i j d hi => by omega⟩
        have := run_buildSlice0 (P := P) w t e ie hdd hie
        subst hp
        simp [execOp, ho, this]
      · cases hE
    · cases hE
  · cases hE

def effAppendO (P : Program) (ts : List TypeId) (xs : List AV) (lL : Option (Nat × LV)) : Option Eff :=
  match ts, xs, lL with
  | [t, t'], [.ow l gen sz n, x], some (l', .own e sz' n' gen' f) =>
    match tiOf P t, srcAV x with
    | some ti, some (szx, m, f') => match ti.k with
      | .slice _ szt by_ => some { val := .ow l (gen + 1) sz (n + m), obl := (l' = l ∧ ti.k = .slice e szt by_ ∧ t' = t ∧ szt = sz ∧ sz' = sz ∧ szx = sz ∧ n' = n ∧ gen' = gen ∧ 0 < sz) ∧ (n + m) * by_ ≤ 140737488355328 ∧ n + m ≤ 140737488355328 ∧ (match tiOf P e with | some te => te.zero.length = sz | none => False), upd := some (l, .own e sz (n + m) (gen + 1) (catF n f f')) }
      | _ => none
    | _, _ => none
  | _, _, _ => none
/-- Old cells and new ones read as both rows. -/
theorem rowIs_cat {w w' : World} {g g' : Nat → Nat} (k : Keep w g w' g') {sz n m : Nat} {f f' : Nat → List Dat} {news : List Value} {tx : TypeId} {x : Value} {olds : List Value}
    (hol : olds.length = n * sz) (hr : RowIs w g sz n olds f) (hgiv : Giv P w g sz tx x m f' news) : RowIs w' g' sz (n + m) (olds ++ news) (catF n f f') := by
  have hnl := hgiv.src.newsLen
  refine ⟨fun i hi => ?_, fun i j d hi hj hd => ?_⟩
  · unfold catF
    split
    · exact hr.1 i ‹_›
    · exact hgiv.len _ (by omega)
  · by_cases hin : i < n
    · simp only [catF, if_pos hin] at hd
      obtain ⟨u, hu, hr⟩ := hr.2 i j d hin hj hd
      have hlt := idx_lt hin hj
      exact ⟨u, by rw [List.getElem?_append_left (by omega)]; exact hu, hr.keep k⟩
    · simp only [catF, if_neg hin] at hd
      obtain ⟨u, hu, hr⟩ := hgiv.rel (i - n) j d (by omega) hj hd
      have e1 : (i - n) * sz = i * sz - n * sz := Nat.sub_mul _ _ _
      have e2 : n * sz ≤ i * sz := Nat.mul_le_mul_right _ (by omega)
      refine ⟨u, ?_, hr.keep k⟩
      rw [List.getElem?_append_right (by omega), hol, ← hu]; congr 1; omega
def AppGoalO (P : Program) (o : Oper) (B : Nat → Prop) (w : World) (h : Gh) (r : Operand → Value) (l : Nat) (e : TypeId) (sz n m gen : Nat) (f f' : Nat → List Dat) : Prop :=
  ∃ nx v w' h', (execOp r o).run P w = .ok nx w' ∧ (nx = .value v ∨ (nx = .skip ∧ v = undef)) ∧ RelA w' h' v (.ow l (gen + 1) sz (n + m)) ∧
    Trans B w h w' h' (inB h l (.own e sz n gen f)) (some l) false ∧
    (LocOK B w' h' l (.own e sz (n + m) (gen + 1) (catF n f f')) ∧ ∀ b, inB h' l (.own e sz (n + m) (gen + 1) (catF n f f')) b → w.heap.size ≤ b ∨ (false = false ∧ ∃ L, some (l, LV.own e sz n gen f) = some (l, L) ∧ inB h l L b))

theorem sem_appendO {o : Oper} {c : Call} (ho : o.op = .call c) {s y : Operand} {t t' : TypeId} (hc : c = { callee := .builtin .append, args := #[s, y], argTypes := #[t, t'] })
    {xs : List AV} {lL : Option (Nat × LV)} {E : Eff} (hE : effAppendO P [t, t'] xs lL = some E) (hobl : E.obl) : OpSem P o xs lL E := by
  unfold effAppendO at hE
  split at hE
  · rename_i ts0 xs0 lL0 t1 t1' l gen sz n x l' e sz' n' gen' f heq
    cases heq
    split at hE
    · rename_i ti szx m f' hti hsrc
      split at hE
      · rename_i e1 szt by_ hk
        cases hE
        obtain ⟨⟨rfl, hke, rfl, rfl, rfl, rfl, rfl, rfl, hpos⟩, hby, h63, hte⟩ := hobl
        obtain ⟨it, d, z, hit, hd, hz, hkk, hs, hzz⟩ := tiOf_spec hti
        rw [hk] at hke
        cases hke
        rw [hk] at hkk
        obtain ⟨rfl, ie, hie, hsz, hbb⟩ := kindOf_slice hkk
        obtain ⟨te, hte, htez⟩ : ∃ te, tiOf P e = some te ∧ te.zero.length = szx := by
          split at hte
          · rename_i te h1; exact ⟨te, h1, hte⟩
          · exact hte.elim
        obtain ⟨ie', de, ze, hie', hde, hze, _, hse, hzze⟩ := tiOf_spec hte
        rw [hie] at hie'; cases hie'
        intro B w h r hB hz0 hr hL
        rw [ho, hc] at hr
        simp only [Op.operands, Call.operands] at hr
        have r0 : RelA w h (r s) (.ow l' gen' szx n') := hr.2 0 (r s) _ rfl rfl
        have r1 : RelA w h (r y) x := hr.2 1 (r y) _ rfl rfl
        obtain ⟨hμ, ⟨olds, hown, hri⟩, hgO⟩ := hL _ _ rfl
        obtain ⟨q1, q2, q3⟩ := r0
        have hv := q3 hμ
        obtain ⟨news, hgiv⟩ := giv_sl (P := P) (tx := t') hd (srcAV_spec hsrc r1)
        have hnl := hgiv.src.newsLen
        have hol := hown.1
        have hgiv' : Src P ie.size t' (r y) m news w := by rw [hsz]; exact hgiv.src
        suffices H : AppGoalO P o B w h r l' e szx n' m gen' f f' by
          obtain ⟨nx, v, w', h', a1, a2, a3, a4, a5⟩ := H
          exact ⟨nx, v, w', h', a1, a2, a3, a4, fun l L' hl => by cases hl; exact a5⟩
        have key : ∀ (b cap : Nat) (w' : World) (cur' : Array Value), (Builtin.append_ #[t', t'] o.type #[r s, r y]).run P w = .ok (.slice (some ⟨b, 0, none⟩) (n' + m) cap) w' →
            w'.heap[b]? = some (.cells cur' e (0, 0)) → B b → h.g b = 0 → n' + m ≤ cap → cap ≤ maxLen → cur'.size = cap * szx → cur'.toList.take ((n' + m) * szx) = olds ++ news →
            BelowS B w w' → (∀ k, k < w.heap.size → k ≠ b → w'.heap[k]? = w.heap[k]?) →
            (b < w.heap.size → (h.κ l').ownBlock = some b) → b < w'.heap.size →
            AppGoalO P o B w h r l' e szx n' m gen' f f' := by
          intro b cap w' cur' hrun hheap hBb hg0 hcap hml hcs htake hbel hoth hbo hblt
          have hkeep : Keep w h.g w' h.g := by
            refine ⟨fun k => Nat.le_refl _, fun k q hq => ?_⟩
            have hk : k < w.heap.size := by
              by_cases hk : k < w.heap.size
              · exact hk
              · rw [hz0 k (by omega)] at hq; omega
            by_cases hkb : k = b
            · subst hkb; omega
            · exact World.cell?_of_block (w := w) (a := ⟨k, q, none⟩) (hoth k hk hkb)
          refine ⟨_, _, w', { h with κ := fun x => if x = l' then .slice (some ⟨b, 0, none⟩) (n' + m) cap else h.κ x, μ := fun x => if x = l' then gen' + 1 else h.μ x }, run_append_op ho hc r w w' hrun, .inl rfl, ?_, ?_, ?_, ?_⟩
          · exact ⟨by simp, ⟨_, _, rfl, fun _ => ⟨_, rfl⟩⟩, fun _ => by simp⟩
          · refine ⟨hbel, fun k hk hne => ?_, hkeep, fun k hk => hz0 k (by have := hbel.size; omega), fun k hk => rfl, fun _ _ => rfl, fun l hl => ?_, fun l hl _ => .inl ?_⟩
            · have hkb : k ≠ b := by
                intro e; subst e
                exact hne (by simpa [inB] using hbo hk)
              exact ⟨hoth k hk hkb, rfl⟩
            · have : l ≠ l' := fun e => hl (by rw [e])
              simp [this]
            · cases hl; simp [hμ]
          · refine ⟨by simp, ⟨olds ++ news, ⟨by simp [hol, hnl, Nat.add_mul], .inr ⟨b, cap, cur', by simp, Nat.zero_le _, hheap, hcap, hml, hcs, htake⟩⟩, rowIs_cat hkeep hol hri hgiv⟩, fun b' hb' => ?_⟩
            simp [Value.ownBlock] at hb'
            subst hb'
            exact ⟨hg0, hBb⟩
          · intro b' hb'
            simp [inB, Value.ownBlock] at hb'
            subst hb'
            by_cases hlt : b < w.heap.size
            · exact .inr ⟨rfl, _, rfl, by simpa [inB] using hbo hlt⟩
            · exact .inl (by omega)
        have hrange : ∀ {k : Nat}, k ≤ 140737488355328 → ((k : Nat) : Int) ≤ 9223372036854775807 := by intro k hk; omega
        have grow : ∀ (base : Option Addr) (cap : Nat), h.κ l' = .slice base n' cap → (Builtin.firstCells ie.size n' (.slice base n' cap)).run P w.drew = .ok olds.toArray w.drew → cap < n' + m →
            AppGoalO P o B w h r l' e szx n' m gen' f f' := by
          intro base cap hκ hold hcap
          have hrun := run_append_grow_src (P := P) w t' t' o.type e ie ze hd hie hze base n' cap olds hold (r y) m news hgiv' hcap (hrange h63) (growslice_fits (by omega) (by rw [hbb]; exact hby))
          have hge := grownCap_ge w (n' + m) cap e
          have hcm := grownCap_le_maxLen w (n' + m) cap e (by unfold maxLen; omega)
          have hzs : ze.cells.size = szx := by rw [← htez, hzze]; simp
          have hnew : (w.drew.alloc (.cells ((olds ++ news).toArray ++ Builtin.zeroCells ze.cells (grownCap w (n' + m) cap e - (n' + m))) e)).heap[w.heap.size]? = some (.cells ((olds ++ news).toArray ++ Builtin.zeroCells ze.cells (grownCap w (n' + m) cap e - (n' + m))) e (0, 0)) := _root_.Go.heap_alloc_new w.drew _
          refine key w.heap.size _ _ _ (by rw [hv, hκ]; exact hrun) hnew (hB _ (Nat.le_refl _)) (hz0 _ (Nat.le_refl _)) hge hcm ?_ ?_ (((BelowS.refl B w).drew).alloc _) (fun k hk _ => Below.heap_alloc w.drew _ k hk) (fun hlt => by omega) (by simp)
          · simp only [Array.size_append, List.size_toArray, List.length_append, size_zeroCells, hzs, hol, hnl, ← Nat.add_mul]
            congr 1; omega
          · simp only [Array.toList_append]
            have : (n' + m) * szx = (olds ++ news).length := by simp [hol, hnl, Nat.add_mul]
            rw [this]; exact List.take_left
        rcases hown.2 with ⟨hnil, hn0⟩ | ⟨g0, cap, cur, hκ, hBg, hheap, hnc, hcm, hcs, htake⟩
        · subst hn0
          have ho0 : olds = [] := by simpa using hol
          subst ho0
          by_cases hm : m = 0
          · subst hm
            have hrun : (Builtin.append_ #[t', t'] o.type #[r s, r y]).run P w = .ok (.slice none 0 0) w := by
              rw [hv, hnil]
              simp [Builtin.append_, run_underlying hd, sizeOf, typeInfo, hie, hgiv'.len, hgiv'.cells]
            refine ⟨_, _, w, { h with μ := fun x => if x = l' then gen' + 1 else h.μ x }, run_append_op ho hc r w w hrun, .inl rfl, ⟨by simp, ⟨_, _, rfl, fun hh => by omega⟩, fun _ => hnil.symm⟩, ?_, ⟨by simp, ⟨[], by simpa using hnil ▸ World.ownsRow_nil w 0 e szx, fun i hi => by omega, fun i j d hi => by omega⟩, fun b hb => ?_⟩, fun b hb => ?_⟩
            · refine ⟨BelowS.refl _ _, fun _ _ _ => ⟨rfl, rfl⟩, Keep.refl _ _, hz0, fun _ _ => rfl, fun _ _ => rfl, fun l hl => ?_, fun l hl _ => .inl ?_⟩
              · have : l ≠ l' := fun e => hl (by rw [e])
                simp [this]
              · cases hl; simp [hμ]
            · simp [hnil, Value.ownBlock] at hb
            · simp [inB, hnil, Value.ownBlock] at hb
          · exact grow none 0 hnil (by simp [Builtin.firstCells]) (by omega)
        · obtain ⟨hg0, hB0⟩ := hgO g0 (by rw [hκ]; rfl)
          by_cases hroom : n' + m ≤ cap
          · have hfit : n' * szx + news.length ≤ cur.size := by rw [hnl, hcs, ← Nat.add_mul]; exact Nat.mul_le_mul_right _ hroom
            have hrun := run_append_room_row (P := P) w t' t' o.type e ie hd hie g0 n' cap cur e (r y) m news hgiv' hroom hheap (by rw [hsz]; exact hfit)
            rw [hsz] at hrun
            have hlt0 : g0 < w.heap.size := (Array.getElem?_eq_some_iff.1 hheap).1
            refine key g0 cap _ _ (by rw [hv, hκ]; exact hrun) (setRow_heap w g0 cur _ e _ hheap) hB0 hg0 hroom hcm ?_ ?_ ⟨rfl, rfl, rfl, by simp, fun k _ hk => setRow_other w g0 k _ (fun e => hk (e ▸ hB0))⟩ (fun k _ hk => setRow_other w g0 k _ hk) (fun _ => by rw [hκ]; rfl) (by simpa using hlt0)
            · simp only [List.size_toArray, List.length_append, List.length_take, List.length_drop, Array.length_toList]
              omega
            · have : (n' + m) * szx = (olds ++ news).length := by simp [hol, hnl, Nat.add_mul]
              simp only [htake]
              rw [this]
              exact List.take_left
          · have hfc : (Builtin.firstCells ie.size n' (.slice (some ⟨g0, 0, none⟩) n' cap)).run P w.drew = .ok olds.toArray w.drew := by
              refine run_firstCells_some (P := P) w.drew ie.size n' _ n' cap olds (by rw [hsz]; exact hol) (fun j u hu => ?_)
              rw [addr_add, Nat.zero_add]
              have : w.drew.cell? ⟨g0, j, none⟩ = w.cell? ⟨g0, j, none⟩ := rfl
              rw [this, heap_cell hheap]
              rw [← htake] at hu
              have hlt : j < n' * szx := by have := (List.getElem?_eq_some_iff.1 hu).1; simp at this; omega
              rw [List.getElem?_take_of_lt hlt] at hu
              simpa using hu
            exact grow _ cap hκ hfc (by omega)
      · cases hE
    · cases hE
  · cases hE

/-! ### function values -/
def cvAV : AV → Option CV
  | .p x => some (.p x)
  | .gr _ _ sz n f => some (.p (.d (.sl sz n f)))
  | .loc l off => some (.loc l off)
  | .ow l gen sz n => some (.ow l gen sz n)
  | .mp l => some (.mp l)
  | .ag [.loc l off] => some (.a1 l off)
  | _ => none
theorem cvAV_spec {w : World} {h : Gh} {x : AV} {c : CV} (hx : cvAV x = some c) {v : Value} (r : RelA w h v x) : RelCV w h v c := by
  unfold cvAV at hx
  split at hx
  · cases hx; exact r
  · cases hx; exact .d _ _ r.1
  · cases hx; exact r
  · cases hx; exact r
  · cases hx; exact r
  · cases hx; exact (relC_av (.a1 _ _)).2 r
  · cases hx
theorem cvs_spec {w : World} {h : Gh} : ∀ {xs : List AV} {ys : List CV} {us : List Value}, xs.mapM cvAV = some ys → RelAs w h us xs → RelCs w h us ys
  | [], ys, us, hm, r => by
    simp at hm
    subst hm
    have : us = [] := List.eq_nil_of_length_eq_zero (by simpa using r.1)
    subst this
    exact ⟨rfl, fun j v c hv => by simp at hv⟩
  | x :: xs, ys, us, hm, r => by
    simp only [List.mapM_cons] at hm
    cases hx : cvAV x with
    | none => simp [hx] at hm
    | some y =>
      cases hxs : xs.mapM cvAV with
      | none => simp [hx, hxs] at hm
      | some ys' =>
        simp [hx, hxs] at hm
        subst hm
        cases us with
        | nil => simp [RelAs] at r
        | cons u us =>
          have ih := cvs_spec hxs ⟨by simpa using r.1, fun j v z hv hz => r.2 (j + 1) v z (by simpa using hv) (by simpa using hz)⟩
          refine ⟨by simp [ih.1], fun j v c hv hc => ?_⟩
          cases j with
          | zero => simp at hv hc; subst hv; subst hc; exact cvAV_spec hx (r.2 0 _ x rfl rfl)
          | succ j => exact ih.2 j v c (by simpa using hv) (by simpa using hc)
def effFuncO (fn : Fn) (n : Nat) (xs : List AV) : Option Eff :=
  (xs.mapM cvAV).map fun ys => { val := .cl fn (ys.take n) (ys.drop n) }
theorem sem_funcO {o : Oper} {fn : Fn} {first caps : Array Operand} (ho : o.op = .makeFunc fn first caps) {xs : List AV} {lL : Option (Nat × LV)} {E : Eff} (hE : effFuncO fn first.size xs = some E) : OpSem P o xs lL E := by
  unfold effFuncO at hE
  cases hm : xs.mapM cvAV with
  | none => simp [hm] at hE
  | some ys =>
    simp [hm] at hE; subst hE
    refine opSem_pure fun B w h r hr hL => ?_
    have hops : o.op.operands.toList.map r = (first.toList.map r) ++ (caps.toList.map r) := by simp [ho, Op.operands]
    rw [hops] at hr
    have hp := cvs_spec hm hr
    have hlen : first.size ≤ ys.length := by have := hp.1; simp at this; omega
    refine ⟨.func fn (first.toList.map r).toArray (caps.toList.map r).toArray, ?_, _, _, rfl, ⟨by simp; omega, fun j v x hv hx => ?_⟩, ⟨by have := hp.1; simp at this ⊢; omega, fun j v x hv hx => ?_⟩⟩
    · have e1 : (first.toList.map r).toArray = first.map r := by apply Array.ext'; simp
      have e2 : (caps.toList.map r).toArray = caps.map r := by apply Array.ext'; simp
      rw [e1, e2]
      simp only [execOp, ho]; simp [Instr.makeFunc]
    · have hj : j < first.size := by have := (List.getElem?_eq_some_iff.1 hv).1; simpa using this
      rw [List.getElem?_take_of_lt hj] at hx
      exact hp.2 j v x (by rw [List.getElem?_append_left (by simpa using hj)]; exact hv) hx
    · rw [List.getElem?_drop] at hx
      exact hp.2 _ v x (by rw [List.getElem?_append_right (by simp)]; simpa using hv) hx
-- the equations of what is worked out in a walk, made here once
theorem ownX_eqns : True := have := @ownX.eq_1; trivial
theorem effLoadO_eqns : True := have := @effLoadO.eq_1; trivial
theorem effStoreO_eqns : True := have := @effStoreO.eq_1; trivial
theorem effIndexAddrO_eqns : True := have := @effIndexAddrO.eq_1; trivial
theorem effFieldAddrO_eqns : True := have := @effFieldAddrO.eq_1; trivial
theorem effMakeO_eqns : True := have := @effMakeO.eq_1; trivial
theorem effBuildSlice0O_eqns : True := have := @effBuildSlice0O.eq_1; trivial
theorem effAppendO_eqns : True := have := @effAppendO.eq_1; trivial
theorem cvAV_eqns : True := have := @cvAV.eq_1; trivial
theorem effFuncO_eqns : True := have := @effFuncO.eq_1; trivial
end Go.Proofs.Ytokibghllpfeaaa.AL
