/- A logic of abstract values over the model's own rules, on: all operations in one; regions in whatever order; a function's contract out of its body. Conditions: none; it holds over every program. -/
import Derived.Test.YtokibghllpfeaaaAk
set_option linter.unusedSimpArgs false
set_option linter.unusedVariables false
/- All operations in one (opEff); calls; an operation in the walk's words (OpT); regions walked in the text's order. -/
namespace Go.Proofs.Ytokibghllpfeaaa.AL
open Go.RowKit
variable {P : Program}
/-- THE CONTRACT of a function that changes nothing that was there: called with values that read as xs, it returns values that read as some rs of Q. -/
def ACalls (P : Program) (f : FuncId) (xs : List PV) (Q : List PV → Prop) : Prop :=
  ∀ (w : World) (g : Nat → Nat) (vs : List Value), GZ w g → RelPs w g vs xs →
    CallRes P (fun v w' => ∃ g' rs, Ext w g w' g' ∧ Q rs ∧ RelR w' g' v rs) ((callFunc f vs.toArray).run P w)

theorem ACalls.mono {P : Program} {f : FuncId} {xs : List PV} {Q Q' : List PV → Prop} (h : ACalls P f xs Q) (hq : ∀ r, Q r → Q' r) : ACalls P f xs Q' := by
  intro w g vs hz hr
  have := h w g vs hz hr
  unfold CallRes at *
  split at this
  · exact this.mono fun e w' ⟨v, he, g', rs, h1, h2, h3⟩ => ⟨v, he, g', rs, h1, hq _ h2, h3⟩
  · obtain ⟨g', rs, h1, h2, h3⟩ := this; exact ⟨g', rs, h1, hq _ h2, h3⟩
  · exact this.elim


/-! ### rows of its own: made, and bytes of a string -/
theorem trans_grow {B : Nat → Prop} {w W : World} {h : Gh} (hz : GZ w h.g) (l : Nat) (hbelow : BelowS B w W) (hbl : ∀ b, b < w.heap.size → W.heap[b]? = w.heap[b]?) :
    Trans B w h W { h with ρ := setG h.ρ l w.heap.size } (fun _ => False) (some l) true where
  below := hbelow
  blocks := fun b hb _ => ⟨hbl b hb, rfl⟩
  keep := by
    refine ⟨fun b => Nat.le_refl _, fun b q hq => ?_⟩
    have hlt : b < w.heap.size := by
      by_cases hlt : b < w.heap.size
      · exact hlt
      · rw [hz b (by omega)] at hq; omega
    exact World.cell?_of_block (w := w) (hbl b hlt)
  gz := fun b hb => hz b (by have := hbelow.size; omega)
  gB := fun _ _ => rfl
  ρ := fun l' hl' => by
    have : l' ≠ l := fun e => hl' rfl (by rw [e])
    simp [setG, this]
  κ := fun _ _ => ⟨rfl, rfl⟩
  up := fun _ _ hf => by cases hf
theorem opSem_newR {o : Oper} {xs : List AV} {lL : Option (Nat × LV)} {l : Nat} {L : LV} {x : AV} {obl : Prop} (hgrow : ∀ h, inB h l L = (fun b => h.ρ l = b))
    (H : ∀ (w : World) (h : Gh) (r : Operand → Value), GZ w h.g → RelAs w h (o.op.operands.toList.map r) xs →
      ∃ v W, (execOp r o).run P w = .ok (.value v) W ∧ (∀ B : Nat → Prop, NewIn B w → BelowS B w W) ∧ (∀ b, b < w.heap.size → W.heap[b]? = w.heap[b]?) ∧ RelA W { h with ρ := setG h.ρ l w.heap.size } v x ∧
        ∀ B : Nat → Prop, NewIn B w → LocOK B W { h with ρ := setG h.ρ l w.heap.size } l L) : OpSem P o xs lL ⟨x, obl, some (l, L), true⟩ := by
  intro B w h r hB hz hr hL
  obtain ⟨v, W, h1, h2, h3, h4, h5⟩ := H w h r hz hr
  refine ⟨_, _, _, { h with ρ := setG h.ρ l w.heap.size }, h1, .inl rfl, h4, ?_, fun l' L' hl => ?_⟩
  · have : ownOf h lL ⟨x, obl, some (l, L), true⟩ = (fun _ => False) := rfl
    rw [this]; exact trans_grow hz l (h2 B hB) h3
  · cases hl
    refine ⟨h5 B hB, fun b hb => .inl ?_⟩
    rw [hgrow] at hb
    simp [setG] at hb
    omega

/-- An empty row, to be grown. -/
theorem opSem_newK {o : Oper} {xs : List AV} {lL : Option (Nat × LV)} {l sz : Nat} {e : TypeId} {f : Nat → List Dat} {obl : Prop}
    (H : ∀ (w : World) (h : Gh) (r : Operand → Value), RelAs w h (o.op.operands.toList.map r) xs → (execOp r o).run P w = .ok (.value (.slice (some ⟨w.heap.size, 0, none⟩) 0 0)) (w.alloc (.cells #[] e))) :
    OpSem P o xs lL ⟨.gr l 0 sz 0 f, obl, some (l, .grow e sz 0 0), true⟩ := by
  intro B w h r hB hz hr hL
  let v : Value := .slice (some ⟨w.heap.size, 0, none⟩) 0 0
  let h' : Gh := { h with κ := fun k => if k = l then v else h.κ k, μ := fun k => if k = l then 0 else h.μ k }
  have nl : h'.κ l = v := by simp [h']
  refine ⟨_, v, w.alloc (.cells #[] e), h', H w h r hr, .inl rfl, ⟨.sl0 _ _ _ _, by simp [h'], fun _ => nl.symm⟩, ?_, fun l' L' hl => ?_⟩
  · have : ownOf h lL ⟨.gr l 0 sz 0 f, obl, some (l, .grow e sz 0 0), true⟩ = (fun _ => False) := rfl
    rw [this]
    have t := trans_new hB hz (.cells #[] e) l
    refine ⟨t.below, t.blocks, t.keep, t.gz, t.gB, fun _ _ => rfl, fun k hk => ?_, fun _ _ hf => by cases hf⟩
    have : k ≠ l := fun e => hk (by rw [e]; rfl)
    simp [h', this]
  · cases hl
    refine ⟨⟨by simp [h'], ⟨[], ?_⟩, fun b c hb => ?_, fun b hb => ?_⟩, fun b hb => .inl ?_⟩
    · rw [nl]; exact World.ownsRow_made w #[] 0 (Nat.zero_le _) (by unfold maxLen; omega) (by simp)
    · rw [nl] at hb
      simp only [v, Value.slice.injEq, Option.some.injEq, Addr.mk.injEq, and_true] at hb
      rw [← hb.1]
      simp only [Nat.zero_mul]
      exact hz _ (Nat.le_refl _)
    · rw [nl] at hb
      simp only [v, Value.ownBlock, Option.some.injEq] at hb
      exact hb ▸ hB _ (Nat.le_refl _)
    · simp only [inB, nl, v, Value.ownBlock, Option.some.injEq] at hb
      omega
def effBuildSlice0 (P : Program) (M : List Nat) (t : TypeId) (dst : Option Tmp) (is : List Nat) : Option Eff :=
  match tiOf P t, dst with
  | some ti, some d => match ti.k with
    | .slice e sz _ => match tiOf P e with
      | some te => bif M.contains d then some { val := .gr d 0 sz 0 fun _ => [], obl := is = [], upd := some (d, .grow e sz 0 0), fresh := true }
          else some { val := .p (.d (.sl sz 0 fun _ => [])), obl := is = [] }
      | none => none
    | _ => none
  | _, _ => none
theorem sem_buildSlice0 {M : List Nat} {o : Oper} {t : TypeId} {parts : Array (Nat × Operand)} (ho : o.op = .buildSlice t 0 parts) {xs : List AV} {lL : Option (Nat × LV)} {E : Eff} (hE : effBuildSlice0 P M t o.dst (parts.toList.map (·.1)) = some E) (hobl : E.obl) : OpSem P o xs lL E := by
  unfold effBuildSlice0 at hE
  split at hE
  · rename_i ti d hti hdst
    split at hE
    · rename_i e sz by_ hk
      split at hE
      · rename_i te hte
        obtain ⟨it, d', z, hit, hd, hz, hkk, hs, hzz⟩ := tiOf_spec hti
        rw [hk] at hkk
        obtain ⟨rfl, ie, hie, hsz, _⟩ := kindOf_slice hkk
        have key : parts = #[] → ∀ (w : World) (r : Operand → Value), (execOp r o).run P w = .ok (.value (.slice (some ⟨w.heap.size, 0, none⟩) 0 0)) (w.alloc (.cells #[] e)) := by
          intro hp w r
          subst hp
          have := run_buildSlice0 (P := P) w t e ie hd hie
          simp only [execOp, ho]
          simp [this]
        cases hM : M.contains d
        · rw [hM] at hE
          cases hE
          have hp : parts = #[] := by simpa using hobl
          refine opSem_alloc fun w h r hz0 hr => ⟨_, _, _, key hp w r, .d _ _ (.sl0 _ _ _ _)⟩
        · rw [hM] at hE
          cases hE
          have hp : parts = #[] := by simpa using hobl
          exact opSem_newK fun w h r hr => key hp w r
      · cases hE
    · cases hE
  · cases hE
theorem effBuildSlice0_eqns : True := have := @effBuildSlice0.eq_1; trivial

/-- A slice against nil. -/
def nilR : List AV → Bool
  | [_, .p (.d (.v (.slice none _ _)))] => true
  | _ => false
def nilAV : AV → Option (Bool × Prop)
  | .p (.d (.v (.slice a _ _))) => some (a.isNone, True)
  | .p (.d (.sl _ n _)) => some (false, 0 < n)
  | .gr _ _ _ n _ => some (false, 0 < n)
  | .row .. => some (false, True)
  | .ow _ _ _ n => some (false, 0 < n)
  | _ => none
theorem nilAV_spec {w : World} {h : Gh} {x : AV} {b : Bool} {q : Prop} (hx : nilAV x = some (b, q)) (hq : q) {v : Value} (r : RelA w h v x) : ∃ a n c, v = .slice a n c ∧ a.isNone = b := by
  unfold nilAV at hx
  have hsl : ∀ {sz n : Nat} {f : Nat → List Dat}, 0 < n → RelD w h.g v (.sl sz n f) → ∃ a n c, v = .slice a n c ∧ a.isNone = false := by
    intro sz n f hn rd
    cases rd with
    | sl0 => omega
    | sl b off _ c => exact ⟨_, _, _, rfl, rfl⟩
  split at hx
  · cases hx; exact ⟨_, _, _, relA_v r, rfl⟩
  · cases hx; cases r with | d _ _ r => exact hsl hq r
  · cases hx; exact hsl hq r.1
  · cases hx; obtain ⟨c, hv, _⟩ := r; exact ⟨_, _, _, hv, rfl⟩
  · cases hx
    obtain ⟨_, ⟨a, c, hv, ha⟩, _⟩ := r
    obtain ⟨b, rfl⟩ := ha hq
    exact ⟨_, _, _, hv, rfl⟩
  · cases hx
def effNil' (P : Program) (op : BinOp) (t : TypeId) (xs : List AV) : Option Eff :=
  match tiOf P t, xs with
  | some ti, [x, _] => match ti.k, nilAV x with
    | .slice .., some (b, q) => match op with
      | .eql => some { val := .p (.d (.v (.bool b))), obl := q }
      | .neq => some { val := .p (.d (.v (.bool (!b)))), obl := q }
      | _ => none
    | _, _ => none
  | _, _ => none
theorem sem_nil' {o : Oper} {op : BinOp} {t t' : TypeId} {x y : Operand} (ho : o.op = .binOp op t x y t') {xs : List AV} {lL : Option (Nat × LV)} {E : Eff} (hn : nilR xs = true) (hE : effNil' P op t xs = some E) (hobl : E.obl) : OpSem P o xs lL E := by
  unfold nilR at hn
  split at hn
  · rename_i z n' c'
    unfold effNil' at hE
    split at hE
    · rename_i ti z' y' hti hxs
      cases hxs
      split at hE
      · rename_i e sz by_ b q hk hz
        obtain ⟨it, d', zz, hit, hd, hzz, hkk, _, _⟩ := tiOf_spec hti
        rw [hk] at hkk
        obtain ⟨rfl, _⟩ := kindOf_slice hkk
        have fin : ∀ {u : Value} {obl : Prop}, q → u.oneCell' = true → (∀ w a n c, a.isNone = b → (binOp op t (.slice a n c) (.slice none n' c')).run P w = .ok u w) → OpSem P o [z, .p (.d (.v (.slice none n' c')))] lL ⟨.p (.d (.v u)), obl, none, false⟩ := by
          intro u obl hq hu hrun
          refine opSem_pure fun B w h r hr hL => ?_
          simp only [ho, Op.operands] at hr
          obtain ⟨a, n, c, hv, ha⟩ := nilAV_spec hz hq (hr.2 0 (r x) _ rfl rfl)
          exact ⟨u, run_bin_op ho r w hv (relA_v (hr.2 1 (r y) _ rfl rfl)) (by simp [eqGuard_at_slice]) (hrun w a n c ha), relA_mk hu⟩
        split at hE
        · cases hE
          exact fin hobl rfl fun w a n c ha => by rw [Lib.run_eql_slice_nil w t e a n c n' c' hd, ha]
        · cases hE
          exact fin hobl rfl fun w a n c ha => by rw [run_neq_slice_nil_any w t e a n c n' c' hd, ha]
        · cases hE
      · cases hE
    · cases hE
  · cases hn
theorem nilR_eqns : True := have := @nilR.eq_1; trivial
theorem nilAV_eqns : True := have := @nilAV.eq_1; trivial
theorem effNil'_eqns : True := have := @effNil'.eq_1; trivial

def effMake (P : Program) (t : TypeId) (dst : Option Tmp) (xs : List AV) : Option Eff :=
  match tiOf P t, dst, xs with
  | some ti, some d, [.p (.d (.v (.int _ n))), .p (.d (.v (.int _ c)))] => match ti.k with
    | .slice e 1 by_ => match tiOf P e with
      | some te => match te.zero with
        | [z] => some { val := .row d 1 0 n.toNat, obl := (0 ≤ n ∧ c = n ∧ by_ * n.toNat ≤ 140737488355328 ∧ n ≤ 140737488355328) ∧ z.oneCell' = true, upd := some (d, .arr e n.toNat fun _ => .v z), fresh := true }
        | _ => none
      | none => none
    | _ => none
  | _, _, _ => none
theorem one_cells {v : Value} (h1 : v.oneCell' = true) : v.cells = #[v] := by
  cases v <;> first | rfl | (simp [Value.oneCell'] at h1)
theorem sem_make {o : Oper} {t : TypeId} {x y : Operand} (ho : o.op = .makeSlice t x y) {xs : List AV} {lL : Option (Nat × LV)} {E : Eff} (hE : effMake P t o.dst xs = some E) (hobl : E.obl) : OpSem P o xs lL E := by
  unfold effMake at hE
  split at hE
  · rename_i ti d k n k' c hti hd
    split at hE
    · rename_i e by_ hk
      split at hE
      · rename_i te hte
        split at hE
        · rename_i z hzero
          cases hE
          obtain ⟨⟨n0, rfl, n1, n2⟩, hz1⟩ := hobl
          refine opSem_newR (fun _ => rfl) fun w h r hz hr => ?_
          simp only [ho, Op.operands] at hr
          have h0 := relA_v (hr.2 0 (r x) _ rfl rfl)
          have h1 := relA_v (hr.2 1 (r y) _ rfl rfl)
          obtain ⟨_, dd, _, _, hdd, _, hkk, _, _⟩ := tiOf_spec hti
          rw [hk] at hkk
          obtain ⟨rfl, ie, hie, hs, hb⟩ := kindOf_slice hkk
          obtain ⟨ie', _, z', hie', _, hzz, _, hsz, hzc⟩ := tiOf_spec hte
          rw [hie] at hie'; cases hie'
          have hcz : z'.cells = #[z] := by apply Array.ext'; rw [← hzc, hzero]
          have hbb : (ie.bytes : Int) * ((c.toNat : Nat) : Int) ≤ 281474976710656 := by
            have : ((ie.bytes * c.toNat : Nat) : Int) ≤ 281474976710656 := by rw [hb]; omega
            rwa [Int.natCast_mul] at this
          have hrun := run_make (P := P) w t e ie z' hdd hie hzz k k' c.toNat c.toNat (by omega) (Int.le_refl _) hbb (by omega)
          simp only [Int.toNat_natCast, hs, Nat.mul_one, hcz] at hrun
          rw [Int.toNat_of_nonneg n0] at hrun
          have hnew := _root_.Go.heap_alloc_new w (.cells (madeCells #[z] c.toNat) e)
          refine ⟨.slice (some ⟨w.heap.size, 0, none⟩) c.toNat c.toNat, w.alloc (.cells (madeCells #[z] c.toNat) e), by simp [execOp, ho, h0, h1, hrun], fun B hB => (BelowS.refl _ _).alloc _, fun b hb => Below.heap_alloc w _ b hb, ?_, fun B hB => ?_⟩
          · exact ⟨c.toNat, by simp [setG], Nat.le_refl _⟩
          · refine locOK_new_arr hB hz (size_madeCells _ _) fun i v hv => ?_
            have hlt : i < c.toNat := by have := (Array.getElem?_eq_some_iff.1 hv).1; rwa [size_madeCells] at this
            rw [Array.getElem?_eq_getElem (by rw [size_madeCells]; exact hlt)] at hv
            simp [madeCells, Nat.mod_one] at hv
            rw [← hv]
            exact .v _ hz1
        · cases hE
      · cases hE
    · cases hE
  · cases hE

def effBytes (P : Program) (t : TypeId) (dst : Option Tmp) (xs : List AV) : Option Eff :=
  match tiOf P t, dst, xs with
  | some ti, some d, [.p (.d (.v (.string s)))] => match ti.k with
    | .slice e 1 _ => match tiOf P e with
      | some te => match te.k with
        | .int .u8 => some { val := .row d 1 0 s.size, upd := some (d, .arr e s.size fun i => .v (.int .u8 ((s.data.toList.getD i 0).toNat : Nat))), fresh := true }
        | _ => none
      | none => none
    | _ => none
  | _, _, _ => none
theorem sem_bytes {o : Oper} {s t : TypeId} {x : Operand} (ho : o.op = .convert s t x) {tis : TI} (hs : tiOf P s = some tis) (hsk : tis.k = .string) {xs : List AV} {lL : Option (Nat × LV)} {E : Eff} (hE : effBytes P t o.dst xs = some E) : OpSem P o xs lL E := by
  unfold effBytes at hE
  split at hE
  · rename_i ti d str hti hd
    split at hE
    · rename_i e by_ hk
      split at hE
      · rename_i te hte
        split at hE
        · rename_i hek
          cases hE
          refine opSem_newR (fun _ => rfl) fun w h r hz hr => ?_
          simp only [ho, Op.operands] at hr
          have h0 := relA_v (hr.2 0 (r x) _ rfl rfl)
          obtain ⟨_, dd, _, _, hdd, _, hkk, _, _⟩ := tiOf_spec hti
          rw [hk] at hkk
          obtain ⟨rfl, ie, hie, hss, hb⟩ := kindOf_slice hkk
          obtain ⟨_, de, _, _, hde, _, hke, _, _⟩ := tiOf_spec hte
          rw [hek] at hke
          have := kindOf_int hke
          subst this
          obtain ⟨_, ds, _, _, hds, _, hks, _, _⟩ := tiOf_spec hs
          have hrun := Lib.run_convert_string_bytes (P := P) w s t e str hds hdd hde
          have hge := grownCap_ge w str.size 0 e
          refine ⟨_, _, by simp only [execOp, ho, h0, hrun, Sem.run_bind, Result.andThen_ok]; rfl, fun B hB => ?_, fun b hb => Lib.bytesWorld_at_old w e str b hb, ?_, fun B hB => ?_⟩
          · refine ⟨?_, ?_, ?_, by rw [Lib.bytesWorld_size]; omega, fun k hk _ => Lib.bytesWorld_at_old w e str k (by omega)⟩ <;> simp [Lib.bytesWorld, World.freeze, World.alloc, World.drew, -World.alloc_eq, -World.drew_eq]
          · exact ⟨_, by simp [setG], hge⟩
          · refine ⟨Lib.bytesCells w e str, _, by simp only [setG, if_true]; exact hB _ (Nat.le_refl _), by simp only [setG, if_true]; exact Lib.bytesWorld_at_new w e str, .inr (Nat.le_refl _), ?_, by simp only [setG, if_true]; exact hz _ (Nat.le_refl _), fun i v hi hv => ?_⟩
            · simp [Lib.bytesCells]
            · have hi' : i < str.data.size := hi
              simp only [Lib.bytesCells] at hv
              rw [Array.getElem?_append_left (by simpa using hi')] at hv
              simp [Array.getElem?_eq_getElem hi'] at hv
              subst hv
              have : str.data.toList.getD i 0 = str.data[i] := by rw [List.getD_eq_getElem?_getD, Array.getElem?_toList, Array.getElem?_eq_getElem hi']; rfl
              show RelD _ _ _ (.v (.int .u8 ((str.data.toList.getD i 0).toNat : Nat)))
              rw [this]
              exact .v _ rfl
        · cases hE
      · cases hE
    · cases hE
  · cases hE

def numD : Dat → Int
  | .v (.int _ n) => n
  | _ => 0
/-- the numbers below n, out of the reach of rules that write lists out -/
def rng (n : Nat) : List Nat := List.range n
@[simp] theorem rng_eq (n : Nat) : rng n = List.range n := rfl
def effStr (P : Program) (e d : TypeId) (xs : List AV) (lL : Option (Nat × LV)) : Option Eff :=
  match tiOf P e, tiOf P d, xs, lL with
  | some te, some td, [.row l 1 off n], some (l', .arr _ m f) => match te.k, td.k with
    | .int .u8, .string => some { val := .p (.d (.v (.string (strOfNums ((rng n).map fun i => numD (f (off + i))))))), obl := l' = l ∧ off + n ≤ m ∧ ∀ i, i < n → f (off + i) = .v (.int .u8 (numD (f (off + i)))) }
    | _, _ => none
  | some te, some td, [.p (.d (.sl 1 n f))], _ => match te.k, td.k with
    | .int .u8, .string => some { val := .p (.d (.v (.string (strOfNums ((rng n).map fun i => numD ((f i).headD default)))))), obl := ∀ i, i < n → f i = [.v (.int .u8 (numD ((f i).headD default)))] }
    | _, _ => none
  | _, _, _, _ => none
theorem relD_v {w : World} {g : Nat → Nat} {v u : Value} (h : RelD w g v (.v u)) : v = u := by cases h; rfl
theorem range_map_getD (n : Nat) (f : Nat → Int) (i : Nat) (hi : i < n) : ((rng n).map f).getD i 0 = f i := by
  rw [rng_eq, List.getD_eq_getElem?_getD, List.getElem?_map, List.getElem?_range hi]; rfl
theorem sem_str {o : Oper} {s d e : TypeId} {x : Operand} (ho : o.op = .convert s d x) {tis : TI} (hs : tiOf P s = some tis) {sz by_ : Nat} (hsk : tis.k = .slice e sz by_) {xs : List AV} {lL : Option (Nat × LV)} {E : Eff} (hE : effStr P e d xs lL = some E) (hobl : E.obl) : OpSem P o xs lL E := by
  obtain ⟨_, ds, _, _, hds, _, hks, _, _⟩ := tiOf_spec hs
  rw [hsk] at hks
  obtain ⟨rfl, ie, hie, hss, hb⟩ := kindOf_slice hks
  unfold effStr at hE
  split at hE
  · rename_i te td l off n l' _ m f hte htd
    split at hE
    · rename_i hek hdk
      cases hE
      obtain ⟨rfl, hn, hf⟩ := hobl
      obtain ⟨_, de, _, _, hde, _, hke, _, _⟩ := tiOf_spec hte
      rw [hek] at hke
      have := kindOf_int hke
      subst this
      obtain ⟨_, dd, _, _, hdd, _, hkd, _, _⟩ := tiOf_spec htd
      rw [hdk] at hkd
      have := kindOf_string hkd
      subst this
      refine opSem_pure fun B w h r hr hL => ?_
      simp only [ho, Op.operands] at hr
      obtain ⟨c, hv, hc⟩ := hr.2 0 (r x) _ rfl rfl
      obtain ⟨arr, fz, hB, hh, hfz, hsz, hg, hrr⟩ := hL _ _ rfl
      refine ⟨_, ?_, relA_mk rfl⟩
      have hrun := run_convert_bytes_arg (P := P) w s e hds hde (h.ρ l') (off * 1) n c ((rng n).map fun i => numD (f (off + i))) (by simp) (fun i hi => by
        rw [heap_cell hh, range_map_getD n _ i hi, Nat.mul_one]
        have hlt : off + i < arr.size := by omega
        rw [Array.getElem?_eq_getElem hlt]
        have := hrr (off + i) _ (by omega) (Array.getElem?_eq_getElem hlt)
        rw [hf i hi] at this
        rw [relD_v this]) d hdd
      simp only [Nat.mul_one] at hrun
      simp [execOp, ho, hv, hrun]
    · cases hE
  · rename_i te td n f hte htd
    split at hE
    · rename_i hek hdk
      cases hE
      obtain ⟨_, de, _, _, hde, _, hke, _, _⟩ := tiOf_spec hte
      rw [hek] at hke
      have := kindOf_int hke
      subst this
      obtain ⟨_, dd, _, _, hdd, _, hkd, _, _⟩ := tiOf_spec htd
      rw [hdk] at hkd
      have := kindOf_string hkd
      subst this
      refine opSem_pure fun B w h r hr hL => ?_
      simp only [ho, Op.operands] at hr
      have h0 := hr.2 0 (r x) _ rfl rfl
      obtain ⟨v0, hv0⟩ : ∃ v, r x = v := ⟨_, rfl⟩
      rw [hv0] at h0
      refine ⟨_, ?_, relA_mk rfl⟩
      cases h0 with
      | d _ _ h0 =>
        cases h0 with
        | sl0 a c =>
          have : ∀ a : Option Addr, (convert s d (.slice a 0 c)).run P w = .ok (.string ByteArray.empty) w := by
            intro a
            cases a with
            | none => exact run_convert_bytes_nil (P := P) w s e hds hde 0 c d hdd
            | some a =>
              rw [run_convert_bytes_string w s d e _ 0 c hds hde hdd, run_bytesToString w _ 0 c [] (by simpa using run_loadCells_list (P := P) w a [] (fun j v hj => by simp at hj))]
              rfl
          simp [execOp, ho, hv0, this]
          rfl
        | sl b off _ c _ _ u hn hl hc hg hrr =>
          have hrun := run_convert_bytes_arg (P := P) w s e hds hde b off n c ((rng n).map fun i => numD ((f i).headD default)) (by simp) (fun i hi => by
            rw [range_map_getD n _ i hi]
            have := hc i 0 hi (by omega)
            simp only [Nat.mul_one, Nat.add_zero] at this
            rw [this]
            have hx := hrr i 0 (.v (.int .u8 (numD ((f i).headD default)))) hi (by have := hobl i hi; rw [this]; rfl)
            rw [relD_v hx]) d hdd
          simp [execOp, ho, hv0, hrun]
    · cases hE
  · cases hE

-- the equations of what is worked out in a walk, made here once
theorem effMake_eqns : True := have := @effMake.eq_1; trivial
theorem effBytes_eqns : True := have := @effBytes.eq_1; trivial
theorem effStr_eqns : True := have := @effStr.eq_1; trivial
theorem numD_eqns : True := have := @numD.eq_1; trivial

def mapX : List AV → Bool
  | [.mp _] => true
  | _ => false
theorem mapX_eqns : True := have := @mapX.eq_1; trivial
theorem effLenM_eqns : True := have := @effLenM.eq_1; trivial
theorem effDelete_eqns : True := have := @effDelete.eq_1; trivial
theorem effCopyO_eqns : True := have := @effCopyO.eq_1; trivial
theorem effNilP_eqns : True := have := @effNilP.eq_1; trivial
theorem nilP_eqns : True := have := @nilP.eq_1; trivial
theorem nilPB_eqns : True := have := @nilPB.eq_1; trivial
theorem nilFB_eqns : True := have := @nilFB.eq_1; trivial
theorem effMakeMap_eqns : True := have := @effMakeMap.eq_1; trivial
theorem effLookup_eqns : True := have := @effLookup.eq_1; trivial
theorem effUpdate_eqns : True := have := @effUpdate.eq_1; trivial
theorem mapKZ_eqns : True := have := @mapKZ.eq_1; trivial
theorem mapKs_eqns : True := have := @mapKs.eq_1; trivial
theorem keyKinds_eqns : True := have := @keyKinds.eq_1; trivial
theorem kindsV_eqns : True := have := @kindsV.eq_1; trivial
theorem keyAV_eqns : True := have := @keyAV.eq_1; trivial
theorem keyObl_eqns : True := have := @keyObl.eq_1; trivial
theorem cvsAV_eqns : True := have := @cvsAV.eq_1; trivial
theorem fillC_eqns : True := have := @fillC.eq_1; trivial
theorem effBuildC_eqns : True := have := @effBuildC.eq_1; trivial
theorem effFieldC_eqns : True := have := @effFieldC.eq_1; trivial
def effBuiltin (P : Program) (c : Call) (xs : List AV) (lL : Option (Nat × LV)) : Option Eff :=
  match c.callee, c.args.toList, c.argTypes.toList with
  | .builtin .len, [_], [t] => match mapX xs with
    | true => effLenM P t xs lL
    | false => effLen P t xs
  | .builtin .delete, [_, _], [t, _] => effDelete P t xs lL
  | .builtin .copy, [_, _], [t, t'] => effCopyO P [t, t'] xs lL
  | .builtin .append, [_, _], [t, t'] => match ownX xs with
    | true => effAppendO P [t, t'] xs lL
    | false => effAppend P [t, t'] xs lL
  | _, _, _ => none
/-- A slot whose row is to be written and to grow: M has 10000 more. -/
def ownD (M : List Nat) : Option Tmp → Bool
  | some d => M.contains (d + 10000)
  | none => false
def opEff (P : Program) (M : List Nat) (o : Oper) (xs : List AV) (lL : Option (Nat × LV)) : Option Eff :=
  match o.op with
  | .move _ => effMove xs
  | .assign _ => effMove xs
  | .pick .. => effPick xs
  | .nilCheck _ => effNil xs
  | .box t _ => effBox M t o.dst xs
  | .alloc t => effAlloc P t o.dst
  | .load t _ => match ownX xs with
    | true => effLoadO P t xs lL
    | false => effLoad P t xs lL
  | .store t _ _ => match ownX xs with
    | true => effStoreO P t xs lL
    | false => effStore P t xs lL
  | .fieldAddr t _ n => match ownX xs with
    | true => effFieldAddrO P t n xs
    | false => effFieldAddr P t n xs
  | .indexAddr t _ _ => match ownX xs with
    | true => effIndexAddrO P t xs
    | false => effIndexAddr P t xs
  | .field t _ n => match effField P t n xs with
    | some E => some E
    | none => effFieldC P t n xs
  | .index t _ _ => effIndex P t xs
  | .binOp op t _ _ _ => match nilR xs with
    | true => effNil' P op t xs
    | false => match nilP xs with
      | true => effNilP P op t xs
      | false => effBin P op t xs
  | .unOp op _ _ => effUn op xs
  | .convert s d _ => match tiOf P s with
    | some tis => match tis.k with
      | .string => effBytes P d o.dst xs
      | .slice e _ _ => effStr P e d xs lL
      | _ => effConvert P d xs
    | none => none
  | .build t parts => match effBuild P t (parts.toList.map (·.1)) xs with
    | some E => some E
    | none => effBuildC P t (parts.toList.map (·.1)) xs
  | .buildSlice t len parts => match len with
    | 0 => match ownD M o.dst with
      | true => effBuildSlice0O P t o.dst (parts.toList.map (·.1))
      | false => effBuildSlice0 P M t o.dst (parts.toList.map (·.1))
    | n + 1 => effBuildSlice P t (n + 1) (parts.toList.map (·.1)) xs
  | .slice t _ lo hi mx => effSlice P t lo.isSome hi.isSome mx.isSome xs
  | .makeFunc fn first _ => match effFunc fn first.size xs with
    | some E => some E
    | none => effFuncO fn first.size xs
  | .extract _ i => effExtract i xs
  | .call c => effBuiltin P c xs lL
  | .makeSlice t _ _ => match ownD M o.dst with
    | true => effMakeO P t o.dst xs
    | false => effMake P t o.dst xs
  | .makeMap t r => match r with
    | none => effMakeMap P t o.dst
    | some _ => none
  | .lookup t _ _ ok => effLookup P t ok xs lL
  | .mapUpdate t _ _ _ => effUpdate P t xs lL
  | .insert t _ _ _ => effUpdate P t xs lL
  | _ => none
def locNeed (o : Oper) (xs : List AV) : Option Nat :=
  match o.op, xs with
  | .load .., .loc l _ :: _ => some l
  | .store .., .loc l _ :: _ => some l
  | .call _, .gr l _ _ _ _ :: _ => some l
  | .convert .., .row l _ _ _ :: _ => some l
  | .load .., .el l _ _ _ _ :: _ => some l
  | .store .., .el l _ _ _ _ :: _ => some l
  | .call _, .ow l _ _ _ :: _ => some l
  | .call _, .mp l :: _ => some l
  | .lookup .., .mp l :: _ => some l
  | .mapUpdate .., .mp l :: _ => some l
  | .insert .., .mp l :: _ => some l
  | _, _ => none

theorem opEff_sound {M : List Nat} {o : Oper} {xs : List AV} {lL : Option (Nat × LV)} {E : Eff} (hE : opEff P M o xs lL = some E) (hobl : E.obl) : OpSem P o xs lL E := by
  unfold opEff at hE
  split at hE
  case h_1 x ho => exact sem_move (.inl ho) hE
  case h_2 x ho => exact sem_move (.inr ho) hE
  case h_3 c a b ho => exact sem_pick ho hE
  case h_4 x ho => exact sem_nil ho hE
  case h_5 t x ho => exact sem_box ho hE hobl
  case h_6 t ho => exact sem_alloc ho hE hobl
  case h_7 t x ho =>
    split at hE
    · exact sem_loadO ho hE hobl
    · exact sem_load ho hE hobl
  case h_8 t x y ho =>
    split at hE
    · exact sem_storeO ho hE hobl
    · exact sem_store ho hE hobl
  case h_9 t x n ho =>
    split at hE
    · exact sem_fieldAddrO ho hE hobl
    · exact sem_fieldAddr ho hE hobl
  case h_10 t x y ho =>
    split at hE
    · exact sem_indexAddrO ho hE hobl
    · exact sem_indexAddr ho hE hobl
  case h_11 t x n ho =>
    split at hE
    · rename_i E' he; cases hE; exact sem_field ho he hobl
    · exact sem_fieldC ho hE
  case h_12 t x y ho => exact sem_index ho hE hobl
  case h_13 op t x y t' ho =>
    split at hE
    · rename_i hn; exact sem_nil' ho hn hE hobl
    · split at hE
      · exact sem_nilP ho hE hobl
      · exact sem_bin ho hE hobl
  case h_14 op t x ho => exact sem_un ho hE
  case h_15 s d x ho =>
    split at hE
    · rename_i ti hs
      split at hE
      · rename_i hk; exact sem_bytes ho hs hk hE
      · rename_i hk; exact sem_str ho hs hk hE hobl
      · exact sem_convert ho (by rw [hs]; rfl) hE
    · cases hE
  case h_16 t parts ho =>
    split at hE
    · rename_i E' he; cases hE; exact sem_build ho he hobl
    · exact sem_buildC ho hE hobl
  case h_17 t len parts ho =>
    cases len with
    | zero =>
      simp only at hE
      split at hE
      · exact sem_buildSlice0O ho hE hobl
      · exact sem_buildSlice0 ho hE hobl
    | succ n => exact sem_buildSlice ho hE hobl
  case h_18 t x lo hi mx ho => exact sem_slice ho hE hobl
  case h_19 fn first caps ho =>
    split at hE
    · rename_i E' he; cases hE; exact sem_func ho he
    · exact sem_funcO ho hE
  case h_20 x i ho => exact sem_extract ho hE
  case h_21 c ho =>
    unfold effBuiltin at hE
    split at hE
    · rename_i x t h1 h2 h3
      have hc : c = { callee := .builtin .len, args := #[x], argTypes := #[t] } := by
        obtain ⟨cl, ar, at_⟩ := c
        simp only at h1 h2 h3
        subst h1
        have e2 : ar = #[x] := by apply Array.ext'; simpa using h2
        have e3 : at_ = #[t] := by apply Array.ext'; simpa using h3
        rw [e2, e3]
      split at hE
      · exact sem_lenM ho hc hE hobl
      · exact sem_len ho hc hE
    · rename_i s y t t' h1 h2 h3
      have hc : c = { callee := .builtin .delete, args := #[s, y], argTypes := #[t, t'] } := by
        obtain ⟨cl, ar, at_⟩ := c
        simp only at h1 h2 h3
        subst h1
        have e2 : ar = #[s, y] := by apply Array.ext'; simpa using h2
        have e3 : at_ = #[t, t'] := by apply Array.ext'; simpa using h3
        rw [e2, e3]
      exact sem_delete ho hc hE hobl
    · rename_i s y t t' h1 h2 h3
      have hc : c = { callee := .builtin .copy, args := #[s, y], argTypes := #[t, t'] } := by
        obtain ⟨cl, ar, at_⟩ := c
        simp only at h1 h2 h3
        subst h1
        have e2 : ar = #[s, y] := by apply Array.ext'; simpa using h2
        have e3 : at_ = #[t, t'] := by apply Array.ext'; simpa using h3
        rw [e2, e3]
      exact sem_copyO ho hc hE hobl
    · rename_i s y t t' h1 h2 h3
      have hc : c = { callee := .builtin .append, args := #[s, y], argTypes := #[t, t'] } := by
        obtain ⟨cl, ar, at_⟩ := c
        simp only at h1 h2 h3
        subst h1
        have e2 : ar = #[s, y] := by apply Array.ext'; simpa using h2
        have e3 : at_ = #[t, t'] := by apply Array.ext'; simpa using h3
        rw [e2, e3]
      split at hE
      · exact sem_appendO ho hc hE hobl
      · exact sem_append ho hc hE hobl
    · cases hE
  case h_22 t x y ho =>
    split at hE
    · exact sem_makeO ho hE hobl
    · exact sem_make ho hE hobl
  case h_23 t r ho =>
    split at hE
    · exact sem_makeMap ho hE
    · cases hE
  case h_24 t x k ok ho => exact sem_lookup ho hE hobl
  case h_25 t m k v ho => exact sem_update (.inl ho) hE hobl
  case h_26 t m k v ho => exact sem_update (.inr ho) hE hobl
  case h_27 => cases hE

/-- An operation in the walk's words: whatever follows. -/
def OpT (P : Program) (o : Oper) (xs : List AV) (lL : Option (Nat × LV)) (E : Eff) : Prop :=
  ∀ (B : Nat → Prop) (w : World) (h : Gh) (a : Act) (next : Act → World → Prop) (Q : Exit → Act → World → Prop), NewIn B w → GZ w h.g → RelAs w h (o.op.operands.toList.map a.eval) xs →
    (∀ l L, lL = some (l, L) → LocOK B w h l L) →
    (∀ v w' h', RelA w' h' v E.val → Trans B w h w' h' (ownOf h lL E) (E.upd.map (·.1)) E.fresh →
      (∀ l L', E.upd = some (l, L') → LocOK B w' h' l L' ∧ ∀ b, inB h' l L' b → w.heap.size ≤ b ∨ (E.fresh = false ∧ ∃ L, lL = some (l, L) ∧ inB h l L b)) → next (a.put o.dst v) w') →
    o.wp P a w next Q

theorem OpSem.toT {o : Oper} {xs : List AV} {lL : Option (Nat × LV)} {E : Eff} (hs : OpSem P o xs lL E) : OpT P o xs lL E := by
  intro B w h a next Q hB hz hr hL hn
  obtain ⟨n, v, w', h', h1, h2, h3, h4, h5⟩ := hs B w h a.eval hB hz hr hL
  unfold Oper.wp
  rw [h1]
  rcases h2 with rfl | ⟨rfl, rfl⟩
  · exact hn v w' h' h3 h4 h5
  · exact hn undef w' h' h3 h4 h5

def resAV : List PV → AV
  | [x] => .p x
  | xs => .tup xs
theorem relA_res {w : World} {h : Gh} {v : Value} {rs : List PV} (r : RelR w h.g v rs) : RelA w h v (resAV rs) := by
  match rs, r with
  | [x], r => exact r
  | [], r => exact r
  | _ :: _ :: _, r => exact r

/-- Which function a value calls, with which values ahead of the arguments and behind them. -/
def calleeAV : AV → Option (FuncId × List PV × List PV)
  | .p (.fn (.func f) a b) => some (f, a, b)
  | _ => none

theorem call_run {o : Oper} {c : Call} {f : Operand} (ho : o.op = .call c) (hc : c.callee = .value f) {x : AV} {g : FuncId} {pre post : List PV} (hx : calleeAV x = some (g, pre, post)) {ys : List PV}
    {w : World} {h : Gh} {a : Act} (hf : RelA w h (a.eval f) x) (hargs : RelPs w h.g (c.args.toList.map a.eval) ys) :
    ∃ vs : List Value, RelPs w h.g vs (pre ++ ys ++ post) ∧ (execOp a.eval o).run P w = (callFunc g vs.toArray).run P w := by
  unfold calleeAV at hx
  split at hx
  · rename_i g' a' b'
    cases hx
    obtain ⟨v0, hv0⟩ : ∃ v, a.eval f = v := ⟨_, rfl⟩
    rw [hv0] at hf
    cases hf with
    | fn _ us vs _ _ hl hm hr hs =>
      refine ⟨us ++ c.args.toList.map a.eval ++ vs, RelPs.append (RelPs.append ⟨hl, hr⟩ hargs) ⟨hm, hs⟩, ?_⟩
      have : (us ++ c.args.toList.map a.eval ++ vs).toArray = us.toArray ++ c.args.map a.eval ++ vs.toArray := by
        apply Array.ext'; simp
      rw [this]
      simp [execOp, ho, resolve, hc, hv0, Deferred.ofValue, invoke]
  · cases hx

theorem RelAs.tail {w : World} {h : Gh} {v : Value} {us : List Value} {x : AV} {xs : List AV} (r : RelAs w h (v :: us) (x :: xs)) : RelAs w h us xs :=
  ⟨by simpa using r.1, fun j u z hu hz => r.2 (j + 1) u z (by simpa using hu) (by simpa using hz)⟩

theorem opT_call {o : Oper} {c : Call} {f : Operand} (ho : o.op = .call c) (hc : c.callee = .value f) {xs : List AV} {x : AV} {zs : List AV} (hxs : xs = x :: zs) {g : FuncId} {pre post : List PV} (hx : calleeAV x = some (g, pre, post))
    {ys : List PV} (hys : zs.mapM pvAV = some ys) {rs : List PV} (hcall : ACalls P g (pre ++ ys ++ post) (· = rs)) (lL : Option (Nat × LV)) : OpT P o xs lL { val := resAV rs } := by
  subst hxs
  intro B w h a next Q hB hz hr hL hn
  have hops : o.op.operands.toList.map a.eval = a.eval f :: c.args.toList.map a.eval := by simp [ho, Op.operands, Call.operands, hc]
  rw [hops] at hr
  have hf := hr.2 0 (a.eval f) x rfl rfl
  have hargs := pvs_spec (w := w) (h := h) hys hr.tail
  obtain ⟨vs, hvs, hrun⟩ := call_run (P := P) ho hc hx hf hargs
  have key := hcall w h.g vs hz hvs
  have fin : ∀ v w', (∃ g' r, Ext w h.g w' g' ∧ r = rs ∧ RelR w' g' v r) → next (a.put o.dst v) w' := by
    rintro v w' ⟨g', r, he, rfl, hrel⟩
    refine hn v w' { h with g := g' } (relA_res hrel) ?_ (fun l L' hl => by cases hl)
    exact Trans.same he.belowS (fun b hb => ⟨he.below.block b hb, he.gam b hb⟩) hz he.gz hB _
  unfold Oper.wp
  rw [hrun]
  unfold CallRes at key
  split at key
  · rename_i f' args w1 hrr
    rw [hrr]
    show Calls P f' args w1 _
    refine key.mono fun e w' ⟨v, he, hR⟩ => ?_
    subst he
    exact fin v w' hR
  · rename_i v w1 hrr
    rw [hrr]
    exact fin v w1 key
  · exact key.elim

section
variable {w0 : Base} {g0 : Nat → Nat} {nt : Nat} {A : ASt} {h : Gh} {a : Act} {w : World}
/-- A related frame goes on. -/
theorem Rel.opT {o : Oper} {lo : Option Nat} {E : Eff} {next : Act → World → Prop} {Q : Exit → Act → World → Prop} (r : Rel w0 g0 nt A h a w) (hs : OpT P o (o.op.operands.toList.map A.eval) (A.locAt lo) E)
    (hd : ∀ d, o.dst = some d → d < nt) (hf : E.fresh = true → ∀ l L, E.upd = some (l, L) → A.unused l) (hu : ∀ l L, E.upd = some (l, L) → E.fresh = false → lo = some l)
    (hn : ∀ v w' h', Rel w0 g0 nt (A.apply o.dst E) h' (a.put o.dst v) w' → next (a.put o.dst v) w') : o.wp P a w next Q := by
  have hlo : ∀ l L, A.locAt lo = some (l, L) → look A.locs l = some L := by
    intro l L he
    cases lo with
    | none => simp [ASt.locAt] at he
    | some l' =>
      simp only [ASt.locAt] at he
      cases hk : look A.locs l' with
      | none => simp [hk] at he
      | some L' => simp [hk] at he; obtain ⟨rfl, rfl⟩ := he; exact hk
  refine hs w0.O w h a next Q r.base r.gz (r.evals _) (fun l L he => r.locs l L (hlo l L he)) fun v w' h' h3 h4 h5 => ?_
  -- the step is the one of 'Rel.op', at an operation whose run is known to end so
  refine hn v w' h' ?_
  exact r.carry (o := o) hd hf hu h3 h4 h5
end

-- the equations of what is worked out in a walk, made here once
theorem effBuiltin_eqns : True := have := @effBuiltin.eq_1; trivial
theorem ownD_eqns : True := have := @ownD.eq_1; trivial
theorem opEff_eqns : True := have := @opEff.eq_1; trivial
theorem locNeed_eqns : True := have := @locNeed.eq_1; trivial
theorem resAV_eqns : True := have := @resAV.eq_1; trivial
theorem calleeAV_eqns : True := have := @calleeAV.eq_1; trivial
end Go.Proofs.Ytokibghllpfeaaa.AL

/- Regions: in the text's order; in whatever order the edges allow. -/
namespace Go.Proofs.Ytokibghllpfeaaa.AL
open Go.RowKit
variable {P : Program}

def wantedA (ops : Array Oper) (o : Oper) (A : ASt) : Option Bool :=
  match o.guard with
  | none => some true
  | some (j, want) => match (ops[j]?).bind (·.dst) with
    | some d => match look A.fr d with
      | some (.p (.d (.v (.bool b)))) => some (b == want)
      | some .undef => some false
      | _ => none
    | none => some false

theorem wantedA_spec {w0 : Base} {g0 : Nat → Nat} {nt : Nat} {A : ASt} {h : Gh} {a : Act} {w : World} (r : Rel w0 g0 nt A h a w) {ops : Array Oper} {o : Oper} {b : Bool} (hw : wantedA ops o A = some b) :
    Region.wanted o (yielded ops a.tmps) = b := by
  unfold wantedA at hw
  unfold Region.wanted
  split at hw
  · rename_i hg; cases hw; rw [hg]
  · rename_i j want hg
    rw [hg]
    simp only
    unfold yielded
    split at hw
    · rename_i d hd
      rw [hd]
      simp only [Option.bind_some]
      split at hw
      · rename_i q hq
        cases hw
        have := relA_v (r.fr d _ hq)
        have ht : a.tmps[d]? = some (.bool q) := by
          rw [Array.getD_eq_getD_getElem?] at this
          cases hx : a.tmps[d]? with
          | none => rw [hx] at this; cases this
          | some v => rw [hx] at this; simp at this; rw [this]
        rw [ht]
        simp
      · rename_i hq
        cases hw
        have : a.tmps.getD d undef = undef := r.fr d _ hq
        rw [Array.getD_eq_getD_getElem?] at this
        cases hx : a.tmps[d]? with
        | none => simp
        | some v => rw [hx] at this; simp at this; subst this; rfl
      · cases hw
    · rename_i hd
      rw [hd]
      cases hw
      rfl

/-- Operation o, come up in state A, does E (lo: the location that it speaks of). -/
structure OpDo (P : Program) (nt : Nat) (ops : Array Oper) (o : Oper) (A : ASt) (lo : Option Nat) (E : Eff) : Prop where
  dst : ∀ d, o.dst = some d → d < nt
  does : (wantedA ops o A = some false ∧ E = { val := .undef }) ∨
    (wantedA ops o A = some true ∧ OpT P o (o.op.operands.toList.map A.eval) (A.locAt lo) E)
  fresh : E.fresh = true → ∀ l L, E.upd = some (l, L) → A.unused l
  upd : ∀ l L, E.upd = some (l, L) → E.fresh = false → lo = some l

theorem OpDo.sound {nt : Nat} {ops : Array Oper} {o : Oper} {A : ASt} {lo : Option Nat} {E : Eff} (d : OpDo P nt ops o A lo E) {w0 : Base} {g0 : Nat → Nat} {h : Gh} {a : Act} {w : World} (r : Rel w0 g0 nt A h a w)
    {K : Act → World → Prop} {Q : Exit → Act → World → Prop} (hn : ∀ a' w' h', Rel w0 g0 nt (A.apply o.dst E) h' a' w' → K a' w') :
    if Region.wanted o (yielded ops a.tmps) then o.wp P a w K Q ∨ (o.asks P a w ∧ LetsOut Q) else K (a.put o.dst undef) w := by
  rcases d.does with ⟨h1, rfl⟩ | ⟨h1, h2⟩
  · rw [wantedA_spec r h1]
    simp only [Bool.false_eq_true, if_false]
    exact hn _ _ h (Rel.put r d.dst rfl)
  · rw [wantedA_spec r h1]
    simp only [if_true]
    exact .inl (Rel.opT r h2 d.dst d.fresh d.upd fun v w' h' hr => hn _ _ h' hr)

/-- What an operation in its place does to a related frame. -/
def StepS (P : Program) (nt : Nat) (ops : Array Oper) (o : Oper) (A A' : ASt) : Prop :=
  ∀ (w0 : Base) (g0 : Nat → Nat) (h : Gh) (a : Act) (w : World), Rel w0 g0 nt A h a w → ∀ (K : Act → World → Prop) (Q : Exit → Act → World → Prop), (∀ a' w' h', Rel w0 g0 nt A' h' a' w' → K a' w') →
    if Region.wanted o (yielded ops a.tmps) then o.wp P a w K Q ∨ (o.asks P a w ∧ LetsOut Q) else K (a.put o.dst undef) w
theorem OpDo.step {nt : Nat} {ops : Array Oper} {o : Oper} {A : ASt} {lo : Option Nat} {E : Eff} (d : OpDo P nt ops o A lo E) : StepS P nt ops o A (A.apply o.dst E) :=
  fun w0 g0 h a w r K Q hn => d.sound r hn

/-! ### calls that read own memory -/
/-- A call that changes nothing that was there; it reads the own locations rd, as L tells them. -/
def OpR (P : Program) (o : Oper) (xs : List AV) (rd : List Nat) (L : List (Nat × LV)) (x : AV) : Prop :=
  ∀ (B : Nat → Prop) (w : World) (h : Gh) (a : Act) (next : Act → World → Prop) (Q : Exit → Act → World → Prop), NewIn B w → GZ w h.g → RelAs w h (o.op.operands.toList.map a.eval) xs →
    (∀ l, rd.contains l = true → ∀ X, look L l = some X → LocOK B w h l X) →
    (∀ l l', rd.contains l = true → rd.contains l' = true → l ≠ l' → ∀ X X' b, look L l = some X → look L l' = some X' → inB h l X b → ¬ inB h l' X' b) →
    (∀ v w' h', RelA w' h' v x → Trans B w h w' h' (fun _ => False) none false → next (a.put o.dst v) w') → o.wp P a w next Q
theorem OpR.congr {P : Program} {o : Oper} {xs : List AV} {rd : List Nat} {L L' : List (Nat × LV)} {x : AV} (h : ∀ l, rd.contains l = true → look L' l = look L l) (k : OpR P o xs rd L x) : OpR P o xs rd L' x := by
  intro B w g a next Q hB hz hr hL hS hn
  exact k B w g a next Q hB hz hr (fun l hl X hX => hL l hl X (by rw [h l hl]; exact hX)) (fun l l' hl hl' hne X X' b h1 h2 => hS l l' hl hl' hne X X' b (by rw [h l hl]; exact h1) (by rw [h l' hl']; exact h2)) hn
structure OpRd (P : Program) (nt : Nat) (ops : Array Oper) (o : Oper) (A : ASt) (rd : List Nat) (E : Eff) : Prop where
  dst : ∀ d, o.dst = some d → d < nt
  want : wantedA ops o A = some true
  does : OpR P o (o.op.operands.toList.map A.eval) rd A.locs E.val
  upd : E.upd = none
  fresh : E.fresh = false
theorem OpRd.sound {P : Program} {nt : Nat} {ops : Array Oper} {o : Oper} {A : ASt} {rd : List Nat} {E : Eff} (d : OpRd P nt ops o A rd E) {w0 : Base} {g0 : Nat → Nat} {h : Gh} {a : Act} {w : World} (r : Rel w0 g0 nt A h a w)
    {K : Act → World → Prop} {Q : Exit → Act → World → Prop} (hn : ∀ a' w' h', Rel w0 g0 nt (A.apply o.dst E) h' a' w' → K a' w') :
    if Region.wanted o (yielded ops a.tmps) then o.wp P a w K Q ∨ (o.asks P a w ∧ LetsOut Q) else K (a.put o.dst undef) w := by
  rw [wantedA_spec r d.want]
  simp only [if_true]
  refine .inl (d.does w0.O w h a K Q r.base r.gz (r.evals _) (fun l _ X hX => r.locs l X hX) (fun l l' _ _ hne X X' b h1 h2 => r.sep l l' X X' b hne h1 h2) fun v w' h' h3 t => hn _ _ h' ?_)
  have e1 := d.upd
  have e2 := d.fresh
  refine Rel.carry (lo := none) (o := o) r d.dst (fun hf => by rw [e2] at hf; cases hf) (fun l L hu => by rw [e1] at hu; cases hu) h3 ?_ (fun l L' hu => by rw [e1] at hu; cases hu)
  have : ownOf h (A.locAt none) E = (fun _ => False) := by unfold ownOf; rw [e1]; cases E.fresh <;> rfl
  rw [this, e1, e2]
  exact t
/-- What an operation did. -/
def Did (P : Program) (nt : Nat) (ops : Array Oper) (o : Oper) (A : ASt) (lo : Option Nat) (E : Eff) (rd : List Nat) : Prop :=
  (OpDo P nt ops o A lo E ∧ rd = []) ∨ (lo = none ∧ OpRd P nt ops o A rd E)
theorem Did.sound {P : Program} {nt : Nat} {ops : Array Oper} {o : Oper} {A : ASt} {lo : Option Nat} {E : Eff} {rd : List Nat} (d : Did P nt ops o A lo E rd) {w0 : Base} {g0 : Nat → Nat} {h : Gh} {a : Act} {w : World} (r : Rel w0 g0 nt A h a w)
    {K : Act → World → Prop} {Q : Exit → Act → World → Prop} (hn : ∀ a' w' h', Rel w0 g0 nt (A.apply o.dst E) h' a' w' → K a' w') :
    if Region.wanted o (yielded ops a.tmps) then o.wp P a w K Q ∨ (o.asks P a w ∧ LetsOut Q) else K (a.put o.dst undef) w := by
  rcases d with ⟨d, _⟩ | ⟨_, d⟩
  · exact d.sound r hn
  · exact d.sound r hn

/-! ### in the text's order -/
def walkS (P : Program) (nt : Nat) (ops : Array Oper) : List Oper → ASt → (ASt → Prop) → Prop
  | [], A, K => K A
  | o :: rest, A, K => (∃ A', StepS P nt ops o A A' ∧ walkS P nt ops rest A' K)

theorem walkS_sound {nt : Nat} {ops : Array Oper} {w0 : Base} {g0 : Nat → Nat} {Q : Exit → Act → World → Prop} {K : ASt → Prop} (hQ : ∀ A h a w, Rel w0 g0 nt A h a w → K A → Q .normal a w) :
    ∀ (l : List Oper) (A : ASt) (h : Gh) (a : Act) (w : World), Rel w0 g0 nt A h a w → walkS P nt ops l A K → wpList P ops Q l a w
  | [], A, h, a, w, r, hk => hQ A h a w r hk
  | o :: rest, A, h, a, w, r, hk => by
    obtain ⟨A', hd, hk⟩ := hk
    have := hd w0 g0 h a w r (wpList P ops Q rest) Q (fun a' w' h' hr => walkS_sound hQ rest _ h' a' w' hr hk)
    simpa [wpList] using this

/-! ### in whatever order -/
structure Done where
  o : Oper
  lo : Option Nat
  E : Eff
  /-- own locations that a call read -/
  rd : List Nat

/-- The state in which just the operations of S have been done. -/
def part (S : Nat → Bool) : Nat → List Done → ASt → ASt
  | _, [], A => A
  | k, d :: r, A => part S (k + 1) r (if S k then A.apply d.o.dst d.E else A)

theorem look_apply_fr (A : ASt) (dst : Option Tmp) (E : Eff) (t : Nat) : look (A.apply dst E).fr t = if dst = some t then some E.val else look A.fr t := by
  unfold ASt.apply ASt.put ASt.upd
  cases dst with
  | none => cases E.upd <;> simp
  | some d =>
    by_cases h : d = t
    · subst h; cases E.upd <;> simp [look]
    · cases E.upd <;> simp [look, h]
theorem look_apply_locs (A : ASt) (dst : Option Tmp) (E : Eff) (l : Nat) : look (A.apply dst E).locs l = match E.upd with
    | some (l', L) => if l' = l then some L else look A.locs l
    | none => look A.locs l := by
  unfold ASt.apply ASt.put ASt.upd
  cases dst <;> cases E.upd <;> simp [look]

/-- The last one of a list that a test finds, if there is one: what stands at a key behind writes. -/
def lastW {α β : Type} (f : α → Option β) : List α → Option β
  | [] => none
  | x :: r => match lastW f r with
    | some y => some y
    | none => f x
def valAt (t : Nat) (d : Done) : Option AV := if d.o.dst = some t then some d.E.val else none
def locAtD (l : Nat) (d : Done) : Option LV := match d.E.upd with
  | some (l', L) => if l' = l then some L else none
  | none => none
def selD {β : Type} (S : Nat → Bool) (f : Done → Option β) : Nat × Done → Option β := fun p => if S p.1 then f p.2 else none

def idx {α : Type} (k : Nat) : List α → List (Nat × α)
  | [] => []
  | x :: r => (k, x) :: idx (k + 1) r
theorem idx_mem {α : Type} : ∀ {l : List α} {k i : Nat} {x : α}, (i, x) ∈ idx k l ↔ k ≤ i ∧ l[i - k]? = some x
  | [], k, i, x => by simp [idx]
  | y :: r, k, i, x => by
    simp only [idx, List.mem_cons, Prod.mk.injEq, idx_mem (l := r)]
    constructor
    · rintro (⟨rfl, rfl⟩ | ⟨h1, h2⟩)
      · simp
      · refine ⟨by omega, ?_⟩
        have : i - k = (i - (k + 1)) + 1 := by omega
        rw [this]; simpa using h2
    · rintro ⟨h1, h2⟩
      by_cases h : i = k
      · subst h; simp at h2; exact .inl ⟨rfl, h2.symm⟩
      · refine .inr ⟨by omega, ?_⟩
        have : i - k = (i - (k + 1)) + 1 := by omega
        rw [this] at h2; simpa using h2

theorem part_fr (S : Nat → Bool) (t : Nat) : ∀ (l : List Done) (k : Nat) (A : ASt), look (part S k l A).fr t = (lastW (selD S (valAt t)) (idx k l)).or (look A.fr t)
  | [], k, A => by simp [part, idx, lastW]
  | d :: r, k, A => by
    simp only [part, idx, lastW, part_fr S t r (k + 1)]
    cases hl : lastW (selD S (valAt t)) (idx (k + 1) r) with
    | some y => simp
    | none =>
      simp only [Option.none_or, selD]
      cases S k with
      | false => simp
      | true =>
        simp only [if_true, look_apply_fr, valAt]
        split <;> simp
theorem part_locs (S : Nat → Bool) (l : Nat) : ∀ (tr : List Done) (k : Nat) (A : ASt), look (part S k tr A).locs l = (lastW (selD S (locAtD l)) (idx k tr)).or (look A.locs l)
  | [], k, A => by simp [part, idx, lastW]
  | d :: r, k, A => by
    simp only [part, idx, lastW, part_locs S l r (k + 1)]
    cases hl : lastW (selD S (locAtD l)) (idx (k + 1) r) with
    | some y => simp
    | none =>
      simp only [Option.none_or, selD]
      cases S k with
      | false => simp
      | true =>
        simp only [if_true, look_apply_locs, locAtD]
        cases d.E.upd with
        | none => simp
        | some p =>
          obtain ⟨l', L⟩ := p
          simp only
          split <;> simp

theorem lastW_congr {α β : Type} {f g : α → Option β} : ∀ {l : List α}, (∀ x ∈ l, f x = g x) → lastW f l = lastW g l
  | [], _ => rfl
  | x :: r, h => by
    simp only [lastW, lastW_congr (l := r) fun y hy => h y (by simp [hy]), h x (by simp)]
theorem lastW_some {α β : Type} {f : α → Option β} : ∀ {l : List α} {y : β}, lastW f l = some y → ∃ x ∈ l, f x = some y
  | [], y, h => by cases h
  | x :: r, y, h => by
    simp only [lastW] at h
    split at h
    · rename_i z hz; cases h; obtain ⟨x', h1, h2⟩ := lastW_some hz; exact ⟨x', by simp [h1], h2⟩
    · exact ⟨x, by simp, h⟩

-- the equations of what is worked out in a walk, made here once
theorem wantedA_eqns : True := have := @wantedA.eq_1; trivial
end Go.Proofs.Ytokibghllpfeaaa.AL

/- Regions in whatever order the edges allow: one walk in the text's order serves. -/
namespace Go.Proofs.Ytokibghllpfeaaa.AL
open Go.RowKit
variable {P : Program}

/-- What binds operation o to wait. -/
def preds (o : Oper) : List Nat := (o.after.toList.filter (Region.binds .any)).map (·.on)
/-- All that each operation waits for, at last. -/
def ancs : List Oper → List (List Nat) → List (List Nat)
  | [], acc => acc
  | o :: r, acc => ancs r (acc ++ [((preds o).flatMap fun p => p :: acc.getD p []).eraseDups])
def Closed (ops : List Oper) (S : Nat → Bool) : Prop := ∀ i o, ops[i]? = some o → S i = true → ∀ p ∈ preds o, S p = true

theorem ancs_len : ∀ (l : List Oper) (acc : List (List Nat)), (ancs l acc).length = acc.length + l.length
  | [], acc => by simp [ancs]
  | o :: r, acc => by simp [ancs, ancs_len r]; omega
theorem ancs_old : ∀ (l : List Oper) (acc : List (List Nat)) (i : Nat), i < acc.length → (ancs l acc)[i]? = acc[i]?
  | [], acc, i, h => rfl
  | o :: r, acc, i, h => by
    simp only [ancs]
    rw [ancs_old r _ i (by simp; omega), List.getElem?_append_left h]
/-- Whoever's direct predecessors are all in a closed set, has all its ancestors in it. -/
theorem ancs_spec (ops : List Oper) (S : Nat → Bool) (hS : Closed ops S) : ∀ (l : List Oper) (acc : List (List Nat)), ops.drop acc.length = l →
    (∀ (i : Nat) (as : List Nat), acc[i]? = some as → ∀ o, ops[i]? = some o → (∀ p ∈ preds o, S p = true) → ∀ j ∈ as, S j = true) →
    ∀ (i : Nat) (as : List Nat), (ancs l acc)[i]? = some as → ∀ o, ops[i]? = some o → (∀ p ∈ preds o, S p = true) → ∀ j ∈ as, S j = true
  | [], acc, _, hacc => hacc
  | o :: r, acc, hd, hacc => by
    simp only [ancs]
    have ho : ops[acc.length]? = some o := by
      have : (ops.drop acc.length)[0]? = some o := by rw [hd]; rfl
      simpa using this
    refine ancs_spec ops S hS r _ ?_ ?_
    · have : ops.drop (acc.length + 1) = (ops.drop acc.length).drop 1 := by rw [List.drop_drop]
      simp [this, hd]
    · intro i as hi o' ho' hp j hj
      by_cases hlt : i < acc.length
      · rw [List.getElem?_append_left hlt] at hi
        exact hacc i as hi o' ho' hp j hj
      · have hi' : i = acc.length := by
          have := (List.getElem?_eq_some_iff.1 hi).1
          simp at this; omega
        subst hi'
        rw [ho] at ho'; cases ho'
        simp at hi
        subst hi
        rw [List.mem_eraseDups, List.mem_flatMap] at hj
        obtain ⟨p, hpm, hjp⟩ := hj
        rcases List.mem_cons.1 hjp with rfl | hjp
        · exact hp j hpm
        · cases hq : acc[p]? with
          | none => simp [List.getD_eq_getElem?_getD, hq] at hjp
          | some bs =>
            simp [List.getD_eq_getElem?_getD, hq] at hjp
            cases hop : ops[p]? with
            | none =>
              have h1 := (List.getElem?_eq_some_iff.1 hq).1
              have h2 := List.getElem?_eq_none_iff.1 hop
              have h3 := (List.getElem?_eq_some_iff.1 ho).1
              omega
            | some op => exact hacc p bs hq op hop (hS p op hop (hp p hpm)) j hjp

/-- Operation j is bound to come ahead of operation i. -/
def ahead (an : List (List Nat)) (j i : Nat) : Bool := (an.getD i []).contains j
def ordered (an : List (List Nat)) (i k : Nat) : Bool := if k < i then ahead an k i else ahead an i k

/-- Every two operations that a test finds at odds are bound in the text's order. -/
def okPairs (n : Nat) (an : List (List Nat)) (conf : Nat → Nat → Bool) : Bool :=
  (List.range n).all fun i => (List.range n).all fun k => i == k || !conf i k || ordered an i k
def confTmps (ops : List Oper) (i k : Nat) : Bool :=
  match ops[i]?, ops[k]? with
  | some o, some o' => match o'.dst with
    | some d => (o.looksAt ops.toArray).contains d || o.dst == some d
    | none => false
  | _, _ => false
def okEdges (ops : List Oper) : Bool := (List.range ops.length).all fun i => match ops[i]? with
  | some o => (preds o).all (· < i)
  | none => true
/-- What can be said of a region's own text. -/
def okText (ops : List Oper) : Bool := okEdges ops && okPairs ops.length (ancs ops []) (confTmps ops) && ops.all fun o => match o.op with
  | .select .. => false
  | _ => true

def updOf (d : Done) : Option Nat := d.E.upd.map (·.1)
def confLocs (tr : List Done) (i k : Nat) : Bool :=
  match tr[i]?, tr[k]? with
  | some d, some d' => match updOf d' with
    | some l => d.lo == some l || updOf d == some l || d.rd.contains l
    | none => false
  | _, _ => false
def mentionsE (E : Eff) : List Nat := E.val.mentions ++ (match E.upd with
  | some (_, L) => L.mentions
  | none => [])
def confFresh (tr : List Done) (i k : Nat) : Bool :=
  match tr[i]?, tr[k]? with
  | some d, some d' => d.E.fresh && (match updOf d with
    | some l => (mentionsE d'.E).contains l
    | none => false)
  | _, _ => false
def okAhead (n : Nat) (an : List (List Nat)) (conf : Nat → Nat → Bool) : Bool :=
  (List.range n).all fun i => (List.range n).all fun k => i == k || !conf i k || ahead an i k
/-- What is to be said of what a region's walk did. -/
def OkTrace (ops : List Oper) (A : ASt) (tr : List Done) : Prop :=
  okPairs tr.length (ancs ops []) (confLocs tr) = true ∧ okAhead tr.length (ancs ops []) (confFresh tr) = true ∧
  ∀ d ∈ tr, d.E.fresh = true → ∀ l, updOf d = some l → A.unused l

def walkD (P : Program) (nt : Nat) (ops : Array Oper) (K : ASt → List Done → Prop) : List Oper → ASt → List Done → Prop
  | [], A, tr => K A tr.reverse
  | o :: rest, A, tr => ∃ lo E rd, Did P nt ops o A lo E rd ∧ walkD P nt ops K rest (A.apply o.dst E) (⟨o, lo, E, rd⟩ :: tr)

/-- What a walk leaves: each operation did what it did in the state behind those ahead of it. -/
def Traced (P : Program) (nt : Nat) (ops : Array Oper) (A : ASt) (tr : List Done) : Prop :=
  ∀ i d, tr[i]? = some d → ops[i]? = some d.o ∧ Did P nt ops d.o (part (fun k => decide (k < i)) 0 tr A) d.lo d.E d.rd

theorem part_congr {S T : Nat → Bool} : ∀ (l : List Done) (k : Nat) (A : ASt), (∀ i, k ≤ i → i < k + l.length → S i = T i) → part S k l A = part T k l A
  | [], k, A, _ => rfl
  | d :: r, k, A, h => by
    simp only [part]
    rw [h k (Nat.le_refl _) (by simp), part_congr r (k + 1) _ fun i h1 h2 => h i (by omega) (by simp; omega)]
theorem part_append (S : Nat → Bool) : ∀ (l l' : List Done) (k : Nat) (A : ASt), part S k (l ++ l') A = part S (k + l.length) l' (part S k l A)
  | [], l', k, A => by simp [part]
  | d :: r, l', k, A => by
    simp only [List.cons_append, part, part_append S r l' (k + 1), List.length_cons]
    congr 1; omega
theorem part_false : ∀ (l : List Done) (k : Nat) (A : ASt) (S : Nat → Bool), (∀ i, k ≤ i → i < k + l.length → S i = false) → part S k l A = A
  | [], k, A, S, _ => rfl
  | d :: r, k, A, S, h => by
    simp only [part, h k (Nat.le_refl _) (by simp)]
    exact part_false r (k + 1) A S fun i h1 h2 => h i (by omega) (by simp; omega)

theorem walkD_traced {nt : Nat} {ops : Array Oper} {K : ASt → List Done → Prop} (A0 : ASt) : ∀ (l : List Oper) (A : ASt) (tr : List Done),
    ops.toList = (tr.reverse.map (·.o)) ++ l → A = part (fun _ => true) 0 tr.reverse A0 → Traced P nt ops A0 tr.reverse → walkD P nt ops K l A tr →
    ∃ tr', Traced P nt ops A0 tr' ∧ tr'.map (·.o) = ops.toList ∧ K (part (fun _ => true) 0 tr' A0) tr'
  | [], A, tr, ho, hA, ht, hk => ⟨tr.reverse, ht, by simp [ho], by rw [← hA]; exact hk⟩
  | o :: rest, A, tr, ho, hA, ht, hk => by
    obtain ⟨lo, E, rd, hd, hk⟩ := hk
    have hlen : tr.reverse.length = tr.length := List.length_reverse
    refine walkD_traced A0 rest _ (⟨o, lo, E, rd⟩ :: tr) (by simp [ho]) ?_ ?_ hk
    · rw [List.reverse_cons, part_append, ← hA]
      simp [part]
    · rw [List.reverse_cons]
      intro i d hi
      by_cases hlt : i < tr.reverse.length
      · rw [List.getElem?_append_left hlt] at hi
        obtain ⟨e1, e2⟩ := ht i d hi
        refine ⟨e1, ?_⟩
        rw [part_append, part_false _ _ _ _ (fun j h1 h2 => by simp at h1 hlt ⊢; omega)]
        exact e2
      · have hi' : i = tr.reverse.length := by
          have := (List.getElem?_eq_some_iff.1 hi).1
          simp at this hlt; simp; omega
        subst hi'
        simp at hi
        subst hi
        have hget : ops[tr.reverse.length]? = some o := by
          have : ops.toList[tr.reverse.length]? = some o := by rw [ho]; simp
          simpa using this
        refine ⟨hget, ?_⟩
        rw [part_append, part_false [_] _ _ _ (fun j h1 h2 => by simp at h1 h2 ⊢; omega)]
        rw [part_congr (T := fun _ => true) _ _ _ (fun j h1 h2 => by simp at h2 ⊢; omega), ← hA]
        exact hd
end Go.Proofs.Ytokibghllpfeaaa.AL

/- Regions in whatever order the edges allow, continued: the theorem. -/
namespace Go.Proofs.Ytokibghllpfeaaa.AL
open Go.RowKit
variable {P : Program}

theorem Rel.ext' {w0 : Base} {g0 : Nat → Nat} {nt : Nat} {A A' : ASt} {h : Gh} {a : Act} {w : World} (r : Rel w0 g0 nt A h a w) (hf : ∀ t, look A'.fr t = look A.fr t) (hl : ∀ l, look A'.locs l = look A.locs l) : Rel w0 g0 nt A' h a w :=
  ⟨r.size, r.defers, fun t x hx => r.fr t x (by rw [← hf]; exact hx), fun l L hL => r.locs l L (by rw [← hl]; exact hL),
   fun l l' L L' b hne h1 h2 => r.sep l l' L L' b hne (by rw [← hl]; exact h1) (by rw [← hl]; exact h2), r.ext, r.pin⟩

theorem okPairs_spec {n : Nat} {an : List (List Nat)} {conf : Nat → Nat → Bool} (h : okPairs n an conf = true) {i k : Nat} (hi : i < n) (hk : k < n) (hne : i ≠ k) (hc : conf i k = true) : ordered an i k = true := by
  unfold okPairs at h
  have h1 := List.all_eq_true.1 h i (List.mem_range.2 hi)
  have h2 := List.all_eq_true.1 h1 k (List.mem_range.2 hk)
  simp [hne, hc] at h2
  exact h2

theorem okAhead_spec {n : Nat} {an : List (List Nat)} {conf : Nat → Nat → Bool} (h : okAhead n an conf = true) {i k : Nat} (hi : i < n) (hk : k < n) (hne : i ≠ k) (hc : conf i k = true) : ahead an i k = true := by
  unfold okAhead at h
  have h1 := List.all_eq_true.1 h i (List.mem_range.2 hi)
  have h2 := List.all_eq_true.1 h1 k (List.mem_range.2 hk)
  simp [hne, hc] at h2
  exact h2

section
variable {opsL : List Oper} {S : Nat → Bool}

theorem anc_in (hS : Closed opsL S) {i j : Nat} {o : Oper} (ho : opsL[i]? = some o) (hp : ∀ p ∈ preds o, S p = true) (hj : ahead (ancs opsL []) j i = true) : S j = true := by
  unfold ahead at hj
  cases hq : (ancs opsL [])[i]? with
  | none => simp [List.getD_eq_getElem?_getD, hq] at hj
  | some as =>
    simp [List.getD_eq_getElem?_getD, hq] at hj
    exact ancs_spec opsL S hS opsL [] rfl (fun i as h => by simp at h) i as hq o ho hp j hj

/-- Of an operation that may come up now: whoever is at odds with it has been done just if it stands ahead in the text. -/
theorem ord_sel (hS : Closed opsL S) {n : Nat} {conf : Nat → Nat → Bool} (hc : okPairs n (ancs opsL []) conf = true) {i k : Nat} (hi : i < n) (hk : k < n) (hne : i ≠ k) (hcf : conf i k = true)
    {o ok : Oper} (ho : opsL[i]? = some o) (hok : opsL[k]? = some ok) (hp : ∀ p ∈ preds o, S p = true) (hSi : S i = false) : S k = decide (k < i) := by
  have h := okPairs_spec hc hi hk hne hcf
  unfold ordered at h
  by_cases hlt : k < i
  · rw [if_pos hlt] at h
    rw [anc_in hS ho hp h]; simp [hlt]
  · rw [if_neg hlt] at h
    cases hSk : S k with
    | false => simp [hlt]
    | true =>
      have := anc_in hS hok (hS k ok hok hSk) h
      rw [hSi] at this; cases this
end

theorem countP_lt {α : Type} {p q : α → Bool} : ∀ (l : List α) (x : α), x ∈ l → p x = true → q x = false → (∀ y, q y = true → p y = true) → l.countP q < l.countP p
  | [], x, hx, _, _, _ => by cases hx
  | y :: r, x, hx, hp, hq, hi => by
    simp only [List.countP_cons]
    have hle : r.countP q ≤ r.countP p := List.countP_mono_left fun z _ hz => hi z hz
    rcases List.mem_cons.1 hx with rfl | hx
    · simp [hp, hq]; omega
    · have := countP_lt r x hx hp hq hi
      cases hqy : q y with
      | true => simp [hi y hqy]; omega
      | false => cases p y <;> simp <;> omega

theorem sel_congr {β : Type} {S T : Nat → Bool} {f : Done → Option β} {tr : List Done} (h : ∀ k d y, tr[k]? = some d → f d = some y → S k = T k) : lastW (selD S f) (idx 0 tr) = lastW (selD T f) (idx 0 tr) := by
  refine lastW_congr fun p hp => ?_
  obtain ⟨k, d⟩ := p
  obtain ⟨_, hk⟩ := idx_mem.1 hp
  simp only [selD]
  cases hf : f d with
  | none => simp
  | some y => rw [h k d y (by simpa using hk) hf]
theorem lastW_le {β : Type} {f : Done → Option β} : ∀ (tr : List Done) (k i : Nat) (d : Done) (y : β), k ≤ i → tr[i - k]? = some d → f d = some y → lastW (selD (fun j => decide (j ≤ i)) f) (idx k tr) = some y
  | [], k, i, d, y, h, hd, _ => by simp at hd
  | x :: r, k, i, d, y, h, hd, hf => by
    simp only [idx, lastW]
    by_cases hik : i = k
    · subst hik
      simp at hd
      subst hd
      have hnone : lastW (selD (fun j => decide (j ≤ i)) f) (idx (i + 1) r) = none := by
        cases hl : lastW (selD (fun j => decide (j ≤ i)) f) (idx (i + 1) r) with
        | none => rfl
        | some z =>
          obtain ⟨p, hp, hz⟩ := lastW_some hl
          obtain ⟨j, d'⟩ := p
          have := (idx_mem.1 hp).1
          simp only [selD] at hz
          rw [if_neg (by simp; omega)] at hz
          cases hz
      rw [hnone]
      simp [selD, hf]
    · have : i - k = (i - (k + 1)) + 1 := by omega
      rw [this] at hd
      simp at hd
      rw [lastW_le r (k + 1) i d y (by omega) hd hf]

theorem locAt_look {A A' : ASt} {lo : Option Nat} (h : ∀ l, lo = some l → look A.locs l = look A'.locs l) : A.locAt lo = A'.locAt lo := by
  cases lo with
  | none => rfl
  | some l => simp [ASt.locAt, h l rfl]
theorem eval_look {A A' : ASt} {x : Operand} (h : ∀ t, x = .tmp t → look A.fr t = look A'.fr t) : A.eval x = A'.eval x := by
  cases x with
  | tmp t => simp [ASt.eval, h t rfl]
  | _ => rfl

section
variable {nt : Nat} {ops : Array Oper} {A0 : ASt} {tr : List Done} {S : Nat → Bool}

/-- What operation i did in the text's order it does wherever it may come up. -/
theorem opDo_part (hT : Traced P nt ops A0 tr) (hm : tr.map (·.o) = ops.toList) (hX : okText ops.toList = true) (hO : OkTrace ops.toList A0 tr) (hS : Closed ops.toList S) {i : Nat} {d : Done} (hi : tr[i]? = some d)
    (hp : ∀ p ∈ preds d.o, S p = true) (hSi : S i = false) :
    Did P nt ops d.o (part S 0 tr A0) d.lo d.E d.rd ∧
    (∀ t, look (part (fun k => S k || decide (k = i)) 0 tr A0).fr t = look ((part S 0 tr A0).apply d.o.dst d.E).fr t) ∧
    (∀ l, look (part (fun k => S k || decide (k = i)) 0 tr A0).locs l = look ((part S 0 tr A0).apply d.o.dst d.E).locs l) := by
  have hlen : tr.length = ops.toList.length := by rw [← hm]; simp
  have hin : i < tr.length := (List.getElem?_eq_some_iff.1 hi).1
  have hop : ∀ {k : Nat} {d' : Done}, tr[k]? = some d' → ops.toList[k]? = some d'.o := by
    intro k d' hk; rw [← hm, List.getElem?_map, hk]; rfl
  unfold okText at hX
  simp only [Bool.and_eq_true] at hX
  obtain ⟨⟨hE, hPT⟩, _⟩ := hX
  obtain ⟨hL, hF, hU⟩ := hO
  rw [← hlen] at hPT
  have selT : ∀ {k : Nat} {d' : Done} {t : Tmp}, tr[k]? = some d' → d'.o.dst = some t → (t ∈ d.o.looksAt ops ∨ d.o.dst = some t) → k ≠ i → S k = decide (k < i) := by
    intro k d' t hk hdst ht hne
    have hkn : k < tr.length := (List.getElem?_eq_some_iff.1 hk).1
    refine ord_sel hS hPT hin hkn (Ne.symm hne) ?_ (hop hi) (hop hk) hp hSi
    unfold confTmps
    rw [hop hi, hop hk]
    simp only [hdst]
    rcases ht with ht | ht
    · simp; exact .inl ht
    · simp [ht]
  have selL : ∀ {k : Nat} {d' : Done} {l : Nat}, tr[k]? = some d' → updOf d' = some l → (d.lo = some l ∨ updOf d = some l ∨ d.rd.contains l = true) → k ≠ i → S k = decide (k < i) := by
    intro k d' l hk hu hl hne
    have hkn : k < tr.length := (List.getElem?_eq_some_iff.1 hk).1
    refine ord_sel hS hL hin hkn (Ne.symm hne) ?_ (hop hi) (hop hk) hp hSi
    unfold confLocs
    rw [hi, hk]
    simp only [hu]
    rcases hl with hl | hl | hl
    · simp [hl]
    · simp [hl]
    · rw [hl]; simp
  have updA : ∀ {d' : Done} {l : Nat} {L : LV}, locAtD l d' = some L → updOf d' = some l := by
    intro d' l L h
    unfold locAtD at h
    unfold updOf
    cases hq : d'.E.upd with
    | none => rw [hq] at h; cases h
    | some q =>
      obtain ⟨l', L'⟩ := q
      rw [hq] at h
      simp only at h
      split at h
      · rename_i e; simp [e]
      · cases h
  have frEq : ∀ t, (t ∈ d.o.looksAt ops) → look (part S 0 tr A0).fr t = look (part (fun k => decide (k < i)) 0 tr A0).fr t := by
    intro t ht
    rw [part_fr, part_fr, sel_congr (T := fun k => decide (k < i))]
    intro k d' y hk hy
    unfold valAt at hy
    split at hy
    · rename_i hdst
      by_cases hki : k = i
      · subst hki; rw [hSi]; simp
      · exact selT hk hdst (.inl ht) hki
    · cases hy
  have locEq : ∀ l, (d.lo = some l) → look (part S 0 tr A0).locs l = look (part (fun k => decide (k < i)) 0 tr A0).locs l := by
    intro l hl
    rw [part_locs, part_locs, sel_congr (T := fun k => decide (k < i))]
    intro k d' y hk hy
    by_cases hki : k = i
    · subst hki; rw [hSi]; simp
    · exact selL hk (updA hy) (.inl hl) hki
  have rdEq : ∀ l, d.rd.contains l = true → look (part S 0 tr A0).locs l = look (part (fun k => decide (k < i)) 0 tr A0).locs l := by
    intro l hl
    rw [part_locs, part_locs, sel_congr (T := fun k => decide (k < i))]
    intro k d' y hk hy
    by_cases hki : k = i
    · subst hki; rw [hSi]; simp
    · exact selL hk (updA hy) (.inr (.inr hl)) hki
  obtain ⟨hget, hdid⟩ := hT i d hi
  have hw : wantedA ops d.o (part S 0 tr A0) = wantedA ops d.o (part (fun k => decide (k < i)) 0 tr A0) := by
    unfold wantedA
    split
    · rfl
    · rename_i j want hg
      split
      · rename_i t hdt
        rw [frEq t (by unfold Oper.looksAt; rw [hg]; simp [hdt])]
      · rfl
  have he : d.o.op.operands.toList.map (part S 0 tr A0).eval = d.o.op.operands.toList.map (part (fun k => decide (k < i)) 0 tr A0).eval := by
    refine List.map_congr_left fun x hx => eval_look fun t hxt => frEq t ?_
    subst hxt
    unfold Oper.looksAt
    refine List.mem_append.2 (.inl (List.mem_filterMap.2 ⟨_, hx, rfl⟩))
  refine ⟨?_, ?_, ?_⟩
  · rcases hdid with ⟨hdo, hrd⟩ | ⟨hlo, hdo⟩
    case inr =>
      refine .inr ⟨hlo, hdo.dst, by rw [hw]; exact hdo.want, ?_, hdo.upd, hdo.fresh⟩
      rw [he]
      exact hdo.does.congr rdEq
    refine .inl ⟨⟨hdo.dst, ?_, fun hfr l L hu => ?_, hdo.upd⟩, hrd⟩
    · rw [hw, he, locAt_look locEq]; exact hdo.does
    · have hul : updOf d = some l := by simp [updOf, hu]
      obtain ⟨u1, u2, u3⟩ := hU d (List.mem_of_getElem? hi) hfr l hul
      have notIn : ∀ {k : Nat} {d' : Done}, tr[k]? = some d' → S k = true → l ∉ mentionsE d'.E := by
        intro k d' hk hSk hmem
        have hkn : k < tr.length := (List.getElem?_eq_some_iff.1 hk).1
        have hki : k ≠ i := fun e => by subst e; rw [hSi] at hSk; cases hSk
        have hcf : confFresh tr i k = true := by
          unfold confFresh
          rw [hi, hk]
          simp [hfr, hul, hmem]
        have hord := okAhead_spec hF hin hkn (Ne.symm hki) hcf
        have := anc_in hS (hop hk) (hS k _ (hop hk) hSk) hord
        rw [hSi] at this; cases this
      refine ⟨fun t x hx => ?_, fun l' L' hL' => ?_, u3⟩
      · rw [part_fr] at hx
        cases hl : lastW (selD S (valAt t)) (idx 0 tr) with
        | none => rw [hl] at hx; simp at hx; exact u1 t x hx
        | some y =>
          rw [hl] at hx; simp at hx; subst hx
          obtain ⟨⟨k, d'⟩, hmem, hy⟩ := lastW_some hl
          have hk := (idx_mem.1 hmem).2
          simp only [selD] at hy
          split at hy
          · rename_i hSk
            unfold valAt at hy
            split at hy
            · cases hy
              intro hm'
              exact notIn (by simpa using hk) hSk (List.mem_append.2 (.inl hm'))
            · cases hy
          · cases hy
      · rw [part_locs] at hL'
        cases hl : lastW (selD S (locAtD l')) (idx 0 tr) with
        | none => rw [hl] at hL'; simp at hL'; exact u2 l' L' hL'
        | some y =>
          rw [hl] at hL'; simp at hL'; subst hL'
          obtain ⟨⟨k, d'⟩, hmem, hy⟩ := lastW_some hl
          have hk := (idx_mem.1 hmem).2
          simp only [selD] at hy
          split at hy
          · rename_i hSk
            unfold locAtD at hy
            cases hq : d'.E.upd with
            | none => rw [hq] at hy; cases hy
            | some q =>
              obtain ⟨l'', L''⟩ := q
              rw [hq] at hy
              simp only at hy
              split at hy
              · cases hy
                intro hm'
                exact notIn (by simpa using hk) hSk (List.mem_append.2 (.inr (by rw [hq]; exact hm')))
              · cases hy
          · cases hy
  · intro t
    rw [look_apply_fr, part_fr]
    by_cases hdt : d.o.dst = some t
    · rw [if_pos hdt, sel_congr (T := fun k => decide (k ≤ i))]
      · rw [lastW_le tr 0 i d d.E.val (Nat.zero_le _) (by simpa using hi) (by simp [valAt, hdt])]
        simp
      · intro k d' y hk hy
        unfold valAt at hy
        split at hy
        · rename_i hdst
          by_cases hki : k = i
          · subst hki; simp
          · rw [selT hk hdst (.inr hdt) hki]
            simp [hki]; omega
        · cases hy
    · rw [if_neg hdt, part_fr, sel_congr (T := S)]
      intro k d' y hk hy
      unfold valAt at hy
      split at hy
      · rename_i hdst
        have hki : k ≠ i := fun e => by subst e; rw [hi] at hk; cases hk; exact hdt hdst
        simp [hki]
      · cases hy
  · intro l
    rw [look_apply_locs, part_locs]
    have rest : updOf d ≠ some l → (lastW (selD (fun k => S k || decide (k = i)) (locAtD l)) (idx 0 tr)).or (look A0.locs l) = look (part S 0 tr A0).locs l := by
      intro hne
      rw [part_locs, sel_congr (T := S)]
      intro k d' y hk hy
      have hki : k ≠ i := fun e => by subst e; rw [hi] at hk; cases hk; exact hne (updA hy)
      simp [hki]
    cases hq : d.E.upd with
    | none => exact rest (by simp [updOf, hq])
    | some q =>
      obtain ⟨l', L'⟩ := q
      simp only
      by_cases hll : l' = l
      · subst hll
        rw [if_pos rfl, sel_congr (T := fun k => decide (k ≤ i))]
        · rw [lastW_le tr 0 i d L' (Nat.zero_le _) (by simpa using hi) (by simp [locAtD, hq])]
          simp
        · intro k d' y hk hy
          by_cases hki : k = i
          · subst hki; simp
          · rw [selL hk (updA hy) (.inr (by simp [updOf, hq])) hki]
            simp [hki]; omega
      · rw [if_neg hll]
        exact rest (by simp [updOf, hq, hll])
/-- Whatever order is picked. -/
theorem draw_any {w0 : Base} {g0 : Nat → Nat} {Q : Exit → Act → World → Prop} (hT : Traced P nt ops A0 tr) (hm : tr.map (·.o) = ops.toList) (hX : okText ops.toList = true) (hO : OkTrace ops.toList A0 tr)
    (hQ : ∀ h a w, Rel w0 g0 nt (part (fun _ => true) 0 tr A0) h a w → Q .normal a w) :
    ∀ (fuel : Nat) (listed : Array Bool) (a : Act) (w : World) (h : Gh), listed.size = ops.size → Closed ops.toList (fun i => listed.getD i true) →
      ((List.range ops.size).countP fun i => !listed.getD i true) ≤ fuel → Rel w0 g0 nt (part (fun i => listed.getD i true) 0 tr A0) h a w → wpAny P .any ops Q fuel listed a w := by
  have hlen : tr.length = ops.size := by have := congrArg List.length hm; simpa using this
  have hop : ∀ {k : Nat} {d' : Done}, tr[k]? = some d' → ops.toList[k]? = some d'.o := by
    intro k d' hk; rw [← hm, List.getElem?_map, hk]; rfl
  have hEdge : ∀ i o, ops.toList[i]? = some o → ∀ p ∈ preds o, p < i := by
    intro i o ho p hp
    unfold okText okEdges at hX
    simp only [Bool.and_eq_true] at hX
    have h1 := List.all_eq_true.1 hX.1.1 i (List.mem_range.2 (List.getElem?_eq_some_iff.1 ho).1)
    rw [ho] at h1
    have := List.all_eq_true.1 h1 p hp
    simpa using this
  have readyIff : ∀ (listed : Array Bool) (i : Nat), listed.size = ops.size → (i ∈ Region.ready .any ops listed ↔ ∃ o, ops.toList[i]? = some o ∧ listed.getD i true = false ∧ ∀ p ∈ preds o, listed.getD p true = true) := by
    intro listed i hsz
    unfold Region.ready
    rw [List.mem_filter, List.mem_range]
    constructor
    · rintro ⟨h1, h2⟩
      have hi : ops[i]? = some ops[i] := by simp [h1]
      rw [hi] at h2
      simp only [Option.map_some, Option.getD_some, Bool.and_eq_true] at h2
      refine ⟨ops[i], by simp [h1], by simpa using h2.1, fun p hp => ?_⟩
      have hlt := hEdge i ops[i] (by simp [h1]) p hp
      unfold preds at hp
      rw [List.mem_map] at hp
      obtain ⟨e, he, rfl⟩ := hp
      rw [List.mem_filter] at he
      have hall := Array.all_eq_true_iff_forall_mem.1 h2.2 e (by simpa using he.1)
      rw [he.2] at hall
      have hlt' : e.on < listed.size := by omega
      simp [Array.getD_eq_getD_getElem?, hlt'] at hall ⊢
      exact hall
    · rintro ⟨o, ho, h2, h3⟩
      have h1 : i < ops.size := by have := (List.getElem?_eq_some_iff.1 ho).1; simpa using this
      refine ⟨h1, ?_⟩
      have hi : ops[i]? = some o := by simpa using ho
      rw [hi]
      simp only [Option.map_some, Option.getD_some, Bool.and_eq_true]
      refine ⟨by simpa using h2, Array.all_eq_true_iff_forall_mem.2 fun e he => ?_⟩
      cases hb : Region.binds .any e with
      | false => simp
      | true =>
        have hp : e.on ∈ preds o := List.mem_map.2 ⟨e, List.mem_filter.2 ⟨by simpa using he, hb⟩, rfl⟩
        have hlt := hEdge i o ho _ hp
        have := h3 _ hp
        have hlt' : e.on < listed.size := by omega
        simp [Array.getD_eq_getD_getElem?, hlt'] at this ⊢
        exact this
  have fin : ∀ (listed : Array Bool) (a : Act) (w : World) (h : Gh), listed.size = ops.size → Region.ready .any ops listed = [] → Rel w0 g0 nt (part (fun i => listed.getD i true) 0 tr A0) h a w → Q .normal a w := by
    intro listed a w h hsz hr rel
    have all : ∀ i, i < ops.size → listed.getD i true = true := by
      intro i
      induction i using Nat.strongRecOn with
      | _ i ih =>
        intro hi
        cases hb : listed.getD i true with
        | true => rfl
        | false =>
          have : i ∈ Region.ready .any ops listed := (readyIff listed i hsz).2 ⟨ops[i], by simp [hi], hb, fun p hp => ih p (hEdge i _ (by simp [hi]) p hp) (by have := hEdge i _ (by simp [hi]) p hp; omega)⟩
          rw [hr] at this; cases this
    refine hQ h a w ?_
    rw [part_congr (S := fun _ => true) (T := fun i => listed.getD i true) tr 0 A0 (fun i _ hi => (all i (by omega)).symm)]
    exact rel
  intro fuel
  induction fuel with
  | zero =>
    intro listed a w h hsz hcl hcnt rel
    have hr : Region.ready .any ops listed = [] := by
      cases hq : Region.ready .any ops listed with
      | nil => rfl
      | cons i rs =>
        have hi : i ∈ Region.ready .any ops listed := by rw [hq]; simp
        obtain ⟨o, h1, h2, _⟩ := (readyIff listed i hsz).1 hi
        have hlt : i < ops.size := by have := (List.getElem?_eq_some_iff.1 h1).1; simpa using this
        have : 0 < (List.range ops.size).countP fun i => !listed.getD i true := List.countP_pos_iff.2 ⟨i, List.mem_range.2 hlt, by simp [h2]⟩
        omega
    exact ⟨hr, fin listed a w h hsz hr rel⟩
  | succ fuel ih =>
    intro listed a w h hsz hcl hcnt rel
    refine ⟨fun hr => fin listed a w h hsz hr rel, fun i hi => ?_⟩
    obtain ⟨o, h1, h2, h3⟩ := (readyIff listed i hsz).1 hi
    have hlt : i < ops.size := by have := (List.getElem?_eq_some_iff.1 h1).1; simpa using this
    have hit : tr[i]? = some tr[i] := by simp [hlen, hlt]
    have ho : tr[i].o = o := by have := hop hit; rw [h1] at this; exact (Option.some.inj this).symm
    obtain ⟨p1, p2, p3⟩ := opDo_part hT hm hX hO hcl hit (by rw [ho]; exact h3) h2
    have hsel : ∀ k, (listed.setIfInBounds i true).getD k true = (listed.getD k true || decide (k = i)) := by
      intro k
      simp only [Array.getD_eq_getD_getElem?, Array.getElem?_setIfInBounds]
      by_cases hk : i = k
      · subst hk; simp; split <;> rfl
      · have : k ≠ i := fun e => hk e.symm
        simp [hk, this]
    have hset : (fun k => (listed.setIfInBounds i true).getD k true) = fun k => listed.getD k true || decide (k = i) := funext hsel
    unfold wpOp
    have hget : ops[i]? = some tr[i].o := by rw [ho]; simpa using h1
    rw [hget]
    refine p1.sound rel fun a' w' h' hr => ih _ a' w' h' (by simpa using hsz) ?_ ?_ ?_
    · intro j oj hoj hj p hp
      simp only [hsel, Bool.or_eq_true] at hj ⊢
      rcases hj with hj | hj
      · exact .inl (hcl j oj hoj hj p hp)
      · have hji : j = i := by simpa using hj
        subst hji
        rw [h1] at hoj; cases hoj
        exact .inl (h3 p hp)
    · have hdec : ((List.range ops.size).countP fun k => !(listed.setIfInBounds i true).getD k true) < (List.range ops.size).countP fun k => !listed.getD k true := by
        refine countP_lt (List.range ops.size) i (List.mem_range.2 hlt) (by simp [h2]) (by simp [hsel]) fun k hk => ?_
        simp [hsel] at hk ⊢
        exact hk.1
      omega
    · rw [hset]
      exact Rel.ext' hr p2 p3
end
end Go.Proofs.Ytokibghllpfeaaa.AL

/- Code: the rules of the logic; a function's contract out of its body. -/
namespace Go.Proofs.Ytokibghllpfeaaa.AL
open Go.RowKit
variable {P : Program}

theorem Rel.drew {w0 : Base} {g0 : Nat → Nat} {nt : Nat} {A : ASt} {h : Gh} {a : Act} {w : World} (r : Rel w0 g0 nt A h a w) : Rel w0 g0 nt A h a { w with drawn := w.drawn + 1 } := by
  have t : Trans w0.O w h { w with drawn := w.drawn + 1 } h (fun _ => False) none false :=
    Trans.same (w := w) (w' := { w with drawn := w.drawn + 1 }) (g' := h.g) ⟨rfl, rfl, rfl, Nat.le_refl _, fun _ _ _ => rfl⟩ (fun _ _ => ⟨rfl, rfl⟩) r.gz r.gz r.base (fun _ => False)
  exact ⟨r.size, r.defers, fun x y hy => RelA.trans t (fun hf => by cases hf) (r.fr x y hy), fun l L hL => (LocOK.trans t (by simp) (fun hf => by cases hf) (fun b _ => by simp) (r.locs l L hL)).1, r.sep,
    ⟨r.ext.below.trans t.below, r.ext.gam, r.ext.gz, r.ext.keep.trans t.keep⟩, r.pin⟩

def AWP (P : Program) (nt : Nat) (c : Code) (Q : Exit → ASt → Prop) (A : ASt) : Prop :=
  ∀ (w0 : Base) (g0 : Nat → Nat) (h : Gh) (a : Act) (w : World), Rel w0 g0 nt A h a w → c.wp P (fun e a' w' => ∃ A' h', Q e A' ∧ Rel w0 g0 nt A' h' a' w') a w

section
variable {nt : Nat} {Q : Exit → ASt → Prop} {A : ASt}

theorem awp_mono {c : Code} {Q' : Exit → ASt → Prop} (h : AWP P nt c Q A) (hq : ∀ e A, Q e A → Q' e A) : AWP P nt c Q' A :=
  fun w0 g0 h' a w r => Go.wp_mono (h w0 g0 h' a w r) fun e a' w' ⟨A', hh, q, rr⟩ => ⟨A', hh, hq _ _ q, rr⟩
theorem awp_skip (h : Q .normal A) : AWP P nt .skip Q A := fun _ _ h' _ _ r => wp_skip ⟨A, h', h, r⟩
theorem awp_exit {id : Nat} (h : Q (.exit id) A) : AWP P nt (.exit id) Q A := fun _ _ h' _ _ r => wp_exit ⟨A, h', h, r⟩
theorem awp_ret (h : Q .ret A) : AWP P nt .ret Q A := fun _ _ h' _ _ r => wp_ret ⟨A, h', h, r⟩

/-- The same related frame, said otherwise: less, or with other ghosts. -/
def Weak (A A' : ASt) : Prop := ∀ (w0 : Base) (g0 : Nat → Nat) (nt : Nat) (h : Gh) (a : Act) (w : World), Rel w0 g0 nt A h a w → ∃ h', Rel w0 g0 nt A' h' a w
theorem Weak.refl (A : ASt) : Weak A A := fun _ _ _ h _ _ r => ⟨h, r⟩
theorem Weak.trans {A A' A'' : ASt} (h : Weak A A') (k : Weak A' A'') : Weak A A'' := fun w0 g0 nt h' a w r => let ⟨_, r'⟩ := h w0 g0 nt h' a w r; k w0 g0 nt _ a w r'
theorem awp_weak {c : Code} {A' : ASt} (hw : Weak A A') (h : AWP P nt c Q A') : AWP P nt c Q A := fun w0 g0 h' a w r => let ⟨_, r'⟩ := hw w0 g0 nt h' a w r; h w0 g0 _ a w r'

/-- Less said: of the slots and the locations that are named alone. -/
def keep {α : Type} (ks : List Nat) (l : List (Nat × α)) : List (Nat × α) := match ks with
  | [] => []
  | k :: r => match look l k with
    | some x => (k, x) :: keep r l
    | none => keep r l
theorem look_keep {α : Type} (l : List (Nat × α)) : ∀ (ks : List Nat) (t : Nat) (x : α), look (keep ks l) t = some x → look l t = some x
  | [], t, x, h => by cases h
  | k :: r, t, x, h => by
    unfold keep at h
    split at h
    · rename_i y hy
      simp only [look] at h
      split at h
      · rename_i e; subst e; cases h; exact hy
      · exact look_keep l r t x h
    · exact look_keep l r t x h
theorem Weak.of_look {A A' : ASt} (hf : ∀ t x, look A'.fr t = some x → look A.fr t = some x) (hl : ∀ l L, look A'.locs l = some L → look A.locs l = some L) : Weak A A' :=
  fun w0 g0 nt h a w r => ⟨h, r.size, r.defers, fun t x hx => r.fr t x (hf t x hx), fun l L hL => r.locs l L (hl l L hL), fun l l' L L' b hne h1 h2 => r.sep l l' L L' b hne (hl l L h1) (hl l' L' h2), r.ext, r.pin⟩
theorem awp_keep (ks ls : List Nat) {c : Code} (h : AWP P nt c Q ⟨keep ks A.fr, keep ls A.locs⟩) : AWP P nt c Q A :=
  awp_weak (Weak.of_look (fun t x hx => look_keep A.fr ks t x hx) (fun l L hL => look_keep A.locs ls l L hL)) h

def seqQ (P : Program) (nt : Nat) (y : Code) (Q : Exit → ASt → Prop) : Exit → ASt → Prop
  | .normal, A => AWP P nt y Q A
  | e, A => Q e A
theorem awp_seq {x y : Code} (h : AWP P nt x (seqQ P nt y Q) A) : AWP P nt (.seq x y) Q A := by
  intro w0 g0 h' a w r
  refine wp_seq (Go.wp_mono (h w0 g0 h' a w r) fun e a' w' ⟨A', hh, q, rr⟩ => ?_)
  cases e with
  | normal => exact q w0 g0 hh a' w' rr
  | _ => exact ⟨A', hh, q, rr⟩
theorem awp_cond {c : Operand} {x y : Code} {t : Bool} (hc : A.eval c = .p (.d (.v (.bool t)))) (ht : t = true → AWP P nt x Q A) (hf : t = false → AWP P nt y Q A) : AWP P nt (.cond c x y) Q A := by
  intro w0 g0 h' a w r
  have hv := r.eval c
  rw [hc] at hv
  exact wp_cond_split (relA_v hv) (fun e => ht e w0 g0 h' a w r) (fun e => hf e w0 g0 h' a w r)
def blockQ (id : Nat) (Q : Exit → ASt → Prop) : Exit → ASt → Prop
  | .exit id', A => if id' = id then Q .normal A else Q (.exit id') A
  | e, A => Q e A
theorem blockQ_n {id : Nat} {Q : Exit → ASt → Prop} {A : ASt} : blockQ id Q .normal A = Q .normal A := rfl
theorem awp_block {id : Nat} {c : Code} (h : AWP P nt c (blockQ id Q) A) : AWP P nt (.block id c) Q A := by
  intro w0 g0 h' a w r
  refine wp_block (Go.wp_mono (h w0 g0 h' a w r) fun e a' w' ⟨A', hh, q, rr⟩ => ?_)
  cases e with
  | exit id' =>
    simp only [blockQ] at q
    simp only [Exit.inBlock]
    split at q
    · rename_i e; rw [if_pos e]; exact ⟨A', hh, q, rr⟩
    · rename_i e; rw [if_neg e]; exact ⟨A', hh, q, rr⟩
  | _ => exact ⟨A', hh, q, rr⟩

theorem wp_loop' {c : Code} {Q : Exit → Act → World → Prop} (I : Nat → Act → World → Prop)
    (round : ∀ n a w, I n a w → c.wp P (Exit.then (fun a' w' => ∃ m, m < n ∧ I m a' w') Q) a w) : ∀ n a w, I n a w → (Code.loop c).wp P Q a w := by
  intro n a w hI b k cs
  have key : ∀ n a w, I n a w → ∃ e a' w', Q e a' w' ∧ Arrives P (lone (b.at a (.code c :: .inLoop c :: k)) cs w) b k cs e a' w' := by
    intro n
    induction n using Nat.strongRecOn with
    | _ n ih =>
      intro a w hI
      obtain ⟨e, a₁, w₁, hq, harr⟩ := round n a w hI b (.inLoop c :: k) cs
      cases e with
      | normal =>
        obtain ⟨m, hm, hI₁⟩ := hq
        obtain ⟨e₂, a₂, w₂, hq₂, harr₂⟩ := ih m hm a₁ w₁ hI₁
        exact ⟨e₂, a₂, w₂, hq₂, .of_steps (Steps.trans harr (.one step_inLoop)) harr₂⟩
      | exit id => exact ⟨_, a₁, w₁, hq, .pass (x := .inLoop c) rfl (fun _ _ => .inl (by simp)) harr⟩
      | goto l => exact ⟨_, a₁, w₁, hq, .pass (x := .inLoop c) rfl (fun _ _ => .inl (by simp)) harr⟩
      | ret => exact ⟨_, a₁, w₁, hq, .pass (x := .inLoop c) rfl (fun _ _ => .inl (by simp)) harr⟩
      | panic ch => exact ⟨_, a₁, w₁, hq, .pass (x := .inLoop c) rfl (fun _ _ => .inl (by simp)) harr⟩
      | outgrown => exact ⟨_, a₁, w₁, hq, .pass (x := .inLoop c) rfl (fun _ _ => .inl (by simp)) harr⟩
  obtain ⟨e, a', w', hq, harr⟩ := key n a w hI
  exact ⟨e, a', w', hq, .of_steps (.one step_loop) harr⟩

def loopQ {ι : Type} (I : ι → ASt) (μ : ι → Nat) (x : ι) (Q : Exit → ASt → Prop) : Exit → ASt → Prop
  | .normal, A => ∃ x', μ x' < μ x ∧ Weak A (I x')
  | e, A => Q e A
/-- THE LOOP: I says the state at a round's head, by a letter x; each round lowers μ. -/
theorem awp_loop {ι : Type} (I : ι → ASt) (μ : ι → Nat) {c : Code} (x0 : ι) (h0 : Weak A (I x0)) (round : ∀ x, AWP P nt c (loopQ I μ x Q) (I x)) : AWP P nt (.loop c) Q A := by
  intro w0 g0 h' a w r
  obtain ⟨h1, r1⟩ := h0 w0 g0 nt h' a w r
  refine wp_loop' (fun n a w => ∃ x h, μ x = n ∧ Rel w0 g0 nt (I x) h a w) (fun n a w ⟨x, h, hn, rr⟩ => ?_) (μ x0) a w ⟨x0, h1, rfl, r1⟩
  refine Go.wp_mono (round x w0 g0 h a w rr) fun e a' w' ⟨A', hh, q, rr'⟩ => ?_
  cases e with
  | normal =>
    obtain ⟨x', hlt, hw⟩ := q
    obtain ⟨h2, r2⟩ := hw w0 g0 nt hh a' w' rr'
    exact ⟨μ x', by omega, x', h2, rfl, r2⟩
  | _ => exact ⟨A', hh, q, rr'⟩

theorem awp_region {id : Nat} {l : List Oper} (hh : ∀ K : ASt → Prop, (∀ A', Q .normal A' → K A') → walkS P nt l.toArray l A K) : AWP P nt (.region id l.toArray false) Q A := by
  have h := hh _ fun _ h => h
  intro w0 g0 h' a w r
  refine wp_region_list ?_
  exact walkS_sound (Q := fun e a' w' => ∃ A' h', Q e A' ∧ Rel w0 g0 nt A' h' a' w') (fun A h a w r k => ⟨A, h, k, r⟩) l A h' a w r h
theorem awp_draw {id : Nat} {l : List Oper} (hm : P.follows .mixedOrders = true) (hX : okText l = true) (hh : ∀ K : ASt → List Done → Prop, (∀ A' tr, OkTrace l A tr → Q .normal A' → K A' tr) → walkD P nt l.toArray K l A []) : AWP P nt (.region id l.toArray true) Q A := by
  have h := hh (fun A' tr => OkTrace l A tr ∧ Q .normal A') fun _ _ h1 h2 => ⟨h1, h2⟩
  intro w0 g0 h' a w r
  obtain ⟨tr, t1, t2, t3, t4⟩ := walkD_traced (ops := l.toArray) A l A [] (by simp) (by simp [part]) (fun i d hi => by simp at hi) h
  refine wp_region_any hm ?_
  refine draw_any (ops := l.toArray) t1 t2 (by simpa using hX) (by simpa using t3) (fun h a w r => ⟨_, h, t4, r⟩) _ _ a _ h' (by simp) (fun i o ho hi p hp => ?_) ?_ ?_
  · exfalso
    have hlt : i < l.length := by have := (List.getElem?_eq_some_iff.1 ho).1; simpa using this
    simp [hlt] at hi
  · exact Nat.le_trans List.countP_le_length (by simp)
  · have : part (fun i => (Array.replicate l.toArray.size false).getD i true) 0 tr A = A := by
      refine part_false tr 0 A _ (fun i _ hi => ?_)
      have hlen : tr.length = l.length := by have := congrArg List.length t2; simpa using this
      have hlt : i < l.length := by omega
      simp [hlt]
    rw [this]
    exact r.drew
end

/-! ### the steps of a walk -/
section
variable {nt : Nat} {ops : Array Oper} {o : Oper} {rest : List Oper} {A : ASt}

def unusedB (A : ASt) (l : Nat) : Bool := (A.fr.all fun p => !p.2.mentions.contains l) && (A.locs.all fun p => !p.2.mentions.contains l) && decide (l < 1000)
theorem look_mem {α : Type} : ∀ {l : List (Nat × α)} {t : Nat} {x : α}, look l t = some x → (t, x) ∈ l
  | [], t, x, h => by cases h
  | (u, y) :: r, t, x, h => by
    simp only [look] at h
    split at h
    · rename_i e; subst e; cases h; simp
    · exact List.mem_cons_of_mem _ (look_mem h)
theorem unusedB_spec {l : Nat} (h : unusedB A l = true) : A.unused l := by
  unfold unusedB at h
  simp only [Bool.and_eq_true] at h
  refine ⟨fun t x hx => ?_, fun l' L hL => ?_, of_decide_eq_true h.2⟩
  · have := List.all_eq_true.1 h.1.1 _ (look_mem hx)
    simpa using this
  · have := List.all_eq_true.1 h.1.2 _ (look_mem hL)
    simpa using this
/-- What is to be said of an operation's effect. -/
def effOK (A : ASt) (lo : Option Nat) (E : Eff) : Prop :=
  match E.upd with
  | none => True
  | some (l, _) => if E.fresh then unusedB A l = true else lo = some l
def dstOK (nt : Nat) (o : Oper) : Bool := match o.dst with
  | some d => decide (d < nt)
  | none => true
theorem dstOK_spec (h : dstOK nt o = true) : ∀ d, o.dst = some d → d < nt := by
  intro d hd; unfold dstOK at h; rw [hd] at h; simpa using h

theorem opDo_eff {M : List Nat} {E : Eff} (hd : dstOK nt o = true) (hw : wantedA ops o A = some true)
    (hE : opEff P M o (o.op.operands.toList.map A.eval) (A.locAt (locNeed o (o.op.operands.toList.map A.eval))) = some E) (hobl : E.obl) (hok : effOK A (locNeed o (o.op.operands.toList.map A.eval)) E) :
    OpDo P nt ops o A (locNeed o (o.op.operands.toList.map A.eval)) E := by
  refine ⟨dstOK_spec hd, .inr ⟨hw, (opEff_sound hE hobl).toT⟩, fun hf l L hu => ?_, fun l L hu hf => ?_⟩
  · unfold effOK at hok
    rw [hu] at hok
    simp only [hf, if_true] at hok
    exact unusedB_spec hok
  · unfold effOK at hok
    rw [hu] at hok
    simp only [hf] at hok
    exact hok
theorem opDo_skip (hd : dstOK nt o = true) (hw : wantedA ops o A = some false) : OpDo P nt ops o A none { val := .undef } :=
  ⟨dstOK_spec hd, .inl ⟨hw, rfl⟩, fun hf => (by cases hf), fun l L hu => (by cases hu)⟩
theorem opDo_call {c : Call} {f : Operand} (hd : dstOK nt o = true) (hw : wantedA ops o A = some true) (ho : o.op = .call c) (hc : c.callee = .value f) {g : FuncId} {pre post ys rs : List PV}
    (hx : calleeAV (A.eval f) = some (g, pre, post)) (hys : (c.args.toList.map A.eval).mapM pvAV = some ys) (hcall : ACalls P g (pre ++ ys ++ post) (· = rs)) : OpDo P nt ops o A none { val := resAV rs } := by
  refine ⟨dstOK_spec hd, .inr ⟨hw, opT_call (x := A.eval f) (zs := c.args.toList.map A.eval) ho hc ?_ hx hys hcall none⟩, fun hf => (by cases hf), fun l L hu => (by cases hu)⟩
  simp [ho, Op.operands, Call.operands, hc]
end

-- the equations of what is worked out in a walk, made here once
theorem keep_eqns : True := have := @keep.eq_1; trivial
theorem dstOK_eqns : True := have := @dstOK.eq_1; trivial
theorem effOK_eqns : True := have := @effOK.eq_1; trivial
theorem unusedB_eqns : True := have := @unusedB.eq_1; trivial
theorem seqQ_eqns : True := have := @seqQ.eq_1; trivial
theorem blockQ_eqns : True := have := @blockQ.eq_1; trivial
theorem loopQ_eqns : True := have := @loopQ.eq_1; trivial
end Go.Proofs.Ytokibghllpfeaaa.AL

/- A function's contract out of its body. -/
namespace Go.Proofs.Ytokibghllpfeaaa.AL
open Go.RowKit
variable {P : Program}

def ptrLoc : AV → Option Nat
  | .loc l _ => some l
  | _ => none
/-- A result variable holds r. -/
def ResVar (P : Program) (A : ASt) : ResultVar → PV → Prop
  | .tmp t, r => pvAV (A.eval (.tmp t)) = some r
  | .cell a t, r => match effLoad P t [A.eval (.tmp a)] (A.locAt (ptrLoc (A.eval (.tmp a)))) with
    | some E => E.obl ∧ pvAV E.val = some r
    | none => False
def ResVars (P : Program) (A : ASt) : List ResultVar → List PV → Prop
  | [], [] => True
  | v :: vs, r :: rs => ResVar P A v r ∧ ResVars P A vs rs
  | _, _ => False

section
variable {w0 : Base} {g0 : Nat → Nat} {nt : Nat} {A : ASt} {h : Gh} {a : Act} {w : World}
def oneResult (tmps : Array Value) : ResultVar → Sem Value
  | .tmp t => pure (tmps.getD t undef)
  | .cell b t => do loadVar t (← asAddr (tmps.getD b undef))
theorem resVar_spec (r : Rel w0 g0 nt A h a w) {v : ResultVar} {x : PV} (hv : ResVar P A v x) : ∃ u, (oneResult a.tmps v).run P w = .ok u w ∧ RelP w h.g u x := by
  cases v with
  | tmp t => exact ⟨_, rfl, pvAV_spec hv (r.eval (.tmp t))⟩
  | cell b t =>
    simp only [ResVar] at hv
    split at hv
    case h_2 => exact hv.elim
    rename_i E hE
    obtain ⟨hobl, hp⟩ := hv
    have hev := r.eval (.tmp b)
    obtain ⟨hs, _, _⟩ := sem_load_pure (o := { dst := none, op := .load t (.tmp b), type := 0, pos := "", after := #[], guard := none }) rfl hE hobl
    obtain ⟨u, hrun, hrel⟩ := hs w0.O w h a.eval (by simpa [Op.operands] using r.evals [.tmp b]) (fun l L he => by
      unfold ptrLoc at he
      split at he
      · rename_i l' q heq
        simp only [ASt.locAt] at he
        cases hk : look A.locs l' with
        | none => simp [hk] at he
        | some L' => simp [hk] at he; obtain ⟨rfl, rfl⟩ := he; exact r.locs _ _ hk
      · simp [ASt.locAt] at he)
    refine ⟨u, ?_, pvAV_spec hp hrel⟩
    have hptr : ∃ ad, a.eval (.tmp b) = .pointer (some ad) := by
      unfold effLoad at hE
      split at hE
      · rename_i ti cs hti heq
        simp only [List.cons.injEq, and_true] at heq
        rw [heq] at hev
        obtain ⟨v0, hv0⟩ : ∃ v, a.eval (.tmp b) = v := ⟨_, rfl⟩
        rw [hv0] at hev
        cases hev with | d _ _ hev => obtain ⟨b', q, rfl⟩ := relD_bx_ptr hev; exact ⟨_, hv0⟩
      · rename_i ti n f hti heq
        simp only [List.cons.injEq, and_true] at heq
        rw [heq] at hev
        obtain ⟨v0, hv0⟩ : ∃ v, a.eval (.tmp b) = v := ⟨_, rfl⟩
        rw [hv0] at hev
        cases hev with | d _ _ hev => cases hev with | bf => exact ⟨_, hv0⟩
      · rename_i ti l off hti heq
        simp only [List.cons.injEq, and_true] at heq
        rw [heq] at hev
        exact ⟨_, hev⟩
      · cases hE
    obtain ⟨ad, had⟩ := hptr
    have he : a.tmps.getD b undef = .pointer (some ad) := had
    simp only [execOp, had, Instr.loadAt, Instr.sureAddr, Sem.run_bind, Sem.run_pure, Result.andThen_ok] at hrun
    simp only [oneResult, he, asAddr, Sem.run_bind, Sem.run_pure, Result.andThen_ok]
    cases hl : (loadVar t ad).run P w with
    | ok u' w' => rw [hl] at hrun; simp at hrun; obtain ⟨rfl, rfl⟩ := hrun; rfl
    | halt x w' => rw [hl] at hrun; simp [Result.andThen] at hrun
theorem resVars_run (r : Rel w0 g0 nt A h a w) : ∀ {vs : List ResultVar} {rs : List PV}, ResVars P A vs rs → ∃ us, (vs.mapM (oneResult a.tmps)).run P w = .ok us w ∧ RelPs w h.g us rs
  | [], [], _ => ⟨[], rfl, RelPs.nil _ _⟩
  | v :: vs, x :: rs, hv => by
    obtain ⟨u, h1, h2⟩ := resVar_spec r hv.1
    obtain ⟨us, h3, h4⟩ := resVars_run r hv.2
    exact ⟨u :: us, by simp [List.mapM_cons, h1, h3], RelPs.cons h2 h4⟩
  | [], _ :: _, hv => hv.elim
  | _ :: _, [], hv => hv.elim
theorem results_spec (r : Rel w0 g0 nt A h a w) {fn : Func} {rs : List PV} (hv : ResVars P A fn.results.toList rs) : ∃ v, (results fn a.tmps).run P w = .ok v w ∧ RelR w h.g v rs := by
  obtain ⟨us, h1, h2⟩ := resVars_run r hv
  have e : (fn.results.mapM (oneResult a.tmps)).run P w = .ok us.toArray w := by
    rw [Array.mapM_eq_mapM_toList]
    simp [h1]
  have e' : results fn a.tmps = (do let vs ← fn.results.mapM (oneResult a.tmps); pure (if h : vs.size = 1 then vs[0] else .tuple vs)) := by
    unfold results
    congr 1
  rw [e']
  simp only [Sem.run_bind, e, Result.andThen_ok, Sem.run_pure]
  refine ⟨_, rfl, ?_⟩
  match us, rs, h2 with
  | [u], [x], h2 => exact h2.2 0 u x rfl rfl
  | [], [], h2 => exact ⟨[], rfl, h2⟩
  | u :: u' :: us, x :: x' :: rs, h2 => exact ⟨_, by simp, h2⟩
  | [], _ :: _, h2 => simp [RelPs] at h2
  | _ :: _, [], h2 => simp [RelPs] at h2
  | [_], _ :: _ :: _, h2 => simp [RelPs] at h2
  | _ :: _ :: _, [_], h2 => simp [RelPs] at h2
end

def frOf : Nat → List PV → List (Nat × AV)
  | _, [] => []
  | k, x :: r => (k, .p x) :: frOf (k + 1) r
theorem look_frOf : ∀ (xs : List PV) (k t : Nat) (y : AV), look (frOf k xs) t = some y → ∃ x, k ≤ t ∧ xs[t - k]? = some x ∧ y = .p x
  | [], k, t, y, h => by cases h
  | x :: r, k, t, y, h => by
    simp only [frOf, look] at h
    split at h
    · rename_i e; subst e; cases h; exact ⟨x, Nat.le_refl _, by simp, rfl⟩
    · obtain ⟨z, h1, h2, h3⟩ := look_frOf r (k + 1) t y h
      refine ⟨z, by omega, ?_, h3⟩
      have : t - k = (t - (k + 1)) + 1 := by omega
      rw [this]; simpa using h2

/-- What is to be shown of a body at its ends. -/
def retQ (P : Program) (fn : Func) (Q : List PV → Prop) : Exit → ASt → Prop
  | .normal, A => ∃ rs, ResVars P A fn.results.toList rs ∧ Q rs
  | .ret, A => ∃ rs, ResVars P A fn.results.toList rs ∧ Q rs
  | _, _ => False

theorem acalls_of_awp {f : FuncId} {fn : Func} {c : Code} {xs : List PV} {Q : List PV → Prop} (hf : P.funcs[f]? = some fn) (hb : fn.body = some c) (hname : (fn.name == "runtime.NumGoroutine") = false) (hn : xs.length ≤ fn.ntmps)
    (h : AWP P fn.ntmps c (retQ P fn Q) ⟨frOf 0 xs, []⟩) : ACalls P f xs Q := by
  intro w g vs hz hr
  have hrun : (callFunc f vs.toArray).run P w = .ok (.enter f vs.toArray) w := by
    simp only [callFunc, program, Sem.run, Bind.bind, Sem.bind, hf, hname, hb]; rfl
  rw [hrun]
  show Calls P f vs.toArray w _
  refine calls_of_wp hf hb ?_
  have hrel : Rel (Base.of w) g fn.ntmps ⟨frOf 0 xs, []⟩ ⟨g, id, fun _ => undef, fun _ => 0⟩ { tmps := vs.toArray ++ Array.replicate (fn.ntmps - vs.toArray.size) undef, defers := [] } w := by
    refine ⟨by have := hr.1; simp; omega, rfl, fun t y hy => ?_, fun l L hL => (by cases hL), fun l l' L L' b _ hL => (by cases hL), ExtS.refl (Base.of w) hz, fun l _ => ⟨rfl, .inr ⟨rfl, rfl⟩⟩⟩
    obtain ⟨x, _, hx, rfl⟩ := look_frOf xs 0 t y hy
    have hlt : t < vs.length := by rw [hr.1]; have := (List.getElem?_eq_some_iff.1 hx).1; simpa using this
    have hv : (vs.toArray ++ Array.replicate (fn.ntmps - vs.toArray.size) undef).getD t undef = vs[t] := by
      rw [Array.getD_eq_getD_getElem?, Array.getElem?_append_left (by simpa using hlt)]
      simp [hlt]
    show RelP _ _ _ _
    rw [hv]
    exact hr.2 t _ x (by simp [hlt]) (by simpa using hx)
  refine Go.wp_mono (h (Base.of w) g _ _ w hrel) fun e a' w' ⟨A', h', q, rr⟩ => ?_
  have fin : (∃ rs, ResVars P A' fn.results.toList rs ∧ Q rs) → a'.defers = [] ∧ ∃ v, (results fn a'.tmps).run P w' = .ok v w' ∧ ∃ u, Ending.returned v = .returned u ∧ ∃ g' rs, Ext w g w' g' ∧ Q rs ∧ RelR w' g' u rs := by
    rintro ⟨rs, hv, hq⟩
    obtain ⟨v, h1, h2⟩ := results_spec rr hv
    exact ⟨rr.defers, v, h1, v, rfl, h'.g, rs, rr.ext.toExt, hq, h2⟩
  cases e with
  | normal => exact fin q
  | ret => exact fin q
  | exit id => exact q.elim
  | goto l => exact q.elim
  | panic ch => exact q.elim
  | outgrown => exact q.elim

-- the equations of what is worked out in a walk, made here once
theorem ptrLoc_eqns : True := have := @ptrLoc.eq_1; trivial
theorem ResVar_eqns : True := have := @ResVar.eq_1; trivial
theorem ResVars_eqns : True := have := @ResVars.eq_1; trivial
theorem frOf_eqns : True := have := @frOf.eq_1; trivial
theorem retQ_eqns : True := have := @retQ.eq_1; trivial
end Go.Proofs.Ytokibghllpfeaaa.AL

/- The steps of a walk, as one can run them: stepS in the text's order, stepD where the order is open. -/
namespace Go.Proofs.Ytokibghllpfeaaa.AL
open Go.RowKit
variable {P : Program}

section
variable {nt : Nat} {ops : Array Oper} {o : Oper} {rest : List Oper} {A : ASt}

def mapEv (A : ASt) : List Operand → List AV
  | [] => []
  | x :: r => A.eval x :: mapEv A r
theorem mapEv_eq (A : ASt) : ∀ l : List Operand, mapEv A l = l.map A.eval
  | [] => rfl
  | x :: r => by simp [mapEv, mapEv_eq A r]

/-- One operation: what it gives, and what is to be shown for it. -/
def stepE (P : Program) (M : List Nat) (nt : Nat) (o : Oper) (A : ASt) (K : Option Nat → Eff → Prop) : Prop :=
  match opEff P M o (mapEv A o.op.operands.toList) (A.locAt (locNeed o (mapEv A o.op.operands.toList))) with
  | some E => dstOK nt o = true ∧ E.obl ∧ effOK A (locNeed o (mapEv A o.op.operands.toList)) E ∧ K (locNeed o (mapEv A o.op.operands.toList)) E
  | none => False
theorem stepE_spec {M : List Nat} {K : Option Nat → Eff → Prop} (hw : wantedA ops o A = some true) (h : stepE P M nt o A K) : ∃ lo E, OpDo P nt ops o A lo E ∧ K lo E := by
  unfold stepE at h
  rw [mapEv_eq] at h
  split at h
  · rename_i E hE
    exact ⟨_, E, opDo_eff h.1 hw hE h.2.1 h.2.2.1, h.2.2.2⟩
  · exact h.elim
theorem walkS_op (M : List Nat) {K : ASt → Prop} (hw : wantedA ops o A = some true) (h : stepE P M nt o A fun _ E => walkS P nt ops rest (A.apply o.dst E) K) : walkS P nt ops (o :: rest) A K := by
  obtain ⟨lo, E, h1, h2⟩ := stepE_spec hw h
  exact ⟨_, h1.step, h2⟩
theorem walkD_op (M : List Nat) {K : ASt → List Done → Prop} {tr : List Done} (hw : wantedA ops o A = some true) (h : stepE P M nt o A fun lo E => walkD P nt ops K rest (A.apply o.dst E) (⟨o, lo, E, []⟩ :: tr)) : walkD P nt ops K (o :: rest) A tr := by
  obtain ⟨lo, E, h1, h2⟩ := stepE_spec hw h
  exact ⟨lo, E, [], .inl ⟨h1, rfl⟩, h2⟩
theorem walkS_skip {K : ASt → Prop} (hw : wantedA ops o A = some false) (hd : dstOK nt o = true) (h : walkS P nt ops rest (A.put o.dst .undef) K) : walkS P nt ops (o :: rest) A K :=
  ⟨_, (opDo_skip hd hw).step, h⟩
theorem walkD_skip {K : ASt → List Done → Prop} {tr : List Done} (hw : wantedA ops o A = some false) (hd : dstOK nt o = true) (h : walkD P nt ops K rest (A.put o.dst .undef) (⟨o, none, { val := .undef }, []⟩ :: tr)) : walkD P nt ops K (o :: rest) A tr :=
  ⟨none, _, [], .inl ⟨opDo_skip hd hw, rfl⟩, h⟩

/-- What a call's operands come to. -/
def callAV (A : ASt) (o : Oper) : Option (FuncId × List PV) :=
  match o.op with
  | .call c => match c.callee with
    | .value f => match calleeAV (A.eval f), (mapEv A c.args.toList).mapM pvAV with
      | some (g, pre, post), some ys => some (g, pre ++ ys ++ post)
      | _, _ => none
    | _ => none
  | _ => none
theorem callAV_spec {g : FuncId} {xs rs : List PV} (hd : dstOK nt o = true) (hw : wantedA ops o A = some true) (hx : callAV A o = some (g, xs)) (h : ACalls P g xs (· = rs)) : OpDo P nt ops o A none { val := resAV rs } := by
  unfold callAV at hx
  split at hx
  · rename_i c hc
    split at hx
    · rename_i f hf
      split at hx
      · rename_i g' pre post ys h1 h2
        cases hx
        rw [mapEv_eq] at h2
        exact opDo_call hd hw hc hf h1 h2 h
      · cases hx
    · cases hx
  · cases hx
theorem walkS_call {K : ASt → Prop} {g : FuncId} {xs rs : List PV} (hw : wantedA ops o A = some true) (hd : dstOK nt o = true) (hx : callAV A o = some (g, xs)) (h : ACalls P g xs (· = rs))
    (hk : walkS P nt ops rest (A.put o.dst (resAV rs)) K) : walkS P nt ops (o :: rest) A K := ⟨_, (callAV_spec hd hw hx h).step, hk⟩
theorem walkD_call {K : ASt → List Done → Prop} {tr : List Done} {g : FuncId} {xs rs : List PV} (hw : wantedA ops o A = some true) (hd : dstOK nt o = true) (hx : callAV A o = some (g, xs)) (h : ACalls P g xs (· = rs))
    (hk : walkD P nt ops K rest (A.put o.dst (resAV rs)) (⟨o, none, { val := resAV rs }, []⟩ :: tr)) : walkD P nt ops K (o :: rest) A tr := ⟨none, _, [], .inl ⟨callAV_spec hd hw hx h, rfl⟩, hk⟩

theorem walkD_rd {P : Program} {nt : Nat} {ops : Array Oper} {K : ASt → List Done → Prop} {o : Oper} {rest : List Oper} {A : ASt} {tr : List Done} {rd : List Nat} {x : AV} (hd : dstOK nt o = true) (hw : wantedA ops o A = some true) (h : OpR P o (o.op.operands.toList.map A.eval) rd A.locs x)
    (hk : walkD P nt ops K rest (A.apply o.dst { val := x }) (⟨o, none, { val := x }, rd⟩ :: tr)) : walkD P nt ops K (o :: rest) A tr :=
  ⟨none, { val := x }, rd, .inr ⟨rfl, dstOK_spec hd, hw, h, rfl, rfl⟩, hk⟩
/-- A call: its operands worked out. -/
def callK (A : ASt) (o : Oper) (K : FuncId → List PV → Prop) : Prop :=
  match callAV A o with
  | some (g, xs) => K g xs
  | none => False
theorem walkS_call2 {K : ASt → Prop} (hw : wantedA ops o A = some true) (hd : dstOK nt o = true) (h : callK A o fun g xs => ∃ rs, ACalls P g xs (· = rs) ∧ walkS P nt ops rest (A.put o.dst (resAV rs)) K) : walkS P nt ops (o :: rest) A K := by
  unfold callK at h
  split at h
  · rename_i g xs hx
    obtain ⟨rs, h1, h2⟩ := h
    exact walkS_call hw hd hx h1 h2
  · exact h.elim
theorem walkD_call2 {K : ASt → List Done → Prop} {tr : List Done} (hw : wantedA ops o A = some true) (hd : dstOK nt o = true)
    (h : callK A o fun g xs => ∃ rs, ACalls P g xs (· = rs) ∧ walkD P nt ops K rest (A.put o.dst (resAV rs)) (⟨o, none, { val := resAV rs }, []⟩ :: tr)) : walkD P nt ops K (o :: rest) A tr := by
  unfold callK at h
  split at h
  · rename_i g xs hx
    obtain ⟨rs, h1, h2⟩ := h
    exact walkD_call hw hd hx h1 h2
  · exact h.elim
end

section
variable {nt : Nat} {ops : Array Oper} {o : Oper} {rest : List Oper} {A : ASt}
def isCall (o : Oper) : Bool := match o.op with
  | .call c => (match c.callee with
    | .value _ => true
    | _ => false)
  | _ => false
theorem walkS_op2 (M : List Nat) {K : ASt → Prop} (_hc : isCall o = false) (hw : wantedA ops o A = some true) (h : stepE P M nt o A fun _ E => walkS P nt ops rest (A.apply o.dst E) K) : walkS P nt ops (o :: rest) A K := walkS_op M hw h
theorem walkD_op2 (M : List Nat) {K : ASt → List Done → Prop} {tr : List Done} (_hc : isCall o = false) (hw : wantedA ops o A = some true) (h : stepE P M nt o A fun lo E => walkD P nt ops K rest (A.apply o.dst E) (⟨o, lo, E, []⟩ :: tr)) : walkD P nt ops K (o :: rest) A tr := walkD_op M hw h
theorem walkS_call3 {K : ASt → Prop} (_hc : isCall o = true) (hw : wantedA ops o A = some true) (hd : dstOK nt o = true) (h : callK A o fun g xs => ∃ rs, ACalls P g xs (· = rs) ∧ walkS P nt ops rest (A.put o.dst (resAV rs)) K) : walkS P nt ops (o :: rest) A K := walkS_call2 hw hd h
theorem walkD_call3 {K : ASt → List Done → Prop} {tr : List Done} (_hc : isCall o = true) (hw : wantedA ops o A = some true) (hd : dstOK nt o = true)
    (h : callK A o fun g xs => ∃ rs, ACalls P g xs (· = rs) ∧ walkD P nt ops K rest (A.put o.dst (resAV rs)) (⟨o, none, { val := resAV rs }, []⟩ :: tr)) : walkD P nt ops K (o :: rest) A tr := walkD_call2 hw hd h
end

def okFresh (A : ASt) (tr : List Done) : Bool := tr.all fun d => !d.E.fresh || match updOf d with
  | some l => unusedB A l
  | none => true
def okTrace (ops : List Oper) (A : ASt) (tr : List Done) : Bool :=
  okPairs tr.length (ancs ops []) (confLocs tr) && okAhead tr.length (ancs ops []) (confFresh tr) && okFresh A tr
theorem okTrace_spec {ops : List Oper} {A : ASt} {tr : List Done} (h : okTrace ops A tr = true) : OkTrace ops A tr := by
  unfold okTrace at h
  simp only [Bool.and_eq_true] at h
  refine ⟨h.1.1, h.1.2, fun d hd hf l hl => ?_⟩
  have := List.all_eq_true.1 h.2 d hd
  rw [hf, hl] at this
  exact unusedB_spec (by simpa using this)

/-- 'pick' of tests -/
theorem pick_true (a b : Option AV) : (match boolAV (.p (.d (.v (.bool true)))) with
  | some t => (match t with | true => a | false => b)
  | none => none) = a := rfl

-- the equations of what is worked out in a walk, made here once
theorem mapEv_eqns : True := have := @mapEv.eq_1; trivial
theorem stepE_eqns : True := have := @stepE.eq_1; trivial
theorem callAV_eqns : True := have := @callAV.eq_1; trivial
theorem callK_eqns : True := have := @callK.eq_1; trivial
theorem isCall_eqns : True := have := @isCall.eq_1; trivial
end Go.Proofs.Ytokibghllpfeaaa.AL

/- Many operations in one step. -/
namespace Go.Proofs.Ytokibghllpfeaaa.AL
open Go.RowKit
variable {P : Program}

section
variable (P : Program) (M : List Nat) (nt : Nat) (ops : Array Oper)
def runS : List Oper → ASt → (ASt → List Oper → Prop) → Prop
  | [], A, K => K A []
  | o :: rest, A, K => match wantedA ops o A with
    | some true => match isCall o with
      | true => K A (o :: rest)
      | false => match opEff P M o (mapEv A o.op.operands.toList) (A.locAt (locNeed o (mapEv A o.op.operands.toList))) with
        | some E => dstOK nt o = true ∧ E.obl ∧ effOK A (locNeed o (mapEv A o.op.operands.toList)) E ∧ runS rest (A.apply o.dst E) K
        | none => False
    | some false => dstOK nt o = true ∧ runS rest (A.put o.dst .undef) K
    | none => K A (o :: rest)
def runC (o : Oper) (rest : List Oper) (A : ASt) (lo : Option Nat) (K : ASt → List Oper → Prop) : Option Eff → Prop
  | some E => dstOK nt o = true ∧ E.obl ∧ effOK A lo E ∧ runS P M nt ops rest (A.apply o.dst E) K
  | none => False
def runB (o : Oper) (rest : List Oper) (A : ASt) (K : ASt → List Oper → Prop) : List AV → Prop
  | xs => runC P M nt ops o rest A (locNeed o xs) K (opEff P M o xs (A.locAt (locNeed o xs)))
def runA (o : Oper) (rest : List Oper) (A : ASt) (K : ASt → List Oper → Prop) : Option Bool → Bool → Prop
  | some true, true => K A (o :: rest)
  | some true, false => runB P M nt ops o rest A K (mapEv A o.op.operands.toList)
  | some false, _ => dstOK nt o = true ∧ runS P M nt ops rest (A.put o.dst .undef) K
  | none, _ => K A (o :: rest)
def runD : List Oper → ASt → List Done → (ASt → List Oper → List Done → Prop) → Prop
  | [], A, tr, K => K A [] tr
  | o :: rest, A, tr, K => match wantedA ops o A with
    | some true => match isCall o with
      | true => K A (o :: rest) tr
      | false => match opEff P M o (mapEv A o.op.operands.toList) (A.locAt (locNeed o (mapEv A o.op.operands.toList))) with
        | some E => dstOK nt o = true ∧ E.obl ∧ effOK A (locNeed o (mapEv A o.op.operands.toList)) E ∧ runD rest (A.apply o.dst E) (⟨o, locNeed o (mapEv A o.op.operands.toList), E, []⟩ :: tr) K
        | none => False
    | some false => dstOK nt o = true ∧ runD rest (A.put o.dst .undef) (⟨o, none, { val := .undef }, []⟩ :: tr) K
    | none => K A (o :: rest) tr
def runCD (o : Oper) (rest : List Oper) (A : ASt) (tr : List Done) (lo : Option Nat) (K : ASt → List Oper → List Done → Prop) : Option Eff → Prop
  | some E => dstOK nt o = true ∧ E.obl ∧ effOK A lo E ∧ runD P M nt ops rest (A.apply o.dst E) (⟨o, lo, E, []⟩ :: tr) K
  | none => False
def runBD (o : Oper) (rest : List Oper) (A : ASt) (tr : List Done) (K : ASt → List Oper → List Done → Prop) : List AV → Prop
  | xs => runCD P M nt ops o rest A tr (locNeed o xs) K (opEff P M o xs (A.locAt (locNeed o xs)))
def runAD (o : Oper) (rest : List Oper) (A : ASt) (tr : List Done) (K : ASt → List Oper → List Done → Prop) : Option Bool → Bool → Prop
  | some true, true => K A (o :: rest) tr
  | some true, false => runBD P M nt ops o rest A tr K (mapEv A o.op.operands.toList)
  | some false, _ => dstOK nt o = true ∧ runD P M nt ops rest (A.put o.dst .undef) (⟨o, none, { val := .undef }, []⟩ :: tr) K
  | none, _ => K A (o :: rest) tr
end
section
variable {M : List Nat} {nt : Nat} {ops : Array Oper}
theorem runS_nil (A : ASt) (K : ASt → List Oper → Prop) : runS P M nt ops [] A K = K A [] := rfl
theorem runS_cons (o : Oper) (rest : List Oper) (A : ASt) (K : ASt → List Oper → Prop) : runS P M nt ops (o :: rest) A K = runA P M nt ops o rest A K (wantedA ops o A) (isCall o) := by
  simp only [runS, runA, runB, runC]
  cases wantedA ops o A with
  | none => rfl
  | some b => cases b <;> cases isCall o <;> first | rfl | (simp only []; split <;> rename_i h <;> simp only [h])
theorem runD_nil (A : ASt) (tr : List Done) (K : ASt → List Oper → List Done → Prop) : runD P M nt ops [] A tr K = K A [] tr := rfl
theorem runD_cons (o : Oper) (rest : List Oper) (A : ASt) (tr : List Done) (K : ASt → List Oper → List Done → Prop) : runD P M nt ops (o :: rest) A tr K = runAD P M nt ops o rest A tr K (wantedA ops o A) (isCall o) := by
  simp only [runD, runAD, runBD, runCD]
  cases wantedA ops o A with
  | none => rfl
  | some b => cases b <;> cases isCall o <;> first | rfl | (simp only []; split <;> rename_i h <;> simp only [h])
end
theorem walkS_run (M : List Nat) {nt : Nat} {ops : Array Oper} {K : ASt → Prop} : ∀ (l : List Oper) (A : ASt), runS P M nt ops l A (fun A' l' => walkS P nt ops l' A' K) → walkS P nt ops l A K
  | [], A, h => h
  | o :: rest, A, h => by
    unfold runS at h
    split at h
    · rename_i hw
      split at h
      · exact h
      · split at h
        · rename_i E hE
          rw [mapEv_eq] at hE h
          exact ⟨_, (opDo_eff h.1 hw hE h.2.1 h.2.2.1).step, walkS_run M rest _ h.2.2.2⟩
        · exact h.elim
    · rename_i hw
      exact walkS_skip hw h.1 (walkS_run M rest _ h.2)
    · exact h
theorem walkD_run (M : List Nat) {nt : Nat} {ops : Array Oper} {K : ASt → List Done → Prop} : ∀ (l : List Oper) (A : ASt) (tr : List Done), runD P M nt ops l A tr (fun A' l' tr' => walkD P nt ops K l' A' tr') → walkD P nt ops K l A tr
  | [], A, tr, h => h
  | o :: rest, A, tr, h => by
    unfold runD at h
    split at h
    · rename_i hw
      split at h
      · exact h
      · split at h
        · rename_i E hE
          rw [mapEv_eq] at hE h
          exact ⟨_, E, [], .inl ⟨opDo_eff h.1 hw hE h.2.1 h.2.2.1, rfl⟩, walkD_run M rest _ _ h.2.2.2⟩
        · exact h.elim
    · rename_i hw
      exact walkD_skip hw h.1 (walkD_run M rest _ _ h.2)
    · exact h
theorem runA_eqns : True := have := @runA.eq_1; trivial
theorem runB_eqns : True := have := @runB.eq_1; trivial
theorem runC_eqns : True := have := @runC.eq_1; trivial
theorem runAD_eqns : True := have := @runAD.eq_1; trivial
theorem runBD_eqns : True := have := @runBD.eq_1; trivial
theorem runCD_eqns : True := have := @runCD.eq_1; trivial
/-- what a contract says, said out -/
theorem acalls_iff {P : Program} {f : FuncId} {xs : List PV} {Q : List PV → Prop} : ACalls P f xs Q ↔ ∀ (w : World) (g : Nat → Nat) (vs : List Value), GZ w g → RelPs w g vs xs →
    CallRes P (fun v w' => ∃ g' rs, Ext w g w' g' ∧ Q rs ∧ RelR w' g' v rs) ((callFunc f vs.toArray).run P w) := Iff.rfl
theorem acalls_awp {P : Program} {nt : Nat} {c : Code} {Q : Exit → ASt → Prop} {A : ASt} : AWP P nt c Q A ↔ ∀ (w0 : Base) (g0 : Nat → Nat) (h : Gh) (a : Act) (w : World), Rel w0 g0 nt A h a w → c.wp P (fun e a' w' => ∃ A' h', Q e A' ∧ Rel w0 g0 nt A' h' a' w') a w := Iff.rfl
theorem walkS_cons {P : Program} {nt : Nat} {ops : Array Oper} {o : Oper} {rest : List Oper} {A : ASt} {K : ASt → Prop} (A' : ASt) (h : StepS P nt ops o A A') (k : walkS P nt ops rest A' K) : walkS P nt ops (o :: rest) A K := ⟨A', h, k⟩
theorem walkS_end {P : Program} {nt : Nat} {ops : Array Oper} {A : ASt} {K : ASt → Prop} (h : K A) : walkS P nt ops [] A K := h
theorem walkD_end {P : Program} {nt : Nat} {ops : Array Oper} {A : ASt} {tr : List Done} {K : ASt → List Done → Prop} (h : K A tr.reverse) : walkD P nt ops K [] A tr := h
attribute [irreducible] ACalls AWP walkS walkD
end Go.Proofs.Ytokibghllpfeaaa.AL
