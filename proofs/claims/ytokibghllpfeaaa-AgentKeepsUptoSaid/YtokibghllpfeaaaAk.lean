/- Maps by keys of integers, aggregates that hold own memory, copy, nil of pointers and functions. Conditions: none. -/
import Derived.Test.YtokibghllpfeaaaAo
import Derived.MapKept
import Derived.Laws.CopyRow
set_option linter.unusedSimpArgs false
set_option linter.unusedVariables false
namespace Go.Proofs.Ytokibghllpfeaaa.AL
open Go.RowKit
variable {P : Program}

/-! ### nil of pointers and functions -/
def isFuncT (P : Program) (t : TypeId) : Bool := match P.underlying t with
  | some (.func ..) => true
  | _ => false
def nilP : List AV → Bool
  | [_, .p (.d (.v (.pointer none)))] => true
  | [_, .p (.d (.v .nilFunc))] => true
  | _ => false
def nilPB : AV → Option Bool
  | .loc .. => some false
  | .p (.d (.v (.pointer none))) => some true
  | .p (.d (.bx _)) => some false
  | _ => none
def nilFB : AV → Option Bool
  | .p (.d (.v .nilFunc)) => some true
  | .p (.fn ..) => some false
  | .cl .. => some false
  | _ => none
def effNilP (P : Program) (op : BinOp) (t : TypeId) (xs : List AV) : Option Eff :=
  match xs with
  | [x, .p (.d (.v (.pointer none)))] => match tiOf P t, nilPB x with
    | some ti, some b => (match ti.k, op with
      | .ptr, .eql => some { val := .p (.d (.v (.bool b))) }
      | .ptr, .neq => some { val := .p (.d (.v (.bool (!b)))) }
      | _, _ => none)
    | _, _ => none
  | [x, .p (.d (.v .nilFunc))] => match nilFB x with
    | some b => (match op with
      | .eql => some { val := .p (.d (.v (.bool b))), obl := isFuncT P t = true }
      | .neq => some { val := .p (.d (.v (.bool (!b)))), obl := isFuncT P t = true }
      | _ => none)
    | _ => none
  | _ => none
theorem nilPB_spec {w : World} {h : Gh} {x : AV} {b : Bool} (hx : nilPB x = some b) {v : Value} (r : RelA w h v x) : ∃ a, v = .pointer a ∧ a.isNone = b := by
  unfold nilPB at hx
  split at hx
  · cases hx; exact ⟨_, r, rfl⟩
  · cases hx; exact ⟨_, relA_v r, rfl⟩
  · cases hx
    cases r with
    | d _ _ r => cases r; exact ⟨_, rfl, rfl⟩
  · cases hx
theorem nilFB_spec {w : World} {h : Gh} {x : AV} {b : Bool} (hx : nilFB x = some b) {v : Value} (r : RelA w h v x) : (v = .nilFunc ∧ b = true) ∨ ∃ f a c, v = .func f a c ∧ b = false := by
  unfold nilFB at hx
  split at hx
  · cases hx; exact .inl ⟨relA_v r, rfl⟩
  · cases hx
    cases r with
    | fn f vs us => exact .inr ⟨_, _, _, rfl, rfl⟩
  · cases hx
    obtain ⟨vs, us, e, _⟩ := r
    exact .inr ⟨_, _, _, e, rfl⟩
  · cases hx
theorem kindOf_ptr {d : TypeDesc} (h : kindOf P d = some .ptr) : ∃ e, d = .pointer e := by
  cases d <;> simp only [kindOf] at h <;> first | exact ⟨_, rfl⟩ | (cases h; done) | (split at h <;> cases h; done) | skip
theorem run_equal_ptr (w : World) {t e : TypeId} (a : Option Addr) (hd : P.underlying t = some (.pointer e)) : (Op.equal t (.pointer a) (.pointer none)).run P w = .ok a.isNone w := by
  show (Op.equalIn (9999 + 1) t _ _).run P w = _
  unfold Op.equalIn
  cases a <;> simp [run_underlying hd]
theorem run_equal_fn (w : World) {t : TypeId} {a : Bool} (b c : Array TypeId) (hd : P.underlying t = some (.func b c a)) (f : Fn) (x y : Array Value) : (Op.equal t (.func f x y) .nilFunc).run P w = .ok false w := by
  show (Op.equalIn (9999 + 1) t _ _).run P w = _
  unfold Op.equalIn
  simp [run_underlying hd]
theorem run_equal_nf (w : World) {t : TypeId} {a : Bool} (b c : Array TypeId) (hd : P.underlying t = some (.func b c a)) : (Op.equal t .nilFunc .nilFunc).run P w = .ok true w := by
  show (Op.equalIn (9999 + 1) t _ _).run P w = _
  unfold Op.equalIn
  simp [run_underlying hd]
theorem sem_nilP {o : Oper} {op : BinOp} {t t' : TypeId} {x y : Operand} (ho : o.op = .binOp op t x y t') {xs : List AV} {lL : Option (Nat × LV)} {E : Eff} (hE : effNilP P op t xs = some E) (hobl : E.obl) : OpSem P o xs lL E := by
  unfold effNilP at hE
  split at hE
  · rename_i z
    split at hE
    · rename_i ti b hti hz
      obtain ⟨it, d', zz, hit, hd, hzz, hkk, _, _⟩ := tiOf_spec hti
      have fin : ∀ {u : Value} {obl : Prop} {e : TypeId}, P.underlying t = some (.pointer e) → u.oneCell' = true → (∀ w a, a.isNone = b → (binOp op t (.pointer a) (.pointer none)).run P w = .ok u w) → OpSem P o [z, .p (.d (.v (.pointer none)))] lL ⟨.p (.d (.v u)), obl, none, false⟩ := by
        intro u obl e he hu hrun
        refine opSem_pure fun B w h r hr hL => ?_
        simp only [ho, Op.operands] at hr
        obtain ⟨a, hv, ha⟩ := nilPB_spec hz (hr.2 0 (r x) _ rfl rfl)
        refine ⟨u, run_bin_op ho r w hv (relA_v (hr.2 1 (r y) _ rfl rfl)) ?_ (hrun w a ha), relA_mk hu⟩
        simp [eqGuard]
      split at hE
      · rename_i hk
        rw [hk] at hkk
        obtain ⟨e, rfl⟩ := kindOf_ptr hkk
        cases hE
        refine fin hd rfl fun w a ha => ?_
        subst ha
        simp [binOp, run_equal_ptr w a hd]
      · rename_i hk
        rw [hk] at hkk
        obtain ⟨e, rfl⟩ := kindOf_ptr hkk
        cases hE
        refine fin hd rfl fun w a ha => ?_
        subst ha
        simp [binOp, run_equal_ptr w a hd]
      · cases hE
    · cases hE
  · rename_i z
    split at hE
    · rename_i b hz
      have fin : ∀ {u : Value}, isFuncT P t = true → u.oneCell' = true → (∀ w v, ((v = .nilFunc ∧ b = true) ∨ ∃ f a c, v = .func f a c ∧ b = false) → (∃ a b c, P.underlying t = some (.func a b c)) → (binOp op t v .nilFunc).run P w = .ok u w) → OpSem P o [z, .p (.d (.v .nilFunc))] lL ⟨.p (.d (.v u)), isFuncT P t = true, none, false⟩ := by
        intro u he hu hrun
        refine opSem_pure fun B w h r hr hL => ?_
        simp only [ho, Op.operands] at hr
        have hv := nilFB_spec hz (hr.2 0 (r x) _ rfl rfl)
        refine ⟨u, run_bin_op ho r w rfl (relA_v (hr.2 1 (r y) _ rfl rfl)) ?_ (hrun w _ hv ?_), relA_mk hu⟩
        · rcases hv with ⟨e, _⟩ | ⟨f, a, c, e, _⟩ <;> rw [e] <;> simp [eqGuard]
        · unfold isFuncT at he
          split at he
          · exact ⟨_, _, _, ‹_›⟩
          · cases he
      split at hE
      · cases hE
        refine fin hobl rfl fun w v hv hu => ?_
        obtain ⟨a, b', c, hu⟩ := hu
        rcases hv with ⟨rfl, rfl⟩ | ⟨f, a, c, rfl, rfl⟩ <;> simp [binOp, run_equal_fn w _ _ hu, run_equal_nf w _ _ hu]
      · cases hE
        refine fin hobl rfl fun w v hv hu => ?_
        obtain ⟨a, b', c, hu⟩ := hu
        rcases hv with ⟨rfl, rfl⟩ | ⟨f, a, c, rfl, rfl⟩ <;> simp [binOp, run_equal_fn w _ _ hu, run_equal_nf w _ _ hu]
      · cases hE
    · cases hE
  · cases hE

/-! ### keys of integers -/
def kindsV : List Value → Option (List IntKind)
  | [] => some []
  | .int k _ :: r => match kindsV r with
    | some ks => some (k :: ks)
    | none => none
  | _ => none
def keyKinds (ti : TI) : Option (List IntKind) := match ti.k with
  | .int k => some [k]
  | .struct _ => match kindsV ti.zero with
    | some [_] => none
    | r => r
  | _ => none
def keyAV : AV → Option (List IntKind × List Int)
  | .p (.d (.v (.int k x))) => some ([k], [x])
  | .p (.agg ds) => match intsD ds with
    | some ([_], _) => none
    | some (ks, xs) => some (ks, xs)
    | none => none
  | _ => none
theorem zipWith_ints : ∀ (ks : List IntKind) (xs : List Int), List.zipWith Value.int ks xs = ints ks xs
  | [], _ => by simp [ints]
  | _ :: _, [] => by simp [ints]
  | k :: ks, x :: xs => by simp [ints, zipWith_ints ks xs]
theorem keyVal_agg {ks : List IntKind} {xs : List Int} (h : ks.length ≠ 1) : keyVal ks xs = .agg (ints ks xs).toArray := by
  unfold keyVal
  split
  · simp at h
  · rw [zipWith_ints]
theorem keyAV_spec {w : World} {h : Gh} {x : AV} {ks : List IntKind} {xs : List Int} (hx : keyAV x = some (ks, xs)) {v : Value} (r : RelA w h v x) : v = keyVal ks xs ∧ xs.length = ks.length := by
  unfold keyAV at hx
  split at hx
  · cases hx; exact ⟨relA_v r, rfl⟩
  · rename_i ds
    split at hx
    · cases hx
    · rename_i ks' xs' hne hi
      cases hx
      obtain ⟨vs, hv, hl, hr⟩ := relA_agg r
      obtain ⟨e1, e2⟩ := intsD_spec hi hl hr
      refine ⟨?_, e2⟩
      rw [keyVal_agg (fun e => ?_), hv, e1]
      obtain ⟨k, rfl⟩ := List.length_eq_one_iff.1 e
      exact hne k rfl
    · cases hx
  · cases hx
def mapOf (P : Program) (t : TypeId) : Option (TypeId × TypeId) := match P.underlying t with
  | some (.map k e) => some (k, e)
  | _ => none
theorem mapOf_spec {t kt et : TypeId} (h : mapOf P t = some (kt, et)) : P.underlying t = some (.map kt et) := by
  unfold mapOf at h
  split at h
  · cases h; assumption
  · cases h
def findI (xs : List Int) : List (List Int) → Option Nat
  | [] => none
  | y :: r => if y = xs then some 0 else (findI xs r).map (· + 1)
theorem findI_spec (xs : List Int) : ∀ l : List (List Int), match findI xs l with
    | none => ∀ y ∈ l, y ≠ xs
    | some i => l[i]? = some xs ∧ i < l.length
  | [] => by simp [findI]
  | y :: r => by
    have ih := findI_spec xs r
    unfold findI
    by_cases h : y = xs
    · rw [if_pos h]; simp [h]
    · rw [if_neg h]
      cases hf : findI xs r with
      | none =>
        rw [hf] at ih
        simp only [Option.map_none]
        intro z hz
        rcases List.mem_cons.1 hz with rfl | hz
        · exact h
        · exact ih z hz
      | some i =>
        rw [hf] at ih
        simp only [Option.map_some]
        simpa using ih
/-- What the model's maps do at keys of integers of these kinds. -/
structure KeyTy (P : Program) (kt : TypeId) (ks : List IntKind) : Prop where
  check : ∀ (e : Bool) (xs : List Int) (w : World), xs.length = ks.length → (Instr.checkKey e 10000 kt (keyVal ks xs)).run P w = .ok () w
  find : ∀ (w : World) (xs : List Int) (es : List MapEntry) (yss : List (List Int)), xs.length = ks.length → es.length = yss.length →
    (∀ (i : Nat) e ys, es[i]? = some e → yss[i]? = some ys → e.key = keyVal ks ys ∧ ys.length = ks.length) →
    (Instr.findKey kt (keyVal ks xs) es).run P w = .ok ((findI xs yss).bind fun i => es[i]?.map fun e => (i, e.val)) w
theorem findNow_ints {k0 k : IntKind} {x : Int} : ∀ (es : List MapEntry) (yss : List (List Int)) (i0 : Nat), es.length = yss.length →
    (∀ (i : Nat) e ys, es[i]? = some e → yss[i]? = some ys → e.key = keyVal [k] ys ∧ ys.length = [k].length) →
    Instr.findNow (.int k0) (.int k x) es i0 = some ((findI [x] yss).bind fun i => es[i]?.map fun e => (i0 + i, e.val))
  | [], [], i0, _, _ => rfl
  | e :: es, ys :: yss, i0, hl, h => by
    obtain ⟨h1, h2⟩ := h 0 e ys rfl rfl
    obtain ⟨y, rfl⟩ := List.length_eq_one_iff.1 h2
    have ih := findNow_ints (k0 := k0) (x := x) es yss (i0 + 1) (by simpa using hl) fun i e ys he hy => h (i + 1) e ys (by simpa using he) (by simpa using hy)
    have hk : e.key = .int k y := h1
    unfold Instr.findNow findI
    rw [hk]
    by_cases hxy : x = y
    · subst hxy; simp [Instr.sameNow]
    · have : ¬ ([y] = [x]) := fun e => hxy (by cases e; rfl)
      rw [if_neg this]
      simp only [Instr.sameNow, if_true]
      rw [beq_eq_false_iff_ne.2 hxy, ih]
      cases findI [x] yss with
      | none => rfl
      | some i =>
        simp only [Option.map_some, Option.bind_some, List.getElem?_cons_succ]
        cases es[i]? with
        | none => rfl
        | some e => simp only [Option.map_some]; congr 3; omega
theorem keyTy_int {kt : TypeId} {k0 k : IntKind} (hk : P.underlying kt = some (.int k0)) : KeyTy P kt [k] where
  check := fun e xs w hl => by
    obtain ⟨x, rfl⟩ := List.length_eq_one_iff.1 hl
    show (Instr.checkKey e (9999 + 1) kt (.int k x)).run P w = _
    unfold Instr.checkKey
    simp [run_underlying hk]
  find := fun w xs es yss hl hle h => by
    obtain ⟨x, rfl⟩ := List.length_eq_one_iff.1 hl
    show (Instr.findKey kt (.int k x) es).run P w = _
    have := findNow_ints (k0 := k0) (x := x) es yss 0 hle h
    simp only [Nat.zero_add] at this
    simp [Instr.findKey, run_underlying hk, this]
theorem sameBits_ints (l : List Value) (hl : ∀ v ∈ l, ∃ k x, v = .int k x) : Instr.sameBits 10000 (.agg l.toArray) (.agg l.toArray) = true := by
  have : (l.zip l).all (fun p => Instr.sameBits 9999 p.1 p.2) = true := by
    induction l with
    | nil => rfl
    | cons v l ih =>
      obtain ⟨k, x, rfl⟩ := hl v (by simp)
      rw [List.zip_cons_cons, List.all_cons, ih fun u hu => hl u (by simp [hu])]
      simp [Instr.sameBits]
  unfold Instr.sameBits
  rw [Bool.and_eq_true]
  exact ⟨by simp, by simpa using this⟩
theorem sameBits_key (ks : List IntKind) (xs : List Int) : Instr.sameBits 10000 (keyVal ks xs) (keyVal ks xs) = true := by
  unfold keyVal
  split
  · simp [Instr.sameBits]
  · exact sameBits_ints _ fun v hv => by
      obtain ⟨i, hi, rfl⟩ := List.getElem_of_mem hv
      exact ⟨_, _, List.getElem_zipWith ..⟩
theorem run_keyStays (w : World) (ks : List IntKind) (xs : List Int) : (Instr.keyThatStays (keyVal ks xs) (keyVal ks xs)).run P w = .ok (keyVal ks xs) w := by
  unfold Instr.keyThatStays
  rw [sameBits_key]
  rfl

/-! ### a map's entries -/
def findM (xs : List Int) : List (List Int × PV) → Option PV
  | [] => none
  | e :: r => if e.1 = xs then some e.2 else findM xs r
def putM (xs : List Int) (v : PV) : List (List Int × PV) → List (List Int × PV)
  | [] => [(xs, v)]
  | e :: r => if e.1 = xs then (xs, v) :: r else e :: putM xs v r
def delM (xs : List Int) : List (List Int × PV) → List (List Int × PV)
  | [] => []
  | e :: r => if e.1 = xs then r else e :: delM xs r
theorem find_both (xs : List Int) : ∀ es : List (List Int × PV), match findI xs (es.map (·.1)) with
    | none => findM xs es = none ∧ (∀ v, putM xs v es = es ++ [(xs, v)]) ∧ delM xs es = es
    | some i => (∃ v, es[i]? = some (xs, v) ∧ findM xs es = some v) ∧ (∀ v, putM xs v es = es.set i (xs, v)) ∧ delM xs es = es.eraseIdx i
  | [] => by simp [findI, findM, putM, delM]
  | (y, u) :: r => by
    have ih := find_both xs r
    simp only [List.map_cons, findI]
    by_cases h : y = xs
    · subst h
      simp [findM, putM, delM]
    · rw [if_neg h]
      cases hf : findI xs (r.map (·.1)) with
      | none =>
        rw [hf] at ih
        obtain ⟨h1, h2, h3⟩ := ih
        simp only [Option.map_none]
        refine ⟨by simp [findM, h, h1], fun v => by simp [putM, h, h2], by simp [delM, h, h3]⟩
      | some i =>
        rw [hf] at ih
        obtain ⟨⟨v, h1, h1'⟩, h2, h3⟩ := ih
        simp only [Option.map_some]
        exact ⟨⟨v, by simpa using h1, by simp [findM, h, h1']⟩, fun v => by simp [putM, h, h2], by simp [delM, h, h3]⟩
theorem MapIs.find {w : World} {g : Nat → Nat} {ks : List IntKind} {arr : Array MapEntry} {clock : Nat} {es : List (List Int × PV)} (m : MapIs w g ks arr clock es) {kt : TypeId} (hk : KeyTy P kt ks) (xs : List Int) (hl : xs.length = ks.length) :
    (Instr.findKey kt (keyVal ks xs) arr.toList).run P w = .ok ((findI xs (es.map (·.1))).bind fun i => arr[i]?.map fun e => (i, e.val)) w := by
  have := hk.find w xs arr.toList (es.map (·.1)) hl (by simp [m.size]) fun i e ys he hy => by
    rw [List.getElem?_map] at hy
    cases hp : es[i]? with
    | none => rw [hp] at hy; cases hy
    | some p =>
      rw [hp] at hy; cases hy
      obtain ⟨h1, h2, _⟩ := m.at' i e p (by simpa using he) hp
      exact ⟨h1, h2⟩
  simpa using this
theorem MapIs.empty (w : World) (g : Nat → Nat) (ks : List IntKind) : MapIs w g ks #[] 0 [] :=
  ⟨rfl, fun i e p h => by simp at h, fun i e h => by simp at h, fun i j e e' h => by simp at h⟩
theorem MapIs.push {w : World} {g : Nat → Nat} {ks : List IntKind} {arr : Array MapEntry} {clock : Nat} {es : List (List Int × PV)} (m : MapIs w g ks arr clock es) {xs : List Int} {v : Value} {x : PV} (hl : xs.length = ks.length) (hv : RelP w g v x) :
    MapIs w g ks (arr.push { key := keyVal ks xs, val := v, born := clock }) (clock + 1) (es ++ [(xs, x)]) := by
  have hsz := m.size
  refine ⟨by simp [hsz], fun i e p he hp => ?_, fun i e he => ?_, fun i j e e' hi hj hb => ?_⟩
  · rw [Array.getElem?_push] at he
    split at he
    · rename_i hi
      cases he
      subst hi
      rw [hsz, List.getElem?_append_right (by omega)] at hp
      simp at hp; subst hp
      exact ⟨rfl, hl, hv⟩
    · have hi : i < arr.size := (Array.getElem?_eq_some_iff.1 he).1
      rw [List.getElem?_append_left (by omega)] at hp
      exact m.at' i e p he hp
  · rw [Array.getElem?_push] at he
    split at he
    · cases he; exact Nat.lt_succ_self _
    · exact Nat.lt_succ_of_lt (m.born i e he)
  · rw [Array.getElem?_push] at hi hj
    split at hi
    · rename_i h1
      split at hj
      · rename_i h2; omega
      · cases hi
        have := m.born j e' hj
        simp only at hb; omega
    · split at hj
      · cases hj
        have := m.born i e hi
        simp only at hb; omega
      · exact m.inj i j e e' hi hj hb
theorem MapIs.modify {w : World} {g : Nat → Nat} {ks : List IntKind} {arr : Array MapEntry} {clock : Nat} {es : List (List Int × PV)} (m : MapIs w g ks arr clock es) {i : Nat} {xs : List Int} {v : Value} {x : PV} (hi : i < es.length) (hl : xs.length = ks.length) (hv : RelP w g v x) :
    MapIs w g ks (arr.modify i fun e => { e with key := keyVal ks xs, val := v }) clock (es.set i (xs, x)) := by
  have hsz := m.size
  have get : ∀ (j : Nat) e, (arr.modify i fun e => { e with key := keyVal ks xs, val := v })[j]? = some e → ∃ e0, arr[j]? = some e0 ∧ e.born = e0.born ∧ ((i = j ∧ e.key = keyVal ks xs ∧ e.val = v) ∨ (i ≠ j ∧ e = e0)) := by
    intro j e he
    rw [Array.getElem?_modify] at he
    split at he
    · rename_i hij
      cases h0 : arr[j]? with
      | none => rw [h0] at he; cases he
      | some e0 => rw [h0] at he; cases he; exact ⟨e0, rfl, rfl, .inl ⟨hij, rfl, rfl⟩⟩
    · rename_i hij
      exact ⟨e, he, rfl, .inr ⟨hij, rfl⟩⟩
  refine ⟨by simp [hsz], fun j e p he hp => ?_, fun j e he => ?_, fun j k e e' hj hk hb => ?_⟩
  · obtain ⟨e0, h0, _, ⟨rfl, h1, h2⟩ | ⟨hne, rfl⟩⟩ := get j e he
    · rw [List.getElem?_set_self (by omega)] at hp
      cases hp
      exact ⟨h1, hl, h2 ▸ hv⟩
    · rw [List.getElem?_set_ne hne] at hp
      exact m.at' j e p h0 hp
  · obtain ⟨e0, h0, hb, _⟩ := get j e he
    rw [hb]; exact m.born j e0 h0
  · obtain ⟨e0, h0, hb0, _⟩ := get j e hj
    obtain ⟨e1, h1, hb1, _⟩ := get k e' hk
    exact m.inj j k e0 e1 h0 h1 (by omega)
theorem MapIs.erase {w : World} {g : Nat → Nat} {ks : List IntKind} {arr : Array MapEntry} {clock : Nat} {es : List (List Int × PV)} (m : MapIs w g ks arr clock es) (i : Nat) :
    MapIs w g ks (arr.eraseIdxIfInBounds i) clock (es.eraseIdx i) := by
  have hsz := m.size
  by_cases hi : i < arr.size
  · have hget : ∀ j : Nat, (arr.eraseIdxIfInBounds i)[j]? = if j < i then arr[j]? else arr[j + 1]? := by
      intro j
      unfold Array.eraseIdxIfInBounds
      rw [dif_pos hi, ← Array.getElem?_toList, Array.toList_eraseIdx, List.getElem?_eraseIdx]
      simp
    have hge2 : ∀ j : Nat, (es.eraseIdx i)[j]? = if j < i then es[j]? else es[j + 1]? := fun j => by rw [List.getElem?_eraseIdx]
    refine ⟨?_, fun j e p he hp => ?_, fun j e he => ?_, fun j k e e' hj hk hb => ?_⟩
    · unfold Array.eraseIdxIfInBounds
      rw [dif_pos hi, Array.size_eraseIdx, List.length_eraseIdx, if_pos (by omega), hsz]
    · rw [hget] at he
      rw [hge2] at hp
      split at he
      · rename_i h; rw [if_pos h] at hp; exact m.at' j e p he hp
      · rename_i h; rw [if_neg h] at hp; exact m.at' (j + 1) e p he hp
    · rw [hget] at he
      split at he
      · exact m.born j e he
      · exact m.born (j + 1) e he
    · rw [hget] at hj hk
      split at hj <;> split at hk
      · exact m.inj j k e e' hj hk hb
      · have := m.inj j (k + 1) e e' hj hk hb; omega
      · have := m.inj (j + 1) k e e' hj hk hb; omega
      · have := m.inj (j + 1) (k + 1) e e' hj hk hb; omega
  · have e1 : arr.eraseIdxIfInBounds i = arr := by unfold Array.eraseIdxIfInBounds; rw [dif_neg hi]
    have e2 : es.eraseIdx i = es := List.eraseIdx_of_length_le (by omega)
    rw [e1, e2]; exact m

/-! ### the operations on maps -/
/-- A type's zero value. -/
def zvOf (P : Program) (t : TypeId) : Option PV := match P.info? t with
  | some i => match i.zero with
    | some (.agg cs) => bif cs.toList.all (·.oneCell') then some (.agg (cs.toList.map .v)) else none
    | some v => bif v.oneCell' then some (.d (.v v)) else none
    | none => none
  | none => none
theorem zvOf_spec {t : TypeId} {y : PV} (hy : zvOf P t = some y) (w : World) (g : Nat → Nat) : ∃ z, (zeroValue t).run P w = .ok z w ∧ RelP w g z y := by
  unfold zvOf at hy
  split at hy
  · rename_i i hi
    have run : ∀ z, i.zero = some z → (zeroValue t).run P w = .ok z w := fun z hz => by simp [zeroValue, typeInfo, hi, hz]
    split at hy
    · rename_i cs hz
      cases h1 : cs.toList.all (·.oneCell') with
      | false => rw [h1] at hy; cases hy
      | true =>
        rw [h1] at hy
        cases hy
        have h2 := relC_zero (w := w) (g := g) h1
        have := RelP.agg (w := w) (g := g) cs.toList _ h2.1 h2.2
        exact ⟨_, run _ hz, by simpa using this⟩
    · rename_i v hne hz
      cases h1 : v.oneCell' with
      | false => rw [h1] at hy; cases hy
      | true =>
        rw [h1] at hy
        cases hy
        exact ⟨_, run _ hz, .d _ _ (.v _ h1)⟩
    · cases hy
  · cases hy
/-- What is asked of a map's type, and its key's kinds. -/
def mapKs (P : Program) (t : TypeId) : Option (TypeId × List IntKind) := match mapOf P t with
  | some (kt, _) => match tiOf P kt with
    | some ti => (match keyKinds ti with
      | some ks => some (kt, ks)
      | none => none)
    | none => none
  | none => none
/-- the keys of a struct type must be told of -/
def keyObl (P : Program) (kt : TypeId) (ks : List IntKind) : Prop := match ks with
  | [_] => True
  | ks => KeyTy P kt ks
theorem mapKs_spec {t kt : TypeId} {ks : List IntKind} (h : mapKs P t = some (kt, ks)) (hobl : keyObl P kt ks) : ∃ et, P.underlying t = some (.map kt et) ∧ KeyTy P kt ks := by
  unfold mapKs at h
  split at h
  · rename_i kt' et hm
    split at h
    · rename_i ti hti
      split at h
      · rename_i ks' hk
        cases h
        refine ⟨et, mapOf_spec hm, ?_⟩
        obtain ⟨i, d, z, hi, hd, hz, hkk, hs, hzz⟩ := tiOf_spec hti
        unfold keyKinds at hk
        split at hk
        · rename_i k hki
          cases hk
          rw [hki] at hkk
          have := kindOf_int hkk
          subst this
          exact keyTy_int hd
        · split at hk
          · cases hk
          · rename_i hne
            unfold keyObl at hobl
            split at hobl
            · exact absurd hk (hne _)
            · exact hobl
        · cases hk
      · cases h
    · cases h
  · cases h

def effMakeMap (P : Program) (t : TypeId) (dst : Option Tmp) : Option Eff :=
  match mapKs P t, dst with
  | some (_, ks), some d => some { val := .mp d, upd := some (d, .map ks []), fresh := true }
  | _, _ => none
theorem sem_makeMap {o : Oper} {t : TypeId} (ho : o.op = .makeMap t none) {xs : List AV} {lL : Option (Nat × LV)} {E : Eff} (hE : effMakeMap P t o.dst = some E) : OpSem P o xs lL E := by
  unfold effMakeMap at hE
  split at hE
  · rename_i kt ks d hm hd
    cases hE
    intro B w h r hB hz hr hL
    refine ⟨_, .map (some w.heap.size), w.alloc (.map #[] 0), { h with ρ := setG h.ρ d w.heap.size }, by simp [execOp, ho, run_makeMap], .inl rfl, by simp [RelA, setG], ?_, fun l' L' hl => ?_⟩
    · show Trans _ _ _ _ _ (fun _ => False) _ _
      exact trans_new hB hz _ d
    · cases hl
      refine ⟨⟨#[], 0, by simp only [setG, if_true]; exact hB _ (Nat.le_refl _), by simp only [setG, if_true]; exact _root_.Go.heap_alloc_new w _, by simp only [setG, if_true]; exact hz _ (Nat.le_refl _), MapIs.empty _ _ _⟩, fun b hb => .inl ?_⟩
      simp [inB, setG] at hb
      omega
  · cases hE
/-- a map type's key, its kinds, and the zero value of its elements -/
def mapKZ (P : Program) (t : TypeId) : Option (TypeId × List IntKind × PV) := match mapKs P t with
  | some (kt, ks) => match mapOf P t with
    | some (_, et) => (match zvOf P et with
      | some z => some (kt, ks, z)
      | none => none)
    | none => none
  | none => none
theorem mapKZ_spec {t kt : TypeId} {ks : List IntKind} {z : PV} (h : mapKZ P t = some (kt, ks, z)) : mapKs P t = some (kt, ks) ∧ ∃ et, mapOf P t = some (kt, et) ∧ zvOf P et = some z := by
  unfold mapKZ at h
  split at h
  · rename_i kt' ks' hk
    split at h
    · rename_i kt2 et hm
      split at h
      · rename_i z' hz
        cases h
        refine ⟨hk, et, ?_, hz⟩
        have h1 := hk
        unfold mapKs at h1
        rw [hm] at h1
        simp only at h1
        split at h1
        · split at h1
          · cases h1; exact hm
          · cases h1
        · cases h1
      · cases h
    · cases h
  · cases h
def effLookup (P : Program) (t : TypeId) (ok : Bool) (xs : List AV) (lL : Option (Nat × LV)) : Option Eff :=
  match mapKZ P t, xs, lL with
  | some (kt, ks', z), [.mp l, k], some (l', .map ks es) => match keyAV k with
    | some (ks2, x) => (match findM x es with
      | some v => some { val := bif ok then .tup [v, .d (.v (.bool true))] else .p v, obl := l' = l ∧ ks' = ks ∧ ks2 = ks ∧ keyObl P kt ks }
      | none => some { val := bif ok then .tup [z, .d (.v (.bool false))] else .p z, obl := l' = l ∧ ks' = ks ∧ ks2 = ks ∧ keyObl P kt ks })
    | none => none
  | _, _, _ => none
theorem sem_lookup {o : Oper} {t : TypeId} {x k : Operand} {ok : Bool} (ho : o.op = .lookup t x k ok) {xs : List AV} {lL : Option (Nat × LV)} {E : Eff} (hE : effLookup P t ok xs lL = some E) (hobl : E.obl) : OpSem P o xs lL E := by
  unfold effLookup at hE
  split at hE
  · rename_i kt ks' z l k' l' ks es hkz
    obtain ⟨hks, et, hm, hz⟩ := mapKZ_spec hkz
    split at hE
    · rename_i ks2 kx hkx
      have main : ∀ (v' : PV) (b : Bool), (b = true ∧ findM kx es = some v' ∨ b = false ∧ findM kx es = none ∧ v' = z) → ∀ obl, l' = l ∧ ks' = ks ∧ ks2 = ks ∧ keyObl P kt ks →
          OpSem P o [.mp l, k'] (some (l', .map ks es)) ⟨bif ok then .tup [v', .d (.v (.bool b))] else .p v', obl, none, false⟩ := by
        intro v' b hvb obl ⟨e1, e2, e3, hob⟩
        subst e1 e2 e3
        obtain ⟨et', hu, hkt⟩ := mapKs_spec hks hob
        have hu2 := mapOf_spec hm
        rw [hu] at hu2; cases hu2
        refine opSem_pure fun B w h r hr hL => ?_
        simp only [ho, Op.operands] at hr
        have r0 : r x = .map (some (h.ρ l')) := hr.2 0 (r x) _ rfl rfl
        obtain ⟨r1, hxl⟩ := keyAV_spec hkx (hr.2 1 (r k) _ rfl rfl)
        obtain ⟨arr, clock, c1, c2, c3, c4⟩ := hL _ _ rfl
        have hf := c4.find hkt kx hxl
        have hb := find_both kx es
        have fin : ∀ v, RelP w h.g v v' → (Instr.lookup t (.map (some (h.ρ l'))) (keyVal ks2 kx) ok).run P w = .ok (if ok then .tuple #[v, .bool b] else v) w →
            ∃ v, (execOp r o).run P w = .ok (.value v) w ∧ RelA w h v (bif ok then .tup [v', .d (.v (.bool b))] else .p v') := by
          intro v hv hrun
          refine ⟨_, by simp only [execOp, ho, r0, r1]; simp [hrun]; rfl, ?_⟩
          cases ok with
          | true =>
            refine ⟨[v, .bool b], rfl, rfl, fun j u y hu' hy => ?_⟩
            match j with
            | 0 => simp at hu' hy; subst hu'; subst hy; exact hv
            | 1 => simp at hu' hy; subst hu'; subst hy; exact .d _ _ (.v _ rfl)
            | j + 2 => simp at hu'
          | false => exact hv
        cases hfi : findI kx (es.map (·.1)) with
        | none =>
          rw [hfi] at hb hf
          rcases hvb with ⟨_, hs⟩ | ⟨rfl, _, rfl⟩
          · rw [hb.1] at hs; cases hs
          obtain ⟨zv, hzr, hzz⟩ := zvOf_spec hz w h.g
          refine fin zv hzz ?_
          simp [Instr.lookup, run_underlying hu, MapKept.run_getObj_map c2, hkt.check _ kx w hxl, hf, hzr, Result.andThen]
        | some i =>
          rw [hfi] at hb hf
          obtain ⟨⟨v0, hi, hfm⟩, _, _⟩ := hb
          rcases hvb with ⟨rfl, hs⟩ | ⟨_, hs, _⟩
          · rw [hfm] at hs; cases hs
            have hlt : i < arr.size := by rw [c4.size]; exact (List.getElem?_eq_some_iff.1 hi).1
            have hai : arr[i]? = some arr[i] := by simp [hlt]
            obtain ⟨_, _, hv⟩ := c4.at' i _ _ hai hi
            refine fin _ hv ?_
            simp only [Option.bind_some] at hf
            rw [hai] at hf
            simp only [Option.map_some] at hf
            simp [Instr.lookup, run_underlying hu, MapKept.run_getObj_map c2, hkt.check _ kx w hxl, hf, Result.andThen]
          · rw [hfm] at hs; cases hs
      split at hE
      · rename_i v hfm; cases hE; exact main v true (.inl ⟨rfl, hfm⟩) _ hobl
      · rename_i hfm; cases hE; exact main z false (.inr ⟨rfl, hfm, rfl⟩) _ hobl
    · cases hE
  · cases hE
theorem trans_obj {B : Nat → Prop} {w : World} {h : Gh} {b l : Nat} (hz : GZ w h.g) (hb : B b) (hg : h.g b = 0) (o : Obj) :
    Trans B w h { w with heap := w.heap.setIfInBounds b o } h (fun k => b = k) (some l) false where
  below := ⟨rfl, rfl, rfl, by simp, fun k _ hk => by
    have : b ≠ k := fun e => hk (e ▸ hb)
    simp [this]⟩
  blocks := fun k hk hne => ⟨by simp [show b ≠ k from hne], rfl⟩
  keep := by
    refine ⟨fun _ => Nat.le_refl _, fun k q hq => ?_⟩
    have hkb : b ≠ k := fun e => by subst e; omega
    exact World.cell?_of_block (w := w) (a := ⟨k, q, none⟩) (by simp [hkb])
  gz := fun k hk => by simp at hk; exact hz k hk
  gB := fun _ _ => rfl
  ρ := fun _ _ => rfl
  κ := fun _ _ => ⟨rfl, rfl⟩
  up := fun _ _ _ => .inr ⟨rfl, rfl⟩
/-- An operation that changes a map's entries. -/
theorem opSem_map {o : Oper} {xs : List AV} {l : Nat} {ks : List IntKind} {es es' : List (List Int × PV)} {x : AV} {obl : Prop}
    (H : ∀ (w : World) (h : Gh) (r : Operand → Value) (arr : Array MapEntry) (clock : Nat), RelAs w h (o.op.operands.toList.map r) xs → w.heap[h.ρ l]? = some (.map arr clock) → MapIs w h.g ks arr clock es →
      ∃ n v arr' clock', (execOp r o).run P w = .ok n { w with heap := w.heap.setIfInBounds (h.ρ l) (.map arr' clock') } ∧ (n = .value v ∨ (n = .skip ∧ v = undef)) ∧ (∀ w', RelA w' h v x) ∧ MapIs w h.g ks arr' clock' es') :
    OpSem P o xs (some (l, .map ks es)) ⟨x, obl, some (l, .map ks es'), false⟩ := by
  intro B w h r hB hz hr hL
  obtain ⟨arr, clock, c1, c2, c3, c4⟩ := hL _ _ rfl
  obtain ⟨n, v, arr', clock', h1, h2, h3, h4⟩ := H w h r arr clock hr c2 c4
  have tr : Trans B w h { w with heap := w.heap.setIfInBounds (h.ρ l) (.map arr' clock') } h (fun k => h.ρ l = k) (some l) false := trans_obj hz c1 c3 _
  have hlt : h.ρ l < w.heap.size := (Array.getElem?_eq_some_iff.1 c2).1
  refine ⟨n, v, _, h, h1, h2, h3 _, ?_, fun l' L' hl => ?_⟩
  · show Trans _ _ _ _ _ (ownOf h (some (l, LV.map ks es)) ⟨x, obl, some (l, .map ks es'), false⟩) _ _
    exact tr
  · cases hl
    exact ⟨⟨arr', clock', c1, by simp [hlt], c3, h4.keep tr.keep⟩, fun b hb => .inr ⟨rfl, _, rfl, hb⟩⟩
def effUpdate (P : Program) (t : TypeId) (xs : List AV) (lL : Option (Nat × LV)) : Option Eff :=
  match mapKs P t, xs, lL with
  | some (kt, ks'), [.mp l, k, v], some (l', .map ks es) => match keyAV k, pvAV v with
    | some (ks2, x), some y => some { val := .top, obl := l' = l ∧ ks' = ks ∧ ks2 = ks ∧ keyObl P kt ks, upd := some (l, .map ks (putM x y es)) }
    | _, _ => none
  | _, _, _ => none
theorem sem_update {o : Oper} {t : TypeId} {m k v : Operand} (ho : o.op = .mapUpdate t m k v ∨ o.op = .insert t m k v) {xs : List AV} {lL : Option (Nat × LV)} {E : Eff} (hE : effUpdate P t xs lL = some E) (hobl : E.obl) : OpSem P o xs lL E := by
  unfold effUpdate at hE
  split at hE
  · rename_i kt ks' l k' v' l' ks es hks
    split at hE
    · rename_i ks2 kx y hkx hy
      cases hE
      obtain ⟨e1, e2, e3, hob⟩ := hobl
      subst e1 e2 e3
      obtain ⟨et, hu, hkt⟩ := mapKs_spec hks hob
      refine opSem_map fun w h r arr clock hr hb hM => ?_
      have hops : o.op.operands.toList.map r = [r m, r k, r v] := by rcases ho with ho | ho <;> simp [ho, Op.operands]
      rw [hops] at hr
      have r0 : r m = .map (some (h.ρ l')) := hr.2 0 (r m) _ rfl rfl
      obtain ⟨r1, hxl⟩ := keyAV_spec hkx (hr.2 1 (r k) _ rfl rfl)
      have r2 := pvAV_spec hy (hr.2 2 (r v) _ rfl rfl)
      have hf := hM.find hkt kx hxl
      have hbb := find_both kx es
      have run : ∀ arr' clock', (Instr.mapUpdate t (.map (some (h.ρ l'))) (keyVal ks2 kx) (r v)).run P w = .ok () { w with heap := w.heap.setIfInBounds (h.ρ l') (.map arr' clock') } →
          (execOp r o).run P w = .ok .skip { w with heap := w.heap.setIfInBounds (h.ρ l') (.map arr' clock') } := fun arr' clock' hrun => by
        rcases ho with ho | ho <;> simp [execOp, ho, r0, r1, hrun]
      cases hfi : findI kx (es.map (·.1)) with
      | none =>
        rw [hfi] at hbb hf
        rw [hbb.2.1 y]
        refine ⟨_, undef, _, _, run _ _ ?_, .inr ⟨rfl, rfl⟩, fun _ => trivial, hM.push hxl r2⟩
        simp [Instr.mapUpdate, run_underlying hu, MapKept.run_getObj_map hb, hkt.check _ kx w hxl, hf, MapKept.run_setObj_map _ hb, Result.andThen]
      | some i =>
        rw [hfi] at hbb hf
        obtain ⟨⟨v0, hi, hfm⟩, h2, _⟩ := hbb
        rw [h2 y]
        have hlt : i < arr.size := by rw [hM.size]; exact (List.getElem?_eq_some_iff.1 hi).1
        have hai : arr[i]? = some arr[i] := by simp [hlt]
        obtain ⟨hkey, _, _⟩ := hM.at' i _ _ hai hi
        simp only [Option.bind_some] at hf
        rw [hai] at hf
        simp only [Option.map_some] at hf
        refine ⟨_, undef, _, _, run _ _ ?_, .inr ⟨rfl, rfl⟩, fun _ => trivial, hM.modify (by rw [← hM.size]; exact hlt) hxl r2⟩
        simp [Instr.mapUpdate, run_underlying hu, MapKept.run_getObj_map hb, hkt.check _ kx w hxl, hf, hai, hkey, run_keyStays, MapKept.run_setObj_map _ hb, Result.andThen]
    · cases hE
  · cases hE
def effDelete (P : Program) (t : TypeId) (xs : List AV) (lL : Option (Nat × LV)) : Option Eff :=
  match mapKs P t, xs, lL with
  | some (kt, ks'), [.mp l, k], some (l', .map ks es) => match keyAV k with
    | some (ks2, x) => some { val := .tup [], obl := l' = l ∧ ks' = ks ∧ ks2 = ks ∧ keyObl P kt ks, upd := some (l, .map ks (delM x es)) }
    | none => none
  | _, _, _ => none
theorem sem_delete {o : Oper} {c : Call} (ho : o.op = .call c) {t t' : TypeId} {m k : Operand} (hc : c = { callee := .builtin .delete, args := #[m, k], argTypes := #[t, t'] }) {xs : List AV} {lL : Option (Nat × LV)} {E : Eff} (hE : effDelete P t xs lL = some E) (hobl : E.obl) : OpSem P o xs lL E := by
  unfold effDelete at hE
  split at hE
  · rename_i kt ks' l k' l' ks es hks
    split at hE
    · rename_i ks2 kx hkx
      cases hE
      obtain ⟨e1, e2, e3, hob⟩ := hobl
      subst e1 e2 e3
      obtain ⟨et, hu, hkt⟩ := mapKs_spec hks hob
      refine opSem_map fun w h r arr clock hr hb hM => ?_
      rw [ho, hc] at hr
      simp only [Op.operands, Call.operands] at hr
      have r0 : r m = .map (some (h.ρ l')) := hr.2 0 (r m) _ rfl rfl
      obtain ⟨r1, hxl⟩ := keyAV_spec hkx (hr.2 1 (r k) _ rfl rfl)
      have hf := hM.find hkt kx hxl
      have hbb := find_both kx es
      have run : ∀ arr' clock', (∀ ty, (Builtin.delete_ #[t, t'] ty #[.map (some (h.ρ l')), keyVal ks2 kx]).run P w = .ok (.tuple #[]) { w with heap := w.heap.setIfInBounds (h.ρ l') (.map arr' clock') }) →
          (execOp r o).run P w = .ok (.value (.tuple #[])) { w with heap := w.heap.setIfInBounds (h.ρ l') (.map arr' clock') } := fun arr' clock' hrun => by
        refine run_builtin_op ho (b := .delete) (by rw [hc]) r w _ fun consts => ?_
        rw [hc]
        simp [builtin, r0, r1, hrun]
      have htup : ∀ w', RelA w' h (.tuple #[]) (.tup []) := fun w' => ⟨[], rfl, rfl, fun j v x hv => by simp at hv⟩
      cases hfi : findI kx (es.map (·.1)) with
      | none =>
        rw [hfi] at hbb hf
        rw [hbb.2.2]
        refine ⟨_, _, arr, clock, run arr clock fun ty => ?_, .inl rfl, htup, hM⟩
        simp [Builtin.delete_, run_underlying hu, MapKept.run_getObj_map hb, hkt.check _ kx w hxl, hf, MapKept.run_setObj_map _ hb, Result.andThen]
      | some i =>
        rw [hfi] at hbb hf
        obtain ⟨⟨v0, hi, hfm⟩, _, h3⟩ := hbb
        rw [h3]
        have hlt : i < arr.size := by rw [hM.size]; exact (List.getElem?_eq_some_iff.1 hi).1
        have hai : arr[i]? = some arr[i] := by simp [hlt]
        simp only [Option.bind_some] at hf
        rw [hai] at hf
        simp only [Option.map_some] at hf
        refine ⟨_, _, _, _, run _ _ fun ty => ?_, .inl rfl, htup, hM.erase i⟩
        simp [Builtin.delete_, run_underlying hu, MapKept.run_getObj_map hb, hkt.check _ kx w hxl, hf, MapKept.run_setObj_map _ hb, Result.andThen]
    · cases hE
  · cases hE
def effLenM (P : Program) (t : TypeId) (xs : List AV) (lL : Option (Nat × LV)) : Option Eff :=
  match mapOf P t, xs, lL with
  | some _, [.mp l], some (l', .map _ es) => some { val := .p (.d (.v (.int .i64 (es.length : Int)))), obl := l' = l }
  | _, _, _ => none
theorem sem_lenM {o : Oper} {c : Call} (ho : o.op = .call c) {t : TypeId} {x : Operand} (hc : c = { callee := .builtin .len, args := #[x], argTypes := #[t] }) {xs : List AV} {lL : Option (Nat × LV)} {E : Eff} (hE : effLenM P t xs lL = some E) (hobl : E.obl) : OpSem P o xs lL E := by
  unfold effLenM at hE
  split at hE
  · rename_i p l l' ks es hm
    cases hE
    have : l' = l := hobl
    subst this
    obtain ⟨kt, et⟩ := p
    have hu := mapOf_spec hm
    refine opSem_pure fun B w h r hr hL => ⟨.int .i64 (es.length : Int), ?_, relA_mk rfl⟩
    rw [ho, hc] at hr
    simp only [Op.operands, Call.operands] at hr
    have r0 : r x = .map (some (h.ρ l')) := hr.2 0 (r x) _ rfl rfl
    obtain ⟨arr, clock, c1, c2, c3, c4⟩ := hL _ _ rfl
    refine run_builtin_op ho (b := .len) (by rw [hc]) r w w fun consts => ?_
    rw [hc]
    simp [builtin, r0, Builtin.len_, run_underlying hu, MapKept.run_getObj_map c2, goInt, Result.andThen, c4.size]
  · cases hE

/-! ### aggregates that hold own memory -/
def cvsAV : AV → Option (List CV)
  | .p (.agg ds) => some (ds.map fun d => .p (.d d))
  | .p (.d d) => some [.p (.d d)]
  | .gr _ _ sz n f => some [.p (.d (.sl sz n f))]
  | .loc l o => some [.loc l o]
  | .ow l gen sz n => some [.ow l gen sz n]
  | .mp l => some [.mp l]
  | .ag cs => some cs
  | _ => none
theorem cvsAV_spec {w : World} {h : Gh} {v : Value} {x : AV} {cs : List CV} (hd : cvsAV x = some cs) (r : RelA w h v x) :
    RelCs w h v.cells.toList cs ∧ ∀ u ∈ v.cells.toList, u.oneCell' = true := by
  have one : ∀ {c : CV}, v.oneCell' = true → RelCV w h v c → RelCs w h v.cells.toList [c] ∧ ∀ u ∈ v.cells.toList, u.oneCell' = true := by
    intro c h1 hr
    have hc : v.cells = #[v] := by cases v <;> first | rfl | (simp [Value.oneCell'] at h1)
    rw [hc]
    refine ⟨⟨rfl, fun j u c' hu hc' => ?_⟩, fun u hu => ?_⟩
    · cases j with
      | zero => simp at hu hc'; subst hu; subst hc'; exact hr
      | succ j => simp at hu
    · simp at hu; subst hu; exact h1
  unfold cvsAV at hd
  split at hd
  · rename_i ds
    cases hd
    obtain ⟨h1, h2, h3⟩ := datsAV_spec (x := .p (.agg ds)) rfl r
    refine ⟨⟨by simpa using h1, fun j u c hu hc => ?_⟩, h3⟩
    rw [List.getElem?_map] at hc
    cases hdj : ds[j]? with
    | none => rw [hdj] at hc; cases hc
    | some d => rw [hdj] at hc; cases hc; exact .d _ _ (h2 j u d (by simpa using hu) hdj)
  · rename_i d; cases hd; exact one (by cases r with | d _ _ r => exact r.one) r
  · cases hd; exact one r.1.one (.d _ _ r.1)
  · cases hd; exact one (by simp only [RelA] at r; subst r; rfl) r
  · cases hd; exact one (by obtain ⟨_, ⟨a, c, rfl, _⟩, _⟩ := r; rfl) r
  · cases hd; exact one (by simp only [RelA] at r; subst r; rfl) r
  · cases hd; obtain ⟨vs, rfl, hr, ho⟩ := r; exact ⟨by simpa [Value.cells] using hr, by simpa [Value.cells] using ho⟩
  · cases hd
def fillC (place : Nat → Option (Nat × Nat)) : List CV → List (Nat × AV) → Option (List CV)
  | cells, [] => some cells
  | cells, (i, x) :: rest => match place i, cvsAV x with
    | some (off, sz), some ds => bif ds.length == sz && decide (off + ds.length ≤ cells.length) then fillC place (cells.take off ++ ds ++ cells.drop (off + ds.length)) rest else none
    | _, _ => none
def RelO (w : World) (h : Gh) (vs : List Value) (cs : List CV) : Prop := RelCs w h vs cs ∧ ∀ u ∈ vs, u.oneCell' = true
theorem fillC_spec {w : World} {h : Gh} (place : Nat → Option (Nat × Nat)) : ∀ (parts : List (Nat × Value)) (xs : List AV) (cells : Array Value) (ds ds' : List CV),
    RelAs w h (parts.map (·.2)) xs → RelO w h cells.toList ds → fillC place ds ((parts.map (·.1)).zip xs) = some ds' →
    ∃ cells', Instr.fill place cells parts = some cells' ∧ RelO w h cells'.toList ds'
  | [], xs, cells, ds, ds', hr, hc, hf => by
    simp [fillC] at hf; subst hf; exact ⟨cells, rfl, hc⟩
  | (i, v) :: rest, xs, cells, ds, ds', hr, hc, hf => by
    cases xs with
    | nil => simp [RelAs] at hr
    | cons x xs =>
      have hx : RelA w h v x := hr.2 0 v x rfl rfl
      have hr' : RelAs w h (rest.map (·.2)) xs := ⟨by simpa using hr.1, fun j u y hu hy => hr.2 (j + 1) u y (by simpa using hu) (by simpa using hy)⟩
      simp only [List.map_cons, List.zip_cons_cons, fillC] at hf
      cases hp : place i with
      | none => simp [hp] at hf
      | some p =>
        obtain ⟨off, sz⟩ := p
        cases hd : cvsAV x with
        | none => simp [hp, hd] at hf
        | some es =>
          simp only [hp, hd] at hf
          cases hb : (es.length == sz && decide (off + es.length ≤ ds.length)) with
          | false => rw [hb] at hf; simp at hf
          | true =>
            rw [hb] at hf
            simp only [cond_true] at hf
            simp at hb
            obtain ⟨hb1, hb2⟩ := hb
            obtain ⟨⟨e1, e2⟩, e3⟩ := cvsAV_spec hd hx
            simp only [Array.length_toList] at e1
            have hcl := hc.1.1
            simp at hcl
            obtain ⟨f1, f2⟩ := fold_set off v.cells.toList 0 cells (by simp; omega)
            have hfold : (v.cells.zipIdx.foldl (fun (cs : Array Value) (x : Value × Nat) => match x with | (c, j) => cs.setIfInBounds (off + j) c) cells) =
                (v.cells.toList.zipIdx 0).foldl (fun (cs : Array Value) (x : Value × Nat) => cs.setIfInBounds (off + x.2) x.1) cells := by
              rw [← Array.foldl_toList]; simp
            have hfill : Instr.fill place cells ((i, v) :: rest) = Instr.fill place ((v.cells.toList.zipIdx 0).foldl (fun (cs : Array Value) (x : Value × Nat) => cs.setIfInBounds (off + x.2) x.1) cells) rest := by
              rw [← hfold]
              simp only [Instr.fill, hp]
              rw [if_neg (by simp; omega)]
            have hC : RelO w h ((v.cells.toList.zipIdx 0).foldl (fun (cs : Array Value) (x : Value × Nat) => cs.setIfInBounds (off + x.2) x.1) cells).toList (ds.take off ++ es ++ ds.drop (off + es.length)) := by
              refine ⟨⟨by simp only [Array.length_toList]; rw [f1]; simp; omega, fun j u d hu hd' => ?_⟩, fun u hu => ?_⟩
              · rw [Array.getElem?_toList, f2 j] at hu
                rw [splice_get ds es off (by omega) j] at hd'
                simp only [Nat.add_zero, Array.length_toList] at hu
                by_cases hj : off ≤ j ∧ j < off + es.length
                · rw [if_pos (by omega)] at hu
                  rw [if_pos hj] at hd'
                  exact e2 _ u d hu hd'
                · rw [if_neg (by omega)] at hu
                  rw [if_neg hj] at hd'
                  exact hc.1.2 j u d (by simpa using hu) hd'
              · obtain ⟨j, hj⟩ := List.getElem?_of_mem hu
                rw [Array.getElem?_toList, f2 j] at hj
                split at hj
                · exact e3 u (List.mem_of_getElem? hj)
                · exact hc.2 u (by rw [← Array.getElem?_toList] at hj; exact List.mem_of_getElem? hj)
            obtain ⟨cells', g1, g2⟩ := fillC_spec place rest xs _ _ ds' hr' hC hf
            exact ⟨cells', hfill.trans g1, g2⟩
def effBuildC (P : Program) (t : TypeId) (is : List Nat) (xs : List AV) : Option Eff :=
  match tiOf P t with
  | some ti => match ti.k with
    | .struct fs => (fillC (fun i => (fs[i]?).map fun f => (f.1, f.2.1)) (ti.zero.map fun v => .p (.d (.v v))) (is.zip xs)).map fun cs => { val := .ag cs, obl := (ti.zero.all (·.oneCell')) = true }
    | _ => none
  | none => none
theorem sem_buildC {o : Oper} {t : TypeId} {parts : Array (Nat × Operand)} (ho : o.op = .build t parts) {xs : List AV} {lL : Option (Nat × LV)} {E : Eff} (hE : effBuildC P t (parts.toList.map (·.1)) xs = some E) (hobl : E.obl) : OpSem P o xs lL E := by
  unfold effBuildC at hE
  split at hE
  · rename_i ti hti
    obtain ⟨it, d, z, hit, hd, hz, hkk, hs, hzz⟩ := tiOf_spec hti
    have run : ∀ (r : Operand → Value) (w : World) (cells : Array Value), P.built t (parts.map fun (i, x) => (i, r x)).toList = some cells → (execOp r o).run P w = .ok (.value (.agg cells)) w := by
      intro r w cells hb
      simp only [execOp, ho]
      simp [run_build w t _ cells hb]
    split at hE
    · rename_i fs hk
      cases hf : fillC (fun i => (fs[i]?).map fun f => (f.1, f.2.1)) (ti.zero.map fun v => .p (.d (.v v))) ((parts.toList.map (·.1)).zip xs) with
      | none => simp [hf] at hE
      | some cs =>
        simp only [hf, Option.map_some, Option.some.injEq] at hE; subst hE
        have hone : (ti.zero.all (·.oneCell')) = true := hobl
        rw [hk] at hkk
        obtain ⟨fields, rfl, hm⟩ := kindOf_struct hkk
        have hpl : fields.toList.mapM (fun f => (P.info? f.type).map fun i => (f.offset, i.size)) = some (fs.map fun f => (f.1, f.2.1)) := by
          have gen : ∀ (l : List Field) (r : List (Nat × Nat × Bool)), l.mapM (fieldOf P) = some r → l.mapM (fun f => (P.info? f.type).map fun i => (f.offset, i.size)) = some (r.map fun f => (f.1, f.2.1)) := by
            intro l
            induction l with
            | nil => intro r hr; simp at hr; subst hr; rfl
            | cons f l ih =>
              intro r hr
              simp only [List.mapM_cons] at hr
              cases hx : fieldOf P f with
              | none => simp [hx] at hr
              | some q =>
                cases hl : l.mapM (fieldOf P) with
                | none => simp [hx, hl] at hr
                | some r' =>
                  simp [hx, hl] at hr
                  subst hr
                  obtain ⟨fi, fd, e1, e2, rfl⟩ := fieldOf_spec hx
                  simp [List.mapM_cons, e1, ih r' hl]
          exact gen _ _ hm
        have hbt : ∀ ps, P.built t ps = Instr.fill (fun i => (fs[i]?).map fun f => (f.1, f.2.1)) z.cells ps := by
          intro ps
          simp only [Program.built, hit, hd, hz, hpl]
          congr 1
          funext i
          simp
        refine opSem_pure fun B w h r hr hL => ?_
        rw [parts_ops (parts := parts) (by rw [ho]; rfl)] at hr
        have hz0 : RelO w h z.cells.toList (ti.zero.map fun v => .p (.d (.v v))) := by
          refine ⟨⟨by rw [hzz]; simp, fun j u c hu hc => ?_⟩, fun u hu => ?_⟩
          · rw [hzz, List.getElem?_map, hu] at hc
            cases hc
            exact .d _ _ (.v u (List.all_eq_true.1 hone u (by rw [hzz]; exact List.mem_of_getElem? hu)))
          · exact List.all_eq_true.1 hone u (by rw [hzz]; exact hu)
        obtain ⟨cells', g1, g2⟩ := fillC_spec (w := w) (h := h) (fun i => (fs[i]?).map fun f => (f.1, f.2.1)) ((parts.map fun (i, x) => (i, r x)).toList) xs z.cells _ cs hr hz0 (by rw [parts_idx]; exact hf)
        exact ⟨.agg cells', run r w cells' (by rw [hbt]; exact g1), cells'.toList, by simp, g2⟩
    · cases hE
  · cases hE
def effFieldC (P : Program) (t : TypeId) (n : Nat) (xs : List AV) : Option Eff :=
  match tiOf P t with
  | some ti => match ti.k with
    | .struct fs => match fs[n]?, xs with
      | some (off, _, ag), [.ag cs] => bif ag then none else (cs[off]?).map fun c => { val := c.av }
      | _, _ => none
    | _ => none
  | none => none
theorem sem_fieldC {o : Oper} {t : TypeId} {x : Operand} {n : Nat} (ho : o.op = .field t x n) {xs : List AV} {lL : Option (Nat × LV)} {E : Eff} (hE : effFieldC P t n xs = some E) : OpSem P o xs lL E := by
  unfold effFieldC at hE
  split at hE
  · rename_i ti hti
    split at hE
    · rename_i fs hk
      split at hE
      · rename_i off sz ag cs hn
        obtain ⟨_, d, z, hi, hd, hz, hkk, _, _⟩ := tiOf_spec hti
        rw [hk] at hkk
        obtain ⟨fields, rfl, hm⟩ := kindOf_struct hkk
        obtain ⟨f, hf, hff⟩ := mapM_get hm n _ hn
        obtain ⟨fi, fd, hfi, hfd, he⟩ := fieldOf_spec hff
        simp only [Prod.mk.injEq] at he
        obtain ⟨rfl, rfl, rfl⟩ := he
        have hf' : fields[n]? = some f := by simpa using hf
        cases hag : isAggD fd with
        | true => rw [hag] at hE; simp at hE
        | false =>
          rw [hag] at hE; simp only [cond_false] at hE
          cases hc : cs[f.offset]? with
          | none => simp [hc] at hE
          | some c =>
            simp only [hc, Option.map_some, Option.some.injEq] at hE; subst hE
            refine opSem_pure fun B w h r hr hL => ?_
            simp only [ho, Op.operands] at hr
            obtain ⟨vs, hv, ⟨hl, hrr⟩, _⟩ := hr.2 0 (r x) _ rfl rfl
            have hlt : f.offset < vs.length := by rw [hl]; exact (List.getElem?_eq_some_iff.1 hc).1
            have hvo : vs[f.offset]? = some vs[f.offset] := by simp [hlt]
            refine ⟨vs[f.offset], ?_, (relC_av c).1 (hrr _ _ _ hvo hc)⟩
            simp [execOp, ho, hv, Instr.field, run_underlying hd, hf', asAgg, part, run_isAgg hfd, hag, hlt]
      · cases hE
    · cases hE
  · cases hE

/-! ### copy into an own row, all of it -/
def effCopyO (P : Program) (ts : List TypeId) (xs : List AV) (lL : Option (Nat × LV)) : Option Eff :=
  match ts, xs, lL with
  | [t, t'], [.ow l gen sz n, x], some (l', .own e sz' n' gen' f) =>
    match tiOf P t, srcAV x with
    | some ti, some (szx, m, f') => match ti.k with
      | .slice _ szt by_ => some { val := .p (.d (.v (.int .i64 (n : Int)))), obl := (l' = l ∧ ti.k = .slice e szt by_ ∧ t' = t ∧ szt = sz ∧ sz' = sz ∧ szx = sz ∧ n' = n ∧ gen' = gen) ∧ m = n, upd := some (l, .own e sz n gen f') }
      | _ => none
    | _, _ => none
  | _, _, _ => none
theorem sem_copyO {o : Oper} {c : Call} (ho : o.op = .call c) {s y : Operand} {t t' : TypeId} (hc : c = { callee := .builtin .copy, args := #[s, y], argTypes := #[t, t'] })
    {xs : List AV} {lL : Option (Nat × LV)} {E : Eff} (hE : effCopyO P [t, t'] xs lL = some E) (hobl : E.obl) : OpSem P o xs lL E := by
  unfold effCopyO at hE
  split at hE
  · rename_i ts0 xs0 lL0 t1 t1' l gen sz n x l' e sz' n' gen' f heq
    cases heq
    split at hE
    · rename_i ti szx m f' hti hsrc
      split at hE
      · rename_i e1 szt by_ hk
        cases hE
        obtain ⟨⟨rfl, hke, rfl, rfl, rfl, rfl, rfl, rfl⟩, rfl⟩ := hobl
        obtain ⟨it, d, z, hit, hd, hz, hkk, hs, hzz⟩ := tiOf_spec hti
        rw [hk] at hke
        cases hke
        rw [hk] at hkk
        obtain ⟨rfl, ie, hie, hsz, hbb⟩ := kindOf_slice hkk
        intro B w h r hB hz0 hr hL
        have hL0 := hL _ _ rfl
        rw [ho, hc] at hr
        simp only [Op.operands, Call.operands] at hr
        have r0 : RelA w h (r s) (.ow l' gen' szx m) := hr.2 0 (r s) _ rfl rfl
        have r1 : RelA w h (r y) x := hr.2 1 (r y) _ rfl rfl
        obtain ⟨hμ, ⟨olds, hown, hri⟩, hgO⟩ := hL _ _ rfl
        obtain ⟨q1, q2, q3⟩ := r0
        have hv := q3 hμ
        obtain ⟨news, hgiv⟩ := giv_sl (P := P) (tx := t') hd (srcAV_spec hsrc r1)
        have hnl := hgiv.src.newsLen
        have hgiv' : Src P ie.size t' (r y) m news w := by rw [hsz]; exact hgiv.src
        have hone : ∀ v ∈ news, v.oneCell' = true := by
          intro v hv
          obtain ⟨k, hk⟩ := List.getElem?_of_mem hv
          have hkl := (List.getElem?_eq_some_iff.1 hk).1
          rw [hnl] at hkl
          have hpos : 0 < szx := by
            rcases Nat.eq_zero_or_pos szx with h0 | h0
            · rw [h0] at hkl; omega
            · exact h0
          have hi : k / szx < m := Nat.div_lt_of_lt_mul (by rw [Nat.mul_comm]; exact hkl)
          have hj : k % szx < szx := Nat.mod_lt _ hpos
          have hfl := hgiv.len (k / szx) hi
          obtain ⟨u, hu, hr⟩ := hgiv.rel (k / szx) (k % szx) _ hi hj (List.getElem?_eq_getElem (by omega))
          rw [show k / szx * szx + k % szx = k from by rw [Nat.mul_comm]; exact Nat.div_add_mod k szx, hk] at hu
          cases hu; exact hr.one
        have rel0 : RelA w h (.int .i64 (m : Int)) (.p (.d (.v (.int .i64 (m : Int))))) := relA_mk rfl
        rcases hown.2 with ⟨hnil, hn0⟩ | ⟨g0, cap, cur, hκ, hBg, hheap, hnc, hcm, hcs, htake⟩
        · subst hn0
          have hn0' : news = [] := List.eq_nil_of_length_eq_zero (by rw [hnl]; simp)
          refine ⟨_, .int .i64 0, w, h, run_builtin_op ho (b := .copy) (by rw [hc]) r w w fun consts => ?_, .inl rfl, rel0, ?_, fun l2 L2 hl => ?_⟩
          · rw [hc]
            simp [builtin, hv, hnil, Builtin.copy_, run_underlying hd, sizeOf, typeInfo, hie, hgiv'.len, hgiv'.cells, goInt, hn0']
          · refine ⟨BelowS.refl _ _, fun _ _ _ => ⟨rfl, rfl⟩, Keep.refl _ _, hz0, fun _ _ => rfl, fun _ _ => rfl, fun _ _ => ⟨rfl, rfl⟩, fun _ _ _ => .inr ⟨rfl, rfl⟩⟩
          · cases hl
            exact ⟨⟨hμ, ⟨olds, hown, ⟨fun i hi => by omega, fun i j d hi => by omega⟩⟩, hgO⟩, fun b hb => .inr ⟨rfl, _, rfl, hb⟩⟩
        · obtain ⟨hg0, hB0⟩ := hgO g0 (by rw [hκ]; rfl)
          have hfit : news.length ≤ cur.size := by rw [hnl, hcs]; exact Nat.mul_le_mul_right _ hnc
          have hst := run_storeCells_at P g0 0 e news 0 cur w hheap (by simpa using hfit) hone
          simp only [Nat.add_zero, Nat.zero_add, List.take_zero, List.nil_append] at hst
          have tr : Trans B w h (w.setRow g0 (news ++ cur.toList.drop news.length).toArray) h (fun k => g0 = k) (some l') false := trans_set hz0 hB0 hg0 _
          refine ⟨_, .int .i64 (m : Int), w.setRow g0 (news ++ cur.toList.drop news.length).toArray, h, run_builtin_op ho (b := .copy) (by rw [hc]) r w _ fun consts => ?_, .inl rfl, relA_mk rfl, ?_, fun l2 L2 hl => ?_⟩
          · rw [hc]
            simp [builtin, hv, hκ, Builtin.copy_, run_underlying hd, sizeOf, typeInfo, hie, hgiv'.len, hgiv'.cells, goInt, hst]
          · have : ownOf h (some (l', LV.own e szx m gen' f)) ⟨.p (.d (.v (.int .i64 (m : Int)))), (l' = l' ∧ ti.k = .slice e szx by_ ∧ t' = t' ∧ szx = szx ∧ szx = szx ∧ szx = szx ∧ m = m ∧ gen' = gen') ∧ m = m, some (l', .own e szx m gen' f'), false⟩ = (fun k => g0 = k) := by
              funext k; simp [ownOf, inB, hκ, Value.ownBlock]
            exact this ▸ tr
          · cases hl
            have hh := setRow_heap w g0 cur (news ++ cur.toList.drop news.length).toArray e _ hheap
            refine ⟨⟨hμ, ⟨news, ⟨hnl, .inr ⟨g0, cap, _, hκ, Nat.zero_le _, hh, hnc, hcm, by simp; omega, ?_⟩⟩, ?_⟩, hgO⟩, fun b hb => .inr ⟨rfl, _, rfl, hb⟩⟩
            · rw [← hnl]; simp
            · have hg := rowIs_cat (n := 0) (f := f') (olds := []) tr.keep (by simp) ⟨fun i hi => by omega, fun i j d hi => by omega⟩ hgiv
              simp only [Nat.zero_add, List.nil_append] at hg
              have e : catF 0 f' f' = f' := by funext i; simp [catF]
              rw [e] at hg
              exact hg
      · cases hE
    · cases hE
  · cases hE
end Go.Proofs.Ytokibghllpfeaaa.AL
