/- Part 2 of a proof: lemmas beneath the theorem that the last text bears. Conditions: none. -/
import Derived.Test.YtjfammnjpeeahaaKConfigClonesa
import Derived.MapKept
import Derived.Laws.CopyRow
import Derived.KernelRfl
import Derived.Test.YtjfammnjpeeahaaRows
import Derived.ProofKit
import Derived.OpenShut
import Derived.JoinedCond
import Derived.Carry
import Derived.Lib.SmallJoins
import Derived.Test.YtjfammnjpeeahaaProg
set_option maxHeartbeats 64000000
set_option linter.unusedSimpArgs false
set_option linter.unusedVariables false
namespace Go.Proofs.Ytjfammnjpeeahaa.AL
open Go.RowKit
variable {P : Program}
def isFuncT (P : Program) (t : TypeId) : Bool := match P.underlying t with
 | some (.func ..) => true
 | _ => false
def nilP : List AV → Bool
 | [_,.p (.d (.v (.pointer none)))] => true
 | [_,.p (.d (.v .nilFunc))] => true
 | _ => false
def nilPB : AV → Option Bool
 | .loc .. => some false
 | .p (.d (.v (.pointer none))) => some true
 | .p (.d (.bx _)) => some false
 | .ex .. => some false
 | .p (.d (.v (.pointer (some _)))) => some false
 | _ => none
def nilFB : AV → Option Bool
 | .p (.d (.v .nilFunc)) => some true
 | .p (.fn ..) => some false
 | .cl .. => some false
 | _ => none
def effNilP (P : Program) (op : BinOp) (t : TypeId) (xs : List AV) : Option Eff :=
 match xs with
 | [x,.p (.d (.v (.pointer none)))] => match tiOf P t,nilPB x with
  |some ti,some b => (match ti.k,op with
   | .ptr,.eql => some { val := .p (.d (.v (.bool b))) }
   | .ptr,.neq => some { val := .p (.d (.v (.bool (!b)))) }
   | _,_ => none)
  | _,_ => none
 | [x,.p (.d (.v .nilFunc))] => match nilFB x with
  |some b => (match op with
   | .eql => some { val := .p (.d (.v (.bool b))),obl := isFuncT P t = true }
   | .neq => some { val := .p (.d (.v (.bool (!b)))),obl := isFuncT P t = true }
   | _ => none)
  | _ => none
 | _ => none
theorem q105 {w : World} {h : Gh} {x : AV} {b : Bool} (hx : nilPB x = some b) {v : Value} (r : RelA w h v x) : ∃ a,v = .pointer a ∧ a.isNone = b := by
 unfold nilPB at hx
 split at hx
 ·cases hx;exact ⟨_,r,rfl⟩
 ·cases hx;exact ⟨_,q13 r,rfl⟩
 ·cases hx
  cases r with
  | d _ _ r => cases r;exact ⟨_,rfl,rfl⟩
 ·cases hx;exact ⟨_,r,rfl⟩
 ·cases hx;exact ⟨_,q13 r,rfl⟩
 ·cases hx
theorem z105 {w : World} {h : Gh} {x : AV} {b : Bool} (hx : nilFB x = some b) {v : Value} (r : RelA w h v x) : (v = .nilFunc ∧ b = true) ∨ ∃ f a c,v = .func f a c ∧ b = false := by
 unfold nilFB at hx
 split at hx
 ·cases hx;exact .inl ⟨q13 r,rfl⟩
 ·cases hx
  cases r with
  | fn f vs us => exact .inr ⟨_,_,_,rfl,rfl⟩
 ·cases hx
  obtain ⟨vs,us,e,_⟩ := r
  exact .inr ⟨_,_,_,e,rfl⟩
 ·cases hx
theorem x67 {d : TypeDesc} (h : kindOf P d = some .ptr) : ∃ e,d = .pointer e := by
 cases d <;> simp only [kindOf] at h <;> first | exact ⟨_,rfl⟩ | (cases h;done) | (split at h <;> cases h;done) | skip
theorem j67 (w : World) {t e : TypeId} (a : Option Addr) (hd : P.underlying t = some (.pointer e)) : (Op.equal t (.pointer a) (.pointer none)).run P w = .ok a.isNone w := by
 show (Op.equalIn (9999 + 1) t _ _).run P w = _
 unfold Op.equalIn
 cases a <;> simp [run_underlying hd]
theorem q68 (w : World) {t : TypeId} {a : Bool} (b c : Array TypeId) (hd : P.underlying t = some (.func b c a)) (f : Fn) (x y : Array Value) : (Op.equal t (.func f x y) .nilFunc).run P w = .ok false w := by
 show (Op.equalIn (9999 + 1) t _ _).run P w = _
 unfold Op.equalIn
 simp [run_underlying hd]
theorem z68 (w : World) {t : TypeId} {a : Bool} (b c : Array TypeId) (hd : P.underlying t = some (.func b c a)) : (Op.equal t .nilFunc .nilFunc).run P w = .ok true w := by
 show (Op.equalIn (9999 + 1) t _ _).run P w = _
 unfold Op.equalIn
 simp [run_underlying hd]
theorem x105 {o : Oper} {op : BinOp} {t t' : TypeId} {x y : Operand} (ho : o.op = .binOp op t x y t') {xs : List AV} {lL : Option (Nat × LV)} {E : Eff} (hE : effNilP P op t xs = some E) (hobl : E.obl) : OpSem P o xs lL E := by
 unfold effNilP at hE
 split at hE
 ·rename_i z
  split at hE
  ·rename_i ti b hti hz
   obtain ⟨it,d',zz,hit,hd,hzz,hkk,_,_⟩ := j12 hti
   have fin : ∀ {u : Value} {obl : Prop} {e : TypeId},P.underlying t = some (.pointer e) → u.oneCell' = true → (∀ w a,a.isNone = b → (binOp op t (.pointer a) (.pointer none)).run P w = .ok u w) → OpSem P o [z,.p (.d (.v (.pointer none)))] lL ⟨.p (.d (.v u)),obl,none,false⟩ := by
    intro u obl e he hu hrun
    refine z12 fun B w h r hr hL => ?_
    simp only [ho,Op.operands] at hr
    obtain ⟨a,hv,ha⟩ := q105 hz (hr.2 0 (r x) _ rfl rfl)
    refine ⟨u,z23 ho r w hv (q13 (hr.2 1 (r y) _ rfl rfl)) ?_ (hrun w a ha),q14 hu⟩
    simp [eqGuard]
   split at hE
   ·rename_i hk
    rw [hk] at hkk
    obtain ⟨e,rfl⟩ := x67 hkk
    cases hE
    refine fin hd rfl fun w a ha => ?_
    subst ha
    simp [binOp,j67 w a hd]
   ·rename_i hk
    rw [hk] at hkk
    obtain ⟨e,rfl⟩ := x67 hkk
    cases hE
    refine fin hd rfl fun w a ha => ?_
    subst ha
    simp [binOp,j67 w a hd]
   ·cases hE
  ·cases hE
 ·rename_i z
  split at hE
  ·rename_i b hz
   have fin : ∀ {u : Value},isFuncT P t = true → u.oneCell' = true → (∀ w v,((v = .nilFunc ∧ b = true) ∨ ∃ f a c,v = .func f a c ∧ b = false) → (∃ a b c,P.underlying t = some (.func a b c)) → (binOp op t v .nilFunc).run P w = .ok u w) → OpSem P o [z,.p (.d (.v .nilFunc))] lL ⟨.p (.d (.v u)),isFuncT P t = true,none,false⟩ := by
    intro u he hu hrun
    refine z12 fun B w h r hr hL => ?_
    simp only [ho,Op.operands] at hr
    have hv := z105 hz (hr.2 0 (r x) _ rfl rfl)
    refine ⟨u,z23 ho r w rfl (q13 (hr.2 1 (r y) _ rfl rfl)) ?_ (hrun w _ hv ?_),q14 hu⟩
    ·rcases hv with ⟨e,_⟩ | ⟨f,a,c,e,_⟩ <;> rw [e] <;> simp [eqGuard]
    ·unfold isFuncT at he
     split at he
     ·exact ⟨_,_,_,‹_›⟩
     ·cases he
   split at hE
   ·cases hE
    refine fin hobl rfl fun w v hv hu => ?_
    obtain ⟨a,b',c,hu⟩ := hu
    rcases hv with ⟨rfl,rfl⟩ | ⟨f,a,c,rfl,rfl⟩ <;> simp [binOp,q68 w _ _ hu,z68 w _ _ hu]
   ·cases hE
    refine fin hobl rfl fun w v hv hu => ?_
    obtain ⟨a,b',c,hu⟩ := hu
    rcases hv with ⟨rfl,rfl⟩ | ⟨f,a,c,rfl,rfl⟩ <;> simp [binOp,q68 w _ _ hu,z68 w _ _ hu]
   ·cases hE
  ·cases hE
 ·cases hE
def kindsV : List Value → Option (List IntKind)
 | [] => some []
 | .int k _ :: r => match kindsV r with
  | some ks => some (k :: ks)
  | none => none
 | _ => none
def keyKinds (ti : TI) : Option (List IntKind) := match ti.k with
 | .int k => some [k]
 | .struct _ => match kindsV ti.zero with
  | some [_] => none
  | r => r
 | _ => none
def keyAV : AV → Option (List IntKind × List Int)
 | .p (.d (.v (.int k x))) => some ([k],[x])
 | .p (.agg ds) => match intsD ds with
  | some ([_],_) => none
  | some (ks,xs) => some (ks,xs)
  | none => none
 | _ => none
theorem x68 : ∀ (ks : List IntKind) (xs : List Int),List.zipWith Value.int ks xs = ints ks xs
 | [],_ => by simp [ints]
 | _ :: _,[] => by simp [ints]
 | k :: ks,x :: xs => by simp [ints,x68 ks xs]
theorem j105 {ks : List IntKind} {xs : List Int} (h : ks.length ≠ 1) : keyVal ks xs = .agg (ints ks xs).toArray := by
 unfold keyVal
 split
 ·simp at h
 ·rw [x68]
theorem z53 {w : World} {h : Gh} {x : AV} {ks : List IntKind} {xs : List Int} (hx : keyAV x = some (ks,xs)) {v : Value} (r : RelA w h v x) : v = keyVal ks xs ∧ xs.length = ks.length := by
 unfold keyAV at hx
 split at hx
 ·cases hx;exact ⟨q13 r,rfl⟩
 ·rename_i ds
  split at hx
  ·cases hx
  ·rename_i ks' xs' hne hi
   cases hx
   obtain ⟨vs,hv,hl,hr⟩ := q36 r
   obtain ⟨e1,e2⟩ := z42 hi hl hr
   refine ⟨?_,e2⟩
   rw [j105 (fun e => ?_),hv,e1]
   obtain ⟨k,rfl⟩ := List.length_eq_one_iff.1 e
   exact hne k rfl
  ·cases hx
 ·cases hx
def mapOf (P : Program) (t : TypeId) : Option (TypeId × TypeId) := match P.underlying t with
 | some (.map k e) => some (k,e)
 | _ => none
theorem z43 {t kt et : TypeId} (h : mapOf P t = some (kt,et)) : P.underlying t = some (.map kt et) := by
 unfold mapOf at h
 split at h
 ·cases h;assumption
 ·cases h
def findI (xs : List Int) : List (List Int) → Option Nat
 | [] => none
 | y :: r => if y = xs then some 0 else (findI xs r).map (· + 1)
structure KeyTy (P : Program) (kt : TypeId) (ks : List IntKind) : Prop where
 check : ∀ (e : Bool) (xs : List Int) (w : World),xs.length = ks.length → (Instr.checkKey e 10000 kt (keyVal ks xs)).run P w = .ok () w
 find : ∀ (w : World) (xs : List Int) (es : List MapEntry) (yss : List (List Int)),xs.length = ks.length → es.length = yss.length →
  (∀ (i : Nat) e ys,es[i]? = some e → yss[i]? = some ys → e.key = keyVal ks ys ∧ ys.length = ks.length) →
  (Instr.findKey kt (keyVal ks xs) es).run P w = .ok ((findI xs yss).bind fun i => es[i]?.map fun e => (i,e.val)) w
theorem j68 {k0 k : IntKind} {x : Int} : ∀ (es : List MapEntry) (yss : List (List Int)) (i0 : Nat),es.length = yss.length →
  (∀ (i : Nat) e ys,es[i]? = some e → yss[i]? = some ys → e.key = keyVal [k] ys ∧ ys.length = [k].length) →
  Instr.findNow (.int k0) (.int k x) es i0 = some ((findI [x] yss).bind fun i => es[i]?.map fun e => (i0 + i,e.val))
 | [],[],i0,_,_ => rfl
 |e :: es,ys :: yss,i0,hl,h => by
  obtain ⟨h1,h2⟩ := h 0 e ys rfl rfl
  obtain ⟨y,rfl⟩ := List.length_eq_one_iff.1 h2
  have ih := j68 (k0 := k0) (x := x) es yss (i0 + 1) (by simpa using hl) fun i e ys he hy => h (i + 1) e ys (by simpa using he) (by simpa using hy)
  have hk : e.key = .int k y := h1
  unfold Instr.findNow findI
  rw [hk]
  by_cases hxy : x = y
  ·subst hxy;simp [Instr.sameNow]
  ·have : ¬ ([y] = [x]) := fun e => hxy (by cases e;rfl)
   rw [if_neg this]
   simp only [Instr.sameNow,if_true]
   rw [beq_eq_false_iff_ne.2 hxy,ih]
   cases findI [x] yss with
   | none => rfl
   |some i =>
    simp only [Option.map_some,Option.bind_some,List.getElem?_cons_succ]
    cases es[i]? with
    | none => rfl
    | some e => simp only [Option.map_some];congr 3;omega
theorem q106 {kt : TypeId} {k0 k : IntKind} (hk : P.underlying kt = some (.int k0)) : KeyTy P kt [k] where
 check := fun e xs w hl => by
  obtain ⟨x,rfl⟩ := List.length_eq_one_iff.1 hl
  show (Instr.checkKey e (9999 + 1) kt (.int k x)).run P w = _
  unfold Instr.checkKey
  simp [run_underlying hk]
 find := fun w xs es yss hl hle h => by
  obtain ⟨x,rfl⟩ := List.length_eq_one_iff.1 hl
  show (Instr.findKey kt (.int k x) es).run P w = _
  have := j68 (k0 := k0) (x := x) es yss 0 hle h
  simp only [Nat.zero_add] at this
  simp [Instr.findKey,run_underlying hk,this]
theorem z106 (l : List Value) (hl : ∀ v ∈ l,∃ k x,v = .int k x) : Instr.sameBits 10000 (.agg l.toArray) (.agg l.toArray) = true := by
 have : (l.zip l).all (fun p => Instr.sameBits 9999 p.1 p.2) = true := by
  induction l with
  | nil => rfl
  |cons v l ih =>
   obtain ⟨k,x,rfl⟩ := hl v (by simp)
   rw [List.zip_cons_cons,List.all_cons,ih fun u hu => hl u (by simp [hu])]
   simp [Instr.sameBits]
 unfold Instr.sameBits
 rw [Bool.and_eq_true]
 exact ⟨by simp,by simpa using this⟩
theorem x106 (ks : List IntKind) (xs : List Int) : Instr.sameBits 10000 (keyVal ks xs) (keyVal ks xs) = true := by
 unfold keyVal
 split
 ·simp [Instr.sameBits]
 ·exact z106 _ fun v hv => by
   obtain ⟨i,hi,rfl⟩ := List.getElem_of_mem hv
   exact ⟨_,_,List.getElem_zipWith ..⟩
theorem j106 (w : World) (ks : List IntKind) (xs : List Int) : (Instr.keyThatStays (keyVal ks xs) (keyVal ks xs)).run P w = .ok (keyVal ks xs) w := by
 unfold Instr.keyThatStays
 rw [x106]
 rfl
def findM (xs : List Int) : List (List Int × PV) → Option PV
 | [] => none
 | e :: r => if e.1 = xs then some e.2 else findM xs r
def putM (xs : List Int) (v : PV) : List (List Int × PV) → List (List Int × PV)
 | [] => [(xs,v)]
 | e :: r => if e.1 = xs then (xs,v) :: r else e :: putM xs v r
def delM (xs : List Int) : List (List Int × PV) → List (List Int × PV)
 | [] => []
 | e :: r => if e.1 = xs then r else e :: delM xs r
theorem x43 (xs : List Int) : ∀ es : List (List Int × PV),match findI xs (es.map (·.1)) with
  | none => findM xs es = none ∧ (∀ v,putM xs v es = es ++ [(xs,v)]) ∧ delM xs es = es
  | some i => (∃ v,es[i]? = some (xs,v) ∧ findM xs es = some v) ∧ (∀ v,putM xs v es = es.set i (xs,v)) ∧ delM xs es = es.eraseIdx i
 | [] => by simp [findI,findM,putM,delM]
 |(y,u) :: r => by
  have ih := x43 xs r
  simp only [List.map_cons,findI]
  by_cases h : y = xs
  ·subst h
   simp [findM,putM,delM]
  ·rw [if_neg h]
   cases hf : findI xs (r.map (·.1)) with
   |none =>
    rw [hf] at ih
    obtain ⟨h1,h2,h3⟩ := ih
    simp only [Option.map_none]
    refine ⟨by simp [findM,h,h1],fun v => by simp [putM,h,h2],by simp [delM,h,h3]⟩
   |some i =>
    rw [hf] at ih
    obtain ⟨⟨v,h1,h1'⟩,h2,h3⟩ := ih
    simp only [Option.map_some]
    exact ⟨⟨v,by simpa using h1,by simp [findM,h,h1']⟩,fun v => by simp [putM,h,h2],by simp [delM,h,h3]⟩
theorem MapIs.find {w : World} {g : Nat → Nat} {ks : List IntKind} {arr : Array MapEntry} {clock : Nat} {es : List (List Int × PV)} (m : MapIs w g ks arr clock es) {kt : TypeId} (hk : KeyTy P kt ks) (xs : List Int) (hl : xs.length = ks.length) :
  (Instr.findKey kt (keyVal ks xs) arr.toList).run P w = .ok ((findI xs (es.map (·.1))).bind fun i => arr[i]?.map fun e => (i,e.val)) w := by
 have := hk.find w xs arr.toList (es.map (·.1)) hl (by simp [m.size]) fun i e ys he hy => by
  rw [List.getElem?_map] at hy
  cases hp : es[i]? with
  | none => rw [hp] at hy;cases hy
  |some p =>
   rw [hp] at hy;cases hy
   obtain ⟨h1,h2,_⟩ := m.at' i e p (by simpa using he) hp
   exact ⟨h1,h2⟩
 simpa using this
theorem MapIs.empty (w : World) (g : Nat → Nat) (ks : List IntKind) : MapIs w g ks #[] 0 [] :=
 ⟨rfl,fun i e p h => by simp at h,fun i e h => by simp at h,fun i j e e' h => by simp at h⟩
theorem MapIs.push {w : World} {g : Nat → Nat} {ks : List IntKind} {arr : Array MapEntry} {clock : Nat} {es : List (List Int × PV)} (m : MapIs w g ks arr clock es) {xs : List Int} {v : Value} {x : PV} (hl : xs.length = ks.length) (hv : RelP w g v x) :
  MapIs w g ks (arr.push { key := keyVal ks xs,val := v,born := clock }) (clock + 1) (es ++ [(xs,x)]) := by
 have hsz := m.size
 refine ⟨by simp [hsz],fun i e p he hp => ?_,fun i e he => ?_,fun i j e e' hi hj hb => ?_⟩
 ·rw [Array.getElem?_push] at he
  split at he
  ·rename_i hi
   cases he
   subst hi
   rw [hsz,List.getElem?_append_right (by omega)] at hp
   simp at hp;subst hp
   exact ⟨rfl,hl,hv⟩
  ·have hi : i < arr.size := (Array.getElem?_eq_some_iff.1 he).1
   rw [List.getElem?_append_left (by omega)] at hp
   exact m.at' i e p he hp
 ·rw [Array.getElem?_push] at he
  split at he
  ·cases he;exact Nat.lt_succ_self _
  ·exact Nat.lt_succ_of_lt (m.born i e he)
 ·rw [Array.getElem?_push] at hi hj
  split at hi
  ·rename_i h1
   split at hj
   ·rename_i h2;omega
   ·cases hi
    have := m.born j e' hj
    simp only at hb;omega
  ·split at hj
   ·cases hj
    have := m.born i e hi
    simp only at hb;omega
   ·exact m.inj i j e e' hi hj hb
theorem MapIs.modify {w : World} {g : Nat → Nat} {ks : List IntKind} {arr : Array MapEntry} {clock : Nat} {es : List (List Int × PV)} (m : MapIs w g ks arr clock es) {i : Nat} {xs : List Int} {v : Value} {x : PV} (hi : i < es.length) (hl : xs.length = ks.length) (hv : RelP w g v x) :
  MapIs w g ks (arr.modify i fun e => { e with key := keyVal ks xs,val := v }) clock (es.set i (xs,x)) := by
 have hsz := m.size
 have get : ∀ (j : Nat) e,(arr.modify i fun e => { e with key := keyVal ks xs,val := v })[j]? = some e → ∃ e0,arr[j]? = some e0 ∧ e.born = e0.born ∧ ((i = j ∧ e.key = keyVal ks xs ∧ e.val = v) ∨ (i ≠ j ∧ e = e0)) := by
  intro j e he
  rw [Array.getElem?_modify] at he
  split at he
  ·rename_i hij
   cases h0 : arr[j]? with
   | none => rw [h0] at he;cases he
   | some e0 => rw [h0] at he;cases he;exact ⟨e0,rfl,rfl,.inl ⟨hij,rfl,rfl⟩⟩
  ·rename_i hij
   exact ⟨e,he,rfl,.inr ⟨hij,rfl⟩⟩
 refine ⟨by simp [hsz],fun j e p he hp => ?_,fun j e he => ?_,fun j k e e' hj hk hb => ?_⟩
 ·obtain ⟨e0,h0,_,⟨rfl,h1,h2⟩ | ⟨hne,rfl⟩⟩ := get j e he
  ·rw [List.getElem?_set_self (by omega)] at hp
   cases hp
   exact ⟨h1,hl,h2 ▸ hv⟩
  ·rw [List.getElem?_set_ne hne] at hp
   exact m.at' j e p h0 hp
 ·obtain ⟨e0,h0,hb,_⟩ := get j e he
  rw [hb];exact m.born j e0 h0
 ·obtain ⟨e0,h0,hb0,_⟩ := get j e hj
  obtain ⟨e1,h1,hb1,_⟩ := get k e' hk
  exact m.inj j k e0 e1 h0 h1 (by omega)
theorem MapIs.erase {w : World} {g : Nat → Nat} {ks : List IntKind} {arr : Array MapEntry} {clock : Nat} {es : List (List Int × PV)} (m : MapIs w g ks arr clock es) (i : Nat) :
  MapIs w g ks (arr.eraseIdxIfInBounds i) clock (es.eraseIdx i) := by
 have hsz := m.size
 by_cases hi : i < arr.size
 ·have hget : ∀ j : Nat,(arr.eraseIdxIfInBounds i)[j]? = if j < i then arr[j]? else arr[j + 1]? := by
   intro j
   unfold Array.eraseIdxIfInBounds
   rw [dif_pos hi,← Array.getElem?_toList,Array.toList_eraseIdx,List.getElem?_eraseIdx]
   simp
  have hge2 : ∀ j : Nat,(es.eraseIdx i)[j]? = if j < i then es[j]? else es[j + 1]? := fun j => by rw [List.getElem?_eraseIdx]
  refine ⟨?_,fun j e p he hp => ?_,fun j e he => ?_,fun j k e e' hj hk hb => ?_⟩
  ·unfold Array.eraseIdxIfInBounds
   rw [dif_pos hi,Array.size_eraseIdx,List.length_eraseIdx,if_pos (by omega),hsz]
  ·rw [hget] at he
   rw [hge2] at hp
   split at he
   ·rename_i h;rw [if_pos h] at hp;exact m.at' j e p he hp
   ·rename_i h;rw [if_neg h] at hp;exact m.at' (j + 1) e p he hp
  ·rw [hget] at he
   split at he
   ·exact m.born j e he
   ·exact m.born (j + 1) e he
  ·rw [hget] at hj hk
   split at hj <;> split at hk
   ·exact m.inj j k e e' hj hk hb
   ·have := m.inj j (k + 1) e e' hj hk hb;omega
   ·have := m.inj (j + 1) k e e' hj hk hb;omega
   ·have := m.inj (j + 1) (k + 1) e e' hj hk hb;omega
 ·have e1 : arr.eraseIdxIfInBounds i = arr := by unfold Array.eraseIdxIfInBounds;rw [dif_neg hi]
  have e2 : es.eraseIdx i = es := List.eraseIdx_of_length_le (by omega)
  rw [e1,e2];exact m
def zvOf (P : Program) (t : TypeId) : Option PV := match P.info? t with
 |some i => match i.zero with
  | some (.agg cs) => bif cs.toList.all (·.oneCell') then some (.agg (cs.toList.map .v)) else none
  | some v => bif v.oneCell' then some (.d (.v v)) else none
  | none => none
 | none => none
theorem q107 {t : TypeId} {y : PV} (hy : zvOf P t = some y) (w : World) (g : Nat → Nat) : ∃ z,(zeroValue t).run P w = .ok z w ∧ RelP w g z y := by
 unfold zvOf at hy
 split at hy
 ·rename_i i hi
  have run : ∀ z,i.zero = some z → (zeroValue t).run P w = .ok z w := fun z hz => by simp [zeroValue,typeInfo,hi,hz]
  split at hy
  ·rename_i cs hz
   cases h1 : cs.toList.all (·.oneCell') with
   | false => rw [h1] at hy;cases hy
   |true =>
    rw [h1] at hy
    cases hy
    have h2 := j65 (w := w) (g := g) h1
    have := RelP.agg (w := w) (g := g) cs.toList _ h2.1 h2.2
    exact ⟨_,run _ hz,by simpa using this⟩
  ·rename_i v hne hz
   cases h1 : v.oneCell' with
   | false => rw [h1] at hy;cases hy
   |true =>
    rw [h1] at hy
    cases hy
    exact ⟨_,run _ hz,.d _ _ (.v _ h1)⟩
  ·cases hy
 ·cases hy
def mapKs (P : Program) (t : TypeId) : Option (TypeId × List IntKind) := match mapOf P t with
 |some (kt,_) => match tiOf P kt with
  |some ti => (match keyKinds ti with
   | some ks => some (kt,ks)
   | none => none)
  | none => none
 | none => none
def keyObl (P : Program) (kt : TypeId) (ks : List IntKind) : Prop := match ks with
 | [_] => True
 | ks => KeyTy P kt ks
theorem x53 {t kt : TypeId} {ks : List IntKind} (h : mapKs P t = some (kt,ks)) (hobl : keyObl P kt ks) : ∃ et,P.underlying t = some (.map kt et) ∧ KeyTy P kt ks := by
 unfold mapKs at h
 split at h
 ·rename_i kt' et hm
  split at h
  ·rename_i ti hti
   split at h
   ·rename_i ks' hk
    cases h
    refine ⟨et,z43 hm,?_⟩
    obtain ⟨i,d,z,hi,hd,hz,hkk,hs,hzz⟩ := j12 hti
    unfold keyKinds at hk
    split at hk
    ·rename_i k hki
     cases hk
     rw [hki] at hkk
     have := q35 hkk
     subst this
     exact q106 hd
    ·split at hk
     ·cases hk
     ·rename_i hne
      unfold keyObl at hobl
      split at hobl
      ·exact absurd hk (hne _)
      ·exact hobl
    ·cases hk
   ·cases h
  ·cases h
 ·cases h
def effMakeMap (P : Program) (t : TypeId) (dst : Option Tmp) : Option Eff :=
 match mapKs P t,dst with
 | some (_,ks),some d => some { val := .mp d,upd := some (d,.map ks []),fresh := true }
 | _,_ => none
theorem z107 {o : Oper} {t : TypeId} (ho : o.op = .makeMap t none) {xs : List AV} {lL : Option (Nat × LV)} {E : Eff} (hE : effMakeMap P t o.dst = some E) : OpSem P o xs lL E := by
 unfold effMakeMap at hE
 split at hE
 ·rename_i kt ks d hm hd
  cases hE
  intro B w h r hB hz hr hL
  refine ⟨_,.map (some w.heap.size),w.alloc (.map #[] 0),{ h with ρ := setG h.ρ d w.heap.size },by simp [execOp,ho,run_makeMap],.inl rfl,by simp [RelA,setG],?_,fun l' L' hl => ?_⟩
  ·show Trans _ _ _ _ _ (fun _ => False) _ _
   exact q31 hB hz _ d
  ·cases hl
   refine ⟨⟨#[],0,by simp only [setG,if_true];exact hB _ (Nat.le_refl _),by simp only [setG,if_true];exact _root_.Go.heap_alloc_new w _,by simp only [setG,if_true];exact hz _ (Nat.le_refl _),MapIs.empty _ _ _⟩,fun b hb => .inl ?_⟩
   simp [inB,setG] at hb
   omega
 ·cases hE
def mapKZ (P : Program) (t : TypeId) : Option (TypeId × List IntKind × PV) := match mapKs P t with
 |some (kt,ks) => match mapOf P t with
  |some (_,et) => (match zvOf P et with
   | some z => some (kt,ks,z)
   | none => none)
  | none => none
 | none => none
theorem x107 {t kt : TypeId} {ks : List IntKind} {z : PV} (h : mapKZ P t = some (kt,ks,z)) : mapKs P t = some (kt,ks) ∧ ∃ et,mapOf P t = some (kt,et) ∧ zvOf P et = some z := by
 unfold mapKZ at h
 split at h
 ·rename_i kt' ks' hk
  split at h
  ·rename_i kt2 et hm
   split at h
   ·rename_i z' hz
    cases h
    refine ⟨hk,et,?_,hz⟩
    have h1 := hk
    unfold mapKs at h1
    rw [hm] at h1
    simp only at h1
    split at h1
    ·split at h1
     ·cases h1;exact hm
     ·cases h1
    ·cases h1
   ·cases h
  ·cases h
 ·cases h
def effLookup (P : Program) (t : TypeId) (ok : Bool) (xs : List AV) (lL : Option (Nat × LV)) : Option Eff :=
 match mapKZ P t,xs,lL with
 |some (kt,ks',z),[.mp l,k],some (l',.map ks es) => match keyAV k with
  |some (ks2,x) => (match findM x es with
   | some v => some { val := bif ok then .tup [v,.d (.v (.bool true))] else .p v,obl := l' = l ∧ ks' = ks ∧ ks2 = ks ∧ keyObl P kt ks }
   | none => some { val := bif ok then .tup [z,.d (.v (.bool false))] else .p z,obl := l' = l ∧ ks' = ks ∧ ks2 = ks ∧ keyObl P kt ks })
  | none => none
 | _,_,_ => none
theorem j107 {o : Oper} {t : TypeId} {x k : Operand} {ok : Bool} (ho : o.op = .lookup t x k ok) {xs : List AV} {lL : Option (Nat × LV)} {E : Eff} (hE : effLookup P t ok xs lL = some E) (hobl : E.obl) : OpSem P o xs lL E := by
 unfold effLookup at hE
 split at hE
 ·rename_i kt ks' z l k' l' ks es hkz
  obtain ⟨hks,et,hm,hz⟩ := x107 hkz
  split at hE
  ·rename_i ks2 kx hkx
   have main : ∀ (v' : PV) (b : Bool),(b = true ∧ findM kx es = some v' ∨ b = false ∧ findM kx es = none ∧ v' = z) → ∀ obl,l' = l ∧ ks' = ks ∧ ks2 = ks ∧ keyObl P kt ks →
     OpSem P o [.mp l,k'] (some (l',.map ks es)) ⟨bif ok then .tup [v',.d (.v (.bool b))] else .p v',obl,none,false⟩ := by
    intro v' b hvb obl ⟨e1,e2,e3,hob⟩
    subst e1 e2 e3
    obtain ⟨et',hu,hkt⟩ := x53 hks hob
    have hu2 := z43 hm
    rw [hu] at hu2;cases hu2
    refine z12 fun B w h r hr hL => ?_
    simp only [ho,Op.operands] at hr
    have r0 : r x = .map (some (h.ρ l')) := hr.2 0 (r x) _ rfl rfl
    obtain ⟨r1,hxl⟩ := z53 hkx (hr.2 1 (r k) _ rfl rfl)
    obtain ⟨arr,clock,c1,c2,c3,c4⟩ := hL _ _ rfl
    have hf := c4.find hkt kx hxl
    have hb := x43 kx es
    have fin : ∀ v,RelP w h.g v v' → (Instr.lookup t (.map (some (h.ρ l'))) (keyVal ks2 kx) ok).run P w = .ok (if ok then .tuple #[v,.bool b] else v) w →
      ∃ v,(execOp r o).run P w = .ok (.value v) w ∧ RelA w h v (bif ok then .tup [v',.d (.v (.bool b))] else .p v') := by
     intro v hv hrun
     refine ⟨_,by simp only [execOp,ho,r0,r1];simp [hrun];rfl,?_⟩
     cases ok with
     |true =>
      refine ⟨[v,.bool b],rfl,rfl,fun j u y hu' hy => ?_⟩
      match j with
      | 0 => simp at hu' hy;subst hu';subst hy;exact hv
      | 1 => simp at hu' hy;subst hu';subst hy;exact .d _ _ (.v _ rfl)
      | j + 2 => simp at hu'
     | false => exact hv
    cases hfi : findI kx (es.map (·.1)) with
    |none =>
     rw [hfi] at hb hf
     rcases hvb with ⟨_,hs⟩ | ⟨rfl,_,rfl⟩
     ·rw [hb.1] at hs;cases hs
     obtain ⟨zv,hzr,hzz⟩ := q107 hz w h.g
     refine fin zv hzz ?_
     simp [Instr.lookup,run_underlying hu,MapKept.run_getObj_map c2,hkt.check _ kx w hxl,hf,hzr,Result.andThen]
    |some i =>
     rw [hfi] at hb hf
     obtain ⟨⟨v0,hi,hfm⟩,_,_⟩ := hb
     rcases hvb with ⟨rfl,hs⟩ | ⟨_,hs,_⟩
     ·rw [hfm] at hs;cases hs
      have hlt : i < arr.size := by rw [c4.size];exact (List.getElem?_eq_some_iff.1 hi).1
      have hai : arr[i]? = some arr[i] := by simp [hlt]
      obtain ⟨_,_,hv⟩ := c4.at' i _ _ hai hi
      refine fin _ hv ?_
      simp only [Option.bind_some] at hf
      rw [hai] at hf
      simp only [Option.map_some] at hf
      simp [Instr.lookup,run_underlying hu,MapKept.run_getObj_map c2,hkt.check _ kx w hxl,hf,Result.andThen]
     ·rw [hfm] at hs;cases hs
   split at hE
   ·rename_i v hfm;cases hE;exact main v true (.inl ⟨rfl,hfm⟩) _ hobl
   ·rename_i hfm;cases hE;exact main z false (.inr ⟨rfl,hfm,rfl⟩) _ hobl
  ·cases hE
 ·cases hE
theorem q108 {B : Nat → Prop} {w : World} {h : Gh} {b l : Nat} (hz : GZ w h.g) (hb : B b) (hg : h.g b = 0) (o : Obj) :
  Trans B w h { w with heap := w.heap.setIfInBounds b o } h (fun k => b = k) (some l) false where
 below := ⟨rfl,rfl,rfl,by simp,fun k _ hk => by
  have : b ≠ k := fun e => hk (e ▸ hb)
  simp [this]⟩
 blocks := fun k hk hne => ⟨by simp [show b ≠ k from hne],rfl⟩
 keep := by
  refine ⟨fun _ => Nat.le_refl _,fun k q hq => ?_⟩
  have hkb : b ≠ k := fun e => by subst e;omega
  exact World.cell?_of_block (w := w) (a := ⟨k,q,none⟩) (by simp [hkb])
 gz := fun k hk => by simp at hk;exact hz k hk
 gB := fun _ _ => rfl
 ρ := fun _ _ => rfl
 κ := fun _ _ => ⟨rfl,rfl⟩
 up := fun _ _ _ => .inr ⟨rfl,rfl⟩
theorem q69 {o : Oper} {xs : List AV} {l : Nat} {ks : List IntKind} {es es' : List (List Int × PV)} {x : AV} {obl : Prop}
  (H : ∀ (w : World) (h : Gh) (r : Operand → Value) (arr : Array MapEntry) (clock : Nat),RelAs w h (o.op.operands.toList.map r) xs → w.heap[h.ρ l]? = some (.map arr clock) → MapIs w h.g ks arr clock es →
   ∃ n v arr' clock',(execOp r o).run P w = .ok n { w with heap := w.heap.setIfInBounds (h.ρ l) (.map arr' clock') } ∧ (n = .value v ∨ (n = .skip ∧ v = undef)) ∧ (∀ w',RelA w' h v x) ∧ MapIs w h.g ks arr' clock' es') :
  OpSem P o xs (some (l,.map ks es)) ⟨x,obl,some (l,.map ks es'),false⟩ := by
 intro B w h r hB hz hr hL
 obtain ⟨arr,clock,c1,c2,c3,c4⟩ := hL _ _ rfl
 obtain ⟨n,v,arr',clock',h1,h2,h3,h4⟩ := H w h r arr clock hr c2 c4
 have tr : Trans B w h { w with heap := w.heap.setIfInBounds (h.ρ l) (.map arr' clock') } h (fun k => h.ρ l = k) (some l) false := q108 hz c1 c3 _
 have hlt : h.ρ l < w.heap.size := (Array.getElem?_eq_some_iff.1 c2).1
 refine ⟨n,v,_,h,h1,h2,h3 _,?_,fun l' L' hl => ?_⟩
 ·show Trans _ _ _ _ _ (ownOf h (some (l,LV.map ks es)) ⟨x,obl,some (l,.map ks es'),false⟩) _ _
  exact tr
 ·cases hl
  exact ⟨⟨arr',clock',c1,by simp [hlt],c3,h4.keep tr.keep⟩,fun b hb => .inr ⟨rfl,_,rfl,hb⟩⟩
def effUpdate (P : Program) (t : TypeId) (xs : List AV) (lL : Option (Nat × LV)) : Option Eff :=
 match mapKs P t,xs,lL with
 |some (kt,ks'),[.mp l,k,v],some (l',.map ks es) => match keyAV k,pvAV v with
  | some (ks2,x),some y => some { val := .top,obl := l' = l ∧ ks' = ks ∧ ks2 = ks ∧ keyObl P kt ks,upd := some (l,.map ks (putM x y es)) }
  | _,_ => none
 | _,_,_ => none
theorem z69 {o : Oper} {t : TypeId} {m k v : Operand} (ho : o.op = .mapUpdate t m k v ∨ o.op = .insert t m k v) {xs : List AV} {lL : Option (Nat × LV)} {E : Eff} (hE : effUpdate P t xs lL = some E) (hobl : E.obl) : OpSem P o xs lL E := by
 unfold effUpdate at hE
 split at hE
 ·rename_i kt ks' l k' v' l' ks es hks
  split at hE
  ·rename_i ks2 kx y hkx hy
   cases hE
   obtain ⟨e1,e2,e3,hob⟩ := hobl
   subst e1 e2 e3
   obtain ⟨et,hu,hkt⟩ := x53 hks hob
   refine q69 fun w h r arr clock hr hb hM => ?_
   have hops : o.op.operands.toList.map r = [r m,r k,r v] := by rcases ho with ho | ho <;> simp [ho,Op.operands]
   rw [hops] at hr
   have r0 : r m = .map (some (h.ρ l')) := hr.2 0 (r m) _ rfl rfl
   obtain ⟨r1,hxl⟩ := z53 hkx (hr.2 1 (r k) _ rfl rfl)
   have r2 := j42 hy (hr.2 2 (r v) _ rfl rfl)
   have hf := hM.find hkt kx hxl
   have hbb := x43 kx es
   have run : ∀ arr' clock',(Instr.mapUpdate t (.map (some (h.ρ l'))) (keyVal ks2 kx) (r v)).run P w = .ok () { w with heap := w.heap.setIfInBounds (h.ρ l') (.map arr' clock') } →
     (execOp r o).run P w = .ok .skip { w with heap := w.heap.setIfInBounds (h.ρ l') (.map arr' clock') } := fun arr' clock' hrun => by
    rcases ho with ho | ho <;> simp [execOp,ho,r0,r1,hrun]
   cases hfi : findI kx (es.map (·.1)) with
   |none =>
    rw [hfi] at hbb hf
    rw [hbb.2.1 y]
    refine ⟨_,undef,_,_,run _ _ ?_,.inr ⟨rfl,rfl⟩,fun _ => trivial,hM.push hxl r2⟩
    simp [Instr.mapUpdate,run_underlying hu,MapKept.run_getObj_map hb,hkt.check _ kx w hxl,hf,MapKept.run_setObj_map _ hb,Result.andThen]
   |some i =>
    rw [hfi] at hbb hf
    obtain ⟨⟨v0,hi,hfm⟩,h2,_⟩ := hbb
    rw [h2 y]
    have hlt : i < arr.size := by rw [hM.size];exact (List.getElem?_eq_some_iff.1 hi).1
    have hai : arr[i]? = some arr[i] := by simp [hlt]
    obtain ⟨hkey,_,_⟩ := hM.at' i _ _ hai hi
    simp only [Option.bind_some] at hf
    rw [hai] at hf
    simp only [Option.map_some] at hf
    refine ⟨_,undef,_,_,run _ _ ?_,.inr ⟨rfl,rfl⟩,fun _ => trivial,hM.modify (by rw [← hM.size];exact hlt) hxl r2⟩
    simp [Instr.mapUpdate,run_underlying hu,MapKept.run_getObj_map hb,hkt.check _ kx w hxl,hf,hai,hkey,j106,MapKept.run_setObj_map _ hb,Result.andThen]
  ·cases hE
 ·cases hE
def effDelete (P : Program) (t : TypeId) (xs : List AV) (lL : Option (Nat × LV)) : Option Eff :=
 match mapKs P t,xs,lL with
 |some (kt,ks'),[.mp l,k],some (l',.map ks es) => match keyAV k with
  | some (ks2,x) => some { val := .tup [],obl := l' = l ∧ ks' = ks ∧ ks2 = ks ∧ keyObl P kt ks,upd := some (l,.map ks (delM x es)) }
  | none => none
 | _,_,_ => none
theorem z108 {o : Oper} {c : Call} (ho : o.op = .call c) {t t' : TypeId} {m k : Operand} (hc : c = { callee := .builtin .delete,args := #[m,k],argTypes := #[t,t'] }) {xs : List AV} {lL : Option (Nat × LV)} {E : Eff} (hE : effDelete P t xs lL = some E) (hobl : E.obl) : OpSem P o xs lL E := by
 unfold effDelete at hE
 split at hE
 ·rename_i kt ks' l k' l' ks es hks
  split at hE
  ·rename_i ks2 kx hkx
   cases hE
   obtain ⟨e1,e2,e3,hob⟩ := hobl
   subst e1 e2 e3
   obtain ⟨et,hu,hkt⟩ := x53 hks hob
   refine q69 fun w h r arr clock hr hb hM => ?_
   rw [ho,hc] at hr
   simp only [Op.operands,Call.operands] at hr
   have r0 : r m = .map (some (h.ρ l')) := hr.2 0 (r m) _ rfl rfl
   obtain ⟨r1,hxl⟩ := z53 hkx (hr.2 1 (r k) _ rfl rfl)
   have hf := hM.find hkt kx hxl
   have hbb := x43 kx es
   have run : ∀ arr' clock',(∀ ty,(Builtin.delete_ #[t,t'] ty #[.map (some (h.ρ l')),keyVal ks2 kx]).run P w = .ok (.tuple #[]) { w with heap := w.heap.setIfInBounds (h.ρ l') (.map arr' clock') }) →
     (execOp r o).run P w = .ok (.value (.tuple #[])) { w with heap := w.heap.setIfInBounds (h.ρ l') (.map arr' clock') } := fun arr' clock' hrun => by
    refine q25 ho (b := .delete) (by rw [hc]) r w _ fun consts => ?_
    rw [hc]
    simp [builtin,r0,r1,hrun]
   have htup : ∀ w',RelA w' h (.tuple #[]) (.tup []) := fun w' => ⟨[],rfl,rfl,fun j v x hv => by simp at hv⟩
   cases hfi : findI kx (es.map (·.1)) with
   |none =>
    rw [hfi] at hbb hf
    rw [hbb.2.2]
    refine ⟨_,_,arr,clock,run arr clock fun ty => ?_,.inl rfl,htup,hM⟩
    simp [Builtin.delete_,run_underlying hu,MapKept.run_getObj_map hb,hkt.check _ kx w hxl,hf,MapKept.run_setObj_map _ hb,Result.andThen]
   |some i =>
    rw [hfi] at hbb hf
    obtain ⟨⟨v0,hi,hfm⟩,_,h3⟩ := hbb
    rw [h3]
    have hlt : i < arr.size := by rw [hM.size];exact (List.getElem?_eq_some_iff.1 hi).1
    have hai : arr[i]? = some arr[i] := by simp [hlt]
    simp only [Option.bind_some] at hf
    rw [hai] at hf
    simp only [Option.map_some] at hf
    refine ⟨_,_,_,_,run _ _ fun ty => ?_,.inl rfl,htup,hM.erase i⟩
    simp [Builtin.delete_,run_underlying hu,MapKept.run_getObj_map hb,hkt.check _ kx w hxl,hf,MapKept.run_setObj_map _ hb,Result.andThen]
  ·cases hE
 ·cases hE
def effLenM (P : Program) (t : TypeId) (xs : List AV) (lL : Option (Nat × LV)) : Option Eff :=
 match mapOf P t,xs,lL with
 | some _,[.mp l],some (l',.map _ es) => some { val := .p (.d (.v (.int .i64 (es.length : Int)))),obl := l' = l }
 | some _,[.mp l],some (l',.obj (.map arr _)) => some { val := .p (.d (.v (.int .i64 (arr.size : Int)))),obl := l' = l }
 | _,_,_ => none
theorem x108 {o : Oper} {c : Call} (ho : o.op = .call c) {t : TypeId} {x : Operand} (hc : c = { callee := .builtin .len,args := #[x],argTypes := #[t] }) {xs : List AV} {lL : Option (Nat × LV)} {E : Eff} (hE : effLenM P t xs lL = some E) (hobl : E.obl) : OpSem P o xs lL E := by
 unfold effLenM at hE
 split at hE
 ·rename_i p l l' ks es hm
  cases hE
  have : l' = l := hobl
  subst this
  obtain ⟨kt,et⟩ := p
  have hu := z43 hm
  refine z12 fun B w h r hr hL => ⟨.int .i64 (es.length : Int),?_,q14 rfl⟩
  rw [ho,hc] at hr
  simp only [Op.operands,Call.operands] at hr
  have r0 : r x = .map (some (h.ρ l')) := hr.2 0 (r x) _ rfl rfl
  obtain ⟨arr,clock,c1,c2,c3,c4⟩ := hL _ _ rfl
  refine q25 ho (b := .len) (by rw [hc]) r w w fun consts => ?_
  rw [hc]
  simp [builtin,r0,Builtin.len_,run_underlying hu,MapKept.run_getObj_map c2,goInt,Result.andThen,c4.size]
 ·rename_i p l l' arr clock hm
  cases hE
  have : l' = l := hobl
  subst this
  obtain ⟨kt,et⟩ := p
  have hu := z43 hm
  refine z12 fun B w h r hr hL => ⟨.int .i64 (arr.size : Int),?_,q14 rfl⟩
  rw [ho,hc] at hr
  simp only [Op.operands,Call.operands] at hr
  have r0 : r x = .map (some (h.ρ l')) := hr.2 0 (r x) _ rfl rfl
  obtain ⟨c1,c2,c3⟩ := hL _ _ rfl
  refine q25 ho (b := .len) (by rw [hc]) r w w fun consts => ?_
  rw [hc]
  simp [builtin,r0,Builtin.len_,run_underlying hu,MapKept.run_getObj_map c2,goInt,Result.andThen]
 ·cases hE
def cvsAV : AV → Option (List CV)
 | .p (.agg ds) => some (ds.map fun d => .p (.d d))
 | .p (.d d) => some [.p (.d d)]
 | .gr _ _ sz n f => some [.p (.d (.sl sz n f))]
 | .loc l o => some [.loc l o]
 | .ow l gen sz n => some [.ow l gen sz n]
 | .mp l => some [.mp l]
 | .ag cs => some cs
 | _ => none
theorem j108 {w : World} {h : Gh} {v : Value} {x : AV} {cs : List CV} (hd : cvsAV x = some cs) (r : RelA w h v x) :
  RelCs w h v.cells.toList cs ∧ ∀ u ∈ v.cells.toList,u.oneCell' = true := by
 have one : ∀ {c : CV},v.oneCell' = true → RelCV w h v c → RelCs w h v.cells.toList [c] ∧ ∀ u ∈ v.cells.toList,u.oneCell' = true := by
  intro c h1 hr
  have hc : v.cells = #[v] := by cases v <;> first | rfl | (simp [Value.oneCell'] at h1)
  rw [hc]
  refine ⟨⟨rfl,fun j u c' hu hc' => ?_⟩,fun u hu => ?_⟩
  ·cases j with
   | zero => simp at hu hc';subst hu;subst hc';exact hr
   | succ j => simp at hu
  ·simp at hu;subst hu;exact h1
 unfold cvsAV at hd
 split at hd
 ·rename_i ds
  cases hd
  obtain ⟨h1,h2,h3⟩ := j24 (x := .p (.agg ds)) rfl r
  refine ⟨⟨by simpa using h1,fun j u c hu hc => ?_⟩,h3⟩
  rw [List.getElem?_map] at hc
  cases hdj : ds[j]? with
  | none => rw [hdj] at hc;cases hc
  | some d => rw [hdj] at hc;cases hc;exact .d _ _ (h2 j u d (by simpa using hu) hdj)
 ·rename_i d;cases hd;exact one (by cases r with | d _ _ r => exact r.one) r
 ·cases hd;exact one r.1.one (.d _ _ r.1)
 ·cases hd;exact one (by simp only [RelA] at r;subst r;rfl) r
 ·cases hd;exact one (by obtain ⟨_,⟨a,c,rfl,_⟩,_⟩ := r;rfl) r
 ·cases hd;exact one (by simp only [RelA] at r;subst r;rfl) r
 ·cases hd;obtain ⟨vs,rfl,hr,ho⟩ := r;exact ⟨by simpa [Value.cells] using hr,by simpa [Value.cells] using ho⟩
 ·cases hd
def fillC (place : Nat → Option (Nat × Nat)) : List CV → List (Nat × AV) → Option (List CV)
 | cells,[] => some cells
 |cells,(i,x) :: rest => match place i,cvsAV x with
  | some (off,sz),some ds => bif ds.length == sz && decide (off + ds.length ≤ cells.length) then fillC place (cells.take off ++ ds ++ cells.drop (off + ds.length)) rest else none
  | _,_ => none
def RelO (w : World) (h : Gh) (vs : List Value) (cs : List CV) : Prop := RelCs w h vs cs ∧ ∀ u ∈ vs,u.oneCell' = true
theorem x69 {w : World} {h : Gh} (place : Nat → Option (Nat × Nat)) : ∀ (parts : List (Nat × Value)) (xs : List AV) (cells : Array Value) (ds ds' : List CV),
  RelAs w h (parts.map (·.2)) xs → RelO w h cells.toList ds → fillC place ds ((parts.map (·.1)).zip xs) = some ds' →
  ∃ cells',Instr.fill place cells parts = some cells' ∧ RelO w h cells'.toList ds'
 | [],xs,cells,ds,ds',hr,hc,hf => by
  simp [fillC] at hf;subst hf;exact ⟨cells,rfl,hc⟩
 |(i,v) :: rest,xs,cells,ds,ds',hr,hc,hf => by
  cases xs with
  | nil => simp [RelAs] at hr
  |cons x xs =>
   have hx : RelA w h v x := hr.2 0 v x rfl rfl
   have hr' : RelAs w h (rest.map (·.2)) xs := ⟨by simpa using hr.1,fun j u y hu hy => hr.2 (j + 1) u y (by simpa using hu) (by simpa using hy)⟩
   simp only [List.map_cons,List.zip_cons_cons,fillC] at hf
   cases hp : place i with
   | none => simp [hp] at hf
   |some p =>
    obtain ⟨off,sz⟩ := p
    cases hd : cvsAV x with
    | none => simp [hp,hd] at hf
    |some es =>
     simp only [hp,hd] at hf
     cases hb : (es.length == sz && decide (off + es.length ≤ ds.length)) with
     | false => rw [hb] at hf;simp at hf
     |true =>
      rw [hb] at hf
      simp only [cond_true] at hf
      simp at hb
      obtain ⟨hb1,hb2⟩ := hb
      obtain ⟨⟨e1,e2⟩,e3⟩ := j108 hd hx
      simp only [Array.length_toList] at e1
      have hcl := hc.1.1
      simp at hcl
      obtain ⟨f1,f2⟩ := z51 off v.cells.toList 0 cells (by simp;omega)
      have hfold : (v.cells.zipIdx.foldl (fun (cs : Array Value) (x : Value × Nat) => match x with | (c,j) => cs.setIfInBounds (off + j) c) cells) =
        (v.cells.toList.zipIdx 0).foldl (fun (cs : Array Value) (x : Value × Nat) => cs.setIfInBounds (off + x.2) x.1) cells := by
       rw [← Array.foldl_toList];simp
      have hfill : Instr.fill place cells ((i,v) :: rest) = Instr.fill place ((v.cells.toList.zipIdx 0).foldl (fun (cs : Array Value) (x : Value × Nat) => cs.setIfInBounds (off + x.2) x.1) cells) rest := by
       rw [← hfold]
       simp only [Instr.fill,hp]
       rw [if_neg (by simp;omega)]
      have hC : RelO w h ((v.cells.toList.zipIdx 0).foldl (fun (cs : Array Value) (x : Value × Nat) => cs.setIfInBounds (off + x.2) x.1) cells).toList (ds.take off ++ es ++ ds.drop (off + es.length)) := by
       refine ⟨⟨by simp only [Array.length_toList];rw [f1];simp;omega,fun j u d hu hd' => ?_⟩,fun u hu => ?_⟩
       ·rw [Array.getElem?_toList,f2 j] at hu
        rw [z20 ds es off (by omega) j] at hd'
        simp only [Nat.add_zero,Array.length_toList] at hu
        by_cases hj : off ≤ j ∧ j < off + es.length
        ·rw [if_pos (by omega)] at hu
         rw [if_pos hj] at hd'
         exact e2 _ u d hu hd'
        ·rw [if_neg (by omega)] at hu
         rw [if_neg hj] at hd'
         exact hc.1.2 j u d (by simpa using hu) hd'
       ·obtain ⟨j,hj⟩ := List.getElem?_of_mem hu
        rw [Array.getElem?_toList,f2 j] at hj
        split at hj
        ·exact e3 u (List.mem_of_getElem? hj)
        ·exact hc.2 u (by rw [← Array.getElem?_toList] at hj;exact List.mem_of_getElem? hj)
      obtain ⟨cells',g1,g2⟩ := x69 place rest xs _ _ ds' hr' hC hf
      exact ⟨cells',hfill.trans g1,g2⟩
def effBuildC (P : Program) (t : TypeId) (is : List Nat) (xs : List AV) : Option Eff :=
 match tiOf P t with
 |some ti => match ti.k with
  | .struct fs => (fillC (fun i => (fs[i]?).map fun f => (f.1,f.2.1)) (ti.zero.map fun v => .p (.d (.v v))) (is.zip xs)).map fun cs => { val := .ag cs,obl := (ti.zero.all (·.oneCell')) = true }
  | _ => none
 | none => none
theorem q109 {o : Oper} {t : TypeId} {parts : Array (Nat × Operand)} (ho : o.op = .build t parts) {xs : List AV} {lL : Option (Nat × LV)} {E : Eff} (hE : effBuildC P t (parts.toList.map (·.1)) xs = some E) (hobl : E.obl) : OpSem P o xs lL E := by
 unfold effBuildC at hE
 split at hE
 ·rename_i ti hti
  obtain ⟨it,d,z,hit,hd,hz,hkk,hs,hzz⟩ := j12 hti
  have run : ∀ (r : Operand → Value) (w : World) (cells : Array Value),P.built t (parts.map fun (i,x) => (i,r x)).toList = some cells → (execOp r o).run P w = .ok (.value (.agg cells)) w := by
   intro r w cells hb
   simp only [execOp,ho]
   simp [run_build w t _ cells hb]
  split at hE
  ·rename_i fs hk
   cases hf : fillC (fun i => (fs[i]?).map fun f => (f.1,f.2.1)) (ti.zero.map fun v => .p (.d (.v v))) ((parts.toList.map (·.1)).zip xs) with
   | none => simp [hf] at hE
   |some cs =>
    simp only [hf,Option.map_some,Option.some.injEq] at hE;subst hE
    have hone : (ti.zero.all (·.oneCell')) = true := hobl
    rw [hk] at hkk
    obtain ⟨fields,rfl,hm⟩ := x34 hkk
    have hpl : fields.toList.mapM (fun f => (P.info? f.type).map fun i => (f.offset,i.size)) = some (fs.map fun f => (f.1,f.2.1)) := by
     have gen : ∀ (l : List Field) (r : List (Nat × Nat × Bool)),l.mapM (fieldOf P) = some r → l.mapM (fun f => (P.info? f.type).map fun i => (f.offset,i.size)) = some (r.map fun f => (f.1,f.2.1)) := by
      intro l
      induction l with
      | nil => intro r hr;simp at hr;subst hr;rfl
      |cons f l ih =>
       intro r hr
       simp only [List.mapM_cons] at hr
       cases hx : fieldOf P f with
       | none => simp [hx] at hr
       |some q =>
        cases hl : l.mapM (fieldOf P) with
        | none => simp [hx,hl] at hr
        |some r' =>
         simp [hx,hl] at hr
         subst hr
         obtain ⟨fi,fd,e1,e2,rfl⟩ := j34 hx
         simp [List.mapM_cons,e1,ih r' hl]
     exact gen _ _ hm
    have hbt : ∀ ps,P.built t ps = Instr.fill (fun i => (fs[i]?).map fun f => (f.1,f.2.1)) z.cells ps := by
     intro ps
     simp only [Program.built,hit,hd,hz,hpl]
     congr 1
     funext i
     simp
    refine z12 fun B w h r hr hL => ?_
    rw [j51 (parts := parts) (by rw [ho];rfl)] at hr
    have hz0 : RelO w h z.cells.toList (ti.zero.map fun v => .p (.d (.v v))) := by
     refine ⟨⟨by rw [hzz];simp,fun j u c hu hc => ?_⟩,fun u hu => ?_⟩
     ·rw [hzz,List.getElem?_map,hu] at hc
      cases hc
      exact .d _ _ (.v u (List.all_eq_true.1 hone u (by rw [hzz];exact List.mem_of_getElem? hu)))
     ·exact List.all_eq_true.1 hone u (by rw [hzz];exact hu)
    obtain ⟨cells',g1,g2⟩ := x69 (w := w) (h := h) (fun i => (fs[i]?).map fun f => (f.1,f.2.1)) ((parts.map fun (i,x) => (i,r x)).toList) xs z.cells _ cs hr hz0 (by rw [q52];exact hf)
    exact ⟨.agg cells',run r w cells' (by rw [hbt];exact g1),cells'.toList,by simp,g2⟩
  ·cases hE
 ·cases hE
def effFieldC (P : Program) (t : TypeId) (n : Nat) (xs : List AV) : Option Eff :=
 match tiOf P t with
 |some ti => match ti.k with
  | .struct fs => match fs[n]?,xs with
   | some (off,_,ag),[.ag cs] => bif ag then none else (cs[off]?).map fun c => { val := c.av }
   | _,_ => none
  | _ => none
 | none => none
theorem z109 {o : Oper} {t : TypeId} {x : Operand} {n : Nat} (ho : o.op = .field t x n) {xs : List AV} {lL : Option (Nat × LV)} {E : Eff} (hE : effFieldC P t n xs = some E) : OpSem P o xs lL E := by
 unfold effFieldC at hE
 split at hE
 ·rename_i ti hti
  split at hE
  ·rename_i fs hk
   split at hE
   ·rename_i off sz ag cs hn
    obtain ⟨_,d,z,hi,hd,hz,hkk,_,_⟩ := j12 hti
    rw [hk] at hkk
    obtain ⟨fields,rfl,hm⟩ := x34 hkk
    obtain ⟨f,hf,hff⟩ := z34 hm n _ hn
    obtain ⟨fi,fd,hfi,hfd,he⟩ := j34 hff
    simp only [Prod.mk.injEq] at he
    obtain ⟨rfl,rfl,rfl⟩ := he
    have hf' : fields[n]? = some f := by simpa using hf
    cases hag : isAggD fd with
    | true => rw [hag] at hE;simp at hE
    |false =>
     rw [hag] at hE;simp only [cond_false] at hE
     cases hc : cs[f.offset]? with
     | none => simp [hc] at hE
     |some c =>
      simp only [hc,Option.map_some,Option.some.injEq] at hE;subst hE
      refine z12 fun B w h r hr hL => ?_
      simp only [ho,Op.operands] at hr
      obtain ⟨vs,hv,⟨hl,hrr⟩,_⟩ := hr.2 0 (r x) _ rfl rfl
      have hlt : f.offset < vs.length := by rw [hl];exact (List.getElem?_eq_some_iff.1 hc).1
      have hvo : vs[f.offset]? = some vs[f.offset] := by simp [hlt]
      refine ⟨vs[f.offset],?_,(q41 c).1 (hrr _ _ _ hvo hc)⟩
      simp [execOp,ho,hv,Instr.field,run_underlying hd,hf',asAgg,part,z35 hfd,hag,hlt]
   ·cases hE
  ·cases hE
 ·cases hE
def effCopyO (P : Program) (ts : List TypeId) (xs : List AV) (lL : Option (Nat × LV)) : Option Eff :=
 match ts,xs,lL with
 | [t,t'],[.ow l gen sz n,x],some (l',.own e sz' n' gen' f) =>
  match tiOf P t,srcAV x with
  |some ti,some (szx,m,f') => match ti.k with
   | .slice _ szt by_ => some { val := .p (.d (.v (.int .i64 (n : Int)))),obl := (l' = l ∧ ti.k = .slice e szt by_ ∧ t' = t ∧ szt = sz ∧ sz' = sz ∧ szx = sz ∧ n' = n ∧ gen' = gen) ∧ m = n,upd := some (l,.own e sz n gen f') }
   | _ => none
  | _,_ => none
 | _,_,_ => none
theorem x109 {o : Oper} {c : Call} (ho : o.op = .call c) {s y : Operand} {t t' : TypeId} (hc : c = { callee := .builtin .copy,args := #[s,y],argTypes := #[t,t'] })
  {xs : List AV} {lL : Option (Nat × LV)} {E : Eff} (hE : effCopyO P [t,t'] xs lL = some E) (hobl : E.obl) : OpSem P o xs lL E := by
 unfold effCopyO at hE
 split at hE
 ·rename_i ts0 xs0 lL0 t1 t1' l gen sz n x l' e sz' n' gen' f heq
  cases heq
  split at hE
  ·rename_i ti szx m f' hti hsrc
   split at hE
   ·rename_i e1 szt by_ hk
    cases hE
    obtain ⟨⟨rfl,hke,rfl,rfl,rfl,rfl,rfl,rfl⟩,rfl⟩ := hobl
    obtain ⟨it,d,z,hit,hd,hz,hkk,hs,hzz⟩ := j12 hti
    rw [hk] at hke
    cases hke
    rw [hk] at hkk
    obtain ⟨rfl,ie,hie,hsz,hbb⟩ := z16 hkk
    intro B w h r hB hz0 hr hL
    have hL0 := hL _ _ rfl
    rw [ho,hc] at hr
    simp only [Op.operands,Call.operands] at hr
    have r0 : RelA w h (r s) (.ow l' gen' szx m) := hr.2 0 (r s) _ rfl rfl
    have r1 : RelA w h (r y) x := hr.2 1 (r y) _ rfl rfl
    obtain ⟨hμ,⟨olds,hown,hri⟩,hgO⟩ := hL _ _ rfl
    obtain ⟨q1,q2,q3⟩ := r0
    have hv := q3 hμ
    obtain ⟨news,hgiv⟩ := x52 (P := P) (tx := t') hd (j52 hsrc r1)
    have hnl := hgiv.src.newsLen
    have hgiv' : Src P ie.size t' (r y) m news w := by rw [hsz];exact hgiv.src
    have hone : ∀ v ∈ news,v.oneCell' = true := by
     intro v hv
     obtain ⟨k,hk⟩ := List.getElem?_of_mem hv
     have hkl := (List.getElem?_eq_some_iff.1 hk).1
     rw [hnl] at hkl
     have hpos : 0 < szx := by
      rcases Nat.eq_zero_or_pos szx with h0 | h0
      ·rw [h0] at hkl;omega
      ·exact h0
     have hi : k / szx < m := Nat.div_lt_of_lt_mul (by rw [Nat.mul_comm];exact hkl)
     have hj : k % szx < szx := Nat.mod_lt _ hpos
     have hfl := hgiv.len (k / szx) hi
     obtain ⟨u,hu,hr⟩ := hgiv.rel (k / szx) (k % szx) _ hi hj (List.getElem?_eq_getElem (by omega))
     rw [show k / szx * szx + k % szx = k from by rw [Nat.mul_comm];exact Nat.div_add_mod k szx,hk] at hu
     cases hu;exact hr.one
    have rel0 : RelA w h (.int .i64 (m : Int)) (.p (.d (.v (.int .i64 (m : Int))))) := q14 rfl
    rcases hown.2 with ⟨hnil,hn0⟩ | ⟨g0,cap,cur,hκ,hBg,hheap,hnc,hcm,hcs,htake⟩
    ·subst hn0
     have hn0' : news = [] := List.eq_nil_of_length_eq_zero (by rw [hnl];simp)
     refine ⟨_,.int .i64 0,w,h,q25 ho (b := .copy) (by rw [hc]) r w w fun consts => ?_,.inl rfl,rel0,?_,fun l2 L2 hl => ?_⟩
     ·rw [hc]
      simp [builtin,hv,hnil,Builtin.copy_,run_underlying hd,sizeOf,typeInfo,hie,hgiv'.len,hgiv'.cells,goInt,hn0']
     ·refine ⟨BelowS.refl _ _,fun _ _ _ => ⟨rfl,rfl⟩,Keep.refl _ _,hz0,fun _ _ => rfl,fun _ _ => rfl,fun _ _ => ⟨rfl,rfl⟩,fun _ _ _ => .inr ⟨rfl,rfl⟩⟩
     ·cases hl
      exact ⟨⟨hμ,⟨olds,hown,⟨fun i hi => by omega,fun i j d hi => by omega⟩⟩,hgO⟩,fun b hb => .inr ⟨rfl,_,rfl,hb⟩⟩
    ·obtain ⟨hg0,hB0⟩ := hgO g0 (by rw [hκ];rfl)
     have hfit : news.length ≤ cur.size := by rw [hnl,hcs];exact Nat.mul_le_mul_right _ hnc
     have hst := run_storeCells_at P g0 0 e news 0 cur w hheap (by simpa using hfit) hone
     simp only [Nat.add_zero,Nat.zero_add,List.take_zero,List.nil_append] at hst
     have tr : Trans B w h (w.setRow g0 (news ++ cur.toList.drop news.length).toArray) h (fun k => g0 = k) (some l') false := x35 hz0 hB0 hg0 _
     refine ⟨_,.int .i64 (m : Int),w.setRow g0 (news ++ cur.toList.drop news.length).toArray,h,q25 ho (b := .copy) (by rw [hc]) r w _ fun consts => ?_,.inl rfl,q14 rfl,?_,fun l2 L2 hl => ?_⟩
     ·rw [hc]
      simp [builtin,hv,hκ,Builtin.copy_,run_underlying hd,sizeOf,typeInfo,hie,hgiv'.len,hgiv'.cells,goInt,hst]
     ·have : ownOf h (some (l',LV.own e szx m gen' f)) ⟨.p (.d (.v (.int .i64 (m : Int)))),(l' = l' ∧ ti.k = .slice e szx by_ ∧ t' = t' ∧ szx = szx ∧ szx = szx ∧ szx = szx ∧ m = m ∧ gen' = gen') ∧ m = m,some (l',.own e szx m gen' f'),false⟩ = (fun k => g0 = k) := by
       funext k;simp [ownOf,inB,hκ,Value.ownBlock]
      exact this ▸ tr
     ·cases hl
      have hh := setRow_heap w g0 cur (news ++ cur.toList.drop news.length).toArray e _ hheap
      refine ⟨⟨hμ,⟨news,⟨hnl,.inr ⟨g0,cap,_,hκ,Nat.zero_le _,hh,hnc,hcm,by simp;omega,?_⟩⟩,?_⟩,hgO⟩,fun b hb => .inr ⟨rfl,_,rfl,hb⟩⟩
      ·rw [← hnl];simp
      ·have hg := q67 (n := 0) (f := f') (olds := []) tr.keep (by simp) ⟨fun i hi => by omega,fun i j d hi => by omega⟩ hgiv
       simp only [Nat.zero_add,List.nil_append] at hg
       have e : catF 0 f' f' = f' := by funext i;simp [catF]
       rw [e] at hg
       exact hg
   ·cases hE
  ·cases hE
 ·cases hE
end Go.Proofs.Ytjfammnjpeeahaa.AL
namespace Go.Proofs.Ytjfammnjpeeahaa.AL
open Go.RowKit
variable {P : Program}
theorem j69 {B : Nat → Prop} {w : World} {h : Gh} {l b : Nat} {M : Nat → Option Ent} {N : Ent} {cur cur' : Array Value} {f' : Nat → List Dat} (hz : GZ w h.g) (hL : LocOK B w h l (.raw M)) (hM : M b = some N) (hb : w.heap[b]? = some (.cells cur N.e (0,0)))
  (hs : cur'.size = cur.size) (hr : RowIs w h.g N.sz N.n (cur'.toList.take (N.n * N.sz)) f') :
  Trans B w h (w.setRow b cur') h (inB h l (.raw M)) (some l) false ∧ (LocOK B (w.setRow b cur') h l (.raw (setM M b (some { N with f := f' }))) ∧ ∀ b',inB h l (.raw (setM M b (some { N with f := f' }))) b' → w.heap.size ≤ b' ∨ (false = false ∧ ∃ L,some (l,LV.raw M) = some (l,L) ∧ inB h l L b')) := by
 obtain ⟨c7,⟨cur0,c2,c5,c3,c4,c8⟩,c6⟩ := hL b N hM
 rw [hb] at c2
 cases c2
 have tr : Trans B w h (w.setRow b cur') h (fun k => b = k) (some l) false := x35 hz c7 c6 _
 have hh := setRow_heap w b cur cur' N.e _ hb
 refine ⟨⟨tr.below,fun k hk hno => tr.blocks k hk fun e => hno (by subst e;simp [inB,hM]),tr.keep,tr.gz,tr.gB,tr.ρ,tr.κ,tr.up⟩,fun k K hK => ?_,fun b' hb' => .inr ⟨rfl,_,rfl,?_⟩⟩
 ·by_cases hkb : k = b
  ·subst hkb
   rw [x21] at hK
   cases hK
   exact ⟨c7,⟨_,hh,hs.trans c5,c3,c4,hr.keep tr.keep⟩,c6⟩
  ·rw [j36 _ _ hkb] at hK
   obtain ⟨d1,d2,d3⟩ := hL k K hK
   have hlt : k < w.heap.size := by obtain ⟨_,hh,_⟩ := d2;exact (Array.getElem?_eq_some_iff.1 hh).1
   exact ⟨d1,d2.keep tr.keep (tr.blocks k hlt fun e => hkb e.symm).1,d3⟩
 ·simp only [inB,setM] at hb' ⊢
  split at hb'
  ·rename_i e;subst e;simp [hM]
  ·exact hb'
theorem q70 {w : World} {g : Nat → Nat} {sz N n m : Nat} {cur : List Value} {news : List Value} {f f' : Nat → List Dat} (hN : N * sz ≤ cur.length) (hnm : n + m ≤ N) (hr : RowIs w g sz N (cur.take (N * sz)) f) (hl : news.length = m * sz)
  (hn : ∀ i,i < m → (f' i).length = sz ∧ ∀ j d,j < sz → (f' i)[j]? = some d → ∃ u,news[i * sz + j]? = some u ∧ RelD w g u d) :
  RowIs w g sz N ((cur.take (n * sz) ++ news ++ cur.drop (n * sz + news.length)).take (N * sz)) (fun k => if n ≤ k ∧ k < n + m then f' (k - n) else f k) := by
 have hle : (n + m) * sz ≤ N * sz := Nat.mul_le_mul_right _ hnm
 rw [Nat.add_mul] at hle
 refine ⟨fun k hk => ?_,fun k j d hk hj hd => ?_⟩
 ·simp only []
  split
  ·exact (hn _ (by omega)).1
  ·exact hr.1 k hk
 ·have hkq := x20 hk hj
  rw [List.getElem?_take_of_lt hkq,z20 cur news (n * sz) (by omega)]
  simp only [] at hd
  by_cases hin : n ≤ k ∧ k < n + m
  ·rw [if_pos hin] at hd
   obtain ⟨u,h1,h2⟩ := (hn (k - n) (by omega)).2 j d hj hd
   have e1 : n * sz ≤ k * sz := Nat.mul_le_mul_right _ hin.1
   have e2 : (k - n) * sz = k * sz - n * sz := Nat.sub_mul _ _ _
   have e3 : (k - n) * sz + j < m * sz := x20 (by omega) hj
   rw [if_pos (by omega)]
   refine ⟨u,?_,h2⟩
   rw [← h1];congr 1;omega
  ·rw [if_neg hin] at hd
   have hno : ¬ (n * sz ≤ k * sz + j ∧ k * sz + j < n * sz + news.length) := by
    intro ⟨a1,a2⟩
    apply hin
    refine ⟨Nat.le_of_not_lt fun hlt => ?_,Nat.lt_of_not_le fun hge => ?_⟩
    ·have : (k + 1) * sz ≤ n * sz := Nat.mul_le_mul_right _ hlt
     rw [Nat.add_mul] at this;omega
    ·have : (n + m) * sz ≤ k * sz := Nat.mul_le_mul_right _ hge
     rw [Nat.add_mul] at this;omega
   rw [if_neg hno]
   obtain ⟨u,h1,h2⟩ := hr.2 k j d hk hj hd
   rw [List.getElem?_take_of_lt hkq] at h1
   exact ⟨u,h1,h2⟩
def effAppendX (P : Program) (ts : List TypeId) (xs : List AV) (lL : Option (Nat × LV)) : Option Eff :=
 match ts,xs,lL with
 | [t,t'],[.p (.d (.v (.slice (some ⟨b,0,none⟩) n c))),.p (.d (.v (.slice (some ⟨b',o,none⟩) m _)))],some (l,.raw M) =>
  match tiOf P t,M b with
  |some ti,some E => match ti.k with
   | .slice _ sz _ => some { val := .p (.d (.v (.slice (some ⟨b,0,none⟩) (n + m) c))),obl := (t' = t ∧ E.sz = sz) ∧ n + m ≤ c ∧ n + m ≤ E.n ∧ b' = b ∧ o = o / sz * sz ∧ o / sz + m ≤ E.n,upd := some (l,.raw (setM M b (some { E with f := fun k => if n ≤ k ∧ k < n + m then E.f (o / sz + (k - n)) else E.f k }))) }
   | _ => none
  | _,_ => none
 | _,_,_ => none
theorem j109 {o : Oper} {c : Call} (ho : o.op = .call c) {s y : Operand} {t t' : TypeId} (hc : c = { callee := .builtin .append,args := #[s,y],argTypes := #[t,t'] })
  {xs : List AV} {lL : Option (Nat × LV)} {E : Eff} (hE : effAppendX P [t,t'] xs lL = some E) (hobl : E.obl) : OpSem P o xs lL E := by
 unfold effAppendX at hE
 split at hE
 ·rename_i ts0 xs0 lL0 t1 t1' b n cp b' oo m cy l M heq
  cases heq
  split at hE
  ·rename_i ti N hti hM
   split at hE
   ·rename_i e1 sz by_ hk
    cases hE
    obtain ⟨⟨rfl,rfl⟩,hcap,hfit,rfl,hoo,hsrc⟩ := hobl
    obtain ⟨it,d,z,hit,hd,hz,hkk,hs,hzz⟩ := j12 hti
    rw [hk] at hkk
    obtain ⟨rfl,ie,hie,hsz,hbb⟩ := z16 hkk
    intro B w h r hB hz0 hr hL
    rw [ho,hc] at hr
    simp only [Op.operands,Call.operands] at hr
    have r0 := q13 (hr.2 0 (r s) _ rfl rfl)
    have r1 := q13 (hr.2 1 (r y) _ rfl rfl)
    have hL := hL _ _ rfl
    obtain ⟨c7,⟨cur,c2,c5,c3,c4,c8⟩,c6⟩ := hL b' N hM
    have hNc : N.n * N.sz ≤ N.cap * N.sz := Nat.mul_le_mul_right _ c3
    generalize hq : oo / N.sz = q at *
    have hqm : (q + m) * N.sz ≤ N.n * N.sz := Nat.mul_le_mul_right _ hsrc
    have hnm : (n + m) * N.sz ≤ N.n * N.sz := Nat.mul_le_mul_right _ hfit
    rw [Nat.add_mul] at hqm hnm
    have hnl : ((cur.toList.drop (q * N.sz)).take (m * N.sz)).length = m * N.sz := by simp;omega
    have cell : ∀ i j,i < m → j < N.sz → ((cur.toList.drop (q * N.sz)).take (m * N.sz))[i * N.sz + j]? = cur[(q + i) * N.sz + j]? := fun i j hi hj => by
     rw [List.getElem?_take_of_lt (x20 hi hj),List.getElem?_drop,Array.getElem?_toList]
     congr 1;rw [Nat.add_mul];omega
    have hsrc' : Src P ie.size t' (r y) m ((cur.toList.drop (q * N.sz)).take (m * N.sz)) w := by
     rw [hsz,r1]
     refine Src.ofSlice w hd _ m cy _ hnl (fun j v hv => ?_) (fun v hv => ?_)
     ·have hlt : j < m * N.sz := by have := (List.getElem?_eq_some_iff.1 hv).1;omega
      rw [List.getElem?_take_of_lt hlt,List.getElem?_drop,Array.getElem?_toList] at hv
      rw [j15,z15 c2,hoo]
      exact hv
     ·obtain ⟨k,hk',hv'⟩ := List.mem_iff_getElem.1 hv
      have hlt : k < m * N.sz := by omega
      obtain ⟨d1,d2,d3⟩ := x42 hlt
      have hx := cell (k / N.sz) (k % N.sz) d1 d2
      rw [d3,List.getElem?_eq_getElem hk',hv'] at hx
      obtain ⟨u,dd,g1,g2,g3⟩ := c8.at (i := q + k / N.sz) (by omega) d2
      rw [g2] at hx
      cases hx
      exact g3.one
    have hrun := z52 (P := P) w t' t' o.type e1 ie hd hie b' n cp cur N.e (r y) m _ hsrc' hcap c2 (by rw [hsz,hnl];omega)
    rw [hsz] at hrun
    have hw : RowIs w h.g N.sz N.n (((cur.toList.take (n * N.sz) ++ ((cur.toList.drop (q * N.sz)).take (m * N.sz)) ++ cur.toList.drop (n * N.sz + ((cur.toList.drop (q * N.sz)).take (m * N.sz)).length)).toArray).toList.take (N.n * N.sz)) (fun k => if n ≤ k ∧ k < n + m then N.f (q + (k - n)) else N.f k) := by
     refine q70 (f' := fun i => N.f (q + i)) (by simp;omega) hfit c8 hnl fun i hi => ⟨c8.1 _ (by omega),fun j dd hj hdd => ?_⟩
     rw [cell i j hi hj]
     exact c8.cell (by omega) hj hdd
    obtain ⟨k1,k2⟩ := j69 hz0 hL hM c2 (by simp only [List.size_toArray,List.length_append,List.length_take,List.length_drop,Array.length_toList];omega) hw
    exact ⟨_,_,_,h,z36 ho hc r w _ (by rw [r0];exact hrun),.inl rfl,q14 rfl,k1,fun l2 L2 hl => by cases hl;exact k2⟩
   ·cases hE
  ·cases hE
 ·cases hE
def effClearX (P : Program) (t : TypeId) (xs : List AV) (lL : Option (Nat × LV)) : Option Eff :=
 match xs,lL with
 | [.p (.d (.v (.slice (some ⟨b,o,none⟩) m _)))],some (l,.raw M) =>
  match tiOf P t,M b with
  |some ti,some E => match ti.k with
   | .slice e sz _ => match tiOf P e with
    | some te => some { val := .top,obl := E.sz = sz ∧ o = o / sz * sz ∧ o / sz + m ≤ E.n ∧ 0 < m ∧ te.zero.length = sz ∧ te.zero.all (·.oneCell') = true,upd := some (l,.raw (setM M b (some { E with f := fun k => if o / sz ≤ k ∧ k < o / sz + m then te.zero.map .v else E.f k }))) }
    | none => none
   | _ => none
  | _,_ => none
 | _,_ => none
theorem z70 (z : Array Value) (n i j : Nat) (hi : i < n) (hj : j < z.size) : (Builtin.zeroCells z n).toList[i * z.size + j]? = z[j]? := by
 have hlt := x20 hi hj
 have e2 : (i * z.size + j) % z.size = j := by rw [Nat.mul_comm,Nat.mul_add_mod,Nat.mod_eq_of_lt hj]
 unfold Builtin.zeroCells
 rw [Array.getElem?_toList,Array.getElem?_map,Array.getElem?_range,if_pos hlt]
 simp [e2,hj]
theorem q110 {o : Oper} {c : Call} (ho : o.op = .call c) {s : Operand} {t : TypeId} (hc : c = { callee := .builtin .clear,args := #[s],argTypes := #[t] })
  {xs : List AV} {lL : Option (Nat × LV)} {E : Eff} (hE : effClearX P t xs lL = some E) (hobl : E.obl) : OpSem P o xs lL E := by
 unfold effClearX at hE
 split at hE
 ·rename_i xs0 lL0 b oo m cy l M
  split at hE
  ·rename_i ti N hti hM
   split at hE
   ·rename_i e sz by_ hk
    split at hE
    ·rename_i te hte
     cases hE
     obtain ⟨rfl,hoo,hsrc,hm,hzl,hone⟩ := hobl
     obtain ⟨it,d,z,hit,hd,hz,hkk,hs,hzz⟩ := j12 hti
     rw [hk] at hkk
     obtain ⟨rfl,ie,hie,hsz,hbb⟩ := z16 hkk
     obtain ⟨ie',de,ze,hie',hde,hze,_,hse,hzze⟩ := j12 hte
     intro B w h r hB hz0 hr hL
     rw [ho,hc] at hr
     simp only [Op.operands,Call.operands] at hr
     have r0 := q13 (hr.2 0 (r s) _ rfl rfl)
     have hL := hL _ _ rfl
     obtain ⟨c7,⟨cur,c2,c5,c3,c4,c8⟩,c6⟩ := hL b N hM
     have hNc : N.n * N.sz ≤ N.cap * N.sz := Nat.mul_le_mul_right _ c3
     generalize hq : oo / N.sz = q at *
     have hqm : (q + m) * N.sz ≤ N.n * N.sz := Nat.mul_le_mul_right _ hsrc
     rw [Nat.add_mul] at hqm
     have hzs : ze.cells.size = N.sz := by rw [← hzl,hzze];simp
     have hnl : (Builtin.zeroCells ze.cells m).toList.length = m * N.sz := by rw [Array.length_toList,size_zeroCells,hzs]
     have hone' : ∀ v ∈ (Builtin.zeroCells ze.cells m).toList,v.oneCell' = true := by
      intro v hv
      obtain ⟨k,hk',hv'⟩ := List.mem_iff_getElem.1 hv
      have hlt : k < m * ze.cells.size := by rw [hzs];omega
      obtain ⟨d1,d2,d3⟩ := x42 hlt
      have hx := z70 ze.cells m (k / ze.cells.size) (k % ze.cells.size) d1 d2
      rw [d3,List.getElem?_eq_getElem hk',hv'] at hx
      rw [List.all_eq_true] at hone
      refine hone v ?_
      rw [hzze]
      have := hx.symm
      rw [← Array.getElem?_toList] at this
      exact List.mem_of_getElem? this
     have hst := run_storeCells_at P b oo N.e (Builtin.zeroCells ze.cells m).toList 0 cur w c2 (by rw [hnl,hoo];omega) hone'
     simp only [Nat.add_zero] at hst
     rw [hoo] at hst
     have hrun : ∀ ty,(Builtin.clear_ #[t] ty #[r s]).run P w = .ok (.tuple #[]) (w.setRow b (cur.toList.take (q * N.sz) ++ (Builtin.zeroCells ze.cells m).toList ++ cur.toList.drop (q * N.sz + (Builtin.zeroCells ze.cells m).toList.length)).toArray) := by
      intro ty
      rw [r0]
      obtain ⟨m',rfl⟩ : ∃ m',m = m' + 1 := ⟨m - 1,by omega⟩
      have hzv : (zeroValue e).run P w = .ok ze w := by simp [zeroValue,typeInfo,hie',hze]
      rw [hoo]
      simp [Builtin.clear_,run_underlying hd,hzv,hst]
     have hw : RowIs w h.g N.sz N.n (((cur.toList.take (q * N.sz) ++ (Builtin.zeroCells ze.cells m).toList ++ cur.toList.drop (q * N.sz + (Builtin.zeroCells ze.cells m).toList.length)).toArray).toList.take (N.n * N.sz)) (fun k => if q ≤ k ∧ k < q + m then te.zero.map .v else N.f k) := by
      refine q70 (f' := fun _ => te.zero.map .v) (by simp;omega) hsrc c8 hnl fun i hi => ⟨by simp [hzl],fun j dd hj hdd => ?_⟩
      rw [← hzs,z70 ze.cells m i j hi (by omega)]
      rw [hzze,List.getElem?_map,Array.getElem?_toList] at hdd
      cases hzj : ze.cells[j]? with
      | none => rw [hzj] at hdd;cases hdd
      |some v =>
       rw [hzj] at hdd
       cases hdd
       refine ⟨v,rfl,.v _ ?_⟩
       rw [List.all_eq_true] at hone
       refine hone v ?_
       rw [hzze]
       rw [← Array.getElem?_toList] at hzj
       exact List.mem_of_getElem? hzj
     obtain ⟨k1,k2⟩ := j69 hz0 hL hM c2 (by simp only [List.size_toArray,List.length_append,List.length_take,List.length_drop,Array.length_toList,size_zeroCells,hzs];omega) hw
     refine ⟨.value (.tuple #[]),.tuple #[],_,h,q25 ho (b := .clear) (by rw [hc]) r w _ fun consts => ?_,.inl rfl,trivial,k1,fun l2 L2 hl => by cases hl;exact k2⟩
     rw [hc]
     simp [builtin,hrun]
    ·cases hE
   ·cases hE
  ·cases hE
 ·cases hE
end Go.Proofs.Ytjfammnjpeeahaa.AL
namespace Go.Proofs.Ytjfammnjpeeahaa.AL
open Go.RowKit
variable {P : Program}
def ACalls (P : Program) (f : FuncId) (xs : List PV) (Q : List PV → Prop) : Prop :=
 ∀ (w : World) (g : Nat → Nat) (vs : List Value),GZ w g → RelPs w g vs xs →
  CallRes P (fun v w' => ∃ g' rs,Ext w g w' g' ∧ Q rs ∧ RelR w' g' v rs) ((callFunc f vs.toArray).run P w)
theorem ACalls.mono {P : Program} {f : FuncId} {xs : List PV} {Q Q' : List PV → Prop} (h : ACalls P f xs Q) (hq : ∀ r,Q r → Q' r) : ACalls P f xs Q' := by
 intro w g vs hz hr
 have := h w g vs hz hr
 unfold CallRes at *
 split at this
 ·exact this.mono fun e w' ⟨v,he,g',rs,h1,h2,h3⟩ => ⟨v,he,g',rs,h1,hq _ h2,h3⟩
 ·obtain ⟨g',rs,h1,h2,h3⟩ := this;exact ⟨g',rs,h1,hq _ h2,h3⟩
 ·exact this.elim
theorem z110 {B : Nat → Prop} {w W : World} {h : Gh} (hz : GZ w h.g) (l : Nat) (hbelow : BelowS B w W) (hbl : ∀ b,b < w.heap.size → W.heap[b]? = w.heap[b]?) :
  Trans B w h W { h with ρ := setG h.ρ l w.heap.size } (fun _ => False) (some l) true where
 below := hbelow
 blocks := fun b hb _ => ⟨hbl b hb,rfl⟩
 keep := by
  refine ⟨fun b => Nat.le_refl _,fun b q hq => ?_⟩
  have hlt : b < w.heap.size := by
   by_cases hlt : b < w.heap.size
   ·exact hlt
   ·rw [hz b (by omega)] at hq;omega
  exact World.cell?_of_block (w := w) (hbl b hlt)
 gz := fun b hb => hz b (by have := hbelow.size;omega)
 gB := fun _ _ => rfl
 ρ := fun l' hl' => by
  have : l' ≠ l := fun e => hl' rfl (by rw [e])
  simp [setG,this]
 κ := fun _ _ => ⟨rfl,rfl⟩
 up := fun _ _ hf => by cases hf
theorem x70 {o : Oper} {xs : List AV} {lL : Option (Nat × LV)} {l : Nat} {L : LV} {x : AV} {obl : Prop} (hgrow : ∀ h,inB h l L = (fun b => h.ρ l = b))
  (H : ∀ (w : World) (h : Gh) (r : Operand → Value),GZ w h.g → RelAs w h (o.op.operands.toList.map r) xs →
   ∃ v W,(execOp r o).run P w = .ok (.value v) W ∧ (∀ B : Nat → Prop,NewIn B w → BelowS B w W) ∧ (∀ b,b < w.heap.size → W.heap[b]? = w.heap[b]?) ∧ RelA W { h with ρ := setG h.ρ l w.heap.size } v x ∧
    ∀ B : Nat → Prop,NewIn B w → LocOK B W { h with ρ := setG h.ρ l w.heap.size } l L) : OpSem P o xs lL ⟨x,obl,some (l,L),true⟩ := by
 intro B w h r hB hz hr hL
 obtain ⟨v,W,h1,h2,h3,h4,h5⟩ := H w h r hz hr
 refine ⟨_,_,_,{ h with ρ := setG h.ρ l w.heap.size },h1,.inl rfl,h4,?_,fun l' L' hl => ?_⟩
 ·have : ownOf h lL ⟨x,obl,some (l,L),true⟩ = (fun _ => False) := rfl
  rw [this];exact z110 hz l (h2 B hB) h3
 ·cases hl
  refine ⟨h5 B hB,fun b hb => .inl ?_⟩
  rw [hgrow] at hb
  simp [setG] at hb
  omega
theorem x110 {o : Oper} {xs : List AV} {lL : Option (Nat × LV)} {l sz : Nat} {e : TypeId} {f : Nat → List Dat} {obl : Prop}
  (H : ∀ (w : World) (h : Gh) (r : Operand → Value),RelAs w h (o.op.operands.toList.map r) xs → (execOp r o).run P w = .ok (.value (.slice (some ⟨w.heap.size,0,none⟩) 0 0)) (w.alloc (.cells #[] e))) :
  OpSem P o xs lL ⟨.gr l 0 sz 0 f,obl,some (l,.grow e sz 0 0),true⟩ := by
 intro B w h r hB hz hr hL
 let v : Value := .slice (some ⟨w.heap.size,0,none⟩) 0 0
 let h' : Gh := { h with κ := fun k => if k = l then v else h.κ k,μ := fun k => if k = l then 0 else h.μ k }
 have nl : h'.κ l = v := by simp [h']
 refine ⟨_,v,w.alloc (.cells #[] e),h',H w h r hr,.inl rfl,⟨.sl0 _ _ _ _,by simp [h'],fun _ => nl.symm⟩,?_,fun l' L' hl => ?_⟩
 ·have : ownOf h lL ⟨.gr l 0 sz 0 f,obl,some (l,.grow e sz 0 0),true⟩ = (fun _ => False) := rfl
  rw [this]
  have t := q31 hB hz (.cells #[] e) l
  refine ⟨t.below,t.blocks,t.keep,t.gz,t.gB,fun _ _ => rfl,fun k hk => ?_,fun _ _ hf => by cases hf⟩
  have : k ≠ l := fun e => hk (by rw [e];rfl)
  simp [h',this]
 ·cases hl
  refine ⟨⟨by simp [h'],⟨[],?_⟩,fun b c hb => ?_,fun b hb => ?_⟩,fun b hb => .inl ?_⟩
  ·rw [nl];exact World.ownsRow_made w #[] 0 (Nat.zero_le _) (by unfold maxLen;omega) (by simp)
  ·rw [nl] at hb
   simp only [v,Value.slice.injEq,Option.some.injEq,Addr.mk.injEq,and_true] at hb
   rw [← hb.1]
   simp only [Nat.zero_mul]
   exact hz _ (Nat.le_refl _)
  ·rw [nl] at hb
   simp only [v,Value.ownBlock,Option.some.injEq] at hb
   exact hb ▸ hB _ (Nat.le_refl _)
  ·simp only [inB,nl,v,Value.ownBlock,Option.some.injEq] at hb
   omega
def effBuildSlice0 (P : Program) (M : List Nat) (t : TypeId) (dst : Option Tmp) (is : List Nat) : Option Eff :=
 match tiOf P t,dst with
 |some ti,some d => match ti.k with
  | .slice e sz _ => match tiOf P e with
   | some te => bif M.contains d then some { val := .gr d 0 sz 0 fun _ => [],obl := is = [],upd := some (d,.grow e sz 0 0),fresh := true }
     else some { val := .p (.d (.sl sz 0 fun _ => [])),obl := is = [] }
   | none => none
  | _ => none
 | _,_ => none
theorem j110 {M : List Nat} {o : Oper} {t : TypeId} {parts : Array (Nat × Operand)} (ho : o.op = .buildSlice t 0 parts) {xs : List AV} {lL : Option (Nat × LV)} {E : Eff} (hE : effBuildSlice0 P M t o.dst (parts.toList.map (·.1)) = some E) (hobl : E.obl) : OpSem P o xs lL E := by
 unfold effBuildSlice0 at hE
 split at hE
 ·rename_i ti d hti hdst
  split at hE
  ·rename_i e sz by_ hk
   split at hE
   ·rename_i te hte
    obtain ⟨it,d',z,hit,hd,hz,hkk,hs,hzz⟩ := j12 hti
    rw [hk] at hkk
    obtain ⟨rfl,ie,hie,hsz,_⟩ := z16 hkk
    have key : parts = #[] → ∀ (w : World) (r : Operand → Value),(execOp r o).run P w = .ok (.value (.slice (some ⟨w.heap.size,0,none⟩) 0 0)) (w.alloc (.cells #[] e)) := by
     intro hp w r
     subst hp
     have := j66 (P := P) w t e ie hd hie
     simp only [execOp,ho]
     simp [this]
    cases hM : M.contains d
    ·rw [hM] at hE
     cases hE
     have hp : parts = #[] := by simpa using hobl
     refine x40 fun w h r hz0 hr => ⟨_,_,_,key hp w r,.d _ _ (.sl0 _ _ _ _)⟩
    ·rw [hM] at hE
     cases hE
     have hp : parts = #[] := by simpa using hobl
     exact x110 fun w h r hr => key hp w r
   ·cases hE
  ·cases hE
 ·cases hE
def nilR : List AV → Bool
 | [_,.p (.d (.v (.slice none _ _)))] => true
 | _ => false
def nilAV : AV → Option (Bool × Prop)
 | .p (.d (.v (.slice a _ _))) => some (a.isNone,True)
 | .p (.d (.sl _ n _)) => some (false,0 < n)
 | .gr _ _ _ n _ => some (false,0 < n)
 | .row .. => some (false,True)
 | .ow _ _ _ n => some (false,0 < n)
 | _ => none
theorem q111 {w : World} {h : Gh} {x : AV} {b : Bool} {q : Prop} (hx : nilAV x = some (b,q)) (hq : q) {v : Value} (r : RelA w h v x) : ∃ a n c,v = .slice a n c ∧ a.isNone = b := by
 unfold nilAV at hx
 have hsl : ∀ {sz n : Nat} {f : Nat → List Dat},0 < n → RelD w h.g v (.sl sz n f) → ∃ a n c,v = .slice a n c ∧ a.isNone = false := by
  intro sz n f hn rd
  cases rd with
  | sl0 => omega
  | sl b off _ c => exact ⟨_,_,_,rfl,rfl⟩
 split at hx
 ·cases hx;exact ⟨_,_,_,q13 r,rfl⟩
 ·cases hx;cases r with | d _ _ r => exact hsl hq r
 ·cases hx;exact hsl hq r.1
 ·cases hx;obtain ⟨c,hv,_⟩ := r;exact ⟨_,_,_,hv,rfl⟩
 ·cases hx
  obtain ⟨_,⟨a,c,hv,ha⟩,_⟩ := r
  obtain ⟨b,rfl⟩ := ha hq
  exact ⟨_,_,_,hv,rfl⟩
 ·cases hx
def effNil' (P : Program) (op : BinOp) (t : TypeId) (xs : List AV) : Option Eff :=
 match tiOf P t,xs with
 |some ti,[x,_] => match ti.k,nilAV x with
  | .slice ..,some (b,q) => match op with
   | .eql => some { val := .p (.d (.v (.bool b))),obl := q }
   | .neq => some { val := .p (.d (.v (.bool (!b)))),obl := q }
   | _ => none
  | _,_ => none
 | _,_ => none
theorem z111 {o : Oper} {op : BinOp} {t t' : TypeId} {x y : Operand} (ho : o.op = .binOp op t x y t') {xs : List AV} {lL : Option (Nat × LV)} {E : Eff} (hn : nilR xs = true) (hE : effNil' P op t xs = some E) (hobl : E.obl) : OpSem P o xs lL E := by
 unfold nilR at hn
 split at hn
 ·rename_i z n' c'
  unfold effNil' at hE
  split at hE
  ·rename_i ti z' y' hti hxs
   cases hxs
   split at hE
   ·rename_i e sz by_ b q hk hz
    obtain ⟨it,d',zz,hit,hd,hzz,hkk,_,_⟩ := j12 hti
    rw [hk] at hkk
    obtain ⟨rfl,_⟩ := z16 hkk
    have fin : ∀ {u : Value} {obl : Prop},q → u.oneCell' = true → (∀ w a n c,a.isNone = b → (binOp op t (.slice a n c) (.slice none n' c')).run P w = .ok u w) → OpSem P o [z,.p (.d (.v (.slice none n' c')))] lL ⟨.p (.d (.v u)),obl,none,false⟩ := by
     intro u obl hq hu hrun
     refine z12 fun B w h r hr hL => ?_
     simp only [ho,Op.operands] at hr
     obtain ⟨a,n,c,hv,ha⟩ := q111 hz hq (hr.2 0 (r x) _ rfl rfl)
     exact ⟨u,z23 ho r w hv (q13 (hr.2 1 (r y) _ rfl rfl)) (by simp [eqGuard_at_slice]) (hrun w a n c ha),q14 hu⟩
    split at hE
    ·cases hE
     exact fin hobl rfl fun w a n c ha => by rw [Lib.run_eql_slice_nil w t e a n c n' c' hd,ha]
    ·cases hE
     exact fin hobl rfl fun w a n c ha => by rw [run_neq_slice_nil_any w t e a n c n' c' hd,ha]
    ·cases hE
   ·cases hE
  ·cases hE
 ·cases hn
def effMake (P : Program) (t : TypeId) (dst : Option Tmp) (xs : List AV) : Option Eff :=
 match tiOf P t,dst,xs with
 |some ti,some d,[.p (.d (.v (.int _ n))),.p (.d (.v (.int _ c)))] => match ti.k with
  | .slice e 1 by_ => match tiOf P e with
   |some te => match te.zero with
    | [z] => some { val := .row d 1 0 n.toNat,obl := (0 ≤ n ∧ c = n ∧ by_ * n.toNat ≤ 140737488355328 ∧ n ≤ 140737488355328) ∧ z.oneCell' = true,upd := some (d,.arr e n.toNat fun _ => .v z),fresh := true }
    | _ => none
   | none => none
  | _ => none
 | _,_,_ => none
theorem x111 {v : Value} (h1 : v.oneCell' = true) : v.cells = #[v] := by
 cases v <;> first | rfl | (simp [Value.oneCell'] at h1)
theorem j111 {o : Oper} {t : TypeId} {x y : Operand} (ho : o.op = .makeSlice t x y) {xs : List AV} {lL : Option (Nat × LV)} {E : Eff} (hE : effMake P t o.dst xs = some E) (hobl : E.obl) : OpSem P o xs lL E := by
 unfold effMake at hE
 split at hE
 ·rename_i ti d k n k' c hti hd
  split at hE
  ·rename_i e by_ hk
   split at hE
   ·rename_i te hte
    split at hE
    ·rename_i z hzero
     cases hE
     obtain ⟨⟨n0,rfl,n1,n2⟩,hz1⟩ := hobl
     refine x70 (fun _ => rfl) fun w h r hz hr => ?_
     simp only [ho,Op.operands] at hr
     have h0 := q13 (hr.2 0 (r x) _ rfl rfl)
     have h1 := q13 (hr.2 1 (r y) _ rfl rfl)
     obtain ⟨_,dd,_,_,hdd,_,hkk,_,_⟩ := j12 hti
     rw [hk] at hkk
     obtain ⟨rfl,ie,hie,hs,hb⟩ := z16 hkk
     obtain ⟨ie',_,z',hie',_,hzz,_,hsz,hzc⟩ := j12 hte
     rw [hie] at hie';cases hie'
     have hcz : z'.cells = #[z] := by apply Array.ext';rw [← hzc,hzero]
     have hbb : (ie.bytes : Int) * ((c.toNat : Nat) : Int) ≤ 281474976710656 := by
      have : ((ie.bytes * c.toNat : Nat) : Int) ≤ 281474976710656 := by rw [hb];omega
      rwa [Int.natCast_mul] at this
     have hrun := run_make (P := P) w t e ie z' hdd hie hzz k k' c.toNat c.toNat (by omega) (Int.le_refl _) hbb (by omega)
     simp only [Int.toNat_natCast,hs,Nat.mul_one,hcz] at hrun
     rw [Int.toNat_of_nonneg n0] at hrun
     have hnew := _root_.Go.heap_alloc_new w (.cells (madeCells #[z] c.toNat) e)
     refine ⟨.slice (some ⟨w.heap.size,0,none⟩) c.toNat c.toNat,w.alloc (.cells (madeCells #[z] c.toNat) e),by simp [execOp,ho,h0,h1,hrun],fun B hB => (BelowS.refl _ _).alloc _,fun b hb => Below.heap_alloc w _ b hb,?_,fun B hB => ?_⟩
     ·exact ⟨c.toNat,by simp [setG],Nat.le_refl _⟩
     ·refine z50 hB hz (size_madeCells _ _) fun i v hv => ?_
      have hlt : i < c.toNat := by have := (Array.getElem?_eq_some_iff.1 hv).1;rwa [size_madeCells] at this
      rw [Array.getElem?_eq_getElem (by rw [size_madeCells];exact hlt)] at hv
      simp [madeCells,Nat.mod_one] at hv
      rw [← hv]
      exact .v _ hz1
    ·cases hE
   ·cases hE
  ·cases hE
 ·cases hE
def effBytes (P : Program) (t : TypeId) (dst : Option Tmp) (xs : List AV) : Option Eff :=
 match tiOf P t,dst,xs with
 |some ti,some d,[.p (.d (.v (.string s)))] => match ti.k with
  | .slice e 1 _ => match tiOf P e with
   |some te => match te.k with
    | .int .u8 => some { val := .row d 1 0 s.size,upd := some (d,.arr e s.size fun i => .v (.int .u8 ((s.data.toList.getD i 0).toNat : Nat))),fresh := true }
    | _ => none
   | none => none
  | _ => none
 | _,_,_ => none
theorem q112 {o : Oper} {s t : TypeId} {x : Operand} (ho : o.op = .convert s t x) {tis : TI} (hs : tiOf P s = some tis) (hsk : tis.k = .string) {xs : List AV} {lL : Option (Nat × LV)} {E : Eff} (hE : effBytes P t o.dst xs = some E) : OpSem P o xs lL E := by
 unfold effBytes at hE
 split at hE
 ·rename_i ti d str hti hd
  split at hE
  ·rename_i e by_ hk
   split at hE
   ·rename_i te hte
    split at hE
    ·rename_i hek
     cases hE
     refine x70 (fun _ => rfl) fun w h r hz hr => ?_
     simp only [ho,Op.operands] at hr
     have h0 := q13 (hr.2 0 (r x) _ rfl rfl)
     obtain ⟨_,dd,_,_,hdd,_,hkk,_,_⟩ := j12 hti
     rw [hk] at hkk
     obtain ⟨rfl,ie,hie,hss,hb⟩ := z16 hkk
     obtain ⟨_,de,_,_,hde,_,hke,_,_⟩ := j12 hte
     rw [hek] at hke
     have := q35 hke
     subst this
     obtain ⟨_,ds,_,_,hds,_,hks,_,_⟩ := j12 hs
     have hrun := Lib.run_convert_string_bytes (P := P) w s t e str hds hdd hde
     have hge := grownCap_ge w str.size 0 e
     refine ⟨_,_,by simp only [execOp,ho,h0,hrun,Sem.run_bind,Result.andThen_ok];rfl,fun B hB => ?_,fun b hb => Lib.bytesWorld_at_old w e str b hb,?_,fun B hB => ?_⟩
     ·refine ⟨?_,?_,?_,by rw [Lib.bytesWorld_size];omega,fun k hk _ => Lib.bytesWorld_at_old w e str k (by omega)⟩ <;> simp [Lib.bytesWorld,World.freeze,World.alloc,World.drew,-World.alloc_eq,-World.drew_eq]
     ·exact ⟨_,by simp [setG],hge⟩
     ·refine ⟨Lib.bytesCells w e str,_,by simp only [setG,if_true];exact hB _ (Nat.le_refl _),by simp only [setG,if_true];exact Lib.bytesWorld_at_new w e str,.inr (Nat.le_refl _),?_,by simp only [setG,if_true];exact hz _ (Nat.le_refl _),fun i v hi hv => ?_⟩
      ·simp [Lib.bytesCells]
      ·have hi' : i < str.data.size := hi
       simp only [Lib.bytesCells] at hv
       rw [Array.getElem?_append_left (by simpa using hi')] at hv
       simp [Array.getElem?_eq_getElem hi'] at hv
       subst hv
       have : str.data.toList.getD i 0 = str.data[i] := by rw [List.getD_eq_getElem?_getD,Array.getElem?_toList,Array.getElem?_eq_getElem hi'];rfl
       show RelD _ _ _ (.v (.int .u8 ((str.data.toList.getD i 0).toNat : Nat)))
       rw [this]
       exact .v _ rfl
    ·cases hE
   ·cases hE
  ·cases hE
 ·cases hE
def numD : Dat → Int
 | .v (.int _ n) => n
 | _ => 0
def rng (n : Nat) : List Nat := List.range n
@[simp] theorem rng_eq (n : Nat) : rng n = List.range n := rfl
def effStr (P : Program) (e d : TypeId) (xs : List AV) (lL : Option (Nat × LV)) : Option Eff :=
 match tiOf P e,tiOf P d,xs,lL with
 |some te,some td,[.row l 1 off n],some (l',.arr _ m f) => match te.k,td.k with
  | .int .u8,.string => some { val := .p (.d (.v (.string (strOfNums ((rng n).map fun i => numD (f (off + i))))))),obl := l' = l ∧ off + n ≤ m ∧ ∀ i,i < n → f (off + i) = .v (.int .u8 (numD (f (off + i)))) }
  | _,_ => none
 |some te,some td,[.p (.d (.sl 1 n f))],_ => match te.k,td.k with
  | .int .u8,.string => some { val := .p (.d (.v (.string (strOfNums ((rng n).map fun i => numD ((f i).headD default)))))),obl := ∀ i,i < n → f i = [.v (.int .u8 (numD ((f i).headD default)))] }
  | _,_ => none
 | _,_,_,_ => none
theorem j70 {w : World} {g : Nat → Nat} {v u : Value} (h : RelD w g v (.v u)) : v = u := by cases h;rfl
theorem q71 (n : Nat) (f : Nat → Int) (i : Nat) (hi : i < n) : ((rng n).map f).getD i 0 = f i := by
 rw [rng_eq,List.getD_eq_getElem?_getD,List.getElem?_map,List.getElem?_range hi];rfl
theorem sem_str {o : Oper} {s d e : TypeId} {x : Operand} (ho : o.op = .convert s d x) {tis : TI} (hs : tiOf P s = some tis) {sz by_ : Nat} (hsk : tis.k = .slice e sz by_) {xs : List AV} {lL : Option (Nat × LV)} {E : Eff} (hE : effStr P e d xs lL = some E) (hobl : E.obl) : OpSem P o xs lL E := by
 obtain ⟨_,ds,_,_,hds,_,hks,_,_⟩ := j12 hs
 rw [hsk] at hks
 obtain ⟨rfl,ie,hie,hss,hb⟩ := z16 hks
 unfold effStr at hE
 split at hE
 ·rename_i te td l off n l' _ m f hte htd
  split at hE
  ·rename_i hek hdk
   cases hE
   obtain ⟨rfl,hn,hf⟩ := hobl
   obtain ⟨_,de,_,_,hde,_,hke,_,_⟩ := j12 hte
   rw [hek] at hke
   have := q35 hke
   subst this
   obtain ⟨_,dd,_,_,hdd,_,hkd,_,_⟩ := j12 htd
   rw [hdk] at hkd
   have := j39 hkd
   subst this
   refine z12 fun B w h r hr hL => ?_
   simp only [ho,Op.operands] at hr
   obtain ⟨c,hv,hc⟩ := hr.2 0 (r x) _ rfl rfl
   obtain ⟨arr,fz,hB,hh,hfz,hsz,hg,hrr⟩ := hL _ _ rfl
   refine ⟨_,?_,q14 rfl⟩
   have hrun := run_convert_bytes_arg (P := P) w s e hds hde (h.ρ l') (off * 1) n c ((rng n).map fun i => numD (f (off + i))) (by simp) (fun i hi => by
    rw [z15 hh,q71 n _ i hi,Nat.mul_one]
    have hlt : off + i < arr.size := by omega
    rw [Array.getElem?_eq_getElem hlt]
    have := hrr (off + i) _ (by omega) (Array.getElem?_eq_getElem hlt)
    rw [hf i hi] at this
    rw [j70 this]) d hdd
   simp only [Nat.mul_one] at hrun
   simp [execOp,ho,hv,hrun]
  ·cases hE
 ·rename_i te td n f hte htd
  split at hE
  ·rename_i hek hdk
   cases hE
   obtain ⟨_,de,_,_,hde,_,hke,_,_⟩ := j12 hte
   rw [hek] at hke
   have := q35 hke
   subst this
   obtain ⟨_,dd,_,_,hdd,_,hkd,_,_⟩ := j12 htd
   rw [hdk] at hkd
   have := j39 hkd
   subst this
   refine z12 fun B w h r hr hL => ?_
   simp only [ho,Op.operands] at hr
   have h0 := hr.2 0 (r x) _ rfl rfl
   obtain ⟨v0,hv0⟩ : ∃ v,r x = v := ⟨_,rfl⟩
   rw [hv0] at h0
   refine ⟨_,?_,q14 rfl⟩
   cases h0 with
   |d _ _ h0 =>
    cases h0 with
    |sl0 a c =>
     have : ∀ a : Option Addr,(convert s d (.slice a 0 c)).run P w = .ok (.string ByteArray.empty) w := by
      intro a
      cases a with
      | none => exact run_convert_bytes_nil (P := P) w s e hds hde 0 c d hdd
      |some a =>
       rw [run_convert_bytes_string w s d e _ 0 c hds hde hdd,run_bytesToString w _ 0 c [] (by simpa using run_loadCells_list (P := P) w a [] (fun j v hj => by simp at hj))]
       rfl
     simp [execOp,ho,hv0,this]
     rfl
    |sl b off _ c _ _ u hn hl hc hg hrr =>
     have hrun := run_convert_bytes_arg (P := P) w s e hds hde b off n c ((rng n).map fun i => numD ((f i).headD default)) (by simp) (fun i hi => by
      rw [q71 n _ i hi]
      have := hc i 0 hi (by omega)
      simp only [Nat.mul_one,Nat.add_zero] at this
      rw [this]
      have hx := hrr i 0 (.v (.int .u8 (numD ((f i).headD default)))) hi (by have := hobl i hi;rw [this];rfl)
      rw [j70 hx]) d hdd
     simp [execOp,ho,hv0,hrun]
  ·cases hE
 ·cases hE
def mapX : List AV → Bool
 | [.mp _] => true
 | _ => false
def effBuiltin (P : Program) (c : Call) (xs : List AV) (lL : Option (Nat × LV)) : Option Eff :=
 match c.callee,c.args.toList,c.argTypes.toList with
 | .builtin .len,[_],[t] => match mapX xs with
  | true => effLenM P t xs lL
  | false => effLen P t xs
 | .builtin .delete,[_,_],[t,_] => effDelete P t xs lL
 | .builtin .copy,[_,_],[t,t'] => effCopyO P [t,t'] xs lL
 | .builtin .append,[_,_],[t,t'] => match ownX xs with
  | true => effAppendO P [t,t'] xs lL
  |false => match exX xs with
   | true => effAppendX P [t,t'] xs lL
   | false => effAppend P [t,t'] xs lL
 | .builtin .clear,[_],[t] => effClearX P t xs lL
 | _,_,_ => none
def ownD (M : List Nat) : Option Tmp → Bool
 | some d => M.contains (d + 10000)
 | none => false
def opEff (P : Program) (M : List Nat) (o : Oper) (xs : List AV) (lL : Option (Nat × LV)) : Option Eff :=
 match o.op with
 | .move _ => effMove xs
 | .assign _ => effMove xs
 | .pick .. => effPick xs
 | .nilCheck _ => effNil xs
 | .box t _ => effBox M t o.dst xs
 | .alloc t => effAlloc P t o.dst
 | .load t _ => match ownX xs with
  | true => effLoadO P t xs lL
  |false => match exX xs with
   | true => effLoadX P t xs lL
   | false => effLoad P t xs lL
 | .store t _ _ => match ownX xs with
  | true => effStoreO P t xs lL
  |false => match exX xs with
   | true => effStoreX P t xs lL
   | false => effStore P t xs lL
 | .fieldAddr t _ n => match ownX xs with
  | true => effFieldAddrO P t n xs
  |false => match exX xs with
   | true => effFieldAddrX P t n xs
   | false => effFieldAddr P t n xs
 | .indexAddr t _ _ => match ownX xs with
  | true => effIndexAddrO P t xs
  |false => match exX xs with
   | true => effIndexAddrX P t xs
   | false => effIndexAddr P t xs
 | .field t _ n => match effField P t n xs with
  | some E => some E
  | none => effFieldC P t n xs
 | .index t _ _ => effIndex P t xs
 | .binOp op t _ _ _ => match nilR xs with
  | true => effNil' P op t xs
  |false => match nilP xs with
   | true => effNilP P op t xs
   | false => effBin P op t xs
 | .unOp op _ _ => effUn op xs
 | .convert s d _ => match tiOf P s with
  |some tis => match tis.k with
   | .string => effBytes P d o.dst xs
   | .slice e _ _ => effStr P e d xs lL
   | _ => effConvert P d xs
  | none => none
 | .build t parts => match effBuild P t (parts.toList.map (·.1)) xs with
  | some E => some E
  | none => effBuildC P t (parts.toList.map (·.1)) xs
 | .buildSlice t len parts => match len with
  |0 => match ownD M o.dst with
   | true => effBuildSlice0O P t o.dst (parts.toList.map (·.1))
   | false => effBuildSlice0 P M t o.dst (parts.toList.map (·.1))
  | n + 1 => effBuildSlice P t (n + 1) (parts.toList.map (·.1)) xs
 | .slice t _ lo hi mx => effSlice P t lo.isSome hi.isSome mx.isSome xs
 | .makeFunc fn first _ => match effFunc fn first.size xs with
  | some E => some E
  | none => effFuncO fn first.size xs
 | .extract _ i => effExtract i xs
 | .call c => effBuiltin P c xs lL
 | .makeSlice t _ _ => match ownD M o.dst with
  | true => effMakeO P t o.dst xs
  | false => effMake P t o.dst xs
 | .makeMap t r => match r with
  | none => effMakeMap P t o.dst
  | some _ => none
 | .lookup t _ _ ok => effLookup P t ok xs lL
 | .mapUpdate t _ _ _ => effUpdate P t xs lL
 | .insert t _ _ _ => effUpdate P t xs lL
 | _ => none
def locNeed (o : Oper) (xs : List AV) : Option Nat :=
 match o.op,xs with
 | .load ..,.loc l _ :: _ => some l
 | .store ..,.loc l _ :: _ => some l
 | .call _,.gr l _ _ _ _ :: _ => some l
 | .convert ..,.row l _ _ _ :: _ => some l
 | .load ..,.el l _ _ _ _ :: _ => some l
 | .store ..,.el l _ _ _ _ :: _ => some l
 | .call _,.ow l _ _ _ :: _ => some l
 | .load ..,.ex .. :: _ => some 1999
 | .store ..,.ex .. :: _ => some 1999
 | .load ..,.p (.d (.v (.pointer (some _)))) :: _ => some 1999
 | .store ..,.p (.d (.v (.pointer (some _)))) :: _ => some 1999
 | .call _,.mp l :: _ => some l
 | .call _,.p (.d (.v (.slice (some _) _ _))) :: _ => some 1999
 | .lookup ..,.mp l :: _ => some l
 | .mapUpdate ..,.mp l :: _ => some l
 | .insert ..,.mp l :: _ => some l
 | _,_ => none
theorem z112 {M : List Nat} {o : Oper} {xs : List AV} {lL : Option (Nat × LV)} {E : Eff} (hE : opEff P M o xs lL = some E) (hobl : E.obl) : OpSem P o xs lL E := by
 unfold opEff at hE
 split at hE
 case h_1 x ho => exact z64 (.inl ho) hE
 case h_2 x ho => exact z64 (.inr ho) hE
 case h_3 c a b ho => exact j94 ho hE
 case h_4 x ho => exact sem_nil ho hE
 case h_5 t x ho => exact sem_box ho hE hobl
 case h_6 t ho => exact j95 ho hE hobl
 case h_7 t x ho =>
  split at hE
  ·exact j101 ho hE hobl
  ·split at hE
   ·exact q104 ho hE hobl
   ·exact z96 ho hE hobl
 case h_8 t x y ho =>
  split at hE
  ·exact q102 ho hE hobl
  ·split at hE
   ·exact z104 ho hE hobl
   ·exact j96 ho hE hobl
 case h_9 t x n ho =>
  split at hE
  ·exact x102 ho hE hobl
  ·split at hE
   ·exact j104 ho hE hobl
   ·exact q97 ho hE hobl
 case h_10 t x y ho =>
  split at hE
  ·exact z102 ho hE hobl
  ·split at hE
   ·exact x104 ho hE hobl
   ·exact x97 ho hE hobl
 case h_11 t x n ho =>
  split at hE
  ·rename_i E' he;cases hE;exact j99 ho he hobl
  ·exact z109 ho hE
 case h_12 t x y ho => exact x98 ho hE hobl
 case h_13 op t x y t' ho =>
  split at hE
  ·rename_i hn;exact z111 ho hn hE hobl
  ·split at hE
   ·exact x105 ho hE hobl
   ·exact sem_bin ho hE hobl
 case h_14 op t x ho => exact sem_un ho hE
 case h_15 s d x ho =>
  split at hE
  ·rename_i ti hs
   split at hE
   ·rename_i hk;exact q112 ho hs hk hE
   ·rename_i hk;exact sem_str ho hs hk hE hobl
   ·exact q98 ho (by rw [hs];rfl) hE
  ·cases hE
 case h_16 t parts ho =>
  split at hE
  ·rename_i E' he;cases hE;exact j98 ho he hobl
  ·exact q109 ho hE hobl
 case h_17 t len parts ho =>
  cases len with
  |zero =>
   simp only at hE
   split at hE
   ·exact q103 ho hE hobl
   ·exact j110 ho hE hobl
  | succ n => exact z99 ho hE hobl
 case h_18 t x lo hi mx ho => exact x101 ho hE hobl
 case h_19 fn first caps ho =>
  split at hE
  ·rename_i E' he;cases hE;exact q100 ho he
  ·exact j103 ho hE
 case h_20 x i ho => exact z98 ho hE
 case h_21 c ho =>
  unfold effBuiltin at hE
  split at hE
  ·rename_i x t h1 h2 h3
   have hc : c = { callee := .builtin .len,args := #[x],argTypes := #[t] } := by
    obtain ⟨cl,ar,at_⟩ := c
    simp only at h1 h2 h3
    subst h1
    have e2 : ar = #[x] := by apply Array.ext';simpa using h2
    have e3 : at_ = #[t] := by apply Array.ext';simpa using h3
    rw [e2,e3]
   split at hE
   ·exact x108 ho hc hE hobl
   ·exact sem_len ho hc hE
  ·rename_i s y t t' h1 h2 h3
   have hc : c = { callee := .builtin .delete,args := #[s,y],argTypes := #[t,t'] } := by
    obtain ⟨cl,ar,at_⟩ := c
    simp only at h1 h2 h3
    subst h1
    have e2 : ar = #[s,y] := by apply Array.ext';simpa using h2
    have e3 : at_ = #[t,t'] := by apply Array.ext';simpa using h3
    rw [e2,e3]
   exact z108 ho hc hE hobl
  ·rename_i s y t t' h1 h2 h3
   have hc : c = { callee := .builtin .copy,args := #[s,y],argTypes := #[t,t'] } := by
    obtain ⟨cl,ar,at_⟩ := c
    simp only at h1 h2 h3
    subst h1
    have e2 : ar = #[s,y] := by apply Array.ext';simpa using h2
    have e3 : at_ = #[t,t'] := by apply Array.ext';simpa using h3
    rw [e2,e3]
   exact x109 ho hc hE hobl
  ·rename_i s y t t' h1 h2 h3
   have hc : c = { callee := .builtin .append,args := #[s,y],argTypes := #[t,t'] } := by
    obtain ⟨cl,ar,at_⟩ := c
    simp only at h1 h2 h3
    subst h1
    have e2 : ar = #[s,y] := by apply Array.ext';simpa using h2
    have e3 : at_ = #[t,t'] := by apply Array.ext';simpa using h3
    rw [e2,e3]
   split at hE
   ·exact z103 ho hc hE hobl
   ·split at hE
    ·exact j109 ho hc hE hobl
    ·exact x99 ho hc hE hobl
  ·rename_i s t h1 h2 h3
   have hc : c = { callee := .builtin .clear,args := #[s],argTypes := #[t] } := by
    obtain ⟨cl,ar,at_⟩ := c
    simp only at h1 h2 h3
    subst h1
    have e2 : ar = #[s] := by apply Array.ext';simpa using h2
    have e3 : at_ = #[t] := by apply Array.ext';simpa using h3
    rw [e2,e3]
   exact q110 ho hc hE hobl
  ·cases hE
 case h_22 t x y ho =>
  split at hE
  ·exact j102 ho hE hobl
  ·exact j111 ho hE hobl
 case h_23 t r ho =>
  split at hE
  ·exact z107 ho hE
  ·cases hE
 case h_24 t x k ok ho => exact j107 ho hE hobl
 case h_25 t m k v ho => exact z69 (.inl ho) hE hobl
 case h_26 t m k v ho => exact z69 (.inr ho) hE hobl
 case h_27 => cases hE
def OpT (P : Program) (o : Oper) (xs : List AV) (lL : Option (Nat × LV)) (E : Eff) : Prop :=
 ∀ (B : Nat → Prop) (w : World) (h : Gh) (a : Act) (next : Act → World → Prop) (Q : Exit → Act → World → Prop),NewIn B w → GZ w h.g → RelAs w h (o.op.operands.toList.map a.eval) xs →
  (∀ l L,lL = some (l,L) → LocOK B w h l L) →
  (∀ v w' h',RelA w' h' v E.val → Trans B w h w' h' (ownOf h lL E) (E.upd.map (·.1)) E.fresh →
   (∀ l L',E.upd = some (l,L') → LocOK B w' h' l L' ∧ ∀ b,inB h' l L' b → w.heap.size ≤ b ∨ (E.fresh = false ∧ ∃ L,lL = some (l,L) ∧ inB h l L b)) → next (a.put o.dst v) w') →
  o.wp P a w next Q
theorem OpSem.toT {o : Oper} {xs : List AV} {lL : Option (Nat × LV)} {E : Eff} (hs : OpSem P o xs lL E) : OpT P o xs lL E := by
 intro B w h a next Q hB hz hr hL hn
 obtain ⟨n,v,w',h',h1,h2,h3,h4,h5⟩ := hs B w h a.eval hB hz hr hL
 unfold Oper.wp
 rw [h1]
 rcases h2 with rfl | ⟨rfl,rfl⟩
 ·exact hn v w' h' h3 h4 h5
 ·exact hn undef w' h' h3 h4 h5
def resAV : List PV → AV
 | [x] => .p x
 | xs => .tup xs
theorem x112 {w : World} {h : Gh} {v : Value} {rs : List PV} (r : RelR w h.g v rs) : RelA w h v (resAV rs) := by
 match rs,r with
 | [x],r => exact r
 | [],r => exact r
 | _ :: _ :: _,r => exact r
def calleeAV : AV → Option (FuncId × List PV × List PV)
 | .p (.fn (.func f) a b) => some (f,a,b)
 | _ => none
theorem j112 {o : Oper} {c : Call} {f : Operand} (ho : o.op = .call c) (hc : c.callee = .value f) {x : AV} {g : FuncId} {pre post : List PV} (hx : calleeAV x = some (g,pre,post)) {ys : List PV}
  {w : World} {h : Gh} {a : Act} (hf : RelA w h (a.eval f) x) (hargs : RelPs w h.g (c.args.toList.map a.eval) ys) :
  ∃ vs : List Value,RelPs w h.g vs (pre ++ ys ++ post) ∧ (execOp a.eval o).run P w = (callFunc g vs.toArray).run P w := by
 unfold calleeAV at hx
 split at hx
 ·rename_i g' a' b'
  cases hx
  obtain ⟨v0,hv0⟩ : ∃ v,a.eval f = v := ⟨_,rfl⟩
  rw [hv0] at hf
  cases hf with
  |fn _ us vs _ _ hl hm hr hs =>
   refine ⟨us ++ c.args.toList.map a.eval ++ vs,RelPs.append (RelPs.append ⟨hl,hr⟩ hargs) ⟨hm,hs⟩,?_⟩
   have : (us ++ c.args.toList.map a.eval ++ vs).toArray = us.toArray ++ c.args.map a.eval ++ vs.toArray := by
    apply Array.ext';simp
   rw [this]
   simp [execOp,ho,resolve,hc,hv0,Deferred.ofValue,invoke]
 ·cases hx
theorem RelAs.tail {w : World} {h : Gh} {v : Value} {us : List Value} {x : AV} {xs : List AV} (r : RelAs w h (v :: us) (x :: xs)) : RelAs w h us xs :=
 ⟨by simpa using r.1,fun j u z hu hz => r.2 (j + 1) u z (by simpa using hu) (by simpa using hz)⟩
theorem q113 {o : Oper} {c : Call} {f : Operand} (ho : o.op = .call c) (hc : c.callee = .value f) {xs : List AV} {x : AV} {zs : List AV} (hxs : xs = x :: zs) {g : FuncId} {pre post : List PV} (hx : calleeAV x = some (g,pre,post))
  {ys : List PV} (hys : zs.mapM pvAV = some ys) {rs : List PV} (hcall : ACalls P g (pre ++ ys ++ post) (· = rs)) (lL : Option (Nat × LV)) : OpT P o xs lL { val := resAV rs } := by
 subst hxs
 intro B w h a next Q hB hz hr hL hn
 have hops : o.op.operands.toList.map a.eval = a.eval f :: c.args.toList.map a.eval := by simp [ho,Op.operands,Call.operands,hc]
 rw [hops] at hr
 have hf := hr.2 0 (a.eval f) x rfl rfl
 have hargs := q43 (w := w) (h := h) hys hr.tail
 obtain ⟨vs,hvs,hrun⟩ := j112 (P := P) ho hc hx hf hargs
 have key := hcall w h.g vs hz hvs
 have fin : ∀ v w',(∃ g' r,Ext w h.g w' g' ∧ r = rs ∧ RelR w' g' v r) → next (a.put o.dst v) w' := by
  rintro v w' ⟨g',r,he,rfl,hrel⟩
  refine hn v w' { h with g := g' } (x112 hrel) ?_ (fun l L' hl => by cases hl)
  exact Trans.same he.belowS (fun b hb => ⟨he.below.block b hb,he.gam b hb⟩) hz he.gz hB _
 unfold Oper.wp
 rw [hrun]
 unfold CallRes at key
 split at key
 ·rename_i f' args w1 hrr
  rw [hrr]
  show Calls P f' args w1 _
  refine key.mono fun e w' ⟨v,he,hR⟩ => ?_
  subst he
  exact fin v w' hR
 ·rename_i v w1 hrr
  rw [hrr]
  exact fin v w1 key
 ·exact key.elim
section
variable {w0 : Base} {g0 : Nat → Nat} {nt : Nat} {A : ASt} {h : Gh} {a : Act} {w : World}
theorem Rel.opT {o : Oper} {lo : Option Nat} {E : Eff} {next : Act → World → Prop} {Q : Exit → Act → World → Prop} (r : Rel w0 g0 nt A h a w) (hs : OpT P o (o.op.operands.toList.map A.eval) (A.locAt lo) E)
  (hd : ∀ d,o.dst = some d → d < nt) (hf : E.fresh = true → ∀ l L,E.upd = some (l,L) → A.unused l) (hu : ∀ l L,E.upd = some (l,L) → E.fresh = false → lo = some l)
  (hn : ∀ v w' h',Rel w0 g0 nt (A.apply o.dst E) h' (a.put o.dst v) w' → next (a.put o.dst v) w') : o.wp P a w next Q := by
 have hlo : ∀ l L,A.locAt lo = some (l,L) → look A.locs l = some L := by
  intro l L he
  cases lo with
  | none => simp [ASt.locAt] at he
  |some l' =>
   simp only [ASt.locAt] at he
   cases hk : look A.locs l' with
   | none => simp [hk] at he
   | some L' => simp [hk] at he;obtain ⟨rfl,rfl⟩ := he;exact hk
 refine hs w0.O w h a next Q r.base r.gz (r.evals _) (fun l L he => r.locs l L (hlo l L he)) fun v w' h' h3 h4 h5 => ?_
 refine hn v w' h' ?_
 exact r.carry (o := o) hd hf hu h3 h4 h5
end
end Go.Proofs.Ytjfammnjpeeahaa.AL
namespace Go.Proofs.Ytjfammnjpeeahaa.AL
open Go.RowKit
variable {P : Program}
def wantedA (ops : Array Oper) (o : Oper) (A : ASt) : Option Bool :=
 match o.guard with
 | none => some true
 |some (j,want) => match (ops[j]?).bind (·.dst) with
  |some d => match look A.fr d with
   | some (.p (.d (.v (.bool b)))) => some (b == want)
   | some .undef => some false
   | _ => none
  | none => some false
theorem j43 {w0 : Base} {g0 : Nat → Nat} {nt : Nat} {A : ASt} {h : Gh} {a : Act} {w : World} (r : Rel w0 g0 nt A h a w) {ops : Array Oper} {o : Oper} {b : Bool} (hw : wantedA ops o A = some b) :
  Region.wanted o (yielded ops a.tmps) = b := by
 unfold wantedA at hw
 unfold Region.wanted
 split at hw
 ·rename_i hg;cases hw;rw [hg]
 ·rename_i j want hg
  rw [hg]
  simp only
  unfold yielded
  split at hw
  ·rename_i d hd
   rw [hd]
   simp only [Option.bind_some]
   split at hw
   ·rename_i q hq
    cases hw
    have := q13 (r.fr d _ hq)
    have ht : a.tmps[d]? = some (.bool q) := by
     rw [Array.getD_eq_getD_getElem?] at this
     cases hx : a.tmps[d]? with
     | none => rw [hx] at this;cases this
     | some v => rw [hx] at this;simp at this;rw [this]
    rw [ht]
    simp
   ·rename_i hq
    cases hw
    have : a.tmps.getD d undef = undef := r.fr d _ hq
    rw [Array.getD_eq_getD_getElem?] at this
    cases hx : a.tmps[d]? with
    | none => simp
    | some v => rw [hx] at this;simp at this;subst this;rfl
   ·cases hw
  ·rename_i hd
   rw [hd]
   cases hw
   rfl
structure OpDo (P : Program) (nt : Nat) (ops : Array Oper) (o : Oper) (A : ASt) (lo : Option Nat) (E : Eff) : Prop where
 dst : ∀ d,o.dst = some d → d < nt
 does : (wantedA ops o A = some false ∧ E = { val := .undef }) ∨
  (wantedA ops o A = some true ∧ OpT P o (o.op.operands.toList.map A.eval) (A.locAt lo) E)
 fresh : E.fresh = true → ∀ l L,E.upd = some (l,L) → A.unused l
 upd : ∀ l L,E.upd = some (l,L) → E.fresh = false → lo = some l
theorem OpDo.sound {nt : Nat} {ops : Array Oper} {o : Oper} {A : ASt} {lo : Option Nat} {E : Eff} (d : OpDo P nt ops o A lo E) {w0 : Base} {g0 : Nat → Nat} {h : Gh} {a : Act} {w : World} (r : Rel w0 g0 nt A h a w)
  {K : Act → World → Prop} {Q : Exit → Act → World → Prop} (hn : ∀ a' w' h',Rel w0 g0 nt (A.apply o.dst E) h' a' w' → K a' w') :
  if Region.wanted o (yielded ops a.tmps) then o.wp P a w K Q ∨ (o.asks P a w ∧ LetsOut Q) else K (a.put o.dst undef) w := by
 rcases d.does with ⟨h1,rfl⟩ | ⟨h1,h2⟩
 ·rw [j43 r h1]
  simp only [Bool.false_eq_true,if_false]
  exact hn _ _ h (Rel.put r d.dst rfl)
 ·rw [j43 r h1]
  simp only [if_true]
  exact .inl (Rel.opT r h2 d.dst d.fresh d.upd fun v w' h' hr => hn _ _ h' hr)
def StepS (P : Program) (nt : Nat) (ops : Array Oper) (o : Oper) (A A' : ASt) : Prop :=
 ∀ (w0 : Base) (g0 : Nat → Nat) (h : Gh) (a : Act) (w : World),Rel w0 g0 nt A h a w → ∀ (K : Act → World → Prop) (Q : Exit → Act → World → Prop),(∀ a' w' h',Rel w0 g0 nt A' h' a' w' → K a' w') →
  if Region.wanted o (yielded ops a.tmps) then o.wp P a w K Q ∨ (o.asks P a w ∧ LetsOut Q) else K (a.put o.dst undef) w
def StepX (P : Program) (nt : Nat) (ops : Array Oper) (o : Oper) (A : ASt) (S : ASt → Prop) : Prop :=
 ∀ (w0 : Base) (g0 : Nat → Nat) (h : Gh) (a : Act) (w : World),Rel w0 g0 nt A h a w → ∀ (K : Act → World → Prop) (Q : Exit → Act → World → Prop),(∀ A' a' w' h',S A' → Rel w0 g0 nt A' h' a' w' → K a' w') →
  if Region.wanted o (yielded ops a.tmps) then o.wp P a w K Q ∨ (o.asks P a w ∧ LetsOut Q) else K (a.put o.dst undef) w
theorem StepS.x {P : Program} {nt : Nat} {ops : Array Oper} {o : Oper} {A A' : ASt} (h : StepS P nt ops o A A') : StepX P nt ops o A (· = A') :=
 fun w0 g0 h' a w r K Q hn => h w0 g0 h' a w r K Q fun a' w' h'' hr => hn _ a' w' h'' rfl hr
theorem StepX.s {P : Program} {nt : Nat} {ops : Array Oper} {o : Oper} {A A' : ASt} (h : StepX P nt ops o A (· = A')) : StepS P nt ops o A A' :=
 fun w0 g0 h' a w r K Q hn => h w0 g0 h' a w r K Q fun A1 a' w' h'' e hr => hn a' w' h'' (e ▸ hr)
theorem OpDo.step {nt : Nat} {ops : Array Oper} {o : Oper} {A : ASt} {lo : Option Nat} {E : Eff} (d : OpDo P nt ops o A lo E) : StepS P nt ops o A (A.apply o.dst E) :=
 fun w0 g0 h a w r K Q hn => d.sound r hn
def OpR (P : Program) (o : Oper) (xs : List AV) (rd : List Nat) (L : List (Nat × LV)) (x : AV) : Prop :=
 ∀ (B : Nat → Prop) (w : World) (h : Gh) (a : Act) (next : Act → World → Prop) (Q : Exit → Act → World → Prop),NewIn B w → GZ w h.g → RelAs w h (o.op.operands.toList.map a.eval) xs →
  (∀ l,rd.contains l = true → ∀ X,look L l = some X → LocOK B w h l X) →
  (∀ l l',rd.contains l = true → rd.contains l' = true → l ≠ l' → ∀ X X' b,look L l = some X → look L l' = some X' → inB h l X b → ¬ inB h l' X' b) →
  (∀ v w' h',RelA w' h' v x → Trans B w h w' h' (fun _ => False) none false → next (a.put o.dst v) w') → o.wp P a w next Q
theorem OpR.congr {P : Program} {o : Oper} {xs : List AV} {rd : List Nat} {L L' : List (Nat × LV)} {x : AV} (h : ∀ l,rd.contains l = true → look L' l = look L l) (k : OpR P o xs rd L x) : OpR P o xs rd L' x := by
 intro B w g a next Q hB hz hr hL hS hn
 exact k B w g a next Q hB hz hr (fun l hl X hX => hL l hl X (by rw [h l hl];exact hX)) (fun l l' hl hl' hne X X' b h1 h2 => hS l l' hl hl' hne X X' b (by rw [h l hl];exact h1) (by rw [h l' hl'];exact h2)) hn
structure OpRd (P : Program) (nt : Nat) (ops : Array Oper) (o : Oper) (A : ASt) (rd : List Nat) (E : Eff) : Prop where
 dst : ∀ d,o.dst = some d → d < nt
 want : wantedA ops o A = some true
 does : OpR P o (o.op.operands.toList.map A.eval) rd A.locs E.val
 upd : E.upd = none
 fresh : E.fresh = false
theorem OpRd.sound {P : Program} {nt : Nat} {ops : Array Oper} {o : Oper} {A : ASt} {rd : List Nat} {E : Eff} (d : OpRd P nt ops o A rd E) {w0 : Base} {g0 : Nat → Nat} {h : Gh} {a : Act} {w : World} (r : Rel w0 g0 nt A h a w)
  {K : Act → World → Prop} {Q : Exit → Act → World → Prop} (hn : ∀ a' w' h',Rel w0 g0 nt (A.apply o.dst E) h' a' w' → K a' w') :
  if Region.wanted o (yielded ops a.tmps) then o.wp P a w K Q ∨ (o.asks P a w ∧ LetsOut Q) else K (a.put o.dst undef) w := by
 rw [j43 r d.want]
 simp only [if_true]
 refine .inl (d.does w0.O w h a K Q r.base r.gz (r.evals _) (fun l _ X hX => r.locs l X hX) (fun l l' _ _ hne X X' b h1 h2 => r.sep l l' X X' b hne h1 h2) fun v w' h' h3 t => hn _ _ h' ?_)
 have e1 := d.upd
 have e2 := d.fresh
 refine Rel.carry (lo := none) (o := o) r d.dst (fun hf => by rw [e2] at hf;cases hf) (fun l L hu => by rw [e1] at hu;cases hu) h3 ?_ (fun l L' hu => by rw [e1] at hu;cases hu)
 have : ownOf h (A.locAt none) E = (fun _ => False) := by unfold ownOf;rw [e1];cases E.fresh <;> rfl
 rw [this,e1,e2]
 exact t
def Did (P : Program) (nt : Nat) (ops : Array Oper) (o : Oper) (A : ASt) (lo : Option Nat) (E : Eff) (rd : List Nat) : Prop :=
 (OpDo P nt ops o A lo E ∧ rd = []) ∨ (lo = none ∧ OpRd P nt ops o A rd E)
theorem Did.sound {P : Program} {nt : Nat} {ops : Array Oper} {o : Oper} {A : ASt} {lo : Option Nat} {E : Eff} {rd : List Nat} (d : Did P nt ops o A lo E rd) {w0 : Base} {g0 : Nat → Nat} {h : Gh} {a : Act} {w : World} (r : Rel w0 g0 nt A h a w)
  {K : Act → World → Prop} {Q : Exit → Act → World → Prop} (hn : ∀ a' w' h',Rel w0 g0 nt (A.apply o.dst E) h' a' w' → K a' w') :
  if Region.wanted o (yielded ops a.tmps) then o.wp P a w K Q ∨ (o.asks P a w ∧ LetsOut Q) else K (a.put o.dst undef) w := by
 rcases d with ⟨d,_⟩ | ⟨_,d⟩
 ·exact d.sound r hn
 ·exact d.sound r hn
def walkS (P : Program) (nt : Nat) (ops : Array Oper) : List Oper → ASt → (ASt → Prop) → Prop
 | [],A,K => K A
 | o :: rest,A,K => (∃ S : ASt → Prop,StepX P nt ops o A S ∧ ∀ A',S A' → walkS P nt ops rest A' K)
theorem q37 {P : Program} {nt : Nat} {ops : Array Oper} {o : Oper} {rest : List Oper} {A A' : ASt} {K : ASt → Prop} (h : StepS P nt ops o A A') (k : walkS P nt ops rest A' K) : walkS P nt ops (o :: rest) A K :=
 ⟨_,h.x,fun A1 e => by subst e;exact k⟩
theorem z71 {nt : Nat} {ops : Array Oper} {w0 : Base} {g0 : Nat → Nat} {Q : Exit → Act → World → Prop} {K : ASt → Prop} (hQ : ∀ A h a w,Rel w0 g0 nt A h a w → K A → Q .normal a w) :
  ∀ (l : List Oper) (A : ASt) (h : Gh) (a : Act) (w : World),Rel w0 g0 nt A h a w → walkS P nt ops l A K → wpList P ops Q l a w
 | [],A,h,a,w,r,hk => hQ A h a w r hk
 |o :: rest,A,h,a,w,r,hk => by
  obtain ⟨S,hd,hk⟩ := hk
  have := hd w0 g0 h a w r (wpList P ops Q rest) Q (fun A' a' w' h' hs hr => z71 hQ rest _ h' a' w' hr (hk A' hs))
  simpa [wpList] using this
structure Done where
 o : Oper
 lo : Option Nat
 E : Eff
 rd : List Nat
def part (S : Nat → Bool) : Nat → List Done → ASt → ASt
 | _,[],A => A
 | k,d :: r,A => part S (k + 1) r (if S k then A.apply d.o.dst d.E else A)
theorem x71 (A : ASt) (dst : Option Tmp) (E : Eff) (t : Nat) : look (A.apply dst E).fr t = if dst = some t then some E.val else look A.fr t := by
 unfold ASt.apply ASt.put ASt.upd
 cases dst with
 | none => cases E.upd <;> simp
 |some d =>
  by_cases h : d = t
  ·subst h;cases E.upd <;> simp [look]
  ·cases E.upd <;> simp [look,h]
theorem j71 (A : ASt) (dst : Option Tmp) (E : Eff) (l : Nat) : look (A.apply dst E).locs l = match E.upd with
  | some (l',L) => if l' = l then some L else look A.locs l
  | none => look A.locs l := by
 unfold ASt.apply ASt.put ASt.upd
 cases dst <;> cases E.upd <;> simp [look]
def lastW {α β : Type} (f : α → Option β) : List α → Option β
 | [] => none
 |x :: r => match lastW f r with
  | some y => some y
  | none => f x
def valAt (t : Nat) (d : Done) : Option AV := if d.o.dst = some t then some d.E.val else none
def locAtD (l : Nat) (d : Done) : Option LV := match d.E.upd with
 | some (l',L) => if l' = l then some L else none
 | none => none
def selD {β : Type} (S : Nat → Bool) (f : Done → Option β) : Nat × Done → Option β := fun p => if S p.1 then f p.2 else none
def idx {α : Type} (k : Nat) : List α → List (Nat × α)
 | [] => []
 | x :: r => (k,x) :: idx (k + 1) r
theorem z37 {α : Type} : ∀ {l : List α} {k i : Nat} {x : α},(i,x) ∈ idx k l ↔ k ≤ i ∧ l[i - k]? = some x
 | [],k,i,x => by simp [idx]
 |y :: r,k,i,x => by
  simp only [idx,List.mem_cons,Prod.mk.injEq,z37 (l := r)]
  constructor
  ·rintro (⟨rfl,rfl⟩ | ⟨h1,h2⟩)
   ·simp
   ·refine ⟨by omega,?_⟩
    have : i - k = (i - (k + 1)) + 1 := by omega
    rw [this];simpa using h2
  ·rintro ⟨h1,h2⟩
   by_cases h : i = k
   ·subst h;simp at h2;exact .inl ⟨rfl,h2.symm⟩
   ·refine .inr ⟨by omega,?_⟩
    have : i - k = (i - (k + 1)) + 1 := by omega
    rw [this] at h2;simpa using h2
theorem z31 (S : Nat → Bool) (t : Nat) : ∀ (l : List Done) (k : Nat) (A : ASt),look (part S k l A).fr t = (lastW (selD S (valAt t)) (idx k l)).or (look A.fr t)
 | [],k,A => by simp [part,idx,lastW]
 |d :: r,k,A => by
  simp only [part,idx,lastW,z31 S t r (k + 1)]
  cases hl : lastW (selD S (valAt t)) (idx (k + 1) r) with
  | some y => simp
  |none =>
   simp only [Option.none_or,selD]
   cases S k with
   | false => simp
   |true =>
    simp only [if_true,x71,valAt]
    split <;> simp
theorem z25 (S : Nat → Bool) (l : Nat) : ∀ (tr : List Done) (k : Nat) (A : ASt),look (part S k tr A).locs l = (lastW (selD S (locAtD l)) (idx k tr)).or (look A.locs l)
 | [],k,A => by simp [part,idx,lastW]
 |d :: r,k,A => by
  simp only [part,idx,lastW,z25 S l r (k + 1)]
  cases hl : lastW (selD S (locAtD l)) (idx (k + 1) r) with
  | some y => simp
  |none =>
   simp only [Option.none_or,selD]
   cases S k with
   | false => simp
   |true =>
    simp only [if_true,j71,locAtD]
    cases d.E.upd with
    | none => simp
    |some p =>
     obtain ⟨l',L⟩ := p
     simp only
     split <;> simp
theorem q72 {α β : Type} {f g : α → Option β} : ∀ {l : List α},(∀ x ∈ l,f x = g x) → lastW f l = lastW g l
 | [],_ => rfl
 |x :: r,h => by
  simp only [lastW,q72 (l := r) fun y hy => h y (by simp [hy]),h x (by simp)]
theorem q44 {α β : Type} {f : α → Option β} : ∀ {l : List α} {y : β},lastW f l = some y → ∃ x ∈ l,f x = some y
 | [],y,h => by cases h
 |x :: r,y,h => by
  simp only [lastW] at h
  split at h
  ·rename_i z hz;cases h;obtain ⟨x',h1,h2⟩ := q44 hz;exact ⟨x',by simp [h1],h2⟩
  ·exact ⟨x,by simp,h⟩
end Go.Proofs.Ytjfammnjpeeahaa.AL
namespace Go.Proofs.Ytjfammnjpeeahaa.AL
open Go.RowKit
variable {P : Program}
def preds (o : Oper) : List Nat := (o.after.toList.filter (Region.binds .any)).map (·.on)
def ancs : List Oper → List (List Nat) → List (List Nat)
 | [],acc => acc
 | o :: r,acc => ancs r (acc ++ [((preds o).flatMap fun p => p :: acc.getD p []).eraseDups])
def Closed (ops : List Oper) (S : Nat → Bool) : Prop := ∀ i o,ops[i]? = some o → S i = true → ∀ p ∈ preds o,S p = true
theorem z72 (ops : List Oper) (S : Nat → Bool) (hS : Closed ops S) : ∀ (l : List Oper) (acc : List (List Nat)),ops.drop acc.length = l →
  (∀ (i : Nat) (aq : List Nat),acc[i]? = some aq → ∀ o,ops[i]? = some o → (∀ p ∈ preds o,S p = true) → ∀ j ∈ aq,S j = true) →
  ∀ (i : Nat) (aq : List Nat),(ancs l acc)[i]? = some aq → ∀ o,ops[i]? = some o → (∀ p ∈ preds o,S p = true) → ∀ j ∈ aq,S j = true
 | [],acc,_,hacc => hacc
 |o :: r,acc,hd,hacc => by
  simp only [ancs]
  have ho : ops[acc.length]? = some o := by
   have : (ops.drop acc.length)[0]? = some o := by rw [hd];rfl
   simpa using this
  refine z72 ops S hS r _ ?_ ?_
  ·have : ops.drop (acc.length + 1) = (ops.drop acc.length).drop 1 := by rw [List.drop_drop]
   simp [this,hd]
  ·intro i aq hi o' ho' hp j hj
   by_cases hlt : i < acc.length
   ·rw [List.getElem?_append_left hlt] at hi
    exact hacc i aq hi o' ho' hp j hj
   ·have hi' : i = acc.length := by
     have := (List.getElem?_eq_some_iff.1 hi).1
     simp at this;omega
    subst hi'
    rw [ho] at ho';cases ho'
    simp at hi
    subst hi
    rw [List.mem_eraseDups,List.mem_flatMap] at hj
    obtain ⟨p,hpm,hjp⟩ := hj
    rcases List.mem_cons.1 hjp with rfl | hjp
    ·exact hp j hpm
    ·cases hq : acc[p]? with
     | none => simp [List.getD_eq_getElem?_getD,hq] at hjp
     |some bs =>
      simp [List.getD_eq_getElem?_getD,hq] at hjp
      cases hop : ops[p]? with
      |none =>
       have h1 := (List.getElem?_eq_some_iff.1 hq).1
       have h2 := List.getElem?_eq_none_iff.1 hop
       have h3 := (List.getElem?_eq_some_iff.1 ho).1
       omega
      | some op => exact hacc p bs hq op hop (hS p op hop (hp p hpm)) j hjp
def ahead (an : List (List Nat)) (j i : Nat) : Bool := (an.getD i []).contains j
def ordered (an : List (List Nat)) (i k : Nat) : Bool := if k < i then ahead an k i else ahead an i k
def okPairs (n : Nat) (an : List (List Nat)) (conf : Nat → Nat → Bool) : Bool :=
 (List.range n).all fun i => (List.range n).all fun k => i == k || !conf i k || ordered an i k
def confTmps (ops : List Oper) (i k : Nat) : Bool :=
 match ops[i]?,ops[k]? with
 |some o,some o' => match o'.dst with
  | some d => (o.looksAt ops.toArray).contains d || o.dst == some d
  | none => false
 | _,_ => false
def okEdges (ops : List Oper) : Bool := (List.range ops.length).all fun i => match ops[i]? with
 | some o => (preds o).all (· < i)
 | none => true
def okText (ops : List Oper) : Bool := okEdges ops && okPairs ops.length (ancs ops []) (confTmps ops) && ops.all fun o => match o.op with
 | .select .. => false
 | _ => true
def updOf (d : Done) : Option Nat := d.E.upd.map (·.1)
def confLocs (tr : List Done) (i k : Nat) : Bool :=
 match tr[i]?,tr[k]? with
 |some d,some d' => match updOf d' with
  | some l => d.lo == some l || updOf d == some l || d.rd.contains l
  | none => false
 | _,_ => false
def mentionsE (E : Eff) : List Nat := E.val.mentions ++ (match E.upd with
 | some (_,L) => L.mentions
 | none => [])
def confFresh (tr : List Done) (i k : Nat) : Bool :=
 match tr[i]?,tr[k]? with
 |some d,some d' => d.E.fresh && (match updOf d with
  | some l => (mentionsE d'.E).contains l
  | none => false)
 | _,_ => false
def okAhead (n : Nat) (an : List (List Nat)) (conf : Nat → Nat → Bool) : Bool :=
 (List.range n).all fun i => (List.range n).all fun k => i == k || !conf i k || ahead an i k
def OkTrace (ops : List Oper) (A : ASt) (tr : List Done) : Prop :=
 okPairs tr.length (ancs ops []) (confLocs tr) = true ∧ okAhead tr.length (ancs ops []) (confFresh tr) = true ∧
 ∀ d ∈ tr,d.E.fresh = true → ∀ l,updOf d = some l → A.unused l
def walkD (P : Program) (nt : Nat) (ops : Array Oper) (K : ASt → List Done → Prop) : List Oper → ASt → List Done → Prop
 | [],A,tr => K A tr.reverse
 | o :: rest,A,tr => ∃ lo E rd,Did P nt ops o A lo E rd ∧ walkD P nt ops K rest (A.apply o.dst E) (⟨o,lo,E,rd⟩ :: tr)
def Traced (P : Program) (nt : Nat) (ops : Array Oper) (A : ASt) (tr : List Done) : Prop :=
 ∀ i d,tr[i]? = some d → ops[i]? = some d.o ∧ Did P nt ops d.o (part (fun k => decide (k < i)) 0 tr A) d.lo d.E d.rd
theorem j53 {S T : Nat → Bool} : ∀ (l : List Done) (k : Nat) (A : ASt),(∀ i,k ≤ i → i < k + l.length → S i = T i) → part S k l A = part T k l A
 | [],k,A,_ => rfl
 |d :: r,k,A,h => by
  simp only [part]
  rw [h k (Nat.le_refl _) (by simp),j53 r (k + 1) _ fun i h1 h2 => h i (by omega) (by simp;omega)]
theorem z44 (S : Nat → Bool) : ∀ (l l' : List Done) (k : Nat) (A : ASt),part S k (l ++ l') A = part S (k + l.length) l' (part S k l A)
 | [],l',k,A => by simp [part]
 |d :: r,l',k,A => by
  simp only [List.cons_append,part,z44 S r l' (k + 1),List.length_cons]
  congr 1;omega
theorem x44 : ∀ (l : List Done) (k : Nat) (A : ASt) (S : Nat → Bool),(∀ i,k ≤ i → i < k + l.length → S i = false) → part S k l A = A
 | [],k,A,S,_ => rfl
 |d :: r,k,A,S,h => by
  simp only [part,h k (Nat.le_refl _) (by simp)]
  exact x44 r (k + 1) A S fun i h1 h2 => h i (by omega) (by simp;omega)
theorem x72 {nt : Nat} {ops : Array Oper} {K : ASt → List Done → Prop} (A0 : ASt) : ∀ (l : List Oper) (A : ASt) (tr : List Done),
  ops.toList = (tr.reverse.map (·.o)) ++ l → A = part (fun _ => true) 0 tr.reverse A0 → Traced P nt ops A0 tr.reverse → walkD P nt ops K l A tr →
  ∃ tr',Traced P nt ops A0 tr' ∧ tr'.map (·.o) = ops.toList ∧ K (part (fun _ => true) 0 tr' A0) tr'
 | [],A,tr,ho,hA,ht,hk => ⟨tr.reverse,ht,by simp [ho],by rw [← hA];exact hk⟩
 |o :: rest,A,tr,ho,hA,ht,hk => by
  obtain ⟨lo,E,rd,hd,hk⟩ := hk
  have hlen : tr.reverse.length = tr.length := List.length_reverse
  refine x72 A0 rest _ (⟨o,lo,E,rd⟩ :: tr) (by simp [ho]) ?_ ?_ hk
  ·rw [List.reverse_cons,z44,← hA]
   simp [part]
  ·rw [List.reverse_cons]
   intro i d hi
   by_cases hlt : i < tr.reverse.length
   ·rw [List.getElem?_append_left hlt] at hi
    obtain ⟨e1,e2⟩ := ht i d hi
    refine ⟨e1,?_⟩
    rw [z44,x44 _ _ _ _ (fun j h1 h2 => by simp at h1 hlt ⊢;omega)]
    exact e2
   ·have hi' : i = tr.reverse.length := by
     have := (List.getElem?_eq_some_iff.1 hi).1
     simp at this hlt;simp;omega
    subst hi'
    simp at hi
    subst hi
    have hget : ops[tr.reverse.length]? = some o := by
     have : ops.toList[tr.reverse.length]? = some o := by rw [ho];simp
     simpa using this
    refine ⟨hget,?_⟩
    rw [z44,x44 [_] _ _ _ (fun j h1 h2 => by simp at h1 h2 ⊢;omega)]
    rw [j53 (T := fun _ => true) _ _ _ (fun j h1 h2 => by simp at h2 ⊢;omega),← hA]
    exact hd
end Go.Proofs.Ytjfammnjpeeahaa.AL
namespace Go.Proofs.Ytjfammnjpeeahaa.AL
open Go.RowKit
variable {P : Program}
theorem Rel.ext' {w0 : Base} {g0 : Nat → Nat} {nt : Nat} {A A' : ASt} {h : Gh} {a : Act} {w : World} (r : Rel w0 g0 nt A h a w) (hf : ∀ t,look A'.fr t = look A.fr t) (hl : ∀ l,look A'.locs l = look A.locs l) : Rel w0 g0 nt A' h a w :=
 ⟨r.size,r.defers,fun t x hx => r.fr t x (by rw [← hf];exact hx),fun l L hL => r.locs l L (by rw [← hl];exact hL),
  fun l l' L L' b hne h1 h2 => r.sep l l' L L' b hne (by rw [← hl];exact h1) (by rw [← hl];exact h2),r.ext,r.pin⟩
theorem z113 {n : Nat} {an : List (List Nat)} {conf : Nat → Nat → Bool} (h : okPairs n an conf = true) {i k : Nat} (hi : i < n) (hk : k < n) (hne : i ≠ k) (hc : conf i k = true) : ordered an i k = true := by
 unfold okPairs at h
 have h1 := List.all_eq_true.1 h i (List.mem_range.2 hi)
 have h2 := List.all_eq_true.1 h1 k (List.mem_range.2 hk)
 simp [hne,hc] at h2
 exact h2
theorem x113 {n : Nat} {an : List (List Nat)} {conf : Nat → Nat → Bool} (h : okAhead n an conf = true) {i k : Nat} (hi : i < n) (hk : k < n) (hne : i ≠ k) (hc : conf i k = true) : ahead an i k = true := by
 unfold okAhead at h
 have h1 := List.all_eq_true.1 h i (List.mem_range.2 hi)
 have h2 := List.all_eq_true.1 h1 k (List.mem_range.2 hk)
 simp [hne,hc] at h2
 exact h2
section
variable {opsL : List Oper} {S : Nat → Bool}
theorem q54 (hS : Closed opsL S) {i j : Nat} {o : Oper} (ho : opsL[i]? = some o) (hp : ∀ p ∈ preds o,S p = true) (hj : ahead (ancs opsL []) j i = true) : S j = true := by
 unfold ahead at hj
 cases hq : (ancs opsL [])[i]? with
 | none => simp [List.getD_eq_getElem?_getD,hq] at hj
 |some aq =>
  simp [List.getD_eq_getElem?_getD,hq] at hj
  exact z72 opsL S hS opsL [] rfl (fun i aq h => by simp at h) i aq hq o ho hp j hj
theorem j72 (hS : Closed opsL S) {n : Nat} {conf : Nat → Nat → Bool} (hc : okPairs n (ancs opsL []) conf = true) {i k : Nat} (hi : i < n) (hk : k < n) (hne : i ≠ k) (hcf : conf i k = true)
  {o ok : Oper} (ho : opsL[i]? = some o) (hok : opsL[k]? = some ok) (hp : ∀ p ∈ preds o,S p = true) (hSi : S i = false) : S k = decide (k < i) := by
 have h := z113 hc hi hk hne hcf
 unfold ordered at h
 by_cases hlt : k < i
 ·rw [if_pos hlt] at h
  rw [q54 hS ho hp h];simp [hlt]
 ·rw [if_neg hlt] at h
  cases hSk : S k with
  | false => simp [hlt]
  |true =>
   have := q54 hS hok (hS k ok hok hSk) h
   rw [hSi] at this;cases this
end
theorem q73 {α : Type} {p q : α → Bool} : ∀ (l : List α) (x : α),x ∈ l → p x = true → q x = false → (∀ y,q y = true → p y = true) → l.countP q < l.countP p
 | [],x,hx,_,_,_ => by cases hx
 |y :: r,x,hx,hp,hq,hi => by
  simp only [List.countP_cons]
  have hle : r.countP q ≤ r.countP p := List.countP_mono_left fun z _ hz => hi z hz
  rcases List.mem_cons.1 hx with rfl | hx
  ·simp [hp,hq];omega
  ·have := q73 r x hx hp hq hi
   cases hqy : q y with
   | true => simp [hi y hqy];omega
   | false => cases p y <;> simp <;> omega
theorem z27 {β : Type} {S T : Nat → Bool} {f : Done → Option β} {tr : List Done} (h : ∀ k d y,tr[k]? = some d → f d = some y → S k = T k) : lastW (selD S f) (idx 0 tr) = lastW (selD T f) (idx 0 tr) := by
 refine q72 fun p hp => ?_
 obtain ⟨k,d⟩ := p
 obtain ⟨_,hk⟩ := z37.1 hp
 simp only [selD]
 cases hf : f d with
 | none => simp
 | some y => rw [h k d y (by simpa using hk) hf]
theorem z54 {β : Type} {f : Done → Option β} : ∀ (tr : List Done) (k i : Nat) (d : Done) (y : β),k ≤ i → tr[i - k]? = some d → f d = some y → lastW (selD (fun j => decide (j ≤ i)) f) (idx k tr) = some y
 | [],k,i,d,y,h,hd,_ => by simp at hd
 |x :: r,k,i,d,y,h,hd,hf => by
  simp only [idx,lastW]
  by_cases hik : i = k
  ·subst hik
   simp at hd
   subst hd
   have hnone : lastW (selD (fun j => decide (j ≤ i)) f) (idx (i + 1) r) = none := by
    cases hl : lastW (selD (fun j => decide (j ≤ i)) f) (idx (i + 1) r) with
    | none => rfl
    |some z =>
     obtain ⟨p,hp,hz⟩ := q44 hl
     obtain ⟨j,d'⟩ := p
     have := (z37.1 hp).1
     simp only [selD] at hz
     rw [if_neg (by simp;omega)] at hz
     cases hz
   rw [hnone]
   simp [selD,hf]
  ·have : i - k = (i - (k + 1)) + 1 := by omega
   rw [this] at hd
   simp at hd
   rw [z54 r (k + 1) i d y (by omega) hd hf]
theorem j113 {A A' : ASt} {lo : Option Nat} (h : ∀ l,lo = some l → look A.locs l = look A'.locs l) : A.locAt lo = A'.locAt lo := by
 cases lo with
 | none => rfl
 | some l => simp [ASt.locAt,h l rfl]
theorem q114 {A A' : ASt} {x : Operand} (h : ∀ t,x = .tmp t → look A.fr t = look A'.fr t) : A.eval x = A'.eval x := by
 cases x with
 | tmp t => simp [ASt.eval,h t rfl]
 | _ => rfl
section
variable {nt : Nat} {ops : Array Oper} {A0 : ASt} {tr : List Done} {S : Nat → Bool}
theorem z114 (hT : Traced P nt ops A0 tr) (hm : tr.map (·.o) = ops.toList) (hX : okText ops.toList = true) (hO : OkTrace ops.toList A0 tr) (hS : Closed ops.toList S) {i : Nat} {d : Done} (hi : tr[i]? = some d)
  (hp : ∀ p ∈ preds d.o,S p = true) (hSi : S i = false) :
  Did P nt ops d.o (part S 0 tr A0) d.lo d.E d.rd ∧
  (∀ t,look (part (fun k => S k || decide (k = i)) 0 tr A0).fr t = look ((part S 0 tr A0).apply d.o.dst d.E).fr t) ∧
  (∀ l,look (part (fun k => S k || decide (k = i)) 0 tr A0).locs l = look ((part S 0 tr A0).apply d.o.dst d.E).locs l) := by
 have hlen : tr.length = ops.toList.length := by rw [← hm];simp
 have hin : i < tr.length := (List.getElem?_eq_some_iff.1 hi).1
 have hop : ∀ {k : Nat} {d' : Done},tr[k]? = some d' → ops.toList[k]? = some d'.o := by
  intro k d' hk;rw [← hm,List.getElem?_map,hk];rfl
 unfold okText at hX
 simp only [Bool.and_eq_true] at hX
 obtain ⟨⟨hE,hPT⟩,_⟩ := hX
 obtain ⟨hL,hF,hU⟩ := hO
 rw [← hlen] at hPT
 have selT : ∀ {k : Nat} {d' : Done} {t : Tmp},tr[k]? = some d' → d'.o.dst = some t → (t ∈ d.o.looksAt ops ∨ d.o.dst = some t) → k ≠ i → S k = decide (k < i) := by
  intro k d' t hk hdst ht hne
  have hkn : k < tr.length := (List.getElem?_eq_some_iff.1 hk).1
  refine j72 hS hPT hin hkn (Ne.symm hne) ?_ (hop hi) (hop hk) hp hSi
  unfold confTmps
  rw [hop hi,hop hk]
  simp only [hdst]
  rcases ht with ht | ht
  ·simp;exact .inl ht
  ·simp [ht]
 have selL : ∀ {k : Nat} {d' : Done} {l : Nat},tr[k]? = some d' → updOf d' = some l → (d.lo = some l ∨ updOf d = some l ∨ d.rd.contains l = true) → k ≠ i → S k = decide (k < i) := by
  intro k d' l hk hu hl hne
  have hkn : k < tr.length := (List.getElem?_eq_some_iff.1 hk).1
  refine j72 hS hL hin hkn (Ne.symm hne) ?_ (hop hi) (hop hk) hp hSi
  unfold confLocs
  rw [hi,hk]
  simp only [hu]
  rcases hl with hl | hl | hl
  ·simp [hl]
  ·simp [hl]
  ·rw [hl];simp
 have updA : ∀ {d' : Done} {l : Nat} {L : LV},locAtD l d' = some L → updOf d' = some l := by
  intro d' l L h
  unfold locAtD at h
  unfold updOf
  cases hq : d'.E.upd with
  | none => rw [hq] at h;cases h
  |some q =>
   obtain ⟨l',L'⟩ := q
   rw [hq] at h
   simp only at h
   split at h
   ·rename_i e;simp [e]
   ·cases h
 have frEq : ∀ t,(t ∈ d.o.looksAt ops) → look (part S 0 tr A0).fr t = look (part (fun k => decide (k < i)) 0 tr A0).fr t := by
  intro t ht
  rw [z31,z31,z27 (T := fun k => decide (k < i))]
  intro k d' y hk hy
  unfold valAt at hy
  split at hy
  ·rename_i hdst
   by_cases hki : k = i
   ·subst hki;rw [hSi];simp
   ·exact selT hk hdst (.inl ht) hki
  ·cases hy
 have locEq : ∀ l,(d.lo = some l) → look (part S 0 tr A0).locs l = look (part (fun k => decide (k < i)) 0 tr A0).locs l := by
  intro l hl
  rw [z25,z25,z27 (T := fun k => decide (k < i))]
  intro k d' y hk hy
  by_cases hki : k = i
  ·subst hki;rw [hSi];simp
  ·exact selL hk (updA hy) (.inl hl) hki
 have rdEq : ∀ l,d.rd.contains l = true → look (part S 0 tr A0).locs l = look (part (fun k => decide (k < i)) 0 tr A0).locs l := by
  intro l hl
  rw [z25,z25,z27 (T := fun k => decide (k < i))]
  intro k d' y hk hy
  by_cases hki : k = i
  ·subst hki;rw [hSi];simp
  ·exact selL hk (updA hy) (.inr (.inr hl)) hki
 obtain ⟨hget,hdid⟩ := hT i d hi
 have hw : wantedA ops d.o (part S 0 tr A0) = wantedA ops d.o (part (fun k => decide (k < i)) 0 tr A0) := by
  unfold wantedA
  split
  ·rfl
  ·rename_i j want hg
   split
   ·rename_i t hdt
    rw [frEq t (by unfold Oper.looksAt;rw [hg];simp [hdt])]
   ·rfl
 have he : d.o.op.operands.toList.map (part S 0 tr A0).eval = d.o.op.operands.toList.map (part (fun k => decide (k < i)) 0 tr A0).eval := by
  refine List.map_congr_left fun x hx => q114 fun t hxt => frEq t ?_
  subst hxt
  unfold Oper.looksAt
  refine List.mem_append.2 (.inl (List.mem_filterMap.2 ⟨_,hx,rfl⟩))
 refine ⟨?_,?_,?_⟩
 ·rcases hdid with ⟨hdo,hrd⟩ | ⟨hlo,hdo⟩
  case inr =>
   refine .inr ⟨hlo,hdo.dst,by rw [hw];exact hdo.want,?_,hdo.upd,hdo.fresh⟩
   rw [he]
   exact hdo.does.congr rdEq
  refine .inl ⟨⟨hdo.dst,?_,fun hfr l L hu => ?_,hdo.upd⟩,hrd⟩
  ·rw [hw,he,j113 locEq];exact hdo.does
  ·have hul : updOf d = some l := by simp [updOf,hu]
   obtain ⟨u1,u2,u3⟩ := hU d (List.mem_of_getElem? hi) hfr l hul
   have notIn : ∀ {k : Nat} {d' : Done},tr[k]? = some d' → S k = true → l ∉ mentionsE d'.E := by
    intro k d' hk hSk hmem
    have hkn : k < tr.length := (List.getElem?_eq_some_iff.1 hk).1
    have hki : k ≠ i := fun e => by subst e;rw [hSi] at hSk;cases hSk
    have hcf : confFresh tr i k = true := by
     unfold confFresh
     rw [hi,hk]
     simp [hfr,hul,hmem]
    have hord := x113 hF hin hkn (Ne.symm hki) hcf
    have := q54 hS (hop hk) (hS k _ (hop hk) hSk) hord
    rw [hSi] at this;cases this
   refine ⟨fun t x hx => ?_,fun l' L' hL' => ?_,u3⟩
   ·rw [z31] at hx
    cases hl : lastW (selD S (valAt t)) (idx 0 tr) with
    | none => rw [hl] at hx;simp at hx;exact u1 t x hx
    |some y =>
     rw [hl] at hx;simp at hx;subst hx
     obtain ⟨⟨k,d'⟩,hmem,hy⟩ := q44 hl
     have hk := (z37.1 hmem).2
     simp only [selD] at hy
     split at hy
     ·rename_i hSk
      unfold valAt at hy
      split at hy
      ·cases hy
       intro hm'
       exact notIn (by simpa using hk) hSk (List.mem_append.2 (.inl hm'))
      ·cases hy
     ·cases hy
   ·rw [z25] at hL'
    cases hl : lastW (selD S (locAtD l')) (idx 0 tr) with
    | none => rw [hl] at hL';simp at hL';exact u2 l' L' hL'
    |some y =>
     rw [hl] at hL';simp at hL';subst hL'
     obtain ⟨⟨k,d'⟩,hmem,hy⟩ := q44 hl
     have hk := (z37.1 hmem).2
     simp only [selD] at hy
     split at hy
     ·rename_i hSk
      unfold locAtD at hy
      cases hq : d'.E.upd with
      | none => rw [hq] at hy;cases hy
      |some q =>
       obtain ⟨l'',L''⟩ := q
       rw [hq] at hy
       simp only at hy
       split at hy
       ·cases hy
        intro hm'
        exact notIn (by simpa using hk) hSk (List.mem_append.2 (.inr (by rw [hq];exact hm')))
       ·cases hy
     ·cases hy
 ·intro t
  rw [x71,z31]
  by_cases hdt : d.o.dst = some t
  ·rw [if_pos hdt,z27 (T := fun k => decide (k ≤ i))]
   ·rw [z54 tr 0 i d d.E.val (Nat.zero_le _) (by simpa using hi) (by simp [valAt,hdt])]
    simp
   ·intro k d' y hk hy
    unfold valAt at hy
    split at hy
    ·rename_i hdst
     by_cases hki : k = i
     ·subst hki;simp
     ·rw [selT hk hdst (.inr hdt) hki]
      simp [hki];omega
    ·cases hy
  ·rw [if_neg hdt,z31,z27 (T := S)]
   intro k d' y hk hy
   unfold valAt at hy
   split at hy
   ·rename_i hdst
    have hki : k ≠ i := fun e => by subst e;rw [hi] at hk;cases hk;exact hdt hdst
    simp [hki]
   ·cases hy
 ·intro l
  rw [j71,z25]
  have rest : updOf d ≠ some l → (lastW (selD (fun k => S k || decide (k = i)) (locAtD l)) (idx 0 tr)).or (look A0.locs l) = look (part S 0 tr A0).locs l := by
   intro hne
   rw [z25,z27 (T := S)]
   intro k d' y hk hy
   have hki : k ≠ i := fun e => by subst e;rw [hi] at hk;cases hk;exact hne (updA hy)
   simp [hki]
  cases hq : d.E.upd with
  | none => exact rest (by simp [updOf,hq])
  |some q =>
   obtain ⟨l',L'⟩ := q
   simp only
   by_cases hll : l' = l
   ·subst hll
    rw [if_pos rfl,z27 (T := fun k => decide (k ≤ i))]
    ·rw [z54 tr 0 i d L' (Nat.zero_le _) (by simpa using hi) (by simp [locAtD,hq])]
     simp
    ·intro k d' y hk hy
     by_cases hki : k = i
     ·subst hki;simp
     ·rw [selL hk (updA hy) (.inr (by simp [updOf,hq])) hki]
      simp [hki];omega
   ·rw [if_neg hll]
    exact rest (by simp [updOf,hq,hll])
theorem x114 {w0 : Base} {g0 : Nat → Nat} {Q : Exit → Act → World → Prop} (hT : Traced P nt ops A0 tr) (hm : tr.map (·.o) = ops.toList) (hX : okText ops.toList = true) (hO : OkTrace ops.toList A0 tr)
  (hQ : ∀ h a w,Rel w0 g0 nt (part (fun _ => true) 0 tr A0) h a w → Q .normal a w) :
  ∀ (fuel : Nat) (listed : Array Bool) (a : Act) (w : World) (h : Gh),listed.size = ops.size → Closed ops.toList (fun i => listed.getD i true) →
   ((List.range ops.size).countP fun i => !listed.getD i true) ≤ fuel → Rel w0 g0 nt (part (fun i => listed.getD i true) 0 tr A0) h a w → wpAny P .any ops Q fuel listed a w := by
 have hlen : tr.length = ops.size := by have := congrArg List.length hm;simpa using this
 have hop : ∀ {k : Nat} {d' : Done},tr[k]? = some d' → ops.toList[k]? = some d'.o := by
  intro k d' hk;rw [← hm,List.getElem?_map,hk];rfl
 have hEdge : ∀ i o,ops.toList[i]? = some o → ∀ p ∈ preds o,p < i := by
  intro i o ho p hp
  unfold okText okEdges at hX
  simp only [Bool.and_eq_true] at hX
  have h1 := List.all_eq_true.1 hX.1.1 i (List.mem_range.2 (List.getElem?_eq_some_iff.1 ho).1)
  rw [ho] at h1
  have := List.all_eq_true.1 h1 p hp
  simpa using this
 have readyIff : ∀ (listed : Array Bool) (i : Nat),listed.size = ops.size → (i ∈ Region.ready .any ops listed ↔ ∃ o,ops.toList[i]? = some o ∧ listed.getD i true = false ∧ ∀ p ∈ preds o,listed.getD p true = true) := by
  intro listed i hsz
  unfold Region.ready
  rw [List.mem_filter,List.mem_range]
  constructor
  ·rintro ⟨h1,h2⟩
   have hi : ops[i]? = some ops[i] := by simp [h1]
   rw [hi] at h2
   simp only [Option.map_some,Option.getD_some,Bool.and_eq_true] at h2
   refine ⟨ops[i],by simp [h1],by simpa using h2.1,fun p hp => ?_⟩
   have hlt := hEdge i ops[i] (by simp [h1]) p hp
   unfold preds at hp
   rw [List.mem_map] at hp
   obtain ⟨e,he,rfl⟩ := hp
   rw [List.mem_filter] at he
   have hall := Array.all_eq_true_iff_forall_mem.1 h2.2 e (by simpa using he.1)
   rw [he.2] at hall
   have hlt' : e.on < listed.size := by omega
   simp [Array.getD_eq_getD_getElem?,hlt'] at hall ⊢
   exact hall
  ·rintro ⟨o,ho,h2,h3⟩
   have h1 : i < ops.size := by have := (List.getElem?_eq_some_iff.1 ho).1;simpa using this
   refine ⟨h1,?_⟩
   have hi : ops[i]? = some o := by simpa using ho
   rw [hi]
   simp only [Option.map_some,Option.getD_some,Bool.and_eq_true]
   refine ⟨by simpa using h2,Array.all_eq_true_iff_forall_mem.2 fun e he => ?_⟩
   cases hb : Region.binds .any e with
   | false => simp
   |true =>
    have hp : e.on ∈ preds o := List.mem_map.2 ⟨e,List.mem_filter.2 ⟨by simpa using he,hb⟩,rfl⟩
    have hlt := hEdge i o ho _ hp
    have := h3 _ hp
    have hlt' : e.on < listed.size := by omega
    simp [Array.getD_eq_getD_getElem?,hlt'] at this ⊢
    exact this
 have fin : ∀ (listed : Array Bool) (a : Act) (w : World) (h : Gh),listed.size = ops.size → Region.ready .any ops listed = [] → Rel w0 g0 nt (part (fun i => listed.getD i true) 0 tr A0) h a w → Q .normal a w := by
  intro listed a w h hsz hr rel
  have all : ∀ i,i < ops.size → listed.getD i true = true := by
   intro i
   induction i using Nat.strongRecOn with
   |_ i ih =>
    intro hi
    cases hb : listed.getD i true with
    | true => rfl
    |false =>
     have : i ∈ Region.ready .any ops listed := (readyIff listed i hsz).2 ⟨ops[i],by simp [hi],hb,fun p hp => ih p (hEdge i _ (by simp [hi]) p hp) (by have := hEdge i _ (by simp [hi]) p hp;omega)⟩
     rw [hr] at this;cases this
  refine hQ h a w ?_
  rw [j53 (S := fun _ => true) (T := fun i => listed.getD i true) tr 0 A0 (fun i _ hi => (all i (by omega)).symm)]
  exact rel
 intro fuel
 induction fuel with
 |zero =>
  intro listed a w h hsz hcl hcnt rel
  have hr : Region.ready .any ops listed = [] := by
   cases hq : Region.ready .any ops listed with
   | nil => rfl
   |cons i rs =>
    have hi : i ∈ Region.ready .any ops listed := by rw [hq];simp
    obtain ⟨o,h1,h2,_⟩ := (readyIff listed i hsz).1 hi
    have hlt : i < ops.size := by have := (List.getElem?_eq_some_iff.1 h1).1;simpa using this
    have : 0 < (List.range ops.size).countP fun i => !listed.getD i true := List.countP_pos_iff.2 ⟨i,List.mem_range.2 hlt,by simp [h2]⟩
    omega
  exact ⟨hr,fin listed a w h hsz hr rel⟩
 |succ fuel ih =>
  intro listed a w h hsz hcl hcnt rel
  refine ⟨fun hr => fin listed a w h hsz hr rel,fun i hi => ?_⟩
  obtain ⟨o,h1,h2,h3⟩ := (readyIff listed i hsz).1 hi
  have hlt : i < ops.size := by have := (List.getElem?_eq_some_iff.1 h1).1;simpa using this
  have hit : tr[i]? = some tr[i] := by simp [hlen,hlt]
  have ho : tr[i].o = o := by have := hop hit;rw [h1] at this;exact (Option.some.inj this).symm
  obtain ⟨p1,p2,p3⟩ := z114 hT hm hX hO hcl hit (by rw [ho];exact h3) h2
  have hsel : ∀ k,(listed.setIfInBounds i true).getD k true = (listed.getD k true || decide (k = i)) := by
   intro k
   simp only [Array.getD_eq_getD_getElem?,Array.getElem?_setIfInBounds]
   by_cases hk : i = k
   ·subst hk;simp;split <;> rfl
   ·have : k ≠ i := fun e => hk e.symm
    simp [hk,this]
  have hset : (fun k => (listed.setIfInBounds i true).getD k true) = fun k => listed.getD k true || decide (k = i) := funext hsel
  unfold wpOp
  have hget : ops[i]? = some tr[i].o := by rw [ho];simpa using h1
  rw [hget]
  refine p1.sound rel fun a' w' h' hr => ih _ a' w' h' (by simpa using hsz) ?_ ?_ ?_
  ·intro j oj hoj hj p hp
   simp only [hsel,Bool.or_eq_true] at hj ⊢
   rcases hj with hj | hj
   ·exact .inl (hcl j oj hoj hj p hp)
   ·have hji : j = i := by simpa using hj
    subst hji
    rw [h1] at hoj;cases hoj
    exact .inl (h3 p hp)
  ·have hdec : ((List.range ops.size).countP fun k => !(listed.setIfInBounds i true).getD k true) < (List.range ops.size).countP fun k => !listed.getD k true := by
    refine q73 (List.range ops.size) i (List.mem_range.2 hlt) (by simp [h2]) (by simp [hsel]) fun k hk => ?_
    simp [hsel] at hk ⊢
    exact hk.1
   omega
  ·rw [hset]
   exact Rel.ext' hr p2 p3
end
end Go.Proofs.Ytjfammnjpeeahaa.AL
namespace Go.Proofs.Ytjfammnjpeeahaa.AL
open Go.RowKit
variable {P : Program}
theorem Rel.drew {w0 : Base} {g0 : Nat → Nat} {nt : Nat} {A : ASt} {h : Gh} {a : Act} {w : World} (r : Rel w0 g0 nt A h a w) : Rel w0 g0 nt A h a { w with drawn := w.drawn + 1 } := by
 have t : Trans w0.O w h { w with drawn := w.drawn + 1 } h (fun _ => False) none false :=
  Trans.same (w := w) (w' := { w with drawn := w.drawn + 1 }) (g' := h.g) ⟨rfl,rfl,rfl,Nat.le_refl _,fun _ _ _ => rfl⟩ (fun _ _ => ⟨rfl,rfl⟩) r.gz r.gz r.base (fun _ => False)
 exact ⟨r.size,r.defers,fun x y hy => RelA.trans t (fun hf => by cases hf) (r.fr x y hy),fun l L hL => (LocOK.trans t (by simp) (fun hf => by cases hf) (fun b _ => by simp) (r.locs l L hL)).1,r.sep,
  ⟨r.ext.below.trans t.below,r.ext.gam,r.ext.gz,r.ext.keep.trans t.keep⟩,r.pin⟩
def AWP (P : Program) (nt : Nat) (c : Code) (Q : Exit → ASt → Prop) (A : ASt) : Prop :=
 ∀ (w0 : Base) (g0 : Nat → Nat) (h : Gh) (a : Act) (w : World),Rel w0 g0 nt A h a w → c.wp P (fun e a' w' => ∃ A' h',Q e A' ∧ Rel w0 g0 nt A' h' a' w') a w
section
variable {nt : Nat} {Q : Exit → ASt → Prop} {A : ASt}
theorem x54 {c : Code} {Q' : Exit → ASt → Prop} (h : AWP P nt c Q A) (hq : ∀ e A,Q e A → Q' e A) : AWP P nt c Q' A :=
 fun w0 g0 h' a w r => Go.wp_mono (h w0 g0 h' a w r) fun e a' w' ⟨A',hh,q,rr⟩ => ⟨A',hh,hq _ _ q,rr⟩
theorem j6 (h : Q .normal A) : AWP P nt .skip Q A := fun _ _ h' _ _ r => wp_skip ⟨A,h',h,r⟩
theorem x7 {id : Nat} (h : Q (.exit id) A) : AWP P nt (.exit id) Q A := fun _ _ h' _ _ r => wp_exit ⟨A,h',h,r⟩
theorem z9 (h : Q .ret A) : AWP P nt .ret Q A := fun _ _ h' _ _ r => wp_ret ⟨A,h',h,r⟩
def Weak (A A' : ASt) : Prop := ∀ (w0 : Base) (g0 : Nat → Nat) (nt : Nat) (h : Gh) (a : Act) (w : World),Rel w0 g0 nt A h a w → ∃ h',Rel w0 g0 nt A' h' a w
theorem Weak.refl (A : ASt) : Weak A A := fun _ _ _ h _ _ r => ⟨h,r⟩
theorem Weak.trans {A A' A'' : ASt} (h : Weak A A') (k : Weak A' A'') : Weak A A'' := fun w0 g0 nt h' a w r => let ⟨_,r'⟩ := h w0 g0 nt h' a w r;k w0 g0 nt _ a w r'
theorem j21 {c : Code} {A' : ASt} (hw : Weak A A') (h : AWP P nt c Q A') : AWP P nt c Q A := fun w0 g0 h' a w r => let ⟨_,r'⟩ := hw w0 g0 nt h' a w r;h w0 g0 _ a w r'
def keep {α : Type} (ks : List Nat) (l : List (Nat × α)) : List (Nat × α) := match ks with
 | [] => []
 |k :: r => match look l k with
  | some x => (k,x) :: keep r l
  | none => keep r l
theorem j44 {α : Type} (l : List (Nat × α)) : ∀ (ks : List Nat) (t : Nat) (x : α),look (keep ks l) t = some x → look l t = some x
 | [],t,x,h => by cases h
 |k :: r,t,x,h => by
  unfold keep at h
  split at h
  ·rename_i y hy
   simp only [look] at h
   split at h
   ·rename_i e;subst e;cases h;exact hy
   ·exact j44 l r t x h
  ·exact j44 l r t x h
theorem Weak.of_look {A A' : ASt} (hf : ∀ t x,look A'.fr t = some x → look A.fr t = some x) (hl : ∀ l L,look A'.locs l = some L → look A.locs l = some L) : Weak A A' :=
 fun w0 g0 nt h a w r => ⟨h,r.size,r.defers,fun t x hx => r.fr t x (hf t x hx),fun l L hL => r.locs l L (hl l L hL),fun l l' L L' b hne h1 h2 => r.sep l l' L L' b hne (hl l L h1) (hl l' L' h2),r.ext,r.pin⟩
theorem q45 (ks ls : List Nat) {c : Code} (h : AWP P nt c Q ⟨keep ks A.fr,keep ls A.locs⟩) : AWP P nt c Q A :=
 j21 (Weak.of_look (fun t x hx => j44 A.fr ks t x hx) (fun l L hL => j44 A.locs ls l L hL)) h
def seqQ (P : Program) (nt : Nat) (y : Code) (Q : Exit → ASt → Prop) : Exit → ASt → Prop
 | .normal,A => AWP P nt y Q A
 | e,A => Q e A
theorem j0 {x y : Code} (h : AWP P nt x (seqQ P nt y Q) A) : AWP P nt (.seq x y) Q A := by
 intro w0 g0 h' a w r
 refine wp_seq (Go.wp_mono (h w0 g0 h' a w r) fun e a' w' ⟨A',hh,q,rr⟩ => ?_)
 cases e with
 | normal => exact q w0 g0 hh a' w' rr
 | _ => exact ⟨A',hh,q,rr⟩
theorem x22 {c : Operand} {x y : Code} {t : Bool} (hc : A.eval c = .p (.d (.v (.bool t)))) (ht : t = true → AWP P nt x Q A) (hf : t = false → AWP P nt y Q A) : AWP P nt (.cond c x y) Q A := by
 intro w0 g0 h' a w r
 have hv := r.eval c
 rw [hc] at hv
 exact wp_cond_split (q13 hv) (fun e => ht e w0 g0 h' a w r) (fun e => hf e w0 g0 h' a w r)
def blockQ (id : Nat) (Q : Exit → ASt → Prop) : Exit → ASt → Prop
 | .exit id',A => if id' = id then Q .normal A else Q (.exit id') A
 | e,A => Q e A
theorem j7 {id : Nat} {Q : Exit → ASt → Prop} {A : ASt} : blockQ id Q .normal A = Q .normal A := rfl
theorem z7 {id : Nat} {c : Code} (h : AWP P nt c (blockQ id Q) A) : AWP P nt (.block id c) Q A := by
 intro w0 g0 h' a w r
 refine wp_block (Go.wp_mono (h w0 g0 h' a w r) fun e a' w' ⟨A',hh,q,rr⟩ => ?_)
 cases e with
 |exit id' =>
  simp only [blockQ] at q
  simp only [Exit.inBlock]
  split at q
  ·rename_i e;rw [if_pos e];exact ⟨A',hh,q,rr⟩
  ·rename_i e;rw [if_neg e];exact ⟨A',hh,q,rr⟩
 | _ => exact ⟨A',hh,q,rr⟩
theorem j114 {c : Code} {Q : Exit → Act → World → Prop} (I : Nat → Act → World → Prop)
  (round : ∀ n a w,I n a w → c.wp P (Exit.then (fun a' w' => ∃ m,m < n ∧ I m a' w') Q) a w) : ∀ n a w,I n a w → (Code.loop c).wp P Q a w := by
 intro n a w hI b k cs
 have key : ∀ n a w,I n a w → ∃ e a' w',Q e a' w' ∧ Arrives P (lone (b.at a (.code c :: .inLoop c :: k)) cs w) b k cs e a' w' := by
  intro n
  induction n using Nat.strongRecOn with
  |_ n ih =>
   intro a w hI
   obtain ⟨e,a₁,w₁,hq,harr⟩ := round n a w hI b (.inLoop c :: k) cs
   cases e with
   |normal =>
    obtain ⟨m,hm,hI₁⟩ := hq
    obtain ⟨e₂,a₂,w₂,hq₂,harr₂⟩ := ih m hm a₁ w₁ hI₁
    exact ⟨e₂,a₂,w₂,hq₂,.of_steps (Steps.trans harr (.one step_inLoop)) harr₂⟩
   | exit id => exact ⟨_,a₁,w₁,hq,.pass (x := .inLoop c) rfl (fun _ _ => .inl (by simp)) harr⟩
   | goto l => exact ⟨_,a₁,w₁,hq,.pass (x := .inLoop c) rfl (fun _ _ => .inl (by simp)) harr⟩
   | ret => exact ⟨_,a₁,w₁,hq,.pass (x := .inLoop c) rfl (fun _ _ => .inl (by simp)) harr⟩
   | panic ch => exact ⟨_,a₁,w₁,hq,.pass (x := .inLoop c) rfl (fun _ _ => .inl (by simp)) harr⟩
   | outgrown => exact ⟨_,a₁,w₁,hq,.pass (x := .inLoop c) rfl (fun _ _ => .inl (by simp)) harr⟩
 obtain ⟨e,a',w',hq,harr⟩ := key n a w hI
 exact ⟨e,a',w',hq,.of_steps (.one step_loop) harr⟩
def loopQ {ι : Type} (I : ι → ASt) (μ : ι → Nat) (x : ι) (Q : Exit → ASt → Prop) : Exit → ASt → Prop
 | .normal,A => ∃ x',μ x' < μ x ∧ Weak A (I x')
 | e,A => Q e A
theorem x12 {ι : Type} (I : ι → ASt) (μ : ι → Nat) {c : Code} (x0 : ι) (h0 : Weak A (I x0)) (round : ∀ x,AWP P nt c (loopQ I μ x Q) (I x)) : AWP P nt (.loop c) Q A := by
 intro w0 g0 h' a w r
 obtain ⟨h1,r1⟩ := h0 w0 g0 nt h' a w r
 refine j114 (fun n a w => ∃ x h,μ x = n ∧ Rel w0 g0 nt (I x) h a w) (fun n a w ⟨x,h,hn,rr⟩ => ?_) (μ x0) a w ⟨x0,h1,rfl,r1⟩
 refine Go.wp_mono (round x w0 g0 h a w rr) fun e a' w' ⟨A',hh,q,rr'⟩ => ?_
 cases e with
 |normal =>
  obtain ⟨x',hlt,hw⟩ := q
  obtain ⟨h2,r2⟩ := hw w0 g0 nt hh a' w' rr'
  exact ⟨μ x',by omega,x',h2,rfl,r2⟩
 | _ => exact ⟨A',hh,q,rr'⟩
theorem x4 {id : Nat} {l : List Oper} (hh : ∀ K : ASt → Prop,(∀ A',Q .normal A' → K A') → walkS P nt l.toArray l A K) : AWP P nt (.region id l.toArray false) Q A := by
 have h := hh _ fun _ h => h
 intro w0 g0 h' a w r
 refine wp_region_list ?_
 exact z71 (Q := fun e a' w' => ∃ A' h',Q e A' ∧ Rel w0 g0 nt A' h' a' w') (fun A h a w r k => ⟨A,h,k,r⟩) l A h' a w r h
theorem q115 {id : Nat} {l : List Oper} (hm : P.follows .mixedOrders = true) (hX : okText l = true) (hh : ∀ K : ASt → List Done → Prop,(∀ A' tr,OkTrace l A tr → Q .normal A' → K A' tr) → walkD P nt l.toArray K l A []) : AWP P nt (.region id l.toArray true) Q A := by
 have h := hh (fun A' tr => OkTrace l A tr ∧ Q .normal A') fun _ _ h1 h2 => ⟨h1,h2⟩
 intro w0 g0 h' a w r
 obtain ⟨tr,t1,t2,t3,t4⟩ := x72 (ops := l.toArray) A l A [] (by simp) (by simp [part]) (fun i d hi => by simp at hi) h
 refine wp_region_any hm ?_
 refine x114 (ops := l.toArray) t1 t2 (by simpa using hX) (by simpa using t3) (fun h a w r => ⟨_,h,t4,r⟩) _ _ a _ h' (by simp) (fun i o ho hi p hp => ?_) ?_ ?_
 ·exfalso
  have hlt : i < l.length := by have := (List.getElem?_eq_some_iff.1 ho).1;simpa using this
  simp [hlt] at hi
 ·exact Nat.le_trans List.countP_le_length (by simp)
 ·have : part (fun i => (Array.replicate l.toArray.size false).getD i true) 0 tr A = A := by
   refine x44 tr 0 A _ (fun i _ hi => ?_)
   have hlen : tr.length = l.length := by have := congrArg List.length t2;simpa using this
   have hlt : i < l.length := by omega
   simp [hlt]
  rw [this]
  exact r.drew
theorem j4 {id : Nat} {l : List Oper} (hh : ∀ K : ASt → List Done → Prop,(∀ A' tr,OkTrace l A tr → Q .normal A' → K A' tr) → walkD P nt l.toArray K l A []) (hm : P.follows .mixedOrders = true := by kernel_rfl) (hX : okText l = true := by kernel_rfl) : AWP P nt (.region id l.toArray true) Q A := q115 hm hX hh
end
section
variable {nt : Nat} {ops : Array Oper} {o : Oper} {rest : List Oper} {A : ASt}
def unusedB (A : ASt) (l : Nat) : Bool := (A.fr.all fun p => !p.2.mentions.contains l) && (A.locs.all fun p => !p.2.mentions.contains l) && decide (l < 1000)
theorem x37 {α : Type} : ∀ {l : List (Nat × α)} {t : Nat} {x : α},look l t = some x → (t,x) ∈ l
 | [],t,x,h => by cases h
 |(u,y) :: r,t,x,h => by
  simp only [look] at h
  split at h
  ·rename_i e;subst e;cases h;simp
  ·exact List.mem_cons_of_mem _ (x37 h)
theorem x27 {l : Nat} (h : unusedB A l = true) : A.unused l := by
 unfold unusedB at h
 simp only [Bool.and_eq_true] at h
 refine ⟨fun t x hx => ?_,fun l' L hL => ?_,of_decide_eq_true h.2⟩
 ·have := List.all_eq_true.1 h.1.1 _ (x37 hx)
  simpa using this
 ·have := List.all_eq_true.1 h.1.2 _ (x37 hL)
  simpa using this
def effOK (A : ASt) (lo : Option Nat) (E : Eff) : Prop :=
 match E.upd with
 | none => True
 | some (l,_) => if E.fresh then unusedB A l = true else lo = some l
def dstOK (nt : Nat) (o : Oper) : Bool := match o.dst with
 | some d => decide (d < nt)
 | none => true
theorem x31 (h : dstOK nt o = true) : ∀ d,o.dst = some d → d < nt := by
 intro d hd;unfold dstOK at h;rw [hd] at h;simpa using h
theorem j54 {M : List Nat} {E : Eff} (hd : dstOK nt o = true) (hw : wantedA ops o A = some true)
  (hE : opEff P M o (o.op.operands.toList.map A.eval) (A.locAt (locNeed o (o.op.operands.toList.map A.eval))) = some E) (hobl : E.obl) (hok : effOK A (locNeed o (o.op.operands.toList.map A.eval)) E) :
  OpDo P nt ops o A (locNeed o (o.op.operands.toList.map A.eval)) E := by
 refine ⟨x31 hd,.inr ⟨hw,(z112 hE hobl).toT⟩,fun hf l L hu => ?_,fun l L hu hf => ?_⟩
 ·unfold effOK at hok
  rw [hu] at hok
  simp only [hf,if_true] at hok
  exact x27 hok
 ·unfold effOK at hok
  rw [hu] at hok
  simp only [hf] at hok
  exact hok
theorem z73 (hd : dstOK nt o = true) (hw : wantedA ops o A = some false) : OpDo P nt ops o A none { val := .undef } :=
 ⟨x31 hd,.inl ⟨hw,rfl⟩,fun hf => (by cases hf),fun l L hu => (by cases hu)⟩
theorem z115 {c : Call} {f : Operand} (hd : dstOK nt o = true) (hw : wantedA ops o A = some true) (ho : o.op = .call c) (hc : c.callee = .value f) {g : FuncId} {pre post ys rs : List PV}
  (hx : calleeAV (A.eval f) = some (g,pre,post)) (hys : (c.args.toList.map A.eval).mapM pvAV = some ys) (hcall : ACalls P g (pre ++ ys ++ post) (· = rs)) : OpDo P nt ops o A none { val := resAV rs } := by
 refine ⟨x31 hd,.inr ⟨hw,q113 (x := A.eval f) (zs := c.args.toList.map A.eval) ho hc ?_ hx hys hcall none⟩,fun hf => (by cases hf),fun l L hu => (by cases hu)⟩
 simp [ho,Op.operands,Call.operands,hc]
end
end Go.Proofs.Ytjfammnjpeeahaa.AL
namespace Go.Proofs.Ytjfammnjpeeahaa.AL
open Go.RowKit
variable {P : Program}
def ptrLoc : AV → Option Nat
 | .loc l _ => some l
 | _ => none
def ResVar (P : Program) (A : ASt) : ResultVar → PV → Prop
 | .tmp t,r => pvAV (A.eval (.tmp t)) = some r
 | .cell a t,r => match effLoad P t [A.eval (.tmp a)] (A.locAt (ptrLoc (A.eval (.tmp a)))) with
  | some E => E.obl ∧ pvAV E.val = some r
  | none => False
def ResVars (P : Program) (A : ASt) : List ResultVar → List PV → Prop
 | [],[] => True
 | v :: vs,r :: rs => ResVar P A v r ∧ ResVars P A vs rs
 | _,_ => False
section
variable {w0 : Base} {g0 : Nat → Nat} {nt : Nat} {A : ASt} {h : Gh} {a : Act} {w : World}
def oneResult (tmps : Array Value) : ResultVar → Sem Value
 | .tmp t => pure (tmps.getD t undef)
 | .cell b t => do loadVar t (← asAddr (tmps.getD b undef))
theorem x73 (r : Rel w0 g0 nt A h a w) {v : ResultVar} {x : PV} (hv : ResVar P A v x) : ∃ u,(oneResult a.tmps v).run P w = .ok u w ∧ RelP w h.g u x := by
 cases v with
 | tmp t => exact ⟨_,rfl,j42 hv (r.eval (.tmp t))⟩
 |cell b t =>
  simp only [ResVar] at hv
  split at hv
  case h_2 => exact hv.elim
  rename_i E hE
  obtain ⟨hobl,hp⟩ := hv
  have hev := r.eval (.tmp b)
  obtain ⟨hs, _, _⟩ := j64 (o := { dst := none, op := .load t (.tmp b), type := 0, pos := "", after := #[], guard := none }) rfl hE hobl
  obtain ⟨u,hrun,hrel⟩ := hs w0.O w h a.eval (by simpa [Op.operands] using r.evals [.tmp b]) (fun l L he => by
   unfold ptrLoc at he
   split at he
   ·rename_i l' q heq
    simp only [ASt.locAt] at he
    cases hk : look A.locs l' with
    | none => simp [hk] at he
    | some L' => simp [hk] at he;obtain ⟨rfl,rfl⟩ := he;exact r.locs _ _ hk
   ·simp [ASt.locAt] at he)
  refine ⟨u,?_,j42 hp hrel⟩
  have hptr : ∃ ad,a.eval (.tmp b) = .pointer (some ad) := by
   unfold effLoad at hE
   split at hE
   ·rename_i ti cs hti heq
    simp only [List.cons.injEq,and_true] at heq
    rw [heq] at hev
    obtain ⟨v0,hv0⟩ : ∃ v,a.eval (.tmp b) = v := ⟨_,rfl⟩
    rw [hv0] at hev
    cases hev with | d _ _ hev => obtain ⟨b',q,rfl⟩ := q42 hev;exact ⟨_,hv0⟩
   ·rename_i ti n f hti heq
    simp only [List.cons.injEq,and_true] at heq
    rw [heq] at hev
    obtain ⟨v0,hv0⟩ : ∃ v,a.eval (.tmp b) = v := ⟨_,rfl⟩
    rw [hv0] at hev
    cases hev with | d _ _ hev => cases hev with | bf => exact ⟨_,hv0⟩
   ·rename_i ti l off hti heq
    simp only [List.cons.injEq,and_true] at heq
    rw [heq] at hev
    exact ⟨_,hev⟩
   ·cases hE
  obtain ⟨ad,had⟩ := hptr
  have he : a.tmps.getD b undef = .pointer (some ad) := had
  simp only [execOp,had,Instr.loadAt,Instr.sureAddr,Sem.run_bind,Sem.run_pure,Result.andThen_ok] at hrun
  simp only [oneResult,he,asAddr,Sem.run_bind,Sem.run_pure,Result.andThen_ok]
  cases hl : (loadVar t ad).run P w with
  | ok u' w' => rw [hl] at hrun;simp at hrun;obtain ⟨rfl,rfl⟩ := hrun;rfl
  | halt x w' => rw [hl] at hrun;simp [Result.andThen] at hrun
theorem j73 (r : Rel w0 g0 nt A h a w) : ∀ {vs : List ResultVar} {rs : List PV},ResVars P A vs rs → ∃ us,(vs.mapM (oneResult a.tmps)).run P w = .ok us w ∧ RelPs w h.g us rs
 | [],[],_ => ⟨[],rfl,RelPs.nil _ _⟩
 |v :: vs,x :: rs,hv => by
  obtain ⟨u,h1,h2⟩ := x73 r hv.1
  obtain ⟨us,h3,h4⟩ := j73 r hv.2
  exact ⟨u :: us,by simp [List.mapM_cons,h1,h3],RelPs.cons h2 h4⟩
 | [],_ :: _,hv => hv.elim
 | _ :: _,[],hv => hv.elim
theorem x115 (r : Rel w0 g0 nt A h a w) {fn : Func} {rs : List PV} (hv : ResVars P A fn.results.toList rs) : ∃ v,(results fn a.tmps).run P w = .ok v w ∧ RelR w h.g v rs := by
 obtain ⟨us,h1,h2⟩ := j73 r hv
 have e : (fn.results.mapM (oneResult a.tmps)).run P w = .ok us.toArray w := by
  rw [Array.mapM_eq_mapM_toList]
  simp [h1]
 have e' : results fn a.tmps = (do let vs ← fn.results.mapM (oneResult a.tmps);pure (if h : vs.size = 1 then vs[0] else .tuple vs)) := by
  unfold results
  congr 1
 rw [e']
 simp only [Sem.run_bind,e,Result.andThen_ok,Sem.run_pure]
 refine ⟨_,rfl,?_⟩
 match us,rs,h2 with
 | [u],[x],h2 => exact h2.2 0 u x rfl rfl
 | [],[],h2 => exact ⟨[],rfl,h2⟩
 | u :: u' :: us,x :: x' :: rs,h2 => exact ⟨_,by simp,h2⟩
 | [],_ :: _,h2 => simp [RelPs] at h2
 | _ :: _,[],h2 => simp [RelPs] at h2
 | [_],_ :: _ :: _,h2 => simp [RelPs] at h2
 | _ :: _ :: _,[_],h2 => simp [RelPs] at h2
end
def frOf : Nat → List PV → List (Nat × AV)
 | _,[] => []
 | k,x :: r => (k,.p x) :: frOf (k + 1) r
theorem q74 : ∀ (xs : List PV) (k t : Nat) (y : AV),look (frOf k xs) t = some y → ∃ x,k ≤ t ∧ xs[t - k]? = some x ∧ y = .p x
 | [],k,t,y,h => by cases h
 |x :: r,k,t,y,h => by
  simp only [frOf,look] at h
  split at h
  ·rename_i e;subst e;cases h;exact ⟨x,Nat.le_refl _,by simp,rfl⟩
  ·obtain ⟨z,h1,h2,h3⟩ := q74 r (k + 1) t y h
   refine ⟨z,by omega,?_,h3⟩
   have : t - k = (t - (k + 1)) + 1 := by omega
   rw [this];simpa using h2
def retQ (P : Program) (fn : Func) (Q : List PV → Prop) : Exit → ASt → Prop
 | .normal,A => ∃ rs,ResVars P A fn.results.toList rs ∧ Q rs
 | .ret,A => ∃ rs,ResVars P A fn.results.toList rs ∧ Q rs
 | _,_ => False
theorem x9 {f : FuncId} {fn : Func} {c : Code} {xs : List PV} {Q : List PV → Prop} (hf : P.funcs[f]? = some fn) (hb : fn.body = some c) (hname : (fn.name == "runtime.NumGoroutine") = false) (hn : xs.length ≤ fn.ntmps)
  (h : AWP P fn.ntmps c (retQ P fn Q) ⟨frOf 0 xs,[]⟩) : ACalls P f xs Q := by
 intro w g vs hz hr
 have hrun : (callFunc f vs.toArray).run P w = .ok (.enter f vs.toArray) w := by
  simp only [callFunc,program,Sem.run,Bind.bind,Sem.bind,hf,hname,hb];rfl
 rw [hrun]
 show Calls P f vs.toArray w _
 refine calls_of_wp hf hb ?_
 have hrel : Rel (Base.of w) g fn.ntmps ⟨frOf 0 xs,[]⟩ ⟨g,id,fun _ => undef,fun _ => 0⟩ { tmps := vs.toArray ++ Array.replicate (fn.ntmps - vs.toArray.size) undef,defers := [] } w := by
  refine ⟨by have := hr.1;simp;omega,rfl,fun t y hy => ?_,fun l L hL => (by cases hL),fun l l' L L' b _ hL => (by cases hL),ExtS.refl (Base.of w) hz,fun l _ => ⟨rfl,.inr ⟨rfl,rfl⟩⟩⟩
  obtain ⟨x,_,hx,rfl⟩ := q74 xs 0 t y hy
  have hlt : t < vs.length := by rw [hr.1];have := (List.getElem?_eq_some_iff.1 hx).1;simpa using this
  have hv : (vs.toArray ++ Array.replicate (fn.ntmps - vs.toArray.size) undef).getD t undef = vs[t] := by
   rw [Array.getD_eq_getD_getElem?,Array.getElem?_append_left (by simpa using hlt)]
   simp [hlt]
  show RelP _ _ _ _
  rw [hv]
  exact hr.2 t _ x (by simp [hlt]) (by simpa using hx)
 refine Go.wp_mono (h (Base.of w) g _ _ w hrel) fun e a' w' ⟨A',h',q,rr⟩ => ?_
 have fin : (∃ rs,ResVars P A' fn.results.toList rs ∧ Q rs) → a'.defers = [] ∧ ∃ v,(results fn a'.tmps).run P w' = .ok v w' ∧ ∃ u,Ending.returned v = .returned u ∧ ∃ g' rs,Ext w g w' g' ∧ Q rs ∧ RelR w' g' u rs := by
  rintro ⟨rs,hv,hq⟩
  obtain ⟨v,h1,h2⟩ := x115 rr hv
  exact ⟨rr.defers,v,h1,v,rfl,h'.g,rs,rr.ext.toExt,hq,h2⟩
 cases e with
 | normal => exact fin q
 | ret => exact fin q
 | exit id => exact q.elim
 | goto l => exact q.elim
 | panic ch => exact q.elim
 | outgrown => exact q.elim
end Go.Proofs.Ytjfammnjpeeahaa.AL
namespace Go.Proofs.Ytjfammnjpeeahaa.AL
open Go.RowKit
variable {P : Program}
section
variable {nt : Nat} {ops : Array Oper} {o : Oper} {rest : List Oper} {A : ASt}
def mapEv (A : ASt) : List Operand → List AV
 | [] => []
 | x :: r => A.eval x :: mapEv A r
theorem j37 (A : ASt) : ∀ l : List Operand,mapEv A l = l.map A.eval
 | [] => rfl
 | x :: r => by simp [mapEv,j37 A r]
def stepE (P : Program) (M : List Nat) (nt : Nat) (o : Oper) (A : ASt) (K : Option Nat → Eff → Prop) : Prop :=
 match opEff P M o (mapEv A o.op.operands.toList) (A.locAt (locNeed o (mapEv A o.op.operands.toList))) with
 | some E => dstOK nt o = true ∧ E.obl ∧ effOK A (locNeed o (mapEv A o.op.operands.toList)) E ∧ K (locNeed o (mapEv A o.op.operands.toList)) E
 | none => False
theorem z74 {M : List Nat} {K : Option Nat → Eff → Prop} (hw : wantedA ops o A = some true) (h : stepE P M nt o A K) : ∃ lo E,OpDo P nt ops o A lo E ∧ K lo E := by
 unfold stepE at h
 rw [j37] at h
 split at h
 ·rename_i E hE
  exact ⟨_,E,j54 h.1 hw hE h.2.1 h.2.2.1,h.2.2.2⟩
 ·exact h.elim
theorem j115 (M : List Nat) {K : ASt → Prop} (hw : wantedA ops o A = some true) (h : stepE P M nt o A fun _ E => walkS P nt ops rest (A.apply o.dst E) K) : walkS P nt ops (o :: rest) A K := by
 obtain ⟨lo,E,h1,h2⟩ := z74 hw h
 exact q37 h1.step h2
theorem q116 (M : List Nat) {K : ASt → List Done → Prop} {tr : List Done} (hw : wantedA ops o A = some true) (h : stepE P M nt o A fun lo E => walkD P nt ops K rest (A.apply o.dst E) (⟨o,lo,E,[]⟩ :: tr)) : walkD P nt ops K (o :: rest) A tr := by
 obtain ⟨lo,E,h1,h2⟩ := z74 hw h
 exact ⟨lo,E,[],.inl ⟨h1,rfl⟩,h2⟩
theorem z19 {K : ASt → Prop} (hw : wantedA ops o A = some false) (hd : dstOK nt o = true) (h : walkS P nt ops rest (A.put o.dst .undef) K) : walkS P nt ops (o :: rest) A K :=
 q37 (z73 hd hw).step h
theorem x19 {K : ASt → List Done → Prop} {tr : List Done} (hw : wantedA ops o A = some false) (hd : dstOK nt o = true) (h : walkD P nt ops K rest (A.put o.dst .undef) (⟨o,none,{ val := .undef },[]⟩ :: tr)) : walkD P nt ops K (o :: rest) A tr :=
 ⟨none,_,[],.inl ⟨z73 hd hw,rfl⟩,h⟩
def callAV (A : ASt) (o : Oper) : Option (FuncId × List PV) :=
 match o.op with
 | .call c => match c.callee with
  | .value f => match calleeAV (A.eval f),(mapEv A c.args.toList).mapM pvAV with
   | some (g,pre,post),some ys => some (g,pre ++ ys ++ post)
   | _,_ => none
  | _ => none
 | _ => none
theorem x74 {g : FuncId} {xs rs : List PV} (hd : dstOK nt o = true) (hw : wantedA ops o A = some true) (hx : callAV A o = some (g,xs)) (h : ACalls P g xs (· = rs)) : OpDo P nt ops o A none { val := resAV rs } := by
 unfold callAV at hx
 split at hx
 ·rename_i c hc
  split at hx
  ·rename_i f hf
   split at hx
   ·rename_i g' pre post ys h1 h2
    cases hx
    rw [j37] at h2
    exact z115 hd hw hc hf h1 h2 h
   ·cases hx
  ·cases hx
 ·cases hx
theorem z116 {K : ASt → Prop} {g : FuncId} {xs rs : List PV} (hw : wantedA ops o A = some true) (hd : dstOK nt o = true) (hx : callAV A o = some (g,xs)) (h : ACalls P g xs (· = rs))
  (hk : walkS P nt ops rest (A.put o.dst (resAV rs)) K) : walkS P nt ops (o :: rest) A K := q37 (x74 hd hw hx h).step hk
theorem x116 {K : ASt → List Done → Prop} {tr : List Done} {g : FuncId} {xs rs : List PV} (hw : wantedA ops o A = some true) (hd : dstOK nt o = true) (hx : callAV A o = some (g,xs)) (h : ACalls P g xs (· = rs))
  (hk : walkD P nt ops K rest (A.put o.dst (resAV rs)) (⟨o,none,{ val := resAV rs },[]⟩ :: tr)) : walkD P nt ops K (o :: rest) A tr := ⟨none,_,[],.inl ⟨x74 hd hw hx h,rfl⟩,hk⟩
theorem j116 {P : Program} {nt : Nat} {ops : Array Oper} {K : ASt → List Done → Prop} {o : Oper} {rest : List Oper} {A : ASt} {tr : List Done} {rd : List Nat} {x : AV} (hd : dstOK nt o = true) (hw : wantedA ops o A = some true) (h : OpR P o (o.op.operands.toList.map A.eval) rd A.locs x)
  (hk : walkD P nt ops K rest (A.apply o.dst { val := x }) (⟨o,none,{ val := x },rd⟩ :: tr)) : walkD P nt ops K (o :: rest) A tr :=
 ⟨none,{ val := x },rd,.inr ⟨rfl,x31 hd,hw,h,rfl,rfl⟩,hk⟩
def callK (A : ASt) (o : Oper) (K : FuncId → List PV → Prop) : Prop :=
 match callAV A o with
 | some (g,xs) => K g xs
 | none => False
theorem q117 {K : ASt → Prop} (hw : wantedA ops o A = some true) (hd : dstOK nt o = true) (h : callK A o fun g xs => ∃ rs,ACalls P g xs (· = rs) ∧ walkS P nt ops rest (A.put o.dst (resAV rs)) K) : walkS P nt ops (o :: rest) A K := by
 unfold callK at h
 split at h
 ·rename_i g xs hx
  obtain ⟨rs,h1,h2⟩ := h
  exact z116 hw hd hx h1 h2
 ·exact h.elim
theorem z117 {K : ASt → List Done → Prop} {tr : List Done} (hw : wantedA ops o A = some true) (hd : dstOK nt o = true)
  (h : callK A o fun g xs => ∃ rs,ACalls P g xs (· = rs) ∧ walkD P nt ops K rest (A.put o.dst (resAV rs)) (⟨o,none,{ val := resAV rs },[]⟩ :: tr)) : walkD P nt ops K (o :: rest) A tr := by
 unfold callK at h
 split at h
 ·rename_i g xs hx
  obtain ⟨rs,h1,h2⟩ := h
  exact x116 hw hd hx h1 h2
 ·exact h.elim
end
section
variable {nt : Nat} {ops : Array Oper} {o : Oper} {rest : List Oper} {A : ASt}
def isCall (o : Oper) : Bool := match o.op with
 | .call c => (match c.callee with
  | .value _ => true
  | _ => false)
 | _ => false
theorem j20 (M : List Nat) {K : ASt → Prop} (_hc : isCall o = false) (hw : wantedA ops o A = some true) (h : stepE P M nt o A fun _ E => walkS P nt ops rest (A.apply o.dst E) K) : walkS P nt ops (o :: rest) A K := j115 M hw h
theorem q21 (M : List Nat) {K : ASt → List Done → Prop} {tr : List Done} (_hc : isCall o = false) (hw : wantedA ops o A = some true) (h : stepE P M nt o A fun lo E => walkD P nt ops K rest (A.apply o.dst E) (⟨o,lo,E,[]⟩ :: tr)) : walkD P nt ops K (o :: rest) A tr := q116 M hw h
theorem q10 {K : ASt → Prop} (_hc : isCall o = true) (hw : wantedA ops o A = some true) (hd : dstOK nt o = true) (h : callK A o fun g xs => ∃ rs,ACalls P g xs (· = rs) ∧ walkS P nt ops rest (A.put o.dst (resAV rs)) K) : walkS P nt ops (o :: rest) A K := q117 hw hd h
theorem z10 {K : ASt → List Done → Prop} {tr : List Done} (_hc : isCall o = true) (hw : wantedA ops o A = some true) (hd : dstOK nt o = true)
  (h : callK A o fun g xs => ∃ rs,ACalls P g xs (· = rs) ∧ walkD P nt ops K rest (A.put o.dst (resAV rs)) (⟨o,none,{ val := resAV rs },[]⟩ :: tr)) : walkD P nt ops K (o :: rest) A tr := z117 hw hd h
end
def okFresh (A : ASt) (tr : List Done) : Bool := tr.all fun d => !d.E.fresh || match updOf d with
 | some l => unusedB A l
 | none => true
def okTrace (ops : List Oper) (A : ASt) (tr : List Done) : Bool :=
 okPairs tr.length (ancs ops []) (confLocs tr) && okAhead tr.length (ancs ops []) (confFresh tr) && okFresh A tr
theorem x5 {ops : List Oper} {A : ASt} {tr : List Done} (h : okTrace ops A tr = true := by kernel_rfl) : OkTrace ops A tr := by
 unfold okTrace at h
 simp only [Bool.and_eq_true] at h
 refine ⟨h.1.1,h.1.2,fun d hd hf l hl => ?_⟩
 have := List.all_eq_true.1 h.2 d hd
 rw [hf,hl] at this
 exact x27 (by simpa using this)
end Go.Proofs.Ytjfammnjpeeahaa.AL
namespace Go.Proofs.Ytjfammnjpeeahaa.AL
open Go.RowKit
variable {P : Program}
section
variable (P : Program) (M : List Nat) (nt : Nat) (ops : Array Oper)
def runS : List Oper → ASt → (ASt → List Oper → Prop) → Prop
 | [],A,K => K A []
 |o :: rest,A,K => match wantedA ops o A with
  |some true => match isCall o with
   | true => K A (o :: rest)
   |false => match opEff P M o (mapEv A o.op.operands.toList) (A.locAt (locNeed o (mapEv A o.op.operands.toList))) with
    | some E => dstOK nt o = true ∧ E.obl ∧ effOK A (locNeed o (mapEv A o.op.operands.toList)) E ∧ runS rest (A.apply o.dst E) K
    | none => False
  | some false => dstOK nt o = true ∧ runS rest (A.put o.dst .undef) K
  | none => K A (o :: rest)
def runC (o : Oper) (rest : List Oper) (A : ASt) (lo : Option Nat) (K : ASt → List Oper → Prop) : Option Eff → Prop
 | some E => dstOK nt o = true ∧ E.obl ∧ effOK A lo E ∧ runS P M nt ops rest (A.apply o.dst E) K
 | none => False
def runB (o : Oper) (rest : List Oper) (A : ASt) (K : ASt → List Oper → Prop) : List AV → Prop
 | xs => runC P M nt ops o rest A (locNeed o xs) K (opEff P M o xs (A.locAt (locNeed o xs)))
def runA (o : Oper) (rest : List Oper) (A : ASt) (K : ASt → List Oper → Prop) : Option Bool → Bool → Prop
 | some true,true => K A (o :: rest)
 | some true,false => runB P M nt ops o rest A K (mapEv A o.op.operands.toList)
 | some false,_ => dstOK nt o = true ∧ runS P M nt ops rest (A.put o.dst .undef) K
 | none,_ => K A (o :: rest)
def runD : List Oper → ASt → List Done → (ASt → List Oper → List Done → Prop) → Prop
 | [],A,tr,K => K A [] tr
 |o :: rest,A,tr,K => match wantedA ops o A with
  |some true => match isCall o with
   | true => K A (o :: rest) tr
   |false => match opEff P M o (mapEv A o.op.operands.toList) (A.locAt (locNeed o (mapEv A o.op.operands.toList))) with
    | some E => dstOK nt o = true ∧ E.obl ∧ effOK A (locNeed o (mapEv A o.op.operands.toList)) E ∧ runD rest (A.apply o.dst E) (⟨o,locNeed o (mapEv A o.op.operands.toList),E,[]⟩ :: tr) K
    | none => False
  | some false => dstOK nt o = true ∧ runD rest (A.put o.dst .undef) (⟨o,none,{ val := .undef },[]⟩ :: tr) K
  | none => K A (o :: rest) tr
def runCD (o : Oper) (rest : List Oper) (A : ASt) (tr : List Done) (lo : Option Nat) (K : ASt → List Oper → List Done → Prop) : Option Eff → Prop
 | some E => dstOK nt o = true ∧ E.obl ∧ effOK A lo E ∧ runD P M nt ops rest (A.apply o.dst E) (⟨o,lo,E,[]⟩ :: tr) K
 | none => False
def runBD (o : Oper) (rest : List Oper) (A : ASt) (tr : List Done) (K : ASt → List Oper → List Done → Prop) : List AV → Prop
 | xs => runCD P M nt ops o rest A tr (locNeed o xs) K (opEff P M o xs (A.locAt (locNeed o xs)))
def runAD (o : Oper) (rest : List Oper) (A : ASt) (tr : List Done) (K : ASt → List Oper → List Done → Prop) : Option Bool → Bool → Prop
 | some true,true => K A (o :: rest) tr
 | some true,false => runBD P M nt ops o rest A tr K (mapEv A o.op.operands.toList)
 | some false,_ => dstOK nt o = true ∧ runD P M nt ops rest (A.put o.dst .undef) (⟨o,none,{ val := .undef },[]⟩ :: tr) K
 | none,_ => K A (o :: rest) tr
end
section
variable {M : List Nat} {nt : Nat} {ops : Array Oper}
theorem x117 (A : ASt) (K : ASt → List Oper → Prop) : runS P M nt ops [] A K = K A [] := rfl
theorem j117 (o : Oper) (rest : List Oper) (A : ASt) (K : ASt → List Oper → Prop) : runS P M nt ops (o :: rest) A K = runA P M nt ops o rest A K (wantedA ops o A) (isCall o) := by
 simp only [runS,runA,runB,runC]
 cases wantedA ops o A with
 | none => rfl
 | some b => cases b <;> cases isCall o <;> first | rfl | (simp only [];split <;> rename_i h <;> simp only [h])
theorem q118 (A : ASt) (tr : List Done) (K : ASt → List Oper → List Done → Prop) : runD P M nt ops [] A tr K = K A [] tr := rfl
theorem z118 (o : Oper) (rest : List Oper) (A : ASt) (tr : List Done) (K : ASt → List Oper → List Done → Prop) : runD P M nt ops (o :: rest) A tr K = runAD P M nt ops o rest A tr K (wantedA ops o A) (isCall o) := by
 simp only [runD,runAD,runBD,runCD]
 cases wantedA ops o A with
 | none => rfl
 | some b => cases b <;> cases isCall o <;> first | rfl | (simp only [];split <;> rename_i h <;> simp only [h])
end
theorem x11 (M : List Nat) {nt : Nat} {ops : Array Oper} {K : ASt → Prop} : ∀ (l : List Oper) (A : ASt),runS P M nt ops l A (fun A' l' => walkS P nt ops l' A' K) → walkS P nt ops l A K
 | [],A,h => h
 |o :: rest,A,h => by
  unfold runS at h
  split at h
  ·rename_i hw
   split at h
   ·exact h
   ·split at h
    ·rename_i E hE
     rw [j37] at hE h
     exact q37 (j54 h.1 hw hE h.2.1 h.2.2.1).step (x11 M rest _ h.2.2.2)
    ·exact h.elim
  ·rename_i hw
   exact z19 hw h.1 (x11 M rest _ h.2)
  ·exact h
theorem j11 (M : List Nat) {nt : Nat} {ops : Array Oper} {K : ASt → List Done → Prop} : ∀ (l : List Oper) (A : ASt) (tr : List Done),runD P M nt ops l A tr (fun A' l' tr' => walkD P nt ops K l' A' tr') → walkD P nt ops K l A tr
 | [],A,tr,h => h
 |o :: rest,A,tr,h => by
  unfold runD at h
  split at h
  ·rename_i hw
   split at h
   ·exact h
   ·split at h
    ·rename_i E hE
     rw [j37] at hE h
     exact ⟨_,E,[],.inl ⟨j54 h.1 hw hE h.2.1 h.2.2.1,rfl⟩,j11 M rest _ _ h.2.2.2⟩
    ·exact h.elim
  ·rename_i hw
   exact x19 hw h.1 (j11 M rest _ _ h.2)
  ·exact h
theorem x23 {P : Program} {f : FuncId} {xs : List PV} {Q : List PV → Prop} : ACalls P f xs Q ↔ ∀ (w : World) (g : Nat → Nat) (vs : List Value),GZ w g → RelPs w g vs xs →
  CallRes P (fun v w' => ∃ g' rs,Ext w g w' g' ∧ Q rs ∧ RelR w' g' v rs) ((callFunc f vs.toArray).run P w) := Iff.rfl
theorem q55 {P : Program} {nt : Nat} {c : Code} {Q : Exit → ASt → Prop} {A : ASt} : AWP P nt c Q A ↔ ∀ (w0 : Base) (g0 : Nat → Nat) (h : Gh) (a : Act) (w : World),Rel w0 g0 nt A h a w → c.wp P (fun e a' w' => ∃ A' h',Q e A' ∧ Rel w0 g0 nt A' h' a' w') a w := Iff.rfl
theorem j74 {P : Program} {nt : Nat} {ops : Array Oper} {o : Oper} {rest : List Oper} {A : ASt} {K : ASt → Prop} (A' : ASt) (h : StepS P nt ops o A A') (k : walkS P nt ops rest A' K) : walkS P nt ops (o :: rest) A K := q37 h k
theorem z55 {P : Program} {nt : Nat} {ops : Array Oper} {o : Oper} {rest : List Oper} {A : ASt} {K : ASt → Prop} {ι : Type} {T : ι → ASt} (h : StepX P nt ops o A (fun A' => ∃ i,A' = T i)) (k : ∀ i,walkS P nt ops rest (T i) K) : walkS P nt ops (o :: rest) A K := ⟨_,h,fun A' ⟨i,e⟩ => by subst e;exact k i⟩
theorem q75 {P : Program} {nt : Nat} {ops : Array Oper} {o : Oper} {rest : List Oper} {A : ASt} {K : ASt → Prop} : walkS P nt ops (o :: rest) A K ↔ ∃ S : ASt → Prop,StepX P nt ops o A S ∧ ∀ A',S A' → walkS P nt ops rest A' K := Iff.rfl
theorem x118 {P : Program} {nt : Nat} {ops : Array Oper} {o : Oper} {rest : List Oper} {A : ASt} {K : ASt → List Done → Prop} {tr : List Done} {lo : Option Nat} {E : Eff} {rd : List Nat} (h : Did P nt ops o A lo E rd) (k : walkD P nt ops K rest (A.apply o.dst E) (⟨o,lo,E,rd⟩ :: tr)) : walkD P nt ops K (o :: rest) A tr := ⟨lo,E,rd,h,k⟩
theorem j5 {P : Program} {nt : Nat} {ops : Array Oper} {A : ASt} {K : ASt → Prop} (h : K A) : walkS P nt ops [] A K := h
theorem x6 {P : Program} {nt : Nat} {ops : Array Oper} {A : ASt} {tr : List Done} {K : ASt → List Done → Prop} (h : K A tr.reverse) : walkD P nt ops K [] A tr := h
attribute [irreducible] ACalls AWP walkS walkD
end Go.Proofs.Ytjfammnjpeeahaa.AL
namespace Go.Proofs.Ytjfammnjpeeahaa.AL
open Go.RowKit
def Le (x y : AV) : Prop := ∀ (w : World) (h : Gh) (v : Value),RelA w h v x → RelA w h v y
theorem Le.refl (x : AV) : Le x x := fun _ _ _ r => r
theorem Le.trans {x y z : AV} (h : Le x y) (k : Le y z) : Le x z := fun w h' v r => k w h' v (h w h' v r)
theorem j10 (x : AV) : Le x x = True := eq_true (Le.refl x)
theorem q11 (x : AV) : Le x .top = True := eq_true fun _ _ _ _ => trivial
theorem z21 {l gen sz n n' : Nat} {f f' : Nat → List Dat} (hn : n = n') (hf : ∀ i,i < n → f i = f' i) : Le (.gr l gen sz n f) (.p (.d (.sl sz n' f'))) := by
 subst hn
 intro w h v r
 exact .d _ _ (r.1.sl_congr hf)
theorem j19 {l gen gen' sz n n' : Nat} {f f' : Nat → List Dat} (hg : gen = gen') (hn : n = n') (hf : ∀ i,i < n → f i = f' i) : Le (.gr l gen sz n f) (.gr l gen' sz n' f') := by
 subst hg;subst hn
 intro w h v r
 exact ⟨r.1.sl_congr hf,r.2⟩
theorem q9 {x y : AV} (h : x = y) : Le x y := h ▸ Le.refl x
def AllF (A : ASt) : List (Nat × AV) → Prop
 | [] => True
 | p :: r => (∃ x,look A.fr p.1 = some x ∧ Le x p.2) ∧ AllF A r
def LLe : LV → LV → Prop
 | .cells e cs,.cells e' cs' => e = e' ∧ cs.length = cs'.length ∧ ∀ (i : Nat) x y,cs[i]? = some x → cs'[i]? = some y → Le x y
 | .arr e n f,.arr e' n' f' => e = e' ∧ n = n' ∧ ∀ i,i < n → f i = f' i
 | .grow e sz n gen,.grow e' sz' n' gen' => e = e' ∧ sz = sz' ∧ n = n' ∧ gen = gen'
 | .own e sz n gen f,.own e' sz' n' gen' f' => e = e' ∧ sz = sz' ∧ n = n' ∧ gen = gen' ∧ ∀ i,i < n → f i = f' i
 | .fz e cs,.fz e' cs' => e = e' ∧ cs.length = cs'.length ∧ ∀ (i : Nat) x y,cs[i]? = some x → cs'[i]? = some y → Le x y
 | .map ks es,.map ks' es' => ks = ks' ∧ es = es'
 | .raw M,.raw M' => M = M'
 | .blk e sz n f,.blk e' sz' n' f' => e = e' ∧ sz = sz' ∧ n = n' ∧ f = f'
 | .obj o,.obj o' => o = o'
 | _,_ => False
def AllL (A : ASt) : List (Nat × LV) → Prop
 | [] => True
 | p :: r => (∃ x,look A.locs p.1 = some x ∧ LLe x p.2) ∧ AllL A r
theorem z75 {A : ASt} : ∀ {l : List (Nat × AV)} {t : Nat} {y : AV},AllF A l → (t,y) ∈ l → ∃ x,look A.fr t = some x ∧ Le x y
 |p :: r,t,y,h,hm => by
  cases hm with
  | head => exact h.1
  | tail _ hm => exact z75 h.2 hm
theorem x75 {A : ASt} : ∀ {l : List (Nat × LV)} {t : Nat} {y : LV},AllL A l → (t,y) ∈ l → ∃ x,look A.locs t = some x ∧ LLe x y
 |p :: r,t,y,h,hm => by
  cases hm with
  | head => exact h.1
  | tail _ hm => exact x75 h.2 hm
theorem j27 {B : Nat → Prop} {w : World} {h : Gh} {l : Nat} {L L' : LV} (hl : LLe L L') (k : LocOK B w h l L) : LocOK B w h l L' ∧ inB h l L' = inB h l L := by
 cases L with
 |cells e cs =>
  cases L' with
  |cells e' cs' =>
   obtain ⟨h1,h2,h3⟩ := hl
   subst h1
   obtain ⟨arr,a1,a2,a3,a4,a5⟩ := k
   refine ⟨⟨arr,a1,a2,by omega,a4,fun i v x hv hx => ?_⟩,rfl⟩
   have hi : i < cs.length := by have := (List.getElem?_eq_some_iff.1 hx).1;omega
   exact ⟨h3 i cs[i] x (List.getElem?_eq_getElem hi) hx w h v (a5 i v cs[i] hv (List.getElem?_eq_getElem hi)).1,(a5 i v cs[i] hv (List.getElem?_eq_getElem hi)).2⟩
  | _ => exact hl.elim
 |arr e n f =>
  cases L' with
  |arr e' n' f' =>
   obtain ⟨h1,h2,h3⟩ := hl
   subst h1;subst h2
   obtain ⟨arr,fz,a1,a2,az,a3,a4,a5⟩ := k
   refine ⟨⟨arr,fz,a1,a2,az,a3,a4,fun i v hi hv => ?_⟩,rfl⟩
   rw [← h3 i hi];exact a5 i v hi hv
  | _ => exact hl.elim
 |grow e sz n gen =>
  cases L' with
  |grow e' sz' n' gen' =>
   obtain ⟨h1,h2,h3,h4⟩ := hl
   subst h1;subst h2;subst h3;subst h4
   exact ⟨k,rfl⟩
  | _ => exact hl.elim
 |own e sz n gen f =>
  cases L' with
  |own e' sz' n' gen' f' =>
   obtain ⟨h1,h2,h3,h4,h5⟩ := hl
   subst h1;subst h2;subst h3;subst h4
   obtain ⟨k1,⟨xs,k2,k3⟩,k4⟩ := k
   exact ⟨⟨k1,⟨xs,k2,fun i hi => by rw [← h5 i hi];exact k3.1 i hi,fun i j d hi hj hd => k3.2 i j d hi hj (by rw [h5 i hi];exact hd)⟩,k4⟩,rfl⟩
  | _ => exact hl.elim
 |fz e cs =>
  cases L' with
  |fz e' cs' =>
   obtain ⟨h1,h2,h3⟩ := hl
   subst h1
   obtain ⟨arr,a1,a2,a3,a4,a5⟩ := k
   refine ⟨⟨arr,a1,a2,by omega,a4,fun i v x hv hx => ?_⟩,rfl⟩
   have hi : i < cs.length := by have := (List.getElem?_eq_some_iff.1 hx).1;omega
   exact ⟨h3 i cs[i] x (List.getElem?_eq_getElem hi) hx w h v (a5 i v cs[i] hv (List.getElem?_eq_getElem hi)).1,(a5 i v cs[i] hv (List.getElem?_eq_getElem hi)).2⟩
  | _ => exact hl.elim
 |map ks es =>
  cases L' with
  | map ks' es' => obtain ⟨h1,h2⟩ := hl;subst h1;subst h2;exact ⟨k,rfl⟩
  | _ => exact hl.elim
 |raw M =>
  cases L' with
  | raw M' => cases hl;exact ⟨k,rfl⟩
  | _ => exact hl.elim
 |blk e sz n f =>
  cases L' with
  | blk e' sz' n' f' => obtain ⟨h1,h2,h3,h4⟩ := hl;subst h1;subst h2;subst h3;subst h4;exact ⟨k,rfl⟩
  | _ => exact hl.elim
 |obj o =>
  cases L' with
  | obj o' => cases hl;exact ⟨k,rfl⟩
  | _ => exact hl.elim
theorem Weak.list {A B : ASt} (hf : AllF A B.fr) (hl : AllL A B.locs) : Weak A B := by
 intro w0 g0 nt h a w r
 have key : ∀ l L,look B.locs l = some L → ∃ L0,look A.locs l = some L0 ∧ LocOK w0.O w h l L ∧ inB h l L = inB h l L0 := by
  intro l L hL
  obtain ⟨L0,h1,h2⟩ := x75 hl (x37 hL)
  exact ⟨L0,h1,j27 h2 (r.locs l L0 h1)⟩
 refine ⟨h,r.size,r.defers,fun t y hy => ?_,fun l L hL => ?_,fun l l' L L' b hne hL hL' hb => ?_,r.ext,r.pin⟩
 ·obtain ⟨x,h1,h2⟩ := z75 hf (x37 hy)
  exact h2 _ _ _ (r.fr t x h1)
 ·exact (key l L hL).choose_spec.2.1
 ·obtain ⟨L0,a1,a2,a3⟩ := key l L hL
  obtain ⟨L0',b1,b2,b3⟩ := key l' L' hL'
  rw [b3]
  exact r.sep l l' L0 L0' b hne a1 b1 (by rw [← a3];exact hb)
theorem x10 (L : LV) : LLe L L = True := by
 refine eq_true ?_
 cases L with
 | cells e cs => exact ⟨rfl,rfl,fun i x y h1 h2 => by rw [h1] at h2;cases h2;exact Le.refl _⟩
 | arr e n f => exact ⟨rfl,rfl,fun _ _ => rfl⟩
 | grow e sz n gen => exact ⟨rfl,rfl,rfl,rfl⟩
 | own e sz n gen f => exact ⟨rfl,rfl,rfl,rfl,fun _ _ => rfl⟩
 | fz e cs => exact ⟨rfl,rfl,fun i x y h1 h2 => by rw [h1] at h2;cases h2;exact Le.refl _⟩
 | map ks es => exact ⟨rfl,rfl⟩
 | raw M => exact rfl
 | blk e sz n f => exact ⟨rfl,rfl,rfl,rfl⟩
 | obj o => exact rfl
theorem j75 {w : World} {h : Gh} {v u : Value} (r : RelA w h v (.p (.d (.v u)))) : v = u := by
 cases r with
 | d _ _ r => cases r;rfl
theorem Weak.nilNew (A : ASt) (t l : Nat) (x : AV) (X : LV) (ht : look A.fr t = some (.p (.d (.v (.slice none 0 0))))) (hu : unusedB A l = true) (hn : look A.locs l = none)
  (hx : ∀ (w : World) (h : Gh),h.κ l = .slice none 0 0 → h.μ l = 0 → RelA w h (.slice none 0 0) x) (hX : ∀ (O : Nat → Prop) (w : World) (h : Gh),h.κ l = .slice none 0 0 → h.μ l = 0 → LocOK O w h l X)
  (hb : ∀ h : Gh,h.κ l = .slice none 0 0 → ∀ b,¬ inB h l X b) :
  Weak A ⟨(t,x) :: A.fr,(l,X) :: A.locs⟩ := by
 intro w0 g0 nt h a w r
 let h' : Gh := { h with κ := fun k => if k = l then .slice none 0 0 else h.κ k,μ := fun k => if k = l then 0 else h.μ k }
 have un := x27 hu
 have tr : Trans w0.O w h w h' (fun _ => False) (some l) true := by
  refine ⟨BelowS.refl _ _,fun b _ _ => ⟨rfl,rfl⟩,⟨fun b => Nat.le_refl _,fun b o _ => rfl⟩,r.gz,fun b _ => rfl,fun _ _ => rfl,fun k hk => ?_,fun k _ hf => by cases hf⟩
  have : k ≠ l := fun e => hk (by rw [e])
  simp [h',this]
 have nl : h'.κ l = .slice none 0 0 := by simp [h']
 have nm : h'.μ l = 0 := by simp [h']
 refine ⟨h',r.size,r.defers,fun u y hy => ?_,fun k L hL => ?_,fun k k' L L' b hne hL hL' hbk => ?_,r.ext,fun k hk => ?_⟩
 ·simp only [look] at hy
  split at hy
  ·rename_i e;subst e;cases hy
   have he := j75 (r.fr t _ ht)
   rw [he]
   exact hx w h' nl nm
  ·exact RelA.trans tr (fun _ l' hl' hm => by cases hl';exact un.1 u y hy hm) (r.fr u y hy)
 ·simp only [look] at hL
  split at hL
  ·rename_i e;subst e;cases hL;exact hX _ w h' nl nm
  ·rename_i hne
   exact (LocOK.trans tr (fun e => hne (by cases e;rfl)) (fun _ l' hl' hm => by cases hl';exact un.2.1 k L hL hm) (fun b _ => by simp) (r.locs k L hL)).1
 ·have other : ∀ k L,k ≠ l → look A.locs k = some L → inB h' k L = inB h k L := fun k L hne hL =>
   (LocOK.trans tr (fun e => hne (by cases e;rfl)) (fun _ l' hl' hm => by cases hl';exact un.2.1 k L hL hm) (fun b _ => by simp) (r.locs k L hL)).2
  have none_l : ∀ L,look ((l,X) :: A.locs) l = some L → ∀ b,¬ inB h' l L b := by
   intro L hL
   simp only [look,if_true] at hL
   cases hL
   exact hb h' nl
  by_cases hk : k = l
  ·subst hk;exact absurd hbk (none_l L hL b)
  ·by_cases hk' : k' = l
   ·subst hk';exact none_l L' hL' b
   ·have e1 : look A.locs k = some L := by simpa [look,Ne.symm hk] using hL
    have e2 : look A.locs k' = some L' := by simpa [look,Ne.symm hk'] using hL'
    rw [other k L hk e1] at hbk
    rw [other k' L' hk' e2]
    exact r.sep k k' L L' b hne e1 e2 hbk
 ·have : k ≠ l := by have := un.2.2;omega
  simp only [h',if_neg this]
  exact r.pin k hk
theorem Weak.grow (A : ASt) (t l sz : Nat) (e : TypeId) (f : Nat → List Dat) (ht : look A.fr t = some (.p (.d (.v (.slice none 0 0))))) (hu : unusedB A l = true) (hn : look A.locs l = none) :
  Weak A ⟨(t,.gr l 0 sz 0 f) :: A.fr,(l,.grow e sz 0 0) :: A.locs⟩ :=
 Weak.nilNew A t l _ _ ht hu hn (fun w h k m => ⟨.sl0 _ _ _ _,by omega,fun _ => k.symm⟩)
  (fun O w h k m => ⟨m,⟨[],by rw [k];exact World.ownsRow_nil _ _ _ _⟩,fun b c hb => by rw [k] at hb;simp at hb,fun b hb => by rw [k] at hb;simp [Value.ownBlock] at hb⟩)
  (fun h k => by simp [inB,k,Value.ownBlock])
theorem Weak.own (A : ASt) (t l sz : Nat) (e : TypeId) (f : Nat → List Dat) (ht : look A.fr t = some (.p (.d (.v (.slice none 0 0))))) (hu : unusedB A l = true) (hn : look A.locs l = none) :
  Weak A ⟨(t,.ow l 0 sz 0) :: A.fr,(l,.own e sz 0 0 f) :: A.locs⟩ :=
 Weak.nilNew A t l _ _ ht hu hn (fun w h k m => ⟨by omega,⟨_,_,rfl,fun hh => by omega⟩,fun _ => k.symm⟩)
  (fun O w h k m => ⟨m,⟨[],by rw [k];exact World.ownsRow_nil _ _ _ _,fun i hi => by omega,fun i j d hi => by omega⟩,fun b hb => by rw [k] at hb;simp [Value.ownBlock] at hb⟩)
  (fun h k => by simp [inB,k,Value.ownBlock])
def dropL (l : Nat) (L : List (Nat × LV)) : List (Nat × LV) := L.filter fun p => p.1 != l
theorem x15 (l : Nat) (L : List (Nat × LV)) (k : Nat) : look (dropL l L) k = if k = l then none else look L k := by
 unfold dropL
 induction L with
 | nil => simp [look]
 |cons p L ih =>
  obtain ⟨t,x⟩ := p
  simp only [List.filter_cons]
  by_cases ht : t = l
  ·subst ht
   simp only [bne_self_eq_false,Bool.false_eq_true,if_false,look]
   rw [ih]
   by_cases hk : k = t
   ·subst hk;simp
   ·rw [if_neg hk,if_neg hk,if_neg (Ne.symm hk)]
  ·have : (t != l) = true := by simpa using ht
   simp only [this,if_true,look]
   by_cases hk : t = k
   ·subst hk;rw [if_pos rfl,if_neg ht,if_pos rfl]
   ·rw [if_neg hk,if_neg hk];exact ih
theorem Weak.freeze (A : ASt) (t l gen sz n : Nat) (e : TypeId) (f : Nat → List Dat) (ht : look A.fr t = some (.ow l gen sz n)) (hl : look A.locs l = some (.own e sz n gen f)) :
  Weak A ⟨(t,.p (.d (.sl sz n f))) :: A.fr,dropL l A.locs⟩ := by
 intro w0 g0 nt h a w r
 have hL := r.locs l _ hl
 obtain ⟨q1,⟨va,vc,q2,q2'⟩,q3⟩ := r.fr t _ ht
 have hv := q3 hL.1
 have hne : ∀ k L,look (dropL l A.locs) k = some L → k ≠ l ∧ look A.locs k = some L := by
  intro k L hk
  rw [x15] at hk
  split at hk
  ·cases hk
  ·exact ⟨‹_›,hk⟩
 by_cases hn : (h.κ l).ownBlock = none
 ·have n0 : n = 0 := by
   obtain ⟨_,⟨xs,⟨_,⟨_,h0⟩ | ⟨gb,cap,cur,h0,_⟩⟩,_⟩,_⟩ := hL
   ·exact h0
   ·rw [h0] at hn;simp [Value.ownBlock] at hn
  subst n0
  refine ⟨h,r.size,r.defers,fun u y hy => ?_,fun k L hk => r.locs k L (hne k L hk).2,fun k k' L L' b h1 h2 h3 => r.sep k k' L L' b h1 (hne k L h2).2 (hne k' L' h3).2,r.ext,r.pin⟩
  simp only [look] at hy
  split at hy
  ·rename_i e;subst e;cases hy
   rw [q2];exact .d _ _ (.sl0 _ _ _ _)
  ·exact r.fr u y hy
 ·obtain ⟨b,hb⟩ := Option.ne_none_iff_exists'.1 hn
  obtain ⟨cap,cur,c1,c2,c3,c4,c5,c6,c7,c8⟩ := x36 hL hb
  have hbl : b < w.heap.size := (Array.getElem?_eq_some_iff.1 c2).1
  let h' : Gh := { h with g := setG h.g b (n * sz) }
  have hkeep : Keep w h.g w h'.g := by
   refine ⟨fun k => ?_,fun k q hq => rfl⟩
   simp only [h',setG];split
   ·rename_i e;rw [e,c6];exact Nat.zero_le _
   ·exact Nat.le_refl _
  have gz' : GZ w h'.g := fun k hk => by
   have : k ≠ b := by omega
   simp only [h',setG,if_neg this];exact r.gz k hk
  have tr : Trans w0.O w h w h' (fun k => b = k) none false := by
   refine ⟨BelowS.refl _ _,fun k _ hk => ⟨rfl,?_⟩,hkeep,gz',fun k hk => ?_,fun _ _ => rfl,fun k _ => ⟨rfl,rfl⟩,fun k hk => by cases hk⟩
   ·have : k ≠ b := fun e => hk e.symm
    simp [h',setG,this]
   ·have : k ≠ b := fun e => hk (e ▸ c7)
    simp [h',setG,this]
  have ho : ∀ k L,look (dropL l A.locs) k = some L → LocOK w0.O w h' k L ∧ inB h' k L = inB h k L := by
   intro k L hk
   obtain ⟨k1,k2⟩ := hne k L hk
   refine LocOK.trans tr (by simp) (fun hf => by cases hf) (fun b' hb' e => ?_) (r.locs k L k2)
   cases e
   exact r.sep k l L _ b k1 k2 hl hb' (by simp [inB,hb])
  refine ⟨h',r.size,r.defers,fun u y hy => ?_,fun k L hk => (ho k L hk).1,fun k k' L L' b' h1 h2 h3 h4 => ?_,⟨r.ext.below,fun k hk => (tr.gB k hk).trans (r.ext.gam k hk),gz',r.ext.keep.trans hkeep⟩,r.pin⟩
  ·simp only [look] at hy
   split at hy
   ·rename_i e;subst e;cases hy
    rw [hv,c1]
    refine .d _ _ (.sl b 0 n cap sz f (fun i j => (cur[i * sz + j]?).getD undef) c3 c8.1 (fun i j hi hj => ?_) (by simp [h',setG]) (fun i j d hi hd => ?_))
    ·obtain ⟨u,d,k1,k2,k3⟩ := c8.at hi hj
     rw [Nat.zero_add,z15 c2,k2];rfl
    ·have hj : j < sz := by have := (List.getElem?_eq_some_iff.1 hd).1;rw [c8.1 i hi] at this;exact this
     obtain ⟨u,k2,k3⟩ := c8.cell hi hj hd
     rw [k2];exact k3.keep hkeep
   ·exact RelA.trans tr (fun hf => by cases hf) (r.fr u y hy)
  ·rw [(ho k L h2).2] at h4
   rw [(ho k' L' h3).2]
   exact r.sep k k' L L' b' h1 (hne k L h2).2 (hne k' L' h3).2 h4
theorem lle_own {e : TypeId} {sz n n' g g' : Nat} {f f' : Nat → List Dat} (h : n = n') (h2 : g = g') (hf : ∀ i,i < n → f i = f' i) : LLe (.own e sz n g f) (.own e sz n' g' f') := ⟨rfl,rfl,h,h2,hf⟩
theorem q28 {P : Program} {nt : Nat} {c : Code} {Q : Exit → ASt → Prop} {A : ASt} (t l sz : Nat) (e : TypeId) (f : Nat → List Dat) (ht : look A.fr t = some (.p (.d (.v (.slice none 0 0))))) (hu : unusedB A l = true) (hn : look A.locs l = none)
  (h : AWP P nt c Q ⟨(t,.gr l 0 sz 0 f) :: A.fr,(l,.grow e sz 0 0) :: A.locs⟩) : AWP P nt c Q A := j21 (Weak.grow A t l sz e f ht hu hn) h
theorem q16 {P : Program} {nt : Nat} {c : Code} {Q : Exit → ASt → Prop} {A : ASt} (t : Nat) (x y : AV) (ht : look A.fr t = some x) (hle : Le x y)
  (h : AWP P nt c Q ⟨(t,y) :: A.fr,A.locs⟩) : AWP P nt c Q A := by
 refine j21 ?_ h
 intro w0 g0 nt h a w r
 refine ⟨h,r.size,r.defers,fun u z hz => ?_,r.locs,r.sep,r.ext,r.pin⟩
 simp only [look] at hz
 split at hz
 ·rename_i e;subst e;cases hz;exact hle _ _ _ (r.fr t x ht)
 ·exact r.fr u z hz
theorem q8 {P : Program} {nt : Nat} {Q : Exit → ASt → Prop} {A : ASt} {c : Operand} {x y : Code} (hc : A.eval c = .p (.d (.v (.bool true)))) (h : AWP P nt x Q A) : AWP P nt (.cond c x y) Q A :=
 x22 hc (fun _ => h) (fun e => Bool.noConfusion e)
theorem z8 {P : Program} {nt : Nat} {Q : Exit → ASt → Prop} {A : ASt} {c : Operand} {x y : Code} (hc : A.eval c = .p (.d (.v (.bool false)))) (h : AWP P nt y Q A) : AWP P nt (.cond c x y) Q A :=
 x22 hc (fun e => Bool.noConfusion e) (fun _ => h)
theorem x8 (M : List Nat) {P : Program} {nt : Nat} {ops : Array Oper} {K : ASt → Prop} {o : Oper} {l : List Oper} {A : ASt} (_hc : isCall o = false) (h : runS P M nt ops (o :: l) A (fun A' l' => walkS P nt ops l' A' K)) : walkS P nt ops (o :: l) A K := x11 M _ _ h
theorem j8 (M : List Nat) {P : Program} {nt : Nat} {ops : Array Oper} {K : ASt → List Done → Prop} {o : Oper} {l : List Oper} {A : ASt} {tr : List Done} (_hc : isCall o = false) (h : runD P M nt ops (o :: l) A tr (fun A' l' tr' => walkD P nt ops K l' A' tr')) : walkD P nt ops K (o :: l) A tr := j11 M _ _ _ h
theorem z11 {k : IntKind} {a b : Int} (h : a = b) : Le (.p (.d (.v (.int k a)))) (.p (.d (.v (.int k b)))) := q9 (by rw [h])
theorem j118 {e : TypeId} {sz n n' g g' : Nat} (h : n = n') (h2 : g = g') : LLe (.grow e sz n g) (.grow e sz n' g') := ⟨rfl,rfl,h,h2⟩
end Go.Proofs.Ytjfammnjpeeahaa.AL
namespace Go.Proofs.Ytjfammnjpeeahaa.AL
open Go.ChangeShapes Go.WideShapes Go.ChangeAt Go.RowKit
inductive Sh where
 | int (k : IntKind)
 | bool
 | string
 | slice (s : Sh)
 | unit
 | pair (a b : Sh)
def Sh.size : Sh → Nat
 | .unit => 0
 | .pair a b => a.size + b.size
 | _ => 1
def zeroSh : Sh → List Dat
 | .int k => [.v (.int k 0)]
 | .bool => [.v (.bool false)]
 | .string => [.v (.string ⟨#[]⟩)]
 | .slice s => [.sl s.size 0 fun _ => zeroSh s]
 | .unit => []
 | .pair a b => zeroSh a ++ zeroSh b
def Is (N : Nat) : Sh → List Dat → Prop
 | .int k,ds => ∃ n,ds = [.v (.int k n)] ∧ (Lit.int k n).wf = true
 | .bool,ds => ∃ b,ds = [.v (.bool b)]
 | .string,ds => ∃ s : ByteArray,ds = [.v (.string s)] ∧ s.size ≤ N
 | .slice s,ds => ∃ n f,ds = [.sl s.size n f] ∧ n ≤ N ∧ (∀ i,i < n → Is N s (f i)) ∧ ∀ i,n ≤ i → f i = zeroSh s
 | .unit,ds => ds = []
 | .pair a b,ds => ∃ x y,ds = x ++ y ∧ Is N a x ∧ Is N b y
theorem Is.len {N : Nat} : ∀ {s : Sh} {ds : List Dat},Is N s ds → ds.length = s.size
 | .int k,ds,⟨n,h,_⟩ => by subst h;rfl
 | .bool,ds,⟨n,h⟩ => by subst h;rfl
 | .string,ds,⟨n,h,_⟩ => by subst h;rfl
 | .slice s,ds,⟨n,f,h,_⟩ => by subst h;rfl
 | .unit,ds,h => by simp only [Is] at h;subst h;rfl
 | .pair a b,ds,⟨x,y,h,hx,hy⟩ => by subst h;simp only [List.length_append,hx.len,hy.len,Sh.size]
def repSh (s : Sh) : Nat → Sh
 | 0 => .unit
 | n + 1 => .pair s (repSh s n)
def shFs (P : Program) (g : TypeId → Option Sh) : Nat → List Field → Option (Sh × Nat)
 | off,[] => some (.unit,off)
 |off,f :: r => match g f.type with
  |some s => match decide (f.offset = off ∧ s.size = P.cellsOf f.type),shFs P g (off + s.size) r with
   | true,some (z,e) => some (.pair s z,e)
   | _,_ => none
  | none => none
def shOf (P : Program) : Nat → TypeId → Option Sh
 | 0,_ => none
 |m + 1,t => match P.underlying t with
  | some .bool => some .bool
  | some (.int k) => some (.int k)
  | some .string => some .string
  |some (.slice e) => match shOf P m e with
   |some s => match decide (s.size = P.cellsOf e ∧ 0 < s.size) with
    | true => some (.slice s)
    | false => none
   | none => none
  |some (.struct fs) => match shFs P (shOf P m) 0 fs.toList with
   |some (s,e) => match decide (e = P.cellsOf t) with
    | true => some s
    | false => none
   | none => none
  |some (.array n e) => match shOf P m e with
   |some s => match decide (s.size = P.cellsOf e ∧ n * s.size = P.cellsOf t) with
    | true => some (repSh s n)
    | false => none
   | none => none
  | _ => none
def gall (w : World) : Nat → Nat := fun b => match w.heap[b]? with
 | some (.cells c _ _) => c.size
 | _ => 0
theorem gall_gz (w : World) : GZ w (gall w) := fun b hb => by
 unfold gall
 rw [Array.getElem?_eq_none hb]
theorem q76 {w : World} {a : Addr} {v : Value} (h : w.cell? a = some v) : a.spot = none ∧ a.off < gall w a.block := by
 unfold World.cell? at h
 unfold gall
 split at h
 ·rename_i c e f hb
  rw [hb]
  split at h
  ·cases h
  ·rename_i hs
   refine ⟨by simpa using hs,?_⟩
   exact (Array.getElem?_eq_some_iff.1 h).1
 ·cases h
theorem z76 {w : World} {g : Nat → Nat} {vs us : List Value} {xs ys : List Dat} (h : RelC w g vs xs) (k : RelC w g us ys) : RelC w g (vs ++ us) (xs ++ ys) := by
 refine ⟨by simp [h.1,k.1],fun j u d hu hd => ?_⟩
 by_cases hj : j < vs.length
 ·rw [List.getElem?_append_left hj] at hu
  rw [List.getElem?_append_left (h.1 ▸ hj)] at hd
  exact h.2 j u d hu hd
 ·rw [List.getElem?_append_right (by omega)] at hu
  rw [List.getElem?_append_right (by have := h.1;omega),← h.1] at hd
  exact k.2 _ u d hu hd
theorem j31 {w : World} {g : Nat → Nat} {v : Value} {x : Dat} (h : RelD w g v x) : RelC w g [v] [x] :=
 ⟨rfl,fun j u d hu hd => by
  cases j with
  | zero => simp at hu hd;subst hu;subst hd;exact h
  | succ j => simp at hu⟩
section
variable {H : Type} {enc : TypeId × Value → H} {P : Program} {w : World} {base : Nat} {spare : Nat → Bool} {held : Bool} {N : Nat}
structure Bounded (N : Nat) (S : DataW H → Prop) : Prop where
 agg : ∀ l,S (.agg l) → ∀ x ∈ l,S x
 slice : ∀ l r,S (.slice l r) → l.length ≤ maxLen → l.length ≤ N ∧ ∀ x ∈ l,S x
 str : ∀ l : List UInt8,S (.lit (.string l)) → l.length ≤ maxLen → l.length ≤ N
theorem q119 {α β : Type} {f : α → Option β} : ∀ {l : List α} {ys : List β},l.mapM f = some ys → ys.length = l.length ∧ ∀ (i : Nat) a,l[i]? = some a → ∃ y,ys[i]? = some y ∧ f a = some y := by
 intro l
 induction l with
 | nil => intro ys h;simp at h;subst h;exact ⟨rfl,fun i a h => by simp at h⟩
 |cons a l ih =>
  intro ys h
  simp only [List.mapM_cons,Option.bind_eq_bind,Option.bind_eq_some_iff,Option.pure_def,Option.some.injEq] at h
  obtain ⟨y,hy,zs,hz,rfl⟩ := h
  obtain ⟨i1,i2⟩ := ih hz
  refine ⟨by simp [i1],fun i b hb => ?_⟩
  cases i with
  | zero => simp at hb;subst hb;exact ⟨y,rfl,hy⟩
  | succ i => simpa using i2 i b (by simpa using hb)
theorem x55 {w : World} {base : Nat} {a : Addr} {n : Nat} {cs : List Value} (h : w.cells? base a n = some cs) : cs.length = n ∧ ∀ j,j < n → ∃ v,cs[j]? = some v ∧ w.cell? (a.add j) = some v := by
 unfold World.cells? at h
 split at h
 ·obtain ⟨h1,h2⟩ := q119 h
  refine ⟨by simpa using h1,fun j hj => ?_⟩
  obtain ⟨v,k1,k2⟩ := h2 j j (List.getElem?_range hj)
  exact ⟨v,k1,k2⟩
 ·cases h
theorem x76 {S : DataW H → Prop} {m fuel : Nat} {cs : List Value} (ih : ∀ t s,shOf P m t = some s → ∀ cs d ps,DataW.trod enc P w base spare held fuel t cs = some (d,ps) → S d → ∃ ds,Is N s ds ∧ RelC w (gall w) cs ds) :
  ∀ (fl : List Field) (off : Nat) (z : Sh) (e : Nat) (xs : List (DataW H × List MemPlace)),shFs P (shOf P m) off fl = some (z,e) → xs.length = fl.length →
   (∀ (i : Nat) f y,fl[i]? = some f → xs[i]? = some y → DataW.trod enc P w base spare held fuel f.type ((cs.drop f.offset).take (P.cellsOf f.type)) = some y) → (∀ y ∈ xs,S y.1) →
   ∃ ds,Is N z ds ∧ RelC w (gall w) ((cs.drop off).take (e - off)) ds ∧ off ≤ e ∧ e = off + z.size
 | [],off,z,e,xs,h,hl,hx,hS => by
  simp only [shFs,Option.some.injEq,Prod.mk.injEq] at h
  obtain ⟨rfl,rfl⟩ := h
  exact ⟨[],rfl,by rw [Nat.sub_self,List.take_zero];exact ⟨rfl,fun j u d hu => by simp at hu⟩,Nat.le_refl _,rfl⟩
 |f :: r,off,z,e,xs,h,hl,hx,hS => by
  simp only [shFs] at h
  split at h
  ·rename_i s hs
   split at h
   ·rename_i z' e' hd hr
    cases h
    obtain ⟨d1,d2⟩ := of_decide_eq_true hd
    match xs,hl with
    |y :: ys,hl =>
     have h0 := hx 0 f y rfl rfl
     obtain ⟨ds0,q1,q2⟩ := ih f.type s hs _ _ _ h0 (hS y (by simp))
     obtain ⟨ds1,k1,k2,k3,k4⟩ := x76 ih r (off + s.size) z' e ys hr (by simpa using hl) (fun i f' y' h1 h2 => hx (i + 1) f' y' (by simpa using h1) (by simpa using h2)) (fun y' hy' => hS y' (by simp [hy']))
     refine ⟨ds0 ++ ds1,⟨ds0,ds1,rfl,q1,k1⟩,?_,by omega,by simp only [Sh.size];omega⟩
     have hq := z76 q2 k2
     rw [d1,← d2] at hq
     have e2 : (cs.drop off).take (e - off) = (cs.drop off).take s.size ++ (cs.drop (off + s.size)).take (e - (off + s.size)) := by
      rw [show e - off = s.size + (e - (off + s.size)) from by omega,List.take_add,List.drop_drop]
     rw [e2];exact hq
   ·cases h
  ·cases h
theorem j76 {S : DataW H → Prop} {fuel : Nat} {e : TypeId} {cs : List Value} {s : Sh} (ih : ∀ cs d ps,DataW.trod enc P w base spare held fuel e cs = some (d,ps) → S d → ∃ ds,Is N s ds ∧ RelC w (gall w) cs ds) :
  ∀ (n k : Nat) (xs : List (DataW H × List MemPlace)),(∀ i,i < n → ∃ y ∈ xs,DataW.trod enc P w base spare held fuel e ((cs.drop ((k + i) * s.size)).take s.size) = some y) → (∀ y ∈ xs,S y.1) →
   ∃ ds,Is N (repSh s n) ds ∧ RelC w (gall w) ((cs.drop (k * s.size)).take (n * s.size)) ds
 | 0,k,xs,hx,hS => ⟨[],rfl,by rw [Nat.zero_mul,List.take_zero];exact ⟨rfl,fun j u d hu => by simp at hu⟩⟩
 |n + 1,k,xs,hx,hS => by
  obtain ⟨y,hy,h0⟩ := hx 0 (by omega)
  obtain ⟨ds0,q1,q2⟩ := ih _ _ _ h0 (hS y hy)
  obtain ⟨ds1,k1,k2⟩ := j76 ih n (k + 1) xs (fun i hi => by rw [show k + 1 + i = k + (i + 1) from by omega];exact hx (i + 1) (by omega)) hS
  refine ⟨ds0 ++ ds1,⟨ds0,ds1,rfl,q1,k1⟩,?_⟩
  have hq := z76 q2 k2
  rw [Nat.add_zero] at hq
  rw [show (n + 1) * s.size = s.size + n * s.size from by rw [Nat.add_mul,Nat.one_mul];omega,List.take_add,List.drop_drop,show k * s.size + s.size = (k + 1) * s.size from by rw [Nat.add_mul,Nat.one_mul]]
  exact hq
theorem trod_sh {S : DataW H → Prop} (hB : Bounded N S) : ∀ (m : Nat) (t : TypeId) (s : Sh),shOf P m t = some s → ∀ (fuel : Nat) (cs : List Value) d ps,DataW.trod enc P w base spare held fuel t cs = some (d,ps) → S d →
  ∃ ds,Is N s ds ∧ RelC w (gall w) cs ds := by
 intro m
 induction m with
 | zero => intro t s h;cases h
 |succ m ih =>
  intro t s h fuel cs d ps ht hS
  simp only [shOf] at h
  split at h
  ·rename_i hu;cases h
   obtain ⟨b,rfl,-⟩ := DataW.trod_bool hu ht
   exact ⟨[.v (.bool b)],⟨b,rfl⟩,j31 (.v _ rfl)⟩
  ·rename_i k hu;cases h
   obtain ⟨n,rfl,-,hw⟩ := DataW.trod_int hu ht
   exact ⟨[.v (.int k n)],⟨n,rfl,hw⟩,j31 (.v _ rfl)⟩
  ·rename_i hu;cases h
   obtain ⟨b,rfl,hx,hw⟩ := DataW.trod_string hu ht
   cases hx
   exact ⟨[.v (.string b)],⟨b,rfl,by have := hB.str _ hS (by simpa using hw);simpa using this⟩,j31 (.v _ rfl)⟩
  ·rename_i e hu
   split at h
   ·rename_i s' hs'
    split at h
    ·rename_i hd
     cases h
     obtain ⟨d1,d2⟩ := of_decide_eq_true hd
     rcases DataW.trod_slice hu ht with ⟨rfl,hx⟩ | ⟨a,len,cap,elems,rest,n,_,rfl,hx,hb,hl,hm,hlen,hel,hsp,hns⟩
     ·cases hx
      exact ⟨[.sl s'.size 0 fun _ => zeroSh s'],⟨0,_,rfl,by omega,fun i hi => by omega,fun _ _ => rfl⟩,j31 (.sl0 _ _ _ _)⟩
     ·cases hx
      obtain ⟨b1,b2⟩ := hB.slice _ _ hS (by simp only [List.length_map];omega)
      have key : ∀ i,i < len → ∃ ds,Is N s' ds ∧ ∃ cs,w.cells? base (a.add (i * P.cellsOf e)) (P.cellsOf e) = some cs ∧ RelC w (gall w) cs ds := by
       intro i hi
       have h1 := hel i hi
       have h2 : i < elems.length := by omega
       rw [List.getElem?_eq_getElem h2] at h1
       rw [Option.bind_eq_some_iff] at h1
       obtain ⟨cs,c1,c2⟩ := h1
       obtain ⟨ds,g1,g2⟩ := ih e s' hs' _ _ _ _ c2 (b2 _ (by simp only [List.mem_map];exact ⟨_,List.getElem_mem h2,rfl⟩))
       exact ⟨ds,g1,cs,c1,g2⟩
      by_cases h0 : len = 0
      ·subst h0
       exact ⟨[.sl s'.size 0 fun _ => zeroSh s'],⟨0,_,rfl,by omega,fun i hi => by omega,fun _ _ => rfl⟩,j31 (.sl0 _ _ _ _)⟩
      ·obtain ⟨ab,ao,asp⟩ := a
       have hsp0 : asp = none := by
        obtain ⟨ds,_,cs,c1,_⟩ := key 0 (by omega)
        obtain ⟨_,c3⟩ := x55 c1
        obtain ⟨v,_,c4⟩ := c3 0 (by omega)
        simpa [Addr.add] using (q76 c4).1
       subst hsp0
       have hcell : ∀ i j,i < len → j < s'.size → ∃ v,w.cell? ⟨ab,ao + i * s'.size + j,none⟩ = some v := by
        intro i j hi hj
        obtain ⟨ds,_,cs,c1,_⟩ := key i hi
        obtain ⟨_,c3⟩ := x55 c1
        obtain ⟨v,_,c4⟩ := c3 j (by omega)
        rw [j15,j15,← d1] at c4
        exact ⟨v,c4⟩
       let f : Nat → List Dat := fun i => if hi : i < len then Classical.choose (key i hi) else zeroSh s'
       have hf : ∀ i (hi : i < len),Is N s' (f i) ∧ ∃ cs,w.cells? base ((⟨ab,ao,none⟩ : Addr).add (i * P.cellsOf e)) (P.cellsOf e) = some cs ∧ RelC w (gall w) cs (f i) := by
        intro i hi
        simp only [f,dif_pos hi]
        exact Classical.choose_spec (key i hi)
       refine ⟨[.sl s'.size len f],⟨len,f,rfl,by simpa [hlen] using b1,fun i hi => (hf i hi).1,fun i hi => by simp only [f,dif_neg (show ¬ i < len from by omega)]⟩,j31 ?_⟩
       refine .sl ab ao len cap s'.size f (fun i j => (w.cell? ⟨ab,ao + i * s'.size + j,none⟩).getD undef) hl (fun i hi => (hf i hi).1.len) (fun i j hi hj => ?_) ?_ (fun i j x hi hx => ?_)
       ·obtain ⟨v,hv⟩ := hcell i j hi hj
        rw [hv];rfl
       ·obtain ⟨v,hv⟩ := hcell (len - 1) (s'.size - 1) (by omega) (by omega)
        have hg := (q76 hv).2
        simp only at hg
        have e2 : len * s'.size = (len - 1) * s'.size + s'.size := by
         rw [show len = (len - 1) + 1 from by omega,Nat.add_mul,Nat.one_mul,Nat.add_sub_cancel]
        omega
       ·obtain ⟨hi1,cs,c1,c2⟩ := hf i hi
        obtain ⟨c3,c4⟩ := x55 c1
        have hj : j < s'.size := by have := (List.getElem?_eq_some_iff.1 hx).1;rw [hi1.len] at this;exact this
        obtain ⟨v,v1,v2⟩ := c4 j (by omega)
        rw [j15,j15,← d1] at v2
        simp only [v2,Option.getD_some]
        exact c2.2 j v x v1 hx
    ·cases h
   ·cases h
  ·rename_i fs hu
   split at h
   ·rename_i s' e hs'
    split at h
    ·rename_i hd
     cases h
     have d1 := of_decide_eq_true hd
     obtain ⟨xs,n,_,hx,hl,hlen,hf⟩ := DataW.trod_struct hu ht
     cases hx
     obtain ⟨ds,g1,g2,g3,g4⟩ := x76 (cs := cs) (fun t s hs cs d ps hh hS' => ih t s hs n cs d ps hh hS') fs.toList 0 s e xs hs' (by simpa using hlen)
      (fun i f y h1 h2 => by rw [← h2];exact hf i f (by simpa using h1)) (fun y hy => hB.agg _ hS _ (by simp only [List.mem_map];exact ⟨y,hy,rfl⟩))
     refine ⟨ds,g1,?_⟩
     rw [List.drop_zero,Nat.sub_zero,List.take_of_length_le (by omega)] at g2
     exact g2
    ·cases h
   ·cases h
  ·rename_i n e hu
   split at h
   ·rename_i s' hs'
    split at h
    ·rename_i hd
     cases h
     obtain ⟨d1,d2⟩ := of_decide_eq_true hd
     obtain ⟨xs,k,_,hx,hl,hlen,hf⟩ := DataW.trod_array hu ht
     cases hx
     obtain ⟨ds,g1,g2⟩ := j76 (N := N) (S := S) (w := w) (cs := cs) (s := s') (fun cs d ps hh hS' => ih e s' hs' k cs d ps hh hS') n 0 xs
      (fun i hi => by
       have hi' : i < xs.length := by omega
       refine ⟨xs[i],List.getElem_mem hi',?_⟩
       rw [Nat.zero_add,d1,hf i hi,List.getElem?_eq_getElem hi'])
      (fun y hy => hB.agg _ hS _ (by simp only [List.mem_map];exact ⟨y,hy,rfl⟩))
     refine ⟨ds,g1,?_⟩
     rw [Nat.zero_mul,List.drop_zero,List.take_of_length_le (by omega)] at g2
     exact g2
    ·cases h
   ·cases h
  ·cases h
end
theorem z28 {α : Type} {N : Nat} {Q : α → Prop} (enc : α → List Dat) (z : α) (s : Sh) (hz : enc z = zeroSh s) (h : ∀ ds,Is N s ds → ∃ a,ds = enc a ∧ Q a) {ds : List Dat} (hd : Is N (.slice s) ds) :
  ∃ l : List α,ds = [.sl s.size l.length fun i => enc (l.getD i z)] ∧ l.length ≤ N ∧ ∀ a ∈ l,Q a := by
 obtain ⟨n,f,rfl,hn,h1,h2⟩ := hd
 have h3 : ∀ i,∃ a,(i < n → f i = enc a ∧ Q a) := fun i => by
  by_cases hi : i < n
  ·obtain ⟨a,ha⟩ := h _ (h1 i hi);exact ⟨a,fun _ => ha⟩
  ·exact ⟨z,fun hh => absurd hh hi⟩
 obtain ⟨c,hc⟩ := Classical.axiomOfChoice h3
 refine ⟨(List.range n).map c,?_,by simpa using hn,fun a ha => ?_⟩
 ·have : f = fun i => enc (((List.range n).map c).getD i z) := by
   funext i
   by_cases hi : i < n
   ·rw [(hc i hi).1,List.getD_eq_getElem?_getD,List.getElem?_map,List.getElem?_range hi];rfl
   ·rw [h2 i (by omega),← hz,List.getD_eq_getElem?_getD,List.getElem?_eq_none (by simp;omega)];rfl
  rw [this];simp
 ·simp only [List.mem_map,List.mem_range] at ha
  obtain ⟨i,hi,rfl⟩ := ha
  exact (hc i hi).2
theorem q20 {n : Int} (h : (Lit.int .i64 n).wf = true) : -9223372036854775808 ≤ n ∧ n < 9223372036854775808 := by
 simp [Lit.wf,IntKind.min,IntKind.max,IntKind.signed,IntKind.bits] at h
 omega
theorem q77 {n : Int} (h : (Lit.int .u64 n).wf = true) : 0 ≤ n ∧ n < 18446744073709551616 := by
 simp [Lit.wf,IntKind.min,IntKind.max,IntKind.signed,IntKind.bits] at h
 omega
end Go.Proofs.Ytjfammnjpeeahaa.AL
namespace Go.Proofs.Ytjfammnjpeeahaa
open Go.Proofs.Ytjfammnjpeeahaa.AL
def bvi (a : BitVec 64) : Int := (a.toNat : Int)
def hi (x : BitVec 128) : Int := bvi (x.extractLsb' 64 64)
def lo (x : BitVec 128) : Int := bvi (x.extractLsb' 0 64)
def hd (x : BitVec 128) : List Dat := [.v (.int .u64 (hi x)),.v (.int .u64 (lo x))]
theorem q32 (a : BitVec 64) : BitVec.ofInt 64 (bvi a) = a := by
 unfold bvi
 rw [BitVec.ofInt_natCast]
 simp
theorem j55 (a : BitVec 64) : IntKind.u64.wrap (a.toNat : Int) = bvi a := by
 have := a.isLt
 simp [IntKind.wrap,IntKind.bits,IntKind.signed,bvi]
 omega
theorem z77 (a b : BitVec 64) : bits .and .u64 (bvi a) (bvi b) = bvi (a &&& b) := by
 unfold bits
 show IntKind.u64.wrap ((BitVec.ofInt 64 (bvi a) &&& BitVec.ofInt 64 (bvi b)).toNat : Int) = _
 rw [q32,q32,j55]
theorem q56 (a b : BitVec 64) : bits .or .u64 (bvi a) (bvi b) = bvi (a ||| b) := by
 unfold bits
 show IntKind.u64.wrap ((BitVec.ofInt 64 (bvi a) ||| BitVec.ofInt 64 (bvi b)).toNat : Int) = _
 rw [q32,q32,j55]
theorem z56 (a b : BitVec 64) : bits .andNot .u64 (bvi a) (bvi b) = bvi (a &&& ~~~b) := by
 unfold bits
 show IntKind.u64.wrap ((BitVec.ofInt 64 (bvi a) &&& ~~~(BitVec.ofInt 64 (bvi b))).toNat : Int) = _
 rw [q32,q32,j55]
theorem x77 (a : BitVec 64) (n : Nat) : bvi a / 2 ^ min n 64 = bvi (a >>> n) := by
 unfold bvi
 rw [BitVec.toNat_ushiftRight,Nat.shiftRight_eq_div_pow]
 have e : ((a.toNat : Int) / 2 ^ min n 64) = ((a.toNat / 2 ^ min n 64 : Nat) : Int) := by simp
 rw [e]
 congr 1
 by_cases h : n ≤ 64
 ·rw [Nat.min_eq_left h]
 ·rw [Nat.min_eq_right (by omega)]
  have h1 := a.isLt
  have h2 : (2 : Nat) ^ 64 ≤ 2 ^ n := Nat.pow_le_pow_right (by omega) (by omega)
  rw [Nat.div_eq_of_lt h1,Nat.div_eq_of_lt (by omega)]
theorem x56 (a : BitVec 64) (n : Nat) : IntKind.u64.wrap (bvi a * 2 ^ min n 64) = bvi (a <<< n) := by
 unfold bvi
 rw [BitVec.toNat_shiftLeft,Nat.shiftLeft_eq]
 have e : ((a.toNat : Int) * 2 ^ min n 64) = ((a.toNat * 2 ^ min n 64 : Nat) : Int) := by simp
 rw [e]
 have w : ∀ k : Nat,IntKind.u64.wrap (k : Int) = ((k % 2 ^ 64 : Nat) : Int) := by
  intro k;simp [IntKind.wrap,IntKind.bits,IntKind.signed]
 rw [w]
 congr 1
 by_cases h : n ≤ 64
 ·rw [Nat.min_eq_left h]
 ·rw [Nat.min_eq_right (by omega)]
  have e1 : n = 64 + (n - 64) := by omega
  rw [e1,Nat.pow_add,← Nat.mul_assoc]
  simp [Nat.mul_mod]
theorem j56 {a b : BitVec 64} : (bvi a == bvi b) = (a == b) := by
 unfold bvi
 rw [Bool.eq_iff_iff]
 simp [BitVec.toNat_eq]
 omega
theorem x28 {x : BitVec 128} {a : BitVec 64} (h : ∀ i,i < 64 → a.getLsbD i = x.getLsbD (64 + i)) : hi x = bvi a := by
 unfold hi
 congr 1
 apply BitVec.eq_of_getLsbD_eq
 intro i hi'
 rw [BitVec.getLsbD_extractLsb',h i hi']
 simp [hi']
theorem j28 {x : BitVec 128} {a : BitVec 64} (h : ∀ i,i < 64 → a.getLsbD i = x.getLsbD i) : lo x = bvi a := by
 unfold lo
 congr 1
 apply BitVec.eq_of_getLsbD_eq
 intro i hi'
 rw [BitVec.getLsbD_extractLsb',h i hi']
 simp [hi']
theorem hi_and (x y : BitVec 128) : bits .and .u64 (hi x) (hi y) = hi (x &&& y) := by
 unfold hi;rw [z77];symm;exact x28 (fun i h => by simp [BitVec.getLsbD_extractLsb',h])
theorem lo_and (x y : BitVec 128) : bits .and .u64 (lo x) (lo y) = lo (x &&& y) := by
 unfold lo;rw [z77];symm;exact j28 (fun i h => by simp [BitVec.getLsbD_extractLsb',h])
theorem hi_or (x y : BitVec 128) : bits .or .u64 (hi x) (hi y) = hi (x ||| y) := by
 unfold hi;rw [q56];symm;exact x28 (fun i h => by simp [BitVec.getLsbD_extractLsb',h])
theorem lo_or (x y : BitVec 128) : bits .or .u64 (lo x) (lo y) = lo (x ||| y) := by
 unfold lo;rw [q56];symm;exact j28 (fun i h => by simp [BitVec.getLsbD_extractLsb',h])
theorem hi_less (x y : BitVec 128) : bits .andNot .u64 (hi x) (hi y) = hi (x &&& ~~~y) := by
 unfold hi;rw [z56];symm;exact x28 (fun i h => by simp [BitVec.getLsbD_extractLsb',h,(by omega : 64 + i < 128)])
theorem lo_less (x y : BitVec 128) : bits .andNot .u64 (lo x) (lo y) = lo (x &&& ~~~y) := by
 unfold lo;rw [z56];symm;exact j28 (fun i h => by simp [BitVec.getLsbD_extractLsb',h,(by omega : i < 128)])
theorem j77 (x y : BitVec 128) : ((hi x == hi y) && (lo x == lo y)) = (x == y) := by
 unfold hi lo
 rw [j56,j56,Bool.eq_iff_iff]
 simp only [Bool.and_eq_true,beq_iff_eq]
 constructor
 ·rintro ⟨h1,h2⟩
  apply BitVec.eq_of_getLsbD_eq
  intro i hi'
  by_cases hlt : i < 64
  ·have := congrArg (fun v => v.getLsbD i) h2
   simpa [BitVec.getLsbD_extractLsb',hlt] using this
  ·have := congrArg (fun v => v.getLsbD (i - 64)) h1
   have hk : i - 64 < 64 := by omega
   have e : 64 + (i - 64) = i := by omega
   simpa [BitVec.getLsbD_extractLsb',hk,e] using this
 ·rintro rfl;exact ⟨rfl,rfl⟩
theorem z18 : hi 0 = 0 := by decide
theorem x18 : lo 0 = 0 := by decide
theorem z119 {a b : Int} (ha : 0 ≤ a) (ha' : a < 18446744073709551616) (hb : 0 ≤ b) (hb' : b < 18446744073709551616) : ∃ x,hi x = a ∧ lo x = b := by
 refine ⟨BitVec.ofNat 64 a.toNat ++ BitVec.ofNat 64 b.toNat,?_,?_⟩
 ·rw [x28 (a := BitVec.ofNat 64 a.toNat) (fun i h => by rw [BitVec.getLsbD_append];simp)]
  unfold bvi;rw [BitVec.toNat_ofNat];omega
 ·rw [j28 (a := BitVec.ofNat 64 b.toNat) (fun i h => by rw [BitVec.getLsbD_append];simp [h])]
  unfold bvi;rw [BitVec.toNat_ofNat];omega
theorem wi {n : Int} (h : -9223372036854775808 ≤ n ∧ n < 9223372036854775808) : IntKind.i64.wrap n = n := by
 simp [IntKind.wrap,IntKind.bits,IntKind.signed];omega
theorem wu {n : Int} (h : 0 ≤ n ∧ n < 18446744073709551616) : IntKind.u64.wrap n = n := by
 simp [IntKind.wrap,IntKind.bits,IntKind.signed];omega
theorem x119 : IntKind.u64.bits = 64 := rfl
theorem nn {n : Int} (h : 0 ≤ n) : (0 ≤ n) = True := eq_true h
theorem tnA (n : Nat) : ((n : Int) - 64).toNat = n - 64 := by omega
theorem nc (n : Nat) : ((no_index (OfNat.ofNat n) : Nat) : Int) = OfNat.ofNat n := rfl
theorem tnC (n : Nat) : (127 - (n : Int)).toNat = 127 - n := by omega
theorem tnB (n : Nat) : (64 - (n : Int)).toNat = 64 - n := by omega
theorem cs1 (n : Nat) : ((n + 1 : Nat) : Int) - 1 = (n : Int) := by omega
theorem bqt (b : Bool) : (b == true) = b := by cases b <;> rfl
theorem bqf (b : Bool) : (b == false) = !b := by cases b <;> rfl
theorem dge {a b : Int} (h : a ≥ b) : decide (a ≥ b) = true := decide_eq_true h
theorem dnge {a b : Int} (h : ¬ a ≥ b) : decide (a ≥ b) = false := decide_eq_false h
theorem dlt {a b : Int} (h : a < b) : decide (a < b) = true := decide_eq_true h
theorem dnlt {a b : Int} (h : ¬ a < b) : decide (a < b) = false := decide_eq_false h
theorem dgt {a b : Int} (h : a > b) : decide (a > b) = true := decide_eq_true h
theorem dngt {a b : Int} (h : ¬ a > b) : decide (a > b) = false := decide_eq_false h
theorem dle {a b : Int} (h : a ≤ b) : decide (a ≤ b) = true := decide_eq_true h
theorem dnle {a b : Int} (h : ¬ a ≤ b) : decide (a ≤ b) = false := decide_eq_false h
theorem j119 (x : BitVec 128) (n : Nat) (hn : n < 64) :
  bits .or .u64 (IntKind.u64.wrap (hi x * 2 ^ min n 64)) (lo x / 2 ^ min (64 - n) 64) = hi (x <<< n) := by
 unfold hi lo
 rw [x77,x56,q56];symm
 refine x28 (fun i h => ?_)
 simp [BitVec.getLsbD_extractLsb',BitVec.getLsbD_ushiftRight,BitVec.getLsbD_shiftLeft,h,show 64 + i < 128 from by omega,show ¬ 64 + i < n from by omega]
 by_cases h2 : i < n
 ·simp [h2,show 64 - n + i < 64 from by omega,show 64 + i - n = 64 - n + i from by omega];exact BitVec.getLsbD_eq_getElem _
 ·simp [h2,show ¬ 64 - n + i < 64 from by omega,show i - n < 64 from by omega,show 64 + i - n = 64 + (i - n) from by omega];exact BitVec.getLsbD_eq_getElem _
theorem q120 (x : BitVec 128) (n : Nat) (hn : n < 64) : IntKind.u64.wrap (lo x * 2 ^ min n 64) = lo (x <<< n) := by
 unfold lo
 rw [x56];symm
 refine j28 (fun i h => ?_)
 simp [BitVec.getLsbD_extractLsb',BitVec.getLsbD_shiftLeft,h,show i < 128 from by omega]
 by_cases h2 : i < n
 ·simp [h2]
 ·simp [h2,show i - n < 64 from by omega];exact BitVec.getLsbD_eq_getElem _
theorem z120 (x : BitVec 128) (n : Nat) (hn : 64 ≤ n) : (0 : Int) = lo (x <<< n) := by
 rw [← x18];unfold lo;symm
 refine j28 (fun i h => ?_)
 simp [BitVec.getLsbD_extractLsb',BitVec.getLsbD_shiftLeft,h,show i < 128 from by omega,show i < n from by omega]
theorem x120 (x : BitVec 128) (n : Nat) (hn : 64 ≤ n) : IntKind.u64.wrap (lo x * 2 ^ min (n - 64) 64) = hi (x <<< n) := by
 unfold hi lo
 rw [x56];symm
 refine x28 (fun i h => ?_)
 simp [BitVec.getLsbD_extractLsb',BitVec.getLsbD_shiftLeft,h,show 64 + i < 128 from by omega]
 by_cases h2 : i < n - 64
 ·simp [h2,show 64 + i < n from by omega]
 ·simp [h2,show ¬ 64 + i < n from by omega,show i - (n - 64) < 64 from by omega,show 64 + i - n = i - (n - 64) from by omega];exact BitVec.getLsbD_eq_getElem _
def ones (n : Nat) : BitVec 128 := BitVec.ofNat 128 (2 ^ n - 1)
theorem low_lo (n : Nat) (hn : n < 128) : (((BitVec.extractLsb' 0 64 ((1 : BitVec 128) <<< n)).toNat + 18446744073709551616 - 1) % 18446744073709551616 : Nat) = lo (ones n) := by
 have : ∀ k : Fin 128,((((BitVec.extractLsb' 0 64 ((1 : BitVec 128) <<< k.val)).toNat + 18446744073709551616 - 1) % 18446744073709551616 : Nat) : Int) = lo (ones k.val) := by decide +kernel
 exact this ⟨n,hn⟩
theorem low_hi (n : Nat) (hn : n < 128) : IntKind.u64.wrap (hi ((1 : BitVec 128) <<< n) - ((if (BitVec.extractLsb' 0 64 ((1 : BitVec 128) <<< n)).toNat < 1 then 1 else 0 : Nat) : Int)) = hi (ones n) := by
 have : ∀ k : Fin 128,IntKind.u64.wrap (hi ((1 : BitVec 128) <<< k.val) - ((if (BitVec.extractLsb' 0 64 ((1 : BitVec 128) <<< k.val)).toNat < 1 then 1 else 0 : Nat) : Int)) = hi (ones k.val) := by decide +kernel
 exact this ⟨n,hn⟩
theorem x16 (x y : BitVec 128) : eqI [hi x,lo x] [hi y,lo y] = (x == y) := by
 rw [← j77];simp only [eqI,Bool.and_true]
theorem z17 (x : BitVec 128) : eqI [hi x,lo x] [0,0] = (x == 0) := by
 rw [← x16,z18,x18]
def fieldB (a b m : Int) : Bool := decide (0 ≤ a ∧ 0 ≤ b ∧ b ≤ m ∧ a + b ≤ 128)
def over (b : Nat) (v : BitVec 64) : Bool := bits .andNot .u64 (bvi v) (lo (ones b)) != 0
def putE (a b : Int) (v : BitVec 64) : Int := if fieldB a b 64 then (if over b.toNat v then 4 else 0) else 1
def putB (x : BitVec 128) (a b : Nat) (v : BitVec 64) : BitVec 128 := (x &&& ~~~(ones b <<< a)) ||| (v.zeroExtend 128 <<< a)
theorem hi_ext (v : BitVec 64) : hi (v.zeroExtend 128) = 0 := by
 rw [← z18];unfold hi;symm
 refine x28 (fun i h => ?_)
 simp [BitVec.getLsbD_extractLsb',h]
theorem lo_ext (v : BitVec 64) : lo (v.zeroExtend 128) = bvi v := by
 refine j28 (fun i h => ?_)
 simp [h,show i < 128 from by omega]
structure Cube where
 v : BitVec 128
 c : BitVec 128
deriving DecidableEq
def cb (k : Cube) : List Dat := [.v (.int .u64 (hi k.v)),.v (.int .u64 (lo k.v)),.v (.int .u64 (hi k.c)),.v (.int .u64 (lo k.c))]
def Cube.sound (k : Cube) : Bool := k.v &&& ~~~k.c == 0
def mkC (v c : BitVec 128) : Cube := ⟨v &&& c,c⟩
def apart (a b : Cube) : BitVec 128 := (a.v ^^^ b.v) &&& (a.c &&& b.c)
section
open Go.Proofs.Ytjfammnjpeeahaa.AL
attribute [go_sem] x117 j117 runA runB runC q118 z118 runAD runBD runCD isCall wantedA List.getElem?_toArray stepE opEff mapEv Op.operands Call.operands locNeed
attribute [go_sem] ASt.locAt ASt.eval AL.look frOf effMove effPick pickAV boolAV effNil effBox effAlloc isSl effLoad effStore effFieldAddr effIndexAddr effField effIndex effBin effInt
attribute [go_sem] effUn effConvert effMake effBytes effStr numD effBuild effBuildSlice effBuildSlice0 nilR nilAV effNil' effSlice effFunc effExtract effBuiltin effLen effAppend AV.mentions datAV datsAV cellsAV pvAV
attribute [go_sem] intAV lenAV srcAV intsD TK.agg fillD rowsOf bnds bndAV callK callAV calleeAV resAV dstOK effOK ASt.apply ASt.upd ASt.put unusedB LV.mentions Value.oneCell'
attribute [go_sem] Eff.val Eff.upd Eff.fresh Eff.obl List.contains_nil List.contains_cons List.elem_cons List.elem_nil List.map_cons List.map_nil List.mapM_cons List.mapM_nil
attribute [go_sem] List.flatMap_cons List.flatMap_nil List.length_cons List.length_nil List.take_succ_cons List.take_zero List.take_nil List.drop_succ_cons List.drop_zero
attribute [go_sem] List.drop_nil List.nil_append List.cons_append List.append_nil List.zip_cons_cons List.zip_nil_left List.zip_nil_right List.all_cons List.all_nil List.isEmpty_nil
attribute [go_sem] List.isEmpty_cons List.getElem?_cons_zero List.getElem?_cons_succ List.getElem?_nil List.range'_succ List.range'_zero cond_true cond_false Option.map_some
attribute [go_sem] Option.map_none Option.getD_some Option.getD_none Option.bind_some Option.isSome_some Option.isSome_none Option.pure_def Option.bind_eq_bind true_and and_true
attribute [go_sem] decide_true decide_false decide_eq_true_eq Array.toList_append Nat.succ_ne_zero Nat.add_zero Nat.zero_add Bool.and_true Bool.true_and Bool.and_false
attribute [go_sem] Bool.false_and Bool.or_false Bool.or_true Bool.not_true Bool.not_false Bool.false_eq_true beq_self_eq_true BEq.rfl ne_eq not_false_eq_true not_true_eq_false
attribute [go_sem] Bool.not_eq_true' Nat.le_refl Int.toNat_natCast List.reverse_cons List.reverse_nil Nat.mul_one Nat.one_mul implies_true nc tnC cs1 Option.some.injEq wi wu nn
attribute [go_sem] exX exAt effLoadX effStoreX effIndexAddrX effFieldAddrX effAppendX effClearX slX_0 slX_l mxOf x21
attribute [go_sem] ownX ownD effLoadO effStoreO effIndexAddrO effFieldAddrO effMakeO effBuildSlice0O effAppendO cvAV effFuncO CV.mentions
attribute [go_sem] mapX effLenM effDelete effCopyO effNilP nilP nilPB nilFB effMakeMap effLookup effUpdate mapKs mapKZ keyKinds kindsV keyAV keyObl cvsAV fillC effBuildC effFieldC CV.av
attribute [go_sem] x119 bqt bqf dge dnge dgt dngt dlt dnlt dle dnle tnA tnB PV.agg.injEq PV.d.injEq Dat.v.injEq
end
end Go.Proofs.Ytjfammnjpeeahaa
namespace Go.Proofs.Ytjfammnjpeeahaa
open Go.Proofs.Ytjfammnjpeeahaa.AL Go.ChangeShapes Go.WideShapes Go.ChangeAt Go.RowKit
theorem j120 : ownKnob Try.prog.godebug = none := by kernel_rfl
namespace AL
theorem q121 {P : Program} {f : FuncId} {fn : Func} {xs : List PV} {W : World} {g : Nat → Nat} {args : Array Value} (h : ACalls P f xs (· = [.d (.v (.bool true))])) (hf : P.funcs[f]? = some fn) (hb : fn.body.isSome = true) (hname : (fn.name == "runtime.NumGoroutine") = false)
  (hz : GZ W g) (hr : RelPs W g args.toList xs) : Calls P f args W fun e W' => e = .returned (.bool true) ∧ Below W.heap.size W W' := by
 have h := x23.1 h W g args.toList hz hr
 obtain ⟨c,hc⟩ := Option.isSome_iff_exists.1 hb
 have hrun : (callFunc f args).run P W = .ok (.enter f args) W := by
  simp only [callFunc,program,Sem.run,Bind.bind,Sem.bind,hf,hname,hc];rfl
 rw [Array.toArray_toList,hrun] at h
 refine Calls.mono (h : Calls P f args W _) fun e W' ⟨v,he,g',rs,h1,h2,h3⟩ => ?_
 subst h2
 cases h3 with
 | d _ _ h3 => cases h3;exact ⟨he,h1.below⟩
def aggT (P : Program) (t : TypeId) : Bool := match P.underlying t with
 | some (.struct _) => true
 | some (.array _ _) => true
 | _ => false
def pvSh (agg : Bool) (ds : List Dat) : PV := bif agg then .agg ds else .d (ds.headD default)
def pvs : List (Bool × Sh) → List (List Dat) → List PV
 | (b,_) :: ss,x :: xs => pvSh b x :: pvs ss xs
 | _,_ => []
def IsAll (N : Nat) : List (Bool × Sh) → List (List Dat) → Prop
 | [],[] => True
 | (_,s) :: ss,x :: xs => Is N s x ∧ IsAll N ss xs
 | _,_ => False
theorem q78 {N : Nat} {p : Bool × Sh} {ss : List (Bool × Sh)} {xs : List (List Dat)} (h : IsAll N (p :: ss) xs) : ∃ x xs',xs = x :: xs' ∧ Is N p.2 x ∧ IsAll N ss xs' := by
 cases xs with
 | nil => exact h.elim
 | cons x xs => exact ⟨x,xs,rfl,h.1,h.2⟩
theorem z121 {N : Nat} {xs : List (List Dat)} (h : IsAll N [] xs) : xs = [] := by
 cases xs with
 | nil => rfl
 | cons x xs => exact h.elim
def argsOf (P : Program) : List TypeId → Option (List (Bool × Sh))
 | [] => some []
 |t :: ts => match shOf P 12 t,argsOf P ts with
  | some s,some l => some ((aggT P t,s) :: l)
  | _,_ => none
section
variable {H : Type} {enc : TypeId × Value → H} {P : Program} {w : World} {base : Nat} {spare : Nat → Bool} {held : Bool} {N : Nat}
theorem x121 {S : DataW H → Prop} (hB : Bounded N S) {r : Reach} {b0 : Nat} {t : TypeId} {s : Sh} {v : Value} {d : DataW H} {p : List MemPlace} (hv : Value.okWide P w r b0 t v) (hs : shOf P 12 t = some s)
  (h : DataW.Trod enc P w base spare held t v d p) (hS : S d) : ∃ ds,Is N s ds ∧ RelP w (gall w) v (pvSh (aggT P t) ds) := by
 obtain ⟨fuel,hf⟩ := h
 obtain ⟨ds,h1,h2⟩ := trod_sh hB 12 t s hs fuel _ _ _ hf hS
 refine ⟨ds,h1,?_⟩
 have one : v.oneCell' = true → aggT P t = false → RelP w (gall w) v (pvSh (aggT P t) ds) := by
  intro ho ha
  rw [ha]
  rw [x111 ho] at h2
  have hl := h2.1
  match ds,hl with
  | [x],_ => exact .d _ _ (h2.2 0 v x rfl rfl)
 simp only [shOf] at hs
 split at hs
 ·rename_i hu;obtain ⟨b,rfl⟩ := okWide_bool hu hv;exact one rfl (by simp [aggT,hu])
 ·rename_i k hu;obtain ⟨n,rfl⟩ := okWide_int hu hv;exact one rfl (by simp [aggT,hu])
 ·rename_i hu;obtain ⟨b,rfl⟩ := okWide_string hu hv;exact one rfl (by simp [aggT,hu])
 ·rename_i e hu;obtain ⟨a,l,c,rfl⟩ := okWide_slice hu hv;exact one rfl (by simp [aggT,hu])
 ·rename_i fs hu
  obtain ⟨cs,rfl,_⟩ := okWide_struct hu hv
  have : aggT P t = true := by simp [aggT,hu]
  rw [this]
  have h3 := RelP.agg cs.toList ds h2.1 (fun j v x hv hx => h2.2 j v x hv hx)
  rw [Array.toArray_toList] at h3
  exact h3
 ·rename_i n e hu
  have : aggT P t = true := by simp [aggT,hu]
  rw [this]
  unfold Value.okWide at hv
  rw [hu] at hv
  obtain ⟨cs,rfl,_⟩ := hv
  have h3 := RelP.agg cs.toList ds h2.1 (fun j v x hv hx => h2.2 j v x hv hx)
  rw [Array.toArray_toList] at h3
  exact h3
 ·cases hs
theorem z78 {S : DataW H → Prop} (hB : Bounded N S) {r : Reach} {b0 : Nat} : ∀ (ts : List TypeId) (ss : List (Bool × Sh)) (vs : List Value) (ds : List (DataW H)) (ps : List MemPlace),argsOf P ts = some ss →
  (∀ (j : Nat) t v,ts[j]? = some t → vs[j]? = some v → Value.okWide P w r b0 t v) → DataW.TrodAll enc P w base spare held ts vs ds ps → (∀ d ∈ ds,S d) →
  ∃ xs,IsAll N ss xs ∧ RelPs w (gall w) vs (pvs ss xs)
 | [],ss,vs,ds,ps,h,hv,ht,hS => by
  obtain ⟨rfl,rfl,rfl⟩ := trodAll_nil ht
  cases h
  exact ⟨[],trivial,.nil _ _⟩
 |t :: ts,ss,vs,ds,ps,h,hv,ht,hS => by
  obtain ⟨v,vs',d,ds',p,q,rfl,rfl,rfl,h0,h1⟩ := trodAll_cons ht
  simp only [argsOf] at h
  split at h
  ·rename_i s l hs hl
   cases h
   obtain ⟨x,x1,x2⟩ := x121 hB (hv 0 t v rfl rfl) hs h0 (hS d (by simp))
   obtain ⟨xs,y1,y2⟩ := z78 hB ts l vs' ds' q hl (fun j t v a b => hv (j + 1) t v (by simpa using a) (by simpa using b)) h1 (fun d hd => hS d (by simp [hd]))
   exact ⟨x :: xs,⟨x1,y1⟩,.cons x2 y2⟩
  ·cases h
theorem j121 {W W' : World} (h : Below W.heap.size W W') (may : MemPlace → Prop) : W.keptBut W' may := by
 refine ⟨h.os,h.output,fun i hi => ?_⟩
 rw [h.block i hi]
 have : ∃ o,W.heap[i]? = some o := ⟨W.heap[i],by simp [hi]⟩
 obtain ⟨o,ho⟩ := this
 rw [ho]
 cases o <;> simp
theorem q122 {W W' : World} (h : Below W.heap.size W W') (a : Addr) (ha : a.block < W.heap.size) : W'.frozen? a = W.frozen? a := by
 unfold World.frozen?;rw [h.block _ ha]
theorem x78 (hl : laidOutB P = true) {W W' : World} {sp : Nat → Bool} : ∀ (ts : List TypeId) (vs : List Value) (ds : List (DataW H)) (ps : List MemPlace),(ts.all fun t => P.readableRec t && decide (t < P.types.size)) = true →
  DataW.TrodAll enc P W base (fun _ => true) true ts vs ds ps → (∀ p ∈ ps,W.sameAt W' p) → (∀ p ∈ ps,sp p.block = true) → DataW.TrodAll enc P W' base sp true ts vs ds ps
 | [],vs,ds,ps,hr,h,_,_ => by
  obtain ⟨rfl,rfl,rfl⟩ := trodAll_nil h
  rfl
 |t :: ts,vs,ds,ps,hr,h,hs,hp => by
  obtain ⟨v,vs',d,ds',p,q,rfl,rfl,rfl,h0,h1⟩ := trodAll_cons h
  simp only [List.all_cons,Bool.and_eq_true,decide_eq_true_eq] at hr
  exact ⟨p,q,WideElems.Trod_stays hl hr.1.1 hr.1.2 h0 (fun x hx => hs x (by simp [hx])) (fun x hx => hp x (by simp [hx])),
   x78 hl ts vs' ds' q hr.2 h1 (fun x hx => hs x (by simp [hx])) (fun x hx => hp x (by simp [hx])),rfl⟩
theorem z122 {f : Func} {s : ChangeSpec} {apart fresh handsOn again : Bool} {W W' : World} {args : Array Value} {tb : TypeId} {ds gs : List (DataW H)} {before : List MemPlace}
  (hl : laidOutB P = true) (hr : (f.params.toList.all fun t => P.readableRec t && decide (t < P.types.size)) = true) (hres : f.resultTypes = #[tb]) (hub : P.underlying tb = some .bool) (hv : s.vars = []) 
  (hsp : s.fn H (ds ++ gs) = { results := [.lit (.bool true)],args := ds })
  (hW : DataW.Whole enc P f.params.toList s.vars apart W args.toList ds gs before) (hB : Below W.heap.size W W') :
  s.post enc P f apart fresh handsOn again W args (.bool true) W' := by
 have hlt := hW.lt
 have hW' := hW
 obtain ⟨p,q,hA,hV,hpq,hz,hn⟩ := hW'
 rw [hv] at hV
 obtain ⟨rfl,rfl⟩ := trodVars_none hV
 rw [List.append_nil] at hpq
 subst hpq
 have hres' : ∀ (b : Nat) (sp : Nat → Bool) (hd : Bool),DataW.TrodAll enc P W' b sp hd f.resultTypes.toList ((Value.bool true).resultList f.resultTypes.size) (s.fn H (ds ++ [])).results [] := by
  intro b sp hd
  rw [hsp,hres]
  exact trodAll_mk1 (shut_bool hub true)
 have hargs : ∀ sp : Nat → Bool,(∀ x ∈ before,sp x.block = true) → DataW.TrodAll enc P W' 0 sp true f.params.toList args.toList (s.fn H (ds ++ [])).args before := by
  intro sp hs
  rw [hsp]
  exact x78 hl _ _ _ _ hr hA (fun x hx => hB.same (hlt x hx)) hs
 have hvars : ∀ sp : Nat → Bool,DataW.TrodVars enc P W' sp s.vars (s.fn H (ds ++ [])).vars [] := by
  intro sp
  rw [hsp,hv]
  rfl
 have hok : ∀ (j : Nat) (t : TypeId) (r : Value),f.resultTypes[j]? = some t → ((Value.bool true).resultList f.resultTypes.size)[j]? = some r → Value.okWide P W' .any 0 t r :=
  ok_one hres rfl (okWide_bool_mk hub true)
 have hold : ∀ x ∈ before,(fun b => decide (b < W.heap.size)) x.block = true := fun x hx => by simpa using hlt x hx
 refine ⟨ds,[],before,[],before,[],hW,hres' _ _ _,hargs _ hold,hvars _,j121 hB _,fun _ => ?_⟩
 refine ⟨hok,_,_,([] ++ before) ++ [],⟨[] ++ before,[],trodAll_append (hargs _ (fun _ _ => rfl)) (hres' _ _ _),hvars _,rfl,?_,?_⟩,?_⟩
 ·intro b off hp
  have hp' : MemPlace.cell b off ∈ before := by simpa using hp
  rw [q122 hB _ (hlt _ hp')]
  exact hz b off hp'
 ·intro ha
  simpa using hn ha
 ·intro p hp _
  simpa using hp
theorem x122 {S : DataW H → Prop} (hS : Bounded N S) {f : FuncId} {fn : Func} {s : ChangeSpec} {tb : TypeId} {ss : List (Bool × Sh)} {fresh handsOn again : Bool} (hf : P.funcs[f]? = some fn) (hb : fn.body.isSome = true) (hname : (fn.name == "runtime.NumGoroutine") = false)
  (hl : laidOutB P = true) (hr : (fn.params.toList.all fun t => P.readableRec t && decide (t < P.types.size)) = true) (hres : fn.resultTypes = #[tb]) (hub : P.underlying tb = some .bool) (hv : s.vars = [])
  (hss : argsOf P fn.params.toList = some ss) (hsp : ∀ ds : List (DataW H),ds.length = fn.params.toList.length → s.fn H (ds ++ []) = { results := [.lit (.bool true)],args := ds })
  (law : ∀ xs,IsAll N ss xs → ACalls P f (pvs ss xs) (· = [.d (.v (.bool true))]))
  (W : World) (base : Nat) (args : Array Value) (ds gs : List (DataW H)) (before : List MemPlace)
  (hval : ∀ (j : Nat) t v,fn.params[j]? = some t → args[j]? = some v → Value.okWide P W .any base t v) (hW : DataW.Whole enc P fn.params.toList s.vars false W args.toList ds gs before) (hSd : ∀ d ∈ ds,S d) :
  Calls P f args W fun e W' => ∃ v,e = .returned v ∧ s.post enc P fn false fresh handsOn again W args v W' := by
 have hW' := hW
 obtain ⟨p,q,hA,hV,hpq,hz,hn⟩ := hW'
 rw [hv] at hV
 obtain ⟨rfl,rfl⟩ := trodVars_none hV
 obtain ⟨xs,x1,x2⟩ := z78 hS fn.params.toList ss args.toList ds p hss (fun j t v a b => hval j t v (by simpa using a) (by simpa using b)) hA hSd
 have hlen : ∀ (ts : List TypeId) (vs : List Value) (ds : List (DataW H)) (ps : List MemPlace),DataW.TrodAll enc P W 0 (fun _ => true) true ts vs ds ps → ds.length = ts.length := by
  intro ts
  induction ts with
  | nil => intro vs ds ps h;obtain ⟨rfl,rfl,rfl⟩ := trodAll_nil h;rfl
  | cons t ts ih => intro vs ds ps h;obtain ⟨v,vs',d,ds',p,q,rfl,rfl,rfl,h0,h1⟩ := trodAll_cons h;simp [ih _ _ _ h1]
 refine (q121 (law xs x1) hf hb hname (gall_gz W) x2).mono fun e W' ⟨he,hg⟩ => ?_
 exact ⟨_,he,z122 hl hr hres hub hv (hsp ds (hlen _ _ _ _ hA)) hW hg⟩
end
end AL
theorem one_le {H : Type} (d : DataW H) : 1 ≤ Rows.uptoBulk d := by
 cases d with
 | lit l => cases l <;> simp [Rows.uptoBulk]
 | nil => simp [Rows.uptoBulk]
 | ptr d => simp [Rows.uptoBulk]
 | slice elems spare => simp [Rows.uptoBulk]
 | agg parts => simp [Rows.uptoBulk]
 | iface t d => simp [Rows.uptoBulk]
 | map entries => simp [Rows.uptoBulk]
 | held h => simp [Rows.uptoBulk]
theorem q57 {H : Type} {d : DataW H} {l : List (DataW H)} (h : d ∈ l) : Rows.uptoBulk d ≤ Rows.uptoBulkAll l := by
 induction l with
 | nil => cases h
 |cons x r ih =>
  simp only [Rows.uptoBulkAll]
  cases List.mem_cons.1 h with
  | inl e => subst e;omega
  | inr e => have := ih e;omega
theorem j122 {H : Type} (l : List (DataW H)) : l.length ≤ Rows.uptoBulkAll l := by
 induction l with
 | nil => simp [Rows.uptoBulkAll]
 | cons x r ih => have := one_le x;simp only [Rows.uptoBulkAll,List.length_cons];omega
theorem q123 {H : Type} : Bounded (H := H) 1048576 (fun d => Rows.uptoBulk d ≤ 1048576) where
 agg l h x hx := by have := q57 hx;simp only [Rows.uptoBulk] at h;omega
 slice l r h _ := by
  simp only [Rows.uptoBulk] at h
  exact ⟨by have := j122 l;omega,fun x hx => by have := q57 hx;omega⟩
 str l h _ := by simp only [Rows.uptoBulk] at h;omega
theorem z123 {H : Type} {l : List (DataW H)} (hk : Rows.uptoSmall H (l ++ []) = true) : ∀ d ∈ l,Rows.uptoBulk d ≤ 1048576 := by
 have h : Rows.uptoBulkAll (l ++ []) ≤ 1048576 := of_decide_eq_true hk
 intro d hd
 rw [List.append_nil] at h
 have := q57 hd
 omega
def headSh : Sh := .pair (.int .u64) (.pair (.int .u64) .unit)
def cubeSh : Sh := .pair headSh (.pair headSh .unit)
theorem is_hd {N : Nat} {ds : List Dat} (h : Is N headSh ds) : ∃ x : BitVec 128,ds = hd x := by
 obtain ⟨_,_,rfl,⟨a,rfl,wa⟩,_,_,rfl,⟨b,rfl,wb⟩,rfl⟩ := h
 have h1 := q77 wa;have h2 := q77 wb
 obtain ⟨x,rfl,rfl⟩ := z119 h1.1 h1.2 h2.1 h2.2
 exact ⟨x,rfl⟩
theorem is_cb {N : Nat} {ds : List Dat} (h : Is N cubeSh ds) : ∃ k : Cube,ds = cb k := by
 obtain ⟨_,_,rfl,ha,_,_,rfl,hb,rfl⟩ := h
 obtain ⟨x,rfl⟩ := is_hd ha
 obtain ⟨y,rfl⟩ := is_hd hb
 exact ⟨⟨x,y⟩,rfl⟩
end Go.Proofs.Ytjfammnjpeeahaa
namespace Go.Proofs.Ytjfammnjpeeahaa
open Go.Proofs.Ytjfammnjpeeahaa.AL
@[go_sem] theorem fu1 : isFuncT Try.prog 1 = true := by kernel_rfl
@[go_sem] theorem fu32 : isFuncT Try.prog 32 = true := by kernel_rfl
@[go_sem] theorem fu33 : isFuncT Try.prog 33 = true := by kernel_rfl
@[go_sem] theorem fu51 : isFuncT Try.prog 51 = true := by kernel_rfl
@[go_sem] theorem fu54 : isFuncT Try.prog 54 = true := by kernel_rfl
@[go_sem] theorem fu63 : isFuncT Try.prog 63 = true := by kernel_rfl
@[go_sem] theorem fu64 : isFuncT Try.prog 64 = true := by kernel_rfl
@[go_sem] theorem fu67 : isFuncT Try.prog 67 = true := by kernel_rfl
@[go_sem] theorem fu68 : isFuncT Try.prog 68 = true := by kernel_rfl
@[go_sem] theorem fu70 : isFuncT Try.prog 70 = true := by kernel_rfl
@[go_sem] theorem fu71 : isFuncT Try.prog 71 = true := by kernel_rfl
@[go_sem] theorem fu72 : isFuncT Try.prog 72 = true := by kernel_rfl
@[go_sem] theorem fu73 : isFuncT Try.prog 73 = true := by kernel_rfl
@[go_sem] theorem fu74 : isFuncT Try.prog 74 = true := by kernel_rfl
@[go_sem] theorem fu75 : isFuncT Try.prog 75 = true := by kernel_rfl
@[go_sem] theorem fu76 : isFuncT Try.prog 76 = true := by kernel_rfl
@[go_sem] theorem fu77 : isFuncT Try.prog 77 = true := by kernel_rfl
@[go_sem] theorem fu78 : isFuncT Try.prog 78 = true := by kernel_rfl
@[go_sem] theorem fu79 : isFuncT Try.prog 79 = true := by kernel_rfl
@[go_sem] theorem fu80 : isFuncT Try.prog 80 = true := by kernel_rfl
@[go_sem] theorem fu81 : isFuncT Try.prog 81 = true := by kernel_rfl
@[go_sem] theorem fu82 : isFuncT Try.prog 82 = true := by kernel_rfl
@[go_sem] theorem fu83 : isFuncT Try.prog 83 = true := by kernel_rfl
@[go_sem] theorem fu84 : isFuncT Try.prog 84 = true := by kernel_rfl
@[go_sem] theorem fu85 : isFuncT Try.prog 85 = true := by kernel_rfl
@[go_sem] theorem fu86 : isFuncT Try.prog 86 = true := by kernel_rfl
@[go_sem] theorem fu87 : isFuncT Try.prog 87 = true := by kernel_rfl
@[go_sem] theorem fu90 : isFuncT Try.prog 90 = true := by kernel_rfl
@[go_sem] theorem fu93 : isFuncT Try.prog 93 = true := by kernel_rfl
@[go_sem] theorem fu94 : isFuncT Try.prog 94 = true := by kernel_rfl
@[go_sem] theorem mp95 : mapOf Try.prog 95 = some (3,34) := by kernel_rfl
@[go_sem] theorem fu98 : isFuncT Try.prog 98 = true := by kernel_rfl
@[go_sem] theorem fu99 : isFuncT Try.prog 99 = true := by kernel_rfl
@[go_sem] theorem fu100 : isFuncT Try.prog 100 = true := by kernel_rfl
@[go_sem] theorem fu101 : isFuncT Try.prog 101 = true := by kernel_rfl
@[go_sem] theorem fu102 : isFuncT Try.prog 102 = true := by kernel_rfl
@[go_sem] theorem fu103 : isFuncT Try.prog 103 = true := by kernel_rfl
@[go_sem] theorem fu104 : isFuncT Try.prog 104 = true := by kernel_rfl
@[go_sem] theorem fu105 : isFuncT Try.prog 105 = true := by kernel_rfl
@[go_sem] theorem fu106 : isFuncT Try.prog 106 = true := by kernel_rfl
@[go_sem] theorem fu107 : isFuncT Try.prog 107 = true := by kernel_rfl
@[go_sem] theorem fu108 : isFuncT Try.prog 108 = true := by kernel_rfl
@[go_sem] theorem fu109 : isFuncT Try.prog 109 = true := by kernel_rfl
@[go_sem] theorem fu110 : isFuncT Try.prog 110 = true := by kernel_rfl
@[go_sem] theorem fu111 : isFuncT Try.prog 111 = true := by kernel_rfl
@[go_sem] theorem fu113 : isFuncT Try.prog 113 = true := by kernel_rfl
@[go_sem] theorem fu115 : isFuncT Try.prog 115 = true := by kernel_rfl
@[go_sem] theorem fu116 : isFuncT Try.prog 116 = true := by kernel_rfl
@[go_sem] theorem fu117 : isFuncT Try.prog 117 = true := by kernel_rfl
@[go_sem] theorem fu118 : isFuncT Try.prog 118 = true := by kernel_rfl
@[go_sem] theorem fu119 : isFuncT Try.prog 119 = true := by kernel_rfl
@[go_sem] theorem fu120 : isFuncT Try.prog 120 = true := by kernel_rfl
@[go_sem] theorem fu121 : isFuncT Try.prog 121 = true := by kernel_rfl
@[go_sem] theorem fu122 : isFuncT Try.prog 122 = true := by kernel_rfl
@[go_sem] theorem fu123 : isFuncT Try.prog 123 = true := by kernel_rfl
@[go_sem] theorem fu124 : isFuncT Try.prog 124 = true := by kernel_rfl
@[go_sem] theorem fu125 : isFuncT Try.prog 125 = true := by kernel_rfl
@[go_sem] theorem fu126 : isFuncT Try.prog 126 = true := by kernel_rfl
@[go_sem] theorem fu127 : isFuncT Try.prog 127 = true := by kernel_rfl
@[go_sem] theorem fu129 : isFuncT Try.prog 129 = true := by kernel_rfl
@[go_sem] theorem fu130 : isFuncT Try.prog 130 = true := by kernel_rfl
@[go_sem] theorem fu131 : isFuncT Try.prog 131 = true := by kernel_rfl
@[go_sem] theorem fu132 : isFuncT Try.prog 132 = true := by kernel_rfl
@[go_sem] theorem fu133 : isFuncT Try.prog 133 = true := by kernel_rfl
@[go_sem] theorem fu134 : isFuncT Try.prog 134 = true := by kernel_rfl
@[go_sem] theorem fu135 : isFuncT Try.prog 135 = true := by kernel_rfl
@[go_sem] theorem fu136 : isFuncT Try.prog 136 = true := by kernel_rfl
@[go_sem] theorem fu137 : isFuncT Try.prog 137 = true := by kernel_rfl
@[go_sem] theorem fu140 : isFuncT Try.prog 140 = true := by kernel_rfl
@[go_sem] theorem fu141 : isFuncT Try.prog 141 = true := by kernel_rfl
@[go_sem] theorem fu142 : isFuncT Try.prog 142 = true := by kernel_rfl
@[go_sem] theorem fu143 : isFuncT Try.prog 143 = true := by kernel_rfl
@[go_sem] theorem fu145 : isFuncT Try.prog 145 = true := by kernel_rfl
@[go_sem] theorem fu146 : isFuncT Try.prog 146 = true := by kernel_rfl
@[go_sem] theorem fu149 : isFuncT Try.prog 149 = true := by kernel_rfl
@[go_sem] theorem fu150 : isFuncT Try.prog 150 = true := by kernel_rfl
@[go_sem] theorem fu151 : isFuncT Try.prog 151 = true := by kernel_rfl
@[go_sem] theorem fu152 : isFuncT Try.prog 152 = true := by kernel_rfl
@[go_sem] theorem fu153 : isFuncT Try.prog 153 = true := by kernel_rfl
@[go_sem] theorem fu154 : isFuncT Try.prog 154 = true := by kernel_rfl
@[go_sem] theorem fu156 : isFuncT Try.prog 156 = true := by kernel_rfl
@[go_sem] theorem fu157 : isFuncT Try.prog 157 = true := by kernel_rfl
@[go_sem] theorem fu159 : isFuncT Try.prog 159 = true := by kernel_rfl
@[go_sem] theorem fu160 : isFuncT Try.prog 160 = true := by kernel_rfl
@[go_sem] theorem fu161 : isFuncT Try.prog 161 = true := by kernel_rfl
@[go_sem] theorem fu163 : isFuncT Try.prog 163 = true := by kernel_rfl
@[go_sem] theorem fu166 : isFuncT Try.prog 166 = true := by kernel_rfl
@[go_sem] theorem fu167 : isFuncT Try.prog 167 = true := by kernel_rfl
@[go_sem] theorem fu175 : isFuncT Try.prog 175 = true := by kernel_rfl
@[go_sem] theorem fu181 : isFuncT Try.prog 181 = true := by kernel_rfl
@[go_sem] theorem zv34 : zvOf Try.prog 34 = some (.d (.v (.slice none 0 0))) := by kernel_rfl
@[go_sem] theorem ty1 : tiOf Try.prog 1 = some ⟨.other,1,[.nilFunc]⟩ := by kernel_rfl
@[go_sem] theorem ty2 : tiOf Try.prog 2 = some ⟨.int .i64,1,[.int .i64 0]⟩ := by kernel_rfl
@[go_sem] theorem ty3 : tiOf Try.prog 3 = some ⟨.int .i64,1,[.int .i64 0]⟩ := by kernel_rfl
@[go_sem] theorem ty4 : tiOf Try.prog 4 = some ⟨.bool,1,[.bool false]⟩ := by kernel_rfl
@[go_sem] theorem un4 : Try.prog.underlying 4 = some .bool := by kernel_rfl
@[go_sem] theorem ty5 : tiOf Try.prog 5 = some ⟨.int .u8,1,[.int .u8 0]⟩ := by kernel_rfl
@[go_sem] theorem ty6 : tiOf Try.prog 6 = some ⟨.int .u8,1,[.int .u8 0]⟩ := by kernel_rfl
@[go_sem] theorem ty7 : tiOf Try.prog 7 = some ⟨.struct [(0,1,false),(1,1,false),(2,1,false),(3,1,false)],4,[.int .i64 0,.int .i64 0,.bool false,.int .u8 0]⟩ := by kernel_rfl
@[go_sem] theorem ty8 : tiOf Try.prog 8 = some ⟨.struct [(0,1,false),(1,1,false),(2,1,false),(3,1,false)],4,[.int .i64 0,.int .i64 0,.bool false,.int .u8 0]⟩ := by kernel_rfl
@[go_sem] theorem ty9 : tiOf Try.prog 9 = some ⟨.string,1,[.string ⟨#[]⟩]⟩ := by kernel_rfl
@[go_sem] theorem ty10 : tiOf Try.prog 10 = some ⟨.string,1,[.string ⟨#[]⟩]⟩ := by kernel_rfl
@[go_sem] theorem ty11 : tiOf Try.prog 11 = some ⟨.string,1,[.string ⟨#[]⟩]⟩ := by kernel_rfl
@[go_sem] theorem ty12 : tiOf Try.prog 12 = some ⟨.int .u64,1,[.int .u64 0]⟩ := by kernel_rfl
@[go_sem] theorem ty13 : tiOf Try.prog 13 = some ⟨.struct [(0,1,false),(1,1,false)],2,[.string ⟨#[]⟩,.int .u64 0]⟩ := by kernel_rfl
@[go_sem] theorem ty14 : tiOf Try.prog 14 = some ⟨.struct [(0,1,false),(1,1,false)],2,[.string ⟨#[]⟩,.int .u64 0]⟩ := by kernel_rfl
@[go_sem] theorem ty15 : tiOf Try.prog 15 = some ⟨.ptr,1,[.pointer none]⟩ := by kernel_rfl
@[go_sem] theorem ty16 : tiOf Try.prog 16 = some ⟨.ptr,1,[.pointer none]⟩ := by kernel_rfl
@[go_sem] theorem ty17 : tiOf Try.prog 17 = some ⟨.ptr,1,[.pointer none]⟩ := by kernel_rfl
@[go_sem] theorem ty18 : tiOf Try.prog 18 = some ⟨.struct [(0,1,false)],1,[.pointer none]⟩ := by kernel_rfl
@[go_sem] theorem ty19 : tiOf Try.prog 19 = some ⟨.struct [(0,1,false)],1,[.pointer none]⟩ := by kernel_rfl
@[go_sem] theorem ty21 : tiOf Try.prog 21 = some ⟨.int .i32,1,[.int .i32 0]⟩ := by kernel_rfl
@[go_sem] theorem ty22 : tiOf Try.prog 22 = some ⟨.slice 45 1 24,1,[.slice none 0 0]⟩ := by kernel_rfl
@[go_sem] theorem ty23 : tiOf Try.prog 23 = some ⟨.struct [(0,1,false)],1,[.slice none 0 0]⟩ := by kernel_rfl
@[go_sem] theorem ty24 : tiOf Try.prog 24 = some ⟨.struct [(0,1,false)],1,[.slice none 0 0]⟩ := by kernel_rfl
@[go_sem] theorem ty25 : tiOf Try.prog 25 = some ⟨.slice 48 2 16,1,[.slice none 0 0]⟩ := by kernel_rfl
@[go_sem] theorem ty26 : tiOf Try.prog 26 = some ⟨.slice 50 3 24,1,[.slice none 0 0]⟩ := by kernel_rfl
@[go_sem] theorem ty27 : tiOf Try.prog 27 = some ⟨.struct [(0,1,false),(1,1,false),(2,1,false)],3,[.int .i64 0,.slice none 0 0,.slice none 0 0]⟩ := by kernel_rfl
@[go_sem] theorem ty28 : tiOf Try.prog 28 = some ⟨.struct [(0,1,false),(1,1,false),(2,1,false)],3,[.int .i64 0,.slice none 0 0,.slice none 0 0]⟩ := by kernel_rfl
@[go_sem] theorem ty29 : tiOf Try.prog 29 = some ⟨.slice 34 1 24,1,[.slice none 0 0]⟩ := by kernel_rfl
@[go_sem] theorem ty30 : tiOf Try.prog 30 = some ⟨.struct [(0,1,true),(1,3,true),(4,1,false)],5,[.slice none 0 0,.int .i64 0,.slice none 0 0,.slice none 0 0,.slice none 0 0]⟩ := by kernel_rfl
@[go_sem] theorem ty31 : tiOf Try.prog 31 = some ⟨.struct [(0,1,true),(1,3,true),(4,1,false)],5,[.slice none 0 0,.int .i64 0,.slice none 0 0,.slice none 0 0,.slice none 0 0]⟩ := by kernel_rfl
@[go_sem] theorem ty32 : tiOf Try.prog 32 = some ⟨.other,1,[.nilFunc]⟩ := by kernel_rfl
@[go_sem] theorem ty33 : tiOf Try.prog 33 = some ⟨.other,1,[.nilFunc]⟩ := by kernel_rfl
@[go_sem] theorem ty34 : tiOf Try.prog 34 = some ⟨.slice 35 1 24,1,[.slice none 0 0]⟩ := by kernel_rfl
@[go_sem] theorem ty35 : tiOf Try.prog 35 = some ⟨.slice 44 12 96,1,[.slice none 0 0]⟩ := by kernel_rfl
@[go_sem] theorem ty36 : tiOf Try.prog 36 = some ⟨.int .u64,1,[.int .u64 0]⟩ := by kernel_rfl
@[go_sem] theorem ty37 : tiOf Try.prog 37 = some ⟨.struct [(0,1,false),(1,1,false)],2,[.int .u64 0,.int .u64 0]⟩ := by kernel_rfl
@[go_sem] theorem ty38 : tiOf Try.prog 38 = some ⟨.struct [(0,1,false),(1,1,false)],2,[.int .u64 0,.int .u64 0]⟩ := by kernel_rfl
theorem x17 : EqTy Try.prog 38 [.u64,.u64] := by
 refine ⟨by kernel_rfl,fun w xs ys hx hy => ?_⟩
 rcases xs with _ | ⟨a1,_ | ⟨a2,_ | ⟨a3,ar⟩⟩⟩ <;> first | (simp at hx;done) | skip
 rcases ys with _ | ⟨b1,_ | ⟨b2,_ | ⟨b3,br⟩⟩⟩ <;> first | (simp at hy;done) | skip
 show (Op.equalIn 10000 38 _ _).run _ _ = _
 simp [go_sem,ints,eqI]
 by_cases h1 : a1 = b1
 case neg => simp [h1]
 by_cases h2 : a2 = b2
 case neg => simp [h1,h2]
 simp [h1,h2]
@[go_sem] theorem ty39 : tiOf Try.prog 39 = some ⟨.struct [(0,2,true),(2,2,true)],4,[.int .u64 0,.int .u64 0,.int .u64 0,.int .u64 0]⟩ := by kernel_rfl
@[go_sem] theorem ty40 : tiOf Try.prog 40 = some ⟨.struct [(0,2,true),(2,2,true)],4,[.int .u64 0,.int .u64 0,.int .u64 0,.int .u64 0]⟩ := by kernel_rfl
theorem j17 : EqTy Try.prog 40 [.u64,.u64,.u64,.u64] := by
 refine ⟨by kernel_rfl,fun w xs ys hx hy => ?_⟩
 rcases xs with _ | ⟨a1,_ | ⟨a2,_ | ⟨a3,_ | ⟨a4,_ | ⟨a5,ar⟩⟩⟩⟩⟩ <;> first | (simp at hx;done) | skip
 rcases ys with _ | ⟨b1,_ | ⟨b2,_ | ⟨b3,_ | ⟨b4,_ | ⟨b5,br⟩⟩⟩⟩⟩ <;> first | (simp at hy;done) | skip
 show (Op.equalIn 10000 40 _ _).run _ _ = _
 simp [go_sem,ints,eqI]
 by_cases h1 : a1 = b1
 case neg => simp [h1]
 by_cases h2 : a2 = b2
 case neg => simp [h1,h2]
 by_cases h3 : a3 = b3
 case neg => simp [h1,h2,h3]
 by_cases h4 : a4 = b4
 case neg => simp [h1,h2,h3,h4]
 simp [h1,h2,h3,h4]
@[go_sem] theorem ty41 : tiOf Try.prog 41 = some ⟨.struct [(0,1,false),(1,1,false),(2,1,false),(3,4,true)],7,[.int .i64 0,.int .i64 0,.int .i64 0,.int .u64 0,.int .u64 0,.int .u64 0,.int .u64 0]⟩ := by kernel_rfl
@[go_sem] theorem ty42 : tiOf Try.prog 42 = some ⟨.struct [(0,1,false),(1,1,false),(2,1,false),(3,4,true)],7,[.int .i64 0,.int .i64 0,.int .i64 0,.int .u64 0,.int .u64 0,.int .u64 0,.int .u64 0]⟩ := by kernel_rfl
@[go_sem] theorem ty43 : tiOf Try.prog 43 = some ⟨.struct [(0,1,false),(1,4,true),(5,7,true)],12,[.int .i64 0,.int .u64 0,.int .u64 0,.int .u64 0,.int .u64 0,.int .i64 0,.int .i64 0,.int .i64 0,.int .u64 0,.int .u64 0,.int .u64 0,.int .u64 0]⟩ := by kernel_rfl
@[go_sem] theorem ty44 : tiOf Try.prog 44 = some ⟨.struct [(0,1,false),(1,4,true),(5,7,true)],12,[.int .i64 0,.int .u64 0,.int .u64 0,.int .u64 0,.int .u64 0,.int .i64 0,.int .i64 0,.int .i64 0,.int .u64 0,.int .u64 0,.int .u64 0,.int .u64 0]⟩ := by kernel_rfl
theorem q12 : EqTy Try.prog 44 [.i64,.u64,.u64,.u64,.u64,.i64,.i64,.i64,.u64,.u64,.u64,.u64] := by
 refine ⟨by kernel_rfl,fun w xs ys hx hy => ?_⟩
 rcases xs with _ | ⟨a1,_ | ⟨a2,_ | ⟨a3,_ | ⟨a4,_ | ⟨a5,_ | ⟨a6,_ | ⟨a7,_ | ⟨a8,_ | ⟨a9,_ | ⟨a10,_ | ⟨a11,_ | ⟨a12,_ | ⟨a13,ar⟩⟩⟩⟩⟩⟩⟩⟩⟩⟩⟩⟩⟩ <;> first | (simp at hx;done) | skip
 rcases ys with _ | ⟨b1,_ | ⟨b2,_ | ⟨b3,_ | ⟨b4,_ | ⟨b5,_ | ⟨b6,_ | ⟨b7,_ | ⟨b8,_ | ⟨b9,_ | ⟨b10,_ | ⟨b11,_ | ⟨b12,_ | ⟨b13,br⟩⟩⟩⟩⟩⟩⟩⟩⟩⟩⟩⟩⟩ <;> first | (simp at hy;done) | skip
 show (Op.equalIn 10000 44 _ _).run _ _ = _
 simp [go_sem,ints,eqI]
 by_cases h1 : a1 = b1
 case neg => simp [h1]
 by_cases h2 : a2 = b2
 case neg => simp [h1,h2]
 by_cases h3 : a3 = b3
 case neg => simp [h1,h2,h3]
 by_cases h4 : a4 = b4
 case neg => simp [h1,h2,h3,h4]
 by_cases h5 : a5 = b5
 case neg => simp [h1,h2,h3,h4,h5]
 by_cases h6 : a6 = b6
 case neg => simp [h1,h2,h3,h4,h5,h6]
 by_cases h7 : a7 = b7
 case neg => simp [h1,h2,h3,h4,h5,h6,h7]
 by_cases h8 : a8 = b8
 case neg => simp [h1,h2,h3,h4,h5,h6,h7,h8]
 by_cases h9 : a9 = b9
 case neg => simp [h1,h2,h3,h4,h5,h6,h7,h8,h9]
 by_cases h10 : a10 = b10
 case neg => simp [h1,h2,h3,h4,h5,h6,h7,h8,h9,h10]
 by_cases h11 : a11 = b11
 case neg => simp [h1,h2,h3,h4,h5,h6,h7,h8,h9,h10,h11]
 by_cases h12 : a12 = b12
 case neg => simp [h1,h2,h3,h4,h5,h6,h7,h8,h9,h10,h11,h12]
 simp [h1,h2,h3,h4,h5,h6,h7,h8,h9,h10,h11,h12]
@[go_sem] theorem ty45 : tiOf Try.prog 45 = some ⟨.slice 47 5 40,1,[.slice none 0 0]⟩ := by kernel_rfl
@[go_sem] theorem ty46 : tiOf Try.prog 46 = some ⟨.struct [(0,1,false),(1,1,false),(2,1,false),(3,1,false),(4,1,false)],5,[.int .i64 0,.int .i64 0,.int .i64 0,.int .i64 0,.int .i64 0]⟩ := by kernel_rfl
@[go_sem] theorem ty47 : tiOf Try.prog 47 = some ⟨.struct [(0,1,false),(1,1,false),(2,1,false),(3,1,false),(4,1,false)],5,[.int .i64 0,.int .i64 0,.int .i64 0,.int .i64 0,.int .i64 0]⟩ := by kernel_rfl
theorem z13 : EqTy Try.prog 47 [.i64,.i64,.i64,.i64,.i64] := by
 refine ⟨by kernel_rfl,fun w xs ys hx hy => ?_⟩
 rcases xs with _ | ⟨a1,_ | ⟨a2,_ | ⟨a3,_ | ⟨a4,_ | ⟨a5,_ | ⟨a6,ar⟩⟩⟩⟩⟩⟩ <;> first | (simp at hx;done) | skip
 rcases ys with _ | ⟨b1,_ | ⟨b2,_ | ⟨b3,_ | ⟨b4,_ | ⟨b5,_ | ⟨b6,br⟩⟩⟩⟩⟩⟩ <;> first | (simp at hy;done) | skip
 show (Op.equalIn 10000 47 _ _).run _ _ = _
 simp [go_sem,ints,eqI]
 by_cases h1 : a1 = b1
 case neg => simp [h1]
 by_cases h2 : a2 = b2
 case neg => simp [h1,h2]
 by_cases h3 : a3 = b3
 case neg => simp [h1,h2,h3]
 by_cases h4 : a4 = b4
 case neg => simp [h1,h2,h3,h4]
 by_cases h5 : a5 = b5
 case neg => simp [h1,h2,h3,h4,h5]
 simp [h1,h2,h3,h4,h5]
@[go_sem] theorem ty48 : tiOf Try.prog 48 = some ⟨.array 2 3 1 false,2,[.int .i64 0,.int .i64 0]⟩ := by kernel_rfl
@[go_sem] theorem ty49 : tiOf Try.prog 49 = some ⟨.struct [(0,1,false),(1,1,false),(2,1,false)],3,[.int .i64 0,.int .i64 0,.int .i64 0]⟩ := by kernel_rfl
@[go_sem] theorem ty50 : tiOf Try.prog 50 = some ⟨.struct [(0,1,false),(1,1,false),(2,1,false)],3,[.int .i64 0,.int .i64 0,.int .i64 0]⟩ := by kernel_rfl
theorem j18 : EqTy Try.prog 50 [.i64,.i64,.i64] := by
 refine ⟨by kernel_rfl,fun w xs ys hx hy => ?_⟩
 rcases xs with _ | ⟨a1,_ | ⟨a2,_ | ⟨a3,_ | ⟨a4,ar⟩⟩⟩⟩ <;> first | (simp at hx;done) | skip
 rcases ys with _ | ⟨b1,_ | ⟨b2,_ | ⟨b3,_ | ⟨b4,br⟩⟩⟩⟩ <;> first | (simp at hy;done) | skip
 show (Op.equalIn 10000 50 _ _).run _ _ = _
 simp [go_sem,ints,eqI]
 by_cases h1 : a1 = b1
 case neg => simp [h1]
 by_cases h2 : a2 = b2
 case neg => simp [h1,h2]
 by_cases h3 : a3 = b3
 case neg => simp [h1,h2,h3]
 simp [h1,h2,h3]
@[go_sem] theorem ty51 : tiOf Try.prog 51 = some ⟨.other,1,[.nilFunc]⟩ := by kernel_rfl
@[go_sem] theorem ty52 : tiOf Try.prog 52 = some ⟨.slice 62 6 64,1,[.slice none 0 0]⟩ := by kernel_rfl
@[go_sem] theorem ty53 : tiOf Try.prog 53 = some ⟨.ptr,1,[.pointer none]⟩ := by kernel_rfl
@[go_sem] theorem ty54 : tiOf Try.prog 54 = some ⟨.other,1,[.nilFunc]⟩ := by kernel_rfl
@[go_sem] theorem ty55 : tiOf Try.prog 55 = some ⟨.ptr,1,[.pointer none]⟩ := by kernel_rfl
@[go_sem] theorem ty56 : tiOf Try.prog 56 = some ⟨.struct [(0,1,false),(1,1,false)],2,[.int .i64 0,.slice none 0 0]⟩ := by kernel_rfl
@[go_sem] theorem ty57 : tiOf Try.prog 57 = some ⟨.struct [(0,1,false),(1,1,false)],2,[.int .i64 0,.slice none 0 0]⟩ := by kernel_rfl
@[go_sem] theorem ty58 : tiOf Try.prog 58 = some ⟨.slice 57 2 32,1,[.slice none 0 0]⟩ := by kernel_rfl
@[go_sem] theorem ty59 : tiOf Try.prog 59 = some ⟨.struct [(0,1,false),(1,1,false),(2,1,false),(3,1,false)],4,[.int .i64 0,.int .i64 0,.int .i64 0,.slice none 0 0]⟩ := by kernel_rfl
@[go_sem] theorem ty60 : tiOf Try.prog 60 = some ⟨.struct [(0,1,false),(1,1,false),(2,1,false),(3,1,false)],4,[.int .i64 0,.int .i64 0,.int .i64 0,.slice none 0 0]⟩ := by kernel_rfl
@[go_sem] theorem ty61 : tiOf Try.prog 61 = some ⟨.struct [(0,1,false),(1,1,false),(2,1,false),(3,1,false),(4,1,false),(5,1,false)],6,[.int .i64 0,.int .i64 0,.int .i64 0,.int .i64 0,.int .i64 0,.slice none 0 0]⟩ := by kernel_rfl
@[go_sem] theorem ty62 : tiOf Try.prog 62 = some ⟨.struct [(0,1,false),(1,1,false),(2,1,false),(3,1,false),(4,1,false),(5,1,false)],6,[.int .i64 0,.int .i64 0,.int .i64 0,.int .i64 0,.int .i64 0,.slice none 0 0]⟩ := by kernel_rfl
@[go_sem] theorem ty63 : tiOf Try.prog 63 = some ⟨.other,1,[.nilFunc]⟩ := by kernel_rfl
@[go_sem] theorem ty64 : tiOf Try.prog 64 = some ⟨.other,1,[.nilFunc]⟩ := by kernel_rfl
@[go_sem] theorem ty65 : tiOf Try.prog 65 = some ⟨.slice 3 1 8,1,[.slice none 0 0]⟩ := by kernel_rfl
@[go_sem] theorem ty67 : tiOf Try.prog 67 = some ⟨.other,1,[.nilFunc]⟩ := by kernel_rfl
@[go_sem] theorem ty68 : tiOf Try.prog 68 = some ⟨.other,1,[.nilFunc]⟩ := by kernel_rfl
@[go_sem] theorem ty70 : tiOf Try.prog 70 = some ⟨.other,1,[.nilFunc]⟩ := by kernel_rfl
@[go_sem] theorem ty71 : tiOf Try.prog 71 = some ⟨.other,1,[.nilFunc]⟩ := by kernel_rfl
@[go_sem] theorem ty72 : tiOf Try.prog 72 = some ⟨.other,1,[.nilFunc]⟩ := by kernel_rfl
@[go_sem] theorem ty73 : tiOf Try.prog 73 = some ⟨.other,1,[.nilFunc]⟩ := by kernel_rfl
@[go_sem] theorem ty74 : tiOf Try.prog 74 = some ⟨.other,1,[.nilFunc]⟩ := by kernel_rfl
@[go_sem] theorem ty75 : tiOf Try.prog 75 = some ⟨.other,1,[.nilFunc]⟩ := by kernel_rfl
@[go_sem] theorem ty76 : tiOf Try.prog 76 = some ⟨.other,1,[.nilFunc]⟩ := by kernel_rfl
@[go_sem] theorem ty77 : tiOf Try.prog 77 = some ⟨.other,1,[.nilFunc]⟩ := by kernel_rfl
@[go_sem] theorem ty78 : tiOf Try.prog 78 = some ⟨.other,1,[.nilFunc]⟩ := by kernel_rfl
@[go_sem] theorem ty79 : tiOf Try.prog 79 = some ⟨.other,1,[.nilFunc]⟩ := by kernel_rfl
@[go_sem] theorem ty80 : tiOf Try.prog 80 = some ⟨.other,1,[.nilFunc]⟩ := by kernel_rfl
@[go_sem] theorem ty81 : tiOf Try.prog 81 = some ⟨.other,1,[.nilFunc]⟩ := by kernel_rfl
@[go_sem] theorem ty82 : tiOf Try.prog 82 = some ⟨.other,1,[.nilFunc]⟩ := by kernel_rfl
@[go_sem] theorem ty83 : tiOf Try.prog 83 = some ⟨.other,1,[.nilFunc]⟩ := by kernel_rfl
@[go_sem] theorem ty84 : tiOf Try.prog 84 = some ⟨.other,1,[.nilFunc]⟩ := by kernel_rfl
@[go_sem] theorem ty85 : tiOf Try.prog 85 = some ⟨.other,1,[.nilFunc]⟩ := by kernel_rfl
@[go_sem] theorem ty86 : tiOf Try.prog 86 = some ⟨.other,1,[.nilFunc]⟩ := by kernel_rfl
@[go_sem] theorem ty87 : tiOf Try.prog 87 = some ⟨.other,1,[.nilFunc]⟩ := by kernel_rfl
@[go_sem] theorem ty88 : tiOf Try.prog 88 = some ⟨.int .i64,1,[.int .i64 0]⟩ := by kernel_rfl
@[go_sem] theorem ty90 : tiOf Try.prog 90 = some ⟨.other,1,[.nilFunc]⟩ := by kernel_rfl
@[go_sem] theorem ty91 : tiOf Try.prog 91 = some ⟨.struct [(0,1,false),(1,1,false)],2,[.int .i64 0,.int .i64 0]⟩ := by kernel_rfl
@[go_sem] theorem ty92 : tiOf Try.prog 92 = some ⟨.struct [(0,1,false),(1,1,false)],2,[.int .i64 0,.int .i64 0]⟩ := by kernel_rfl
theorem j9 : EqTy Try.prog 92 [.i64,.i64] := by
 refine ⟨by kernel_rfl,fun w xs ys hx hy => ?_⟩
 rcases xs with _ | ⟨a1,_ | ⟨a2,_ | ⟨a3,ar⟩⟩⟩ <;> first | (simp at hx;done) | skip
 rcases ys with _ | ⟨b1,_ | ⟨b2,_ | ⟨b3,br⟩⟩⟩ <;> first | (simp at hy;done) | skip
 show (Op.equalIn 10000 92 _ _).run _ _ = _
 simp [go_sem,ints,eqI]
 by_cases h1 : a1 = b1
 case neg => simp [h1]
 by_cases h2 : a2 = b2
 case neg => simp [h1,h2]
 simp [h1,h2]
@[go_sem] theorem ty93 : tiOf Try.prog 93 = some ⟨.other,1,[.nilFunc]⟩ := by kernel_rfl
@[go_sem] theorem ty94 : tiOf Try.prog 94 = some ⟨.other,1,[.nilFunc]⟩ := by kernel_rfl
@[go_sem] theorem ty95 : tiOf Try.prog 95 = some ⟨.other,1,[.map none]⟩ := by kernel_rfl
@[go_sem] theorem ty96 : tiOf Try.prog 96 = some ⟨.struct [(0,1,false),(1,1,false),(2,1,false),(3,1,false)],4,[.int .i64 0,.int .i64 0,.int .i64 0,.map none]⟩ := by kernel_rfl
@[go_sem] theorem ty97 : tiOf Try.prog 97 = some ⟨.struct [(0,1,false),(1,1,false),(2,1,false),(3,1,false)],4,[.int .i64 0,.int .i64 0,.int .i64 0,.map none]⟩ := by kernel_rfl
@[go_sem] theorem ty98 : tiOf Try.prog 98 = some ⟨.other,1,[.nilFunc]⟩ := by kernel_rfl
@[go_sem] theorem ty99 : tiOf Try.prog 99 = some ⟨.other,1,[.nilFunc]⟩ := by kernel_rfl
@[go_sem] theorem ty100 : tiOf Try.prog 100 = some ⟨.other,1,[.nilFunc]⟩ := by kernel_rfl
@[go_sem] theorem ty101 : tiOf Try.prog 101 = some ⟨.other,1,[.nilFunc]⟩ := by kernel_rfl
@[go_sem] theorem ty102 : tiOf Try.prog 102 = some ⟨.other,1,[.nilFunc]⟩ := by kernel_rfl
@[go_sem] theorem ty103 : tiOf Try.prog 103 = some ⟨.other,1,[.nilFunc]⟩ := by kernel_rfl
@[go_sem] theorem ty104 : tiOf Try.prog 104 = some ⟨.other,1,[.nilFunc]⟩ := by kernel_rfl
@[go_sem] theorem ty105 : tiOf Try.prog 105 = some ⟨.other,1,[.nilFunc]⟩ := by kernel_rfl
@[go_sem] theorem ty106 : tiOf Try.prog 106 = some ⟨.other,1,[.nilFunc]⟩ := by kernel_rfl
@[go_sem] theorem ty107 : tiOf Try.prog 107 = some ⟨.other,1,[.nilFunc]⟩ := by kernel_rfl
@[go_sem] theorem ty108 : tiOf Try.prog 108 = some ⟨.other,1,[.nilFunc]⟩ := by kernel_rfl
@[go_sem] theorem ty109 : tiOf Try.prog 109 = some ⟨.other,1,[.nilFunc]⟩ := by kernel_rfl
@[go_sem] theorem ty110 : tiOf Try.prog 110 = some ⟨.other,1,[.nilFunc]⟩ := by kernel_rfl
@[go_sem] theorem ty111 : tiOf Try.prog 111 = some ⟨.other,1,[.nilFunc]⟩ := by kernel_rfl
@[go_sem] theorem ty112 : tiOf Try.prog 112 = some ⟨.slice 92 2 16,1,[.slice none 0 0]⟩ := by kernel_rfl
@[go_sem] theorem ty113 : tiOf Try.prog 113 = some ⟨.other,1,[.nilFunc]⟩ := by kernel_rfl
@[go_sem] theorem ty115 : tiOf Try.prog 115 = some ⟨.other,1,[.nilFunc]⟩ := by kernel_rfl
@[go_sem] theorem ty116 : tiOf Try.prog 116 = some ⟨.other,1,[.nilFunc]⟩ := by kernel_rfl
@[go_sem] theorem ty117 : tiOf Try.prog 117 = some ⟨.other,1,[.nilFunc]⟩ := by kernel_rfl
@[go_sem] theorem ty118 : tiOf Try.prog 118 = some ⟨.other,1,[.nilFunc]⟩ := by kernel_rfl
@[go_sem] theorem ty119 : tiOf Try.prog 119 = some ⟨.other,1,[.nilFunc]⟩ := by kernel_rfl
@[go_sem] theorem ty120 : tiOf Try.prog 120 = some ⟨.other,1,[.nilFunc]⟩ := by kernel_rfl
@[go_sem] theorem ty121 : tiOf Try.prog 121 = some ⟨.other,1,[.nilFunc]⟩ := by kernel_rfl
@[go_sem] theorem ty122 : tiOf Try.prog 122 = some ⟨.other,1,[.nilFunc]⟩ := by kernel_rfl
@[go_sem] theorem ty123 : tiOf Try.prog 123 = some ⟨.other,1,[.nilFunc]⟩ := by kernel_rfl
@[go_sem] theorem ty124 : tiOf Try.prog 124 = some ⟨.other,1,[.nilFunc]⟩ := by kernel_rfl
@[go_sem] theorem ty125 : tiOf Try.prog 125 = some ⟨.other,1,[.nilFunc]⟩ := by kernel_rfl
@[go_sem] theorem ty126 : tiOf Try.prog 126 = some ⟨.other,1,[.nilFunc]⟩ := by kernel_rfl
@[go_sem] theorem ty127 : tiOf Try.prog 127 = some ⟨.other,1,[.nilFunc]⟩ := by kernel_rfl
@[go_sem] theorem ty128 : tiOf Try.prog 128 = some ⟨.struct [(0,1,false),(1,1,false)],2,[.int .u64 0,.int .u64 0]⟩ := by kernel_rfl
@[go_sem] theorem ty129 : tiOf Try.prog 129 = some ⟨.other,1,[.nilFunc]⟩ := by kernel_rfl
@[go_sem] theorem ty130 : tiOf Try.prog 130 = some ⟨.other,1,[.nilFunc]⟩ := by kernel_rfl
@[go_sem] theorem ty131 : tiOf Try.prog 131 = some ⟨.other,1,[.nilFunc]⟩ := by kernel_rfl
@[go_sem] theorem ty132 : tiOf Try.prog 132 = some ⟨.other,1,[.nilFunc]⟩ := by kernel_rfl
@[go_sem] theorem ty133 : tiOf Try.prog 133 = some ⟨.other,1,[.nilFunc]⟩ := by kernel_rfl
@[go_sem] theorem ty134 : tiOf Try.prog 134 = some ⟨.other,1,[.nilFunc]⟩ := by kernel_rfl
@[go_sem] theorem ty135 : tiOf Try.prog 135 = some ⟨.other,1,[.nilFunc]⟩ := by kernel_rfl
@[go_sem] theorem ty136 : tiOf Try.prog 136 = some ⟨.other,1,[.nilFunc]⟩ := by kernel_rfl
@[go_sem] theorem ty137 : tiOf Try.prog 137 = some ⟨.other,1,[.nilFunc]⟩ := by kernel_rfl
@[go_sem] theorem ty138 : tiOf Try.prog 138 = some ⟨.int .u64,1,[.int .u64 0]⟩ := by kernel_rfl
@[go_sem] theorem ty140 : tiOf Try.prog 140 = some ⟨.other,1,[.nilFunc]⟩ := by kernel_rfl
@[go_sem] theorem ty141 : tiOf Try.prog 141 = some ⟨.other,1,[.nilFunc]⟩ := by kernel_rfl
@[go_sem] theorem ty142 : tiOf Try.prog 142 = some ⟨.other,1,[.nilFunc]⟩ := by kernel_rfl
@[go_sem] theorem ty143 : tiOf Try.prog 143 = some ⟨.other,1,[.nilFunc]⟩ := by kernel_rfl
@[go_sem] theorem ty144 : tiOf Try.prog 144 = some ⟨.struct [(0,1,false),(1,4,true),(5,7,true)],12,[.int .i64 0,.int .u64 0,.int .u64 0,.int .u64 0,.int .u64 0,.int .i64 0,.int .i64 0,.int .i64 0,.int .u64 0,.int .u64 0,.int .u64 0,.int .u64 0]⟩ := by kernel_rfl
@[go_sem] theorem ty145 : tiOf Try.prog 145 = some ⟨.other,1,[.nilFunc]⟩ := by kernel_rfl
@[go_sem] theorem ty146 : tiOf Try.prog 146 = some ⟨.other,1,[.nilFunc]⟩ := by kernel_rfl
@[go_sem] theorem ty147 : tiOf Try.prog 147 = some ⟨.int .i64,1,[.int .i64 0]⟩ := by kernel_rfl
@[go_sem] theorem ty149 : tiOf Try.prog 149 = some ⟨.other,1,[.nilFunc]⟩ := by kernel_rfl
@[go_sem] theorem ty150 : tiOf Try.prog 150 = some ⟨.other,1,[.nilFunc]⟩ := by kernel_rfl
@[go_sem] theorem ty151 : tiOf Try.prog 151 = some ⟨.other,1,[.nilFunc]⟩ := by kernel_rfl
@[go_sem] theorem ty152 : tiOf Try.prog 152 = some ⟨.other,1,[.nilFunc]⟩ := by kernel_rfl
@[go_sem] theorem ty153 : tiOf Try.prog 153 = some ⟨.other,1,[.nilFunc]⟩ := by kernel_rfl
@[go_sem] theorem ty154 : tiOf Try.prog 154 = some ⟨.other,1,[.nilFunc]⟩ := by kernel_rfl
@[go_sem] theorem ty155 : tiOf Try.prog 155 = some ⟨.int .u32,1,[.int .u32 0]⟩ := by kernel_rfl
@[go_sem] theorem ty156 : tiOf Try.prog 156 = some ⟨.other,1,[.nilFunc]⟩ := by kernel_rfl
@[go_sem] theorem ty157 : tiOf Try.prog 157 = some ⟨.other,1,[.nilFunc]⟩ := by kernel_rfl
@[go_sem] theorem ty158 : tiOf Try.prog 158 = some ⟨.int .u64,1,[.int .u64 0]⟩ := by kernel_rfl
@[go_sem] theorem ty159 : tiOf Try.prog 159 = some ⟨.other,1,[.nilFunc]⟩ := by kernel_rfl
@[go_sem] theorem ty160 : tiOf Try.prog 160 = some ⟨.other,1,[.nilFunc]⟩ := by kernel_rfl
@[go_sem] theorem ty161 : tiOf Try.prog 161 = some ⟨.other,1,[.nilFunc]⟩ := by kernel_rfl
@[go_sem] theorem ty162 : tiOf Try.prog 162 = some ⟨.ptr,1,[.pointer none]⟩ := by kernel_rfl
@[go_sem] theorem ty163 : tiOf Try.prog 163 = some ⟨.other,1,[.nilFunc]⟩ := by kernel_rfl
@[go_sem] theorem ty164 : tiOf Try.prog 164 = some ⟨.ptr,1,[.pointer none]⟩ := by kernel_rfl
@[go_sem] theorem ty166 : tiOf Try.prog 166 = some ⟨.other,1,[.nilFunc]⟩ := by kernel_rfl
@[go_sem] theorem ty167 : tiOf Try.prog 167 = some ⟨.other,1,[.nilFunc]⟩ := by kernel_rfl
@[go_sem] theorem ty168 : tiOf Try.prog 168 = some ⟨.struct [(0,1,false),(1,1,false),(2,1,false),(3,1,false)],4,[.pointer none,.pointer none,.pointer none,.string ⟨#[]⟩]⟩ := by kernel_rfl
@[go_sem] theorem ty169 : tiOf Try.prog 169 = some ⟨.struct [(0,1,false),(1,1,false),(2,1,false),(3,1,false)],4,[.pointer none,.pointer none,.pointer none,.string ⟨#[]⟩]⟩ := by kernel_rfl
@[go_sem] theorem ty170 : tiOf Try.prog 170 = some ⟨.array 0 16 1 false,0,[]⟩ := by kernel_rfl
@[go_sem] theorem ty171 : tiOf Try.prog 171 = some ⟨.struct [(0,0,true)],0,[]⟩ := by kernel_rfl
@[go_sem] theorem ty172 : tiOf Try.prog 172 = some ⟨.struct [(0,0,true)],0,[]⟩ := by kernel_rfl
@[go_sem] theorem ty173 : tiOf Try.prog 173 = some ⟨.int .u8,1,[.int .u8 0]⟩ := by kernel_rfl
@[go_sem] theorem ty174 : tiOf Try.prog 174 = some ⟨.int .u8,1,[.int .u8 0]⟩ := by kernel_rfl
@[go_sem] theorem ty175 : tiOf Try.prog 175 = some ⟨.other,1,[.nilFunc]⟩ := by kernel_rfl
@[go_sem] theorem ty176 : tiOf Try.prog 176 = some ⟨.ptr,1,[.pointer none]⟩ := by kernel_rfl
@[go_sem] theorem ty177 : tiOf Try.prog 177 = some ⟨.int .i32,1,[.int .i32 0]⟩ := by kernel_rfl
@[go_sem] theorem ty178 : tiOf Try.prog 178 = some ⟨.int .i32,1,[.int .i32 0]⟩ := by kernel_rfl
@[go_sem] theorem ty179 : tiOf Try.prog 179 = some ⟨.struct [(0,1,false),(1,1,false),(2,1,false),(3,1,false),(4,1,false),(5,1,false),(6,1,false),(7,1,false),(8,1,false),(9,1,false),(10,1,false)],11,[.int .u64 0,.int .u64 0,.int .u32 0,.int .u8 0,.int .u8 0,.int .u8 0,.int .u8 0,.nilFunc,.pointer none,.int .i32 0,.int .i32 0]⟩ := by kernel_rfl
@[go_sem] theorem ty180 : tiOf Try.prog 180 = some ⟨.struct [(0,1,false),(1,1,false),(2,1,false),(3,1,false),(4,1,false),(5,1,false),(6,1,false),(7,1,false),(8,1,false),(9,1,false),(10,1,false)],11,[.int .u64 0,.int .u64 0,.int .u32 0,.int .u8 0,.int .u8 0,.int .u8 0,.int .u8 0,.nilFunc,.pointer none,.int .i32 0,.int .i32 0]⟩ := by kernel_rfl
@[go_sem] theorem ty181 : tiOf Try.prog 181 = some ⟨.other,1,[.nilFunc]⟩ := by kernel_rfl
end Go.Proofs.Ytjfammnjpeeahaa
