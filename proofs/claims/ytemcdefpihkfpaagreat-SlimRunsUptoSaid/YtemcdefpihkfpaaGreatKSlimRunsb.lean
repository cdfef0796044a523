/- Part 2 of a proof: lemmas beneath the theorem that the last text bears. Conditions: none. -/
import Derived.Test.YtemcdefpihkfpaaGreatKSlimRunsa
import Derived.KernelRfl
import Derived.Test.YtemcdefpihkfpaaGreatRows
import Derived.ProofKit
import Derived.OpenShut
import Derived.JoinedCond
import Derived.Carry
import Derived.Lib.SmallJoins
import Derived.Test.YtemcdefpihkfpaaGreatProg
set_option maxHeartbeats 64000000
set_option linter.unusedSimpArgs false
set_option linter.unusedVariables false
namespace Go.Proofs.YtemcdefpihkfpaaGreat.AL
open Go.RowKit
variable {P : Program}
def ACalls (P : Program) (f : FuncId) (xs : List PV) (Q : List PV → Prop) : Prop :=
 ∀ (w : World) (g : Nat → Nat) (vs : List Value),GZ w g → RelPs w g vs xs →
  CallRes P (fun v w' => ∃ g' rs,Ext w g w' g' ∧ Q rs ∧ RelR w' g' v rs) ((callFunc f vs.toArray).run P w)
theorem ACalls.mono {P : Program} {f : FuncId} {xs : List PV} {Q Q' : List PV → Prop} (h : ACalls P f xs Q) (hq : ∀ r,Q r → Q' r) : ACalls P f xs Q' := by
 intro w g vs hz hr
 have := h w g vs hz hr
 unfold CallRes at *
 split at this
 ·exact this.mono fun e w' ⟨v,he,g',rs,h1,h2,h3⟩ => ⟨v,he,g',rs,h1,hq _ h2,h3⟩
 ·obtain ⟨g',rs,h1,h2,h3⟩ := this;exact ⟨g',rs,h1,hq _ h2,h3⟩
 ·exact this.elim
theorem q141 {B : Nat → Prop} {w W : World} {h : Gh} (hz : GZ w h.g) (l : Nat) (hbelow : BelowS B w W) (hbl : ∀ b,b < w.heap.size → W.heap[b]? = w.heap[b]?) :
  Trans B w h W { h with ρ := setG h.ρ l w.heap.size } (fun _ => False) (some l) true where
 below := hbelow
 blocks := fun b hb _ => ⟨hbl b hb,rfl⟩
 keep := by
  refine ⟨fun b => Nat.le_refl _,fun b q hq => ?_⟩
  have hlt : b < w.heap.size := by
   by_cases hlt : b < w.heap.size
   ·exact hlt
   ·rw [hz b (by omega)] at hq;omega
  exact World.cell?_of_block (w := w) (hbl b hlt)
 gz := fun b hb => hz b (by have := hbelow.size;omega)
 gB := fun _ _ => rfl
 ρ := fun l' hl' => by
  have : l' ≠ l := fun e => hl' rfl (by rw [e])
  simp [setG,this]
 κ := fun _ _ => ⟨rfl,rfl⟩
 up := fun _ _ hf => by cases hf
theorem z89 {o : Oper} {xs : List AV} {lL : Option (Nat × LV)} {l : Nat} {L : LV} {x : AV} {obl : Prop} (hgrow : ∀ h,inB h l L = (fun b => h.ρ l = b))
  (H : ∀ (w : World) (h : Gh) (r : Operand → Value),GZ w h.g → RelAs w h (o.op.operands.toList.map r) xs →
   ∃ v W,(execOp r o).run P w = .ok (.value v) W ∧ (∀ B : Nat → Prop,NewIn B w → BelowS B w W) ∧ (∀ b,b < w.heap.size → W.heap[b]? = w.heap[b]?) ∧ RelA W { h with ρ := setG h.ρ l w.heap.size } v x ∧
    ∀ B : Nat → Prop,NewIn B w → LocOK B W { h with ρ := setG h.ρ l w.heap.size } l L) : OpSem P o xs lL ⟨x,obl,some (l,L),true⟩ := by
 intro B w h r hB hz hr hL
 obtain ⟨v,W,h1,h2,h3,h4,h5⟩ := H w h r hz hr
 refine ⟨_,_,_,{ h with ρ := setG h.ρ l w.heap.size },h1,.inl rfl,h4,?_,fun l' L' hl => ?_⟩
 ·have : ownOf h lL ⟨x,obl,some (l,L),true⟩ = (fun _ => False) := rfl
  rw [this];exact q141 hz l (h2 B hB) h3
 ·cases hl
  refine ⟨h5 B hB,fun b hb => .inl ?_⟩
  rw [hgrow] at hb
  simp [setG] at hb
  omega
theorem z141 {o : Oper} {xs : List AV} {lL : Option (Nat × LV)} {l sz : Nat} {e : TypeId} {f : Nat → List Dat} {obl : Prop}
  (H : ∀ (w : World) (h : Gh) (r : Operand → Value),RelAs w h (o.op.operands.toList.map r) xs → (execOp r o).run P w = .ok (.value (.slice (some ⟨w.heap.size,0,none⟩) 0 0)) (w.alloc (.cells #[] e))) :
  OpSem P o xs lL ⟨.gr l 0 sz 0 f,obl,some (l,.grow e sz 0 0),true⟩ := by
 intro B w h r hB hz hr hL
 let v : Value := .slice (some ⟨w.heap.size,0,none⟩) 0 0
 let h' : Gh := { h with κ := fun k => if k = l then v else h.κ k,μ := fun k => if k = l then 0 else h.μ k }
 have nl : h'.κ l = v := by simp [h']
 refine ⟨_,v,w.alloc (.cells #[] e),h',H w h r hr,.inl rfl,⟨.sl0 _ _ _ _,by simp [h'],fun _ => nl.symm⟩,?_,fun l' L' hl => ?_⟩
 ·have : ownOf h lL ⟨.gr l 0 sz 0 f,obl,some (l,.grow e sz 0 0),true⟩ = (fun _ => False) := rfl
  rw [this]
  have t := x40 hB hz (.cells #[] e) l
  refine ⟨t.below,t.blocks,t.keep,t.gz,t.gB,fun _ _ => rfl,fun k hk => ?_,fun _ _ hf => by cases hf⟩
  have : k ≠ l := fun e => hk (by rw [e];rfl)
  simp [h',this]
 ·cases hl
  refine ⟨⟨by simp [h'],⟨[],?_⟩,fun b c hb => ?_,fun b hb => ?_⟩,fun b hb => .inl ?_⟩
  ·rw [nl];exact World.ownsRow_made w #[] 0 (Nat.zero_le _) (by unfold maxLen;omega) (by simp)
  ·rw [nl] at hb
   simp only [v,Value.slice.injEq,Option.some.injEq,Addr.mk.injEq,and_true] at hb
   rw [← hb.1]
   simp only [Nat.zero_mul]
   exact hz _ (Nat.le_refl _)
  ·rw [nl] at hb
   simp only [v,Value.ownBlock,Option.some.injEq] at hb
   exact hb ▸ hB _ (Nat.le_refl _)
  ·simp only [inB,nl,v,Value.ownBlock,Option.some.injEq] at hb
   omega
def effBuildSlice0 (P : Program) (M : List Nat) (t : TypeId) (dst : Option Tmp) (is : List Nat) : Option Eff :=
 match tiOf P t,dst with
 |some ti,some d => match ti.k with
  | .slice e sz _ => match tiOf P e with
   | some te => bif M.contains d then some { val := .gr d 0 sz 0 fun _ => [],obl := is = [],upd := some (d,.grow e sz 0 0),fresh := true }
     else some { val := .p (.d (.sl sz 0 fun _ => [])),obl := is = [] }
   | none => none
  | _ => none
 | _,_ => none
theorem x141 {M : List Nat} {o : Oper} {t : TypeId} {parts : Array (Nat × Operand)} (ho : o.op = .buildSlice t 0 parts) {xs : List AV} {lL : Option (Nat × LV)} {E : Eff} (hE : effBuildSlice0 P M t o.dst (parts.toList.map (·.1)) = some E) (hobl : E.obl) : OpSem P o xs lL E := by
 unfold effBuildSlice0 at hE
 split at hE
 ·rename_i ti d hti hdst
  split at hE
  ·rename_i e sz by_ hk
   split at hE
   ·rename_i te hte
    obtain ⟨it,d',z,hit,hd,hz,hkk,hs,hzz⟩ := x16 hti
    rw [hk] at hkk
    obtain ⟨rfl,ie,hie,hsz,_⟩ := j21 hkk
    have key : parts = #[] → ∀ (w : World) (r : Operand → Value),(execOp r o).run P w = .ok (.value (.slice (some ⟨w.heap.size,0,none⟩) 0 0)) (w.alloc (.cells #[] e)) := by
     intro hp w r
     subst hp
     have := j87 (P := P) w t e ie hd hie
     simp only [execOp,ho]
     simp [this]
    cases hM : M.contains d
    ·rw [hM] at hE
     cases hE
     have hp : parts = #[] := by simpa using hobl
     refine x50 fun w h r hz0 hr => ⟨_,_,_,key hp w r,.d _ _ (.sl0 _ _ _ _)⟩
    ·rw [hM] at hE
     cases hE
     have hp : parts = #[] := by simpa using hobl
     exact z141 fun w h r hr => key hp w r
   ·cases hE
  ·cases hE
 ·cases hE
def nilR : List AV → Bool
 | [_,.p (.d (.v (.slice none _ _)))] => true
 | _ => false
def nilAV : AV → Option (Bool × Prop)
 | .p (.d (.v (.slice a _ _))) => some (a.isNone,True)
 | .p (.d (.sl _ n _)) => some (false,0 < n)
 | .gr _ _ _ n _ => some (false,0 < n)
 | .row .. => some (false,True)
 | .ow _ _ _ n => some (false,0 < n)
 | _ => none
theorem j141 {w : World} {h : Gh} {x : AV} {b : Bool} {q : Prop} (hx : nilAV x = some (b,q)) (hq : q) {v : Value} (r : RelA w h v x) : ∃ a n c,v = .slice a n c ∧ a.isNone = b := by
 unfold nilAV at hx
 have hsl : ∀ {sz n : Nat} {f : Nat → List Dat},0 < n → RelD w h.g v (.sl sz n f) → ∃ a n c,v = .slice a n c ∧ a.isNone = false := by
  intro sz n f hn rd
  cases rd with
  | sl0 => omega
  | sl b off _ c => exact ⟨_,_,_,rfl,rfl⟩
 split at hx
 ·cases hx;exact ⟨_,_,_,j16 r,rfl⟩
 ·cases hx;cases r with | d _ _ r => exact hsl hq r
 ·cases hx;exact hsl hq r.1
 ·cases hx;obtain ⟨c,hv,_⟩ := r;exact ⟨_,_,_,hv,rfl⟩
 ·cases hx
  obtain ⟨_,⟨a,c,hv,ha⟩,_⟩ := r
  obtain ⟨b,rfl⟩ := ha hq
  exact ⟨_,_,_,hv,rfl⟩
 ·cases hx
def effNil' (P : Program) (op : BinOp) (t : TypeId) (xs : List AV) : Option Eff :=
 match tiOf P t,xs with
 |some ti,[x,_] => match ti.k,nilAV x with
  | .slice ..,some (b,q) => match op with
   | .eql => some { val := .p (.d (.v (.bool b))),obl := q }
   | .neq => some { val := .p (.d (.v (.bool (!b)))),obl := q }
   | _ => none
  | _,_ => none
 | _,_ => none
theorem q142 {o : Oper} {op : BinOp} {t t' : TypeId} {x y : Operand} (ho : o.op = .binOp op t x y t') {xs : List AV} {lL : Option (Nat × LV)} {E : Eff} (hn : nilR xs = true) (hE : effNil' P op t xs = some E) (hobl : E.obl) : OpSem P o xs lL E := by
 unfold nilR at hn
 split at hn
 ·rename_i z n' c'
  unfold effNil' at hE
  split at hE
  ·rename_i ti z' y' hti hxs
   cases hxs
   split at hE
   ·rename_i e sz by_ b q hk hz
    obtain ⟨it,d',zz,hit,hd,hzz,hkk,_,_⟩ := x16 hti
    rw [hk] at hkk
    obtain ⟨rfl,_⟩ := j21 hkk
    have fin : ∀ {u : Value} {obl : Prop},q → u.oneCell' = true → (∀ w a n c,a.isNone = b → (binOp op t (.slice a n c) (.slice none n' c')).run P w = .ok u w) → OpSem P o [z,.p (.d (.v (.slice none n' c')))] lL ⟨.p (.d (.v u)),obl,none,false⟩ := by
     intro u obl hq hu hrun
     refine z15 fun B w h r hr hL => ?_
     simp only [ho,Op.operands] at hr
     obtain ⟨a,n,c,hv,ha⟩ := j141 hz hq (hr.2 0 (r x) _ rfl rfl)
     exact ⟨u,j31 ho r w hv (j16 (hr.2 1 (r y) _ rfl rfl)) (by simp [eqGuard_at_slice]) (hrun w a n c ha),z19 hu⟩
    split at hE
    ·cases hE
     exact fin hobl rfl fun w a n c ha => by rw [Lib.run_eql_slice_nil w t e a n c n' c' hd,ha]
    ·cases hE
     exact fin hobl rfl fun w a n c ha => by rw [run_neq_slice_nil_any w t e a n c n' c' hd,ha]
    ·cases hE
   ·cases hE
  ·cases hE
 ·cases hn
def effMake (P : Program) (t : TypeId) (dst : Option Tmp) (xs : List AV) : Option Eff :=
 match tiOf P t,dst,xs with
 |some ti,some d,[.p (.d (.v (.int _ n))),.p (.d (.v (.int _ c)))] => match ti.k with
  | .slice e 1 by_ => match tiOf P e with
   |some te => match te.zero with
    | [z] => some { val := .row d 1 0 n.toNat,obl := (0 ≤ n ∧ c = n ∧ by_ * n.toNat ≤ 140737488355328 ∧ n ≤ 140737488355328) ∧ z.oneCell' = true,upd := some (d,.arr e n.toNat fun _ => .v z),fresh := true }
    | _ => none
   | none => none
  | _ => none
 | _,_,_ => none
theorem z142 {v : Value} (h1 : v.oneCell' = true) : v.cells = #[v] := by
 cases v <;> first | rfl | (simp [Value.oneCell'] at h1)
theorem x142 {o : Oper} {t : TypeId} {x y : Operand} (ho : o.op = .makeSlice t x y) {xs : List AV} {lL : Option (Nat × LV)} {E : Eff} (hE : effMake P t o.dst xs = some E) (hobl : E.obl) : OpSem P o xs lL E := by
 unfold effMake at hE
 split at hE
 ·rename_i ti d k n k' c hti hd
  split at hE
  ·rename_i e by_ hk
   split at hE
   ·rename_i te hte
    split at hE
    ·rename_i z hzero
     cases hE
     obtain ⟨⟨n0,rfl,n1,n2⟩,hz1⟩ := hobl
     refine z89 (fun _ => rfl) fun w h r hz hr => ?_
     simp only [ho,Op.operands] at hr
     have h0 := j16 (hr.2 0 (r x) _ rfl rfl)
     have h1 := j16 (hr.2 1 (r y) _ rfl rfl)
     obtain ⟨_,dd,_,_,hdd,_,hkk,_,_⟩ := x16 hti
     rw [hk] at hkk
     obtain ⟨rfl,ie,hie,hs,hb⟩ := j21 hkk
     obtain ⟨ie',_,z',hie',_,hzz,_,hsz,hzc⟩ := x16 hte
     rw [hie] at hie';cases hie'
     have hcz : z'.cells = #[z] := by apply Array.ext';rw [← hzc,hzero]
     have hbb : (ie.bytes : Int) * ((c.toNat : Nat) : Int) ≤ 281474976710656 := by
      have : ((ie.bytes * c.toNat : Nat) : Int) ≤ 281474976710656 := by rw [hb];omega
      rwa [Int.natCast_mul] at this
     have hrun := run_make (P := P) w t e ie z' hdd hie hzz k k' c.toNat c.toNat (by omega) (Int.le_refl _) hbb (by omega)
     simp only [Int.toNat_natCast,hs,Nat.mul_one,hcz] at hrun
     rw [Int.toNat_of_nonneg n0] at hrun
     have hnew := _root_.Go.heap_alloc_new w (.cells (madeCells #[z] c.toNat) e)
     refine ⟨.slice (some ⟨w.heap.size,0,none⟩) c.toNat c.toNat,w.alloc (.cells (madeCells #[z] c.toNat) e),by simp [execOp,ho,h0,h1,hrun],fun B hB => (BelowS.refl _ _).alloc _,fun b hb => Below.heap_alloc w _ b hb,?_,fun B hB => ?_⟩
     ·exact ⟨c.toNat,by simp [setG],Nat.le_refl _⟩
     ·refine j66 hB hz (size_madeCells _ _) fun i v hv => ?_
      have hlt : i < c.toNat := by have := (Array.getElem?_eq_some_iff.1 hv).1;rwa [size_madeCells] at this
      rw [Array.getElem?_eq_getElem (by rw [size_madeCells];exact hlt)] at hv
      simp [madeCells,Nat.mod_one] at hv
      rw [← hv]
      exact .v _ hz1
    ·cases hE
   ·cases hE
  ·cases hE
 ·cases hE
def effBytes (P : Program) (t : TypeId) (dst : Option Tmp) (xs : List AV) : Option Eff :=
 match tiOf P t,dst,xs with
 |some ti,some d,[.p (.d (.v (.string s)))] => match ti.k with
  | .slice e 1 _ => match tiOf P e with
   |some te => match te.k with
    | .int .u8 => some { val := .row d 1 0 s.size,upd := some (d,.arr e s.size fun i => .v (.int .u8 ((s.data.toList.getD i 0).toNat : Nat))),fresh := true }
    | _ => none
   | none => none
  | _ => none
 | _,_,_ => none
theorem j142 {o : Oper} {s t : TypeId} {x : Operand} (ho : o.op = .convert s t x) {tis : TI} (hs : tiOf P s = some tis) (hsk : tis.k = .string) {xs : List AV} {lL : Option (Nat × LV)} {E : Eff} (hE : effBytes P t o.dst xs = some E) : OpSem P o xs lL E := by
 unfold effBytes at hE
 split at hE
 ·rename_i ti d str hti hd
  split at hE
  ·rename_i e by_ hk
   split at hE
   ·rename_i te hte
    split at hE
    ·rename_i hek
     cases hE
     refine z89 (fun _ => rfl) fun w h r hz hr => ?_
     simp only [ho,Op.operands] at hr
     have h0 := j16 (hr.2 0 (r x) _ rfl rfl)
     obtain ⟨_,dd,_,_,hdd,_,hkk,_,_⟩ := x16 hti
     rw [hk] at hkk
     obtain ⟨rfl,ie,hie,hss,hb⟩ := j21 hkk
     obtain ⟨_,de,_,_,hde,_,hke,_,_⟩ := x16 hte
     rw [hek] at hke
     have := q49 hke
     subst this
     obtain ⟨_,ds,_,_,hds,_,hks,_,_⟩ := x16 hs
     have hrun := Lib.run_convert_string_bytes (P := P) w s t e str hds hdd hde
     have hge := grownCap_ge w str.size 0 e
     refine ⟨_,_,by simp only [execOp,ho,h0,hrun,Sem.run_bind,Result.andThen_ok];rfl,fun B hB => ?_,fun b hb => Lib.bytesWorld_at_old w e str b hb,?_,fun B hB => ?_⟩
     ·refine ⟨?_,?_,?_,by rw [Lib.bytesWorld_size];omega,fun k hk _ => Lib.bytesWorld_at_old w e str k (by omega)⟩ <;> simp [Lib.bytesWorld,World.freeze,World.alloc,World.drew,-World.alloc_eq,-World.drew_eq]
     ·exact ⟨_,by simp [setG],hge⟩
     ·refine ⟨Lib.bytesCells w e str,_,by simp only [setG,if_true];exact hB _ (Nat.le_refl _),by simp only [setG,if_true];exact Lib.bytesWorld_at_new w e str,.inr (Nat.le_refl _),?_,by simp only [setG,if_true];exact hz _ (Nat.le_refl _),fun i v hi hv => ?_⟩
      ·simp [Lib.bytesCells]
      ·have hi' : i < str.data.size := hi
       simp only [Lib.bytesCells] at hv
       rw [Array.getElem?_append_left (by simpa using hi')] at hv
       simp [Array.getElem?_eq_getElem hi'] at hv
       subst hv
       have : str.data.toList.getD i 0 = str.data[i] := by rw [List.getD_eq_getElem?_getD,Array.getElem?_toList,Array.getElem?_eq_getElem hi'];rfl
       show RelD _ _ _ (.v (.int .u8 ((str.data.toList.getD i 0).toNat : Nat)))
       rw [this]
       exact .v _ rfl
    ·cases hE
   ·cases hE
  ·cases hE
 ·cases hE
def numD : Dat → Int
 | .v (.int _ n) => n
 | _ => 0
def rng (n : Nat) : List Nat := List.range n
@[simp] theorem x89 (n : Nat) : rng n = List.range n := rfl
def effStr (P : Program) (e d : TypeId) (xs : List AV) (lL : Option (Nat × LV)) : Option Eff :=
 match tiOf P e,tiOf P d,xs,lL with
 |some te,some td,[.row l 1 off n],some (l',.arr _ m f) => match te.k,td.k with
  | .int .u8,.string => some { val := .p (.d (.v (.string (strOfNums ((rng n).map fun i => numD (f (off + i))))))),obl := l' = l ∧ off + n ≤ m ∧ ∀ i,i < n → f (off + i) = .v (.int .u8 (numD (f (off + i)))) }
  | _,_ => none
 |some te,some td,[.p (.d (.sl 1 n f))],_ => match te.k,td.k with
  | .int .u8,.string => some { val := .p (.d (.v (.string (strOfNums ((rng n).map fun i => numD ((f i).headD default)))))),obl := ∀ i,i < n → f i = [.v (.int .u8 (numD ((f i).headD default)))] }
  | _,_ => none
 | _,_,_,_ => none
theorem j89 {w : World} {g : Nat → Nat} {v u : Value} (h : RelD w g v (.v u)) : v = u := by cases h;rfl
theorem q90 (n : Nat) (f : Nat → Int) (i : Nat) (hi : i < n) : ((rng n).map f).getD i 0 = f i := by
 rw [x89,List.getD_eq_getElem?_getD,List.getElem?_map,List.getElem?_range hi];rfl
theorem sem_str {o : Oper} {s d e : TypeId} {x : Operand} (ho : o.op = .convert s d x) {tis : TI} (hs : tiOf P s = some tis) {sz by_ : Nat} (hsk : tis.k = .slice e sz by_) {xs : List AV} {lL : Option (Nat × LV)} {E : Eff} (hE : effStr P e d xs lL = some E) (hobl : E.obl) : OpSem P o xs lL E := by
 obtain ⟨_,ds,_,_,hds,_,hks,_,_⟩ := x16 hs
 rw [hsk] at hks
 obtain ⟨rfl,ie,hie,hss,hb⟩ := j21 hks
 unfold effStr at hE
 split at hE
 ·rename_i te td l off n l' _ m f hte htd
  split at hE
  ·rename_i hek hdk
   cases hE
   obtain ⟨rfl,hn,hf⟩ := hobl
   obtain ⟨_,de,_,_,hde,_,hke,_,_⟩ := x16 hte
   rw [hek] at hke
   have := q49 hke
   subst this
   obtain ⟨_,dd,_,_,hdd,_,hkd,_,_⟩ := x16 htd
   rw [hdk] at hkd
   have := z49 hkd
   subst this
   refine z15 fun B w h r hr hL => ?_
   simp only [ho,Op.operands] at hr
   obtain ⟨c,hv,hc⟩ := hr.2 0 (r x) _ rfl rfl
   obtain ⟨arr,fz,hB,hh,hfz,hsz,hg,hrr⟩ := hL _ _ rfl
   refine ⟨_,?_,z19 rfl⟩
   have hrun := run_convert_bytes_arg (P := P) w s e hds hde (h.ρ l') (off * 1) n c ((rng n).map fun i => numD (f (off + i))) (by simp) (fun i hi => by
    rw [x19 hh,q90 n _ i hi,Nat.mul_one]
    have hlt : off + i < arr.size := by omega
    rw [Array.getElem?_eq_getElem hlt]
    have := hrr (off + i) _ (by omega) (Array.getElem?_eq_getElem hlt)
    rw [hf i hi] at this
    rw [j89 this]) d hdd
   simp only [Nat.mul_one] at hrun
   simp [execOp,ho,hv,hrun]
  ·cases hE
 ·rename_i te td n f hte htd
  split at hE
  ·rename_i hek hdk
   cases hE
   obtain ⟨_,de,_,_,hde,_,hke,_,_⟩ := x16 hte
   rw [hek] at hke
   have := q49 hke
   subst this
   obtain ⟨_,dd,_,_,hdd,_,hkd,_,_⟩ := x16 htd
   rw [hdk] at hkd
   have := z49 hkd
   subst this
   refine z15 fun B w h r hr hL => ?_
   simp only [ho,Op.operands] at hr
   have h0 := hr.2 0 (r x) _ rfl rfl
   obtain ⟨v0,hv0⟩ : ∃ v,r x = v := ⟨_,rfl⟩
   rw [hv0] at h0
   refine ⟨_,?_,z19 rfl⟩
   cases h0 with
   |d _ _ h0 =>
    cases h0 with
    |sl0 a c =>
     have : ∀ a : Option Addr,(convert s d (.slice a 0 c)).run P w = .ok (.string ByteArray.empty) w := by
      intro a
      cases a with
      | none => exact run_convert_bytes_nil (P := P) w s e hds hde 0 c d hdd
      |some a =>
       rw [run_convert_bytes_string w s d e _ 0 c hds hde hdd,run_bytesToString w _ 0 c [] (by simpa using run_loadCells_list (P := P) w a [] (fun j v hj => by simp at hj))]
       rfl
     simp [execOp,ho,hv0,this]
     rfl
    |sl b off _ c _ _ u hn hl hc hg hrr =>
     have hrun := run_convert_bytes_arg (P := P) w s e hds hde b off n c ((rng n).map fun i => numD ((f i).headD default)) (by simp) (fun i hi => by
      rw [q90 n _ i hi]
      have := hc i 0 hi (by omega)
      simp only [Nat.mul_one,Nat.add_zero] at this
      rw [this]
      have hx := hrr i 0 (.v (.int .u8 (numD ((f i).headD default)))) hi (by have := hobl i hi;rw [this];rfl)
      rw [j89 hx]) d hdd
     simp [execOp,ho,hv0,hrun]
  ·cases hE
 ·cases hE
def mapX : List AV → Bool
 | [.mp _] => true
 | _ => false
def effBuiltin (P : Program) (c : Call) (xs : List AV) (lL : Option (Nat × LV)) : Option Eff :=
 match c.callee,c.args.toList,c.argTypes.toList with
 | .builtin .len,[_],[t] => match mapX xs with
  | true => effLenM P t xs lL
  | false => effLen P t xs
 | .builtin .delete,[_,_],[t,_] => effDelete P t xs lL
 | .builtin .copy,[_,_],[t,t'] => effCopyO P [t,t'] xs lL
 | .builtin .append,[_,_],[t,t'] => match ownX xs with
  | true => effAppendO P [t,t'] xs lL
  |false => match exX xs with
   | true => effAppendX P [t,t'] xs lL
   | false => effAppend P [t,t'] xs lL
 | .builtin .clear,[_],[t] => effClearX P t xs lL
 | _,_,_ => none
def ownD (M : List Nat) : Option Tmp → Bool
 | some d => M.contains (d + 10000)
 | none => false
def opEff (P : Program) (M : List Nat) (o : Oper) (xs : List AV) (lL : Option (Nat × LV)) : Option Eff :=
 match o.op with
 | .move _ => effMove xs
 | .assign _ => effMove xs
 | .pick .. => effPick xs
 | .nilCheck _ => effNil xs
 | .box t _ => effBox M t o.dst xs
 | .alloc t => effAlloc P t o.dst
 | .load t _ => match ownX xs with
  | true => effLoadO P t xs lL
  |false => match exX xs with
   | true => effLoadX P t xs lL
   | false => effLoad P t xs lL
 | .store t _ _ => match ownX xs with
  | true => effStoreO P t xs lL
  |false => match exX xs with
   | true => effStoreX P t xs lL
   | false => effStore P t xs lL
 | .fieldAddr t _ n => match ownX xs with
  | true => effFieldAddrO P t n xs
  |false => match exX xs with
   | true => effFieldAddrX P t n xs
   | false => effFieldAddr P t n xs
 | .indexAddr t _ _ => match ownX xs with
  | true => effIndexAddrO P t xs
  |false => match exX xs with
   | true => effIndexAddrX P t xs
   | false => effIndexAddr P t xs
 | .field t _ n => match effField P t n xs with
  | some E => some E
  | none => effFieldC P t n xs
 | .index t _ _ => effIndex P t xs
 | .binOp op t _ _ _ => match nilR xs with
  | true => effNil' P op t xs
  |false => match nilP xs with
   | true => effNilP P op t xs
   | false => effBin P op t xs
 | .unOp op _ _ => effUn op xs
 | .convert s d _ => match tiOf P s with
  |some tis => match tis.k with
   | .string => effBytes P d o.dst xs
   | .slice e _ _ => effStr P e d xs lL
   | _ => effConvert P d xs
  | none => none
 | .build t parts => match effBuild P t (parts.toList.map (·.1)) xs with
  | some E => some E
  | none => effBuildC P t (parts.toList.map (·.1)) xs
 | .buildSlice t len parts => match len with
  |0 => match ownD M o.dst with
   | true => effBuildSlice0O P t o.dst (parts.toList.map (·.1))
   | false => effBuildSlice0 P M t o.dst (parts.toList.map (·.1))
  | n + 1 => effBuildSlice P t (n + 1) (parts.toList.map (·.1)) xs
 | .slice t _ lo hi mx => effSlice P t lo.isSome hi.isSome mx.isSome xs
 | .makeFunc fn first _ => match effFunc fn first.size xs with
  | some E => some E
  | none => effFuncO fn first.size xs
 | .extract _ i => effExtract i xs
 | .call c => effBuiltin P c xs lL
 | .makeSlice t _ _ => match ownD M o.dst with
  | true => effMakeO P t o.dst xs
  | false => effMake P t o.dst xs
 | .makeMap t r => match r with
  | none => effMakeMap P t o.dst
  | some _ => none
 | .lookup t _ _ ok => effLookup P t ok xs lL
 | .mapUpdate t _ _ _ => effUpdate P t xs lL
 | .insert t _ _ _ => effUpdate P t xs lL
 | _ => none
def locNeed (o : Oper) (xs : List AV) : Option Nat :=
 match o.op,xs with
 | .load ..,.loc l _ :: _ => some l
 | .store ..,.loc l _ :: _ => some l
 | .call _,.gr l _ _ _ _ :: _ => some l
 | .convert ..,.row l _ _ _ :: _ => some l
 | .load ..,.el l _ _ _ _ :: _ => some l
 | .store ..,.el l _ _ _ _ :: _ => some l
 | .call _,.ow l _ _ _ :: _ => some l
 | .load ..,.ex .. :: _ => some 1999
 | .store ..,.ex .. :: _ => some 1999
 | .load ..,.p (.d (.v (.pointer (some _)))) :: _ => some 1999
 | .store ..,.p (.d (.v (.pointer (some _)))) :: _ => some 1999
 | .call _,.mp l :: _ => some l
 | .call _,.p (.d (.v (.slice (some _) _ _))) :: _ => some 1999
 | .lookup ..,.mp l :: _ => some l
 | .mapUpdate ..,.mp l :: _ => some l
 | .insert ..,.mp l :: _ => some l
 | _,_ => none
theorem q143 {M : List Nat} {o : Oper} {xs : List AV} {lL : Option (Nat × LV)} {E : Eff} (hE : opEff P M o xs lL = some E) (hobl : E.obl) : OpSem P o xs lL E := by
 unfold opEff at hE
 split at hE
 case h_1 x ho => exact x84 (.inl ho) hE
 case h_2 x ho => exact x84 (.inr ho) hE
 case h_3 c a b ho => exact q128 ho hE
 case h_4 x ho => exact sem_nil ho hE
 case h_5 t x ho => exact sem_box ho hE hobl
 case h_6 t ho => exact q129 ho hE hobl
 case h_7 t x ho =>
  split at hE
  ·exact q135 ho hE hobl
  ·split at hE
   ·exact x137 ho hE hobl
   ·exact x129 ho hE hobl
 case h_8 t x y ho =>
  split at hE
  ·exact z135 ho hE hobl
  ·split at hE
   ·exact j137 ho hE hobl
   ·exact j129 ho hE hobl
 case h_9 t x n ho =>
  split at hE
  ·exact j135 ho hE hobl
  ·split at hE
   ·exact z138 ho hE hobl
   ·exact q130 ho hE hobl
 case h_10 t x y ho =>
  split at hE
  ·exact x135 ho hE hobl
  ·split at hE
   ·exact q138 ho hE hobl
   ·exact x130 ho hE hobl
 case h_11 t x n ho =>
  split at hE
  ·rename_i E' he;cases hE;exact q133 ho he hobl
  ·exact q140 ho hE
 case h_12 t x y ho => exact x131 ho hE hobl
 case h_13 op t x y t' ho =>
  split at hE
  ·rename_i hn;exact q142 ho hn hE hobl
  ·split at hE
   ·exact x138 ho hE hobl
   ·exact sem_bin ho hE hobl
 case h_14 op t x ho => exact sem_un ho hE
 case h_15 s d x ho =>
  split at hE
  ·rename_i ti hs
   split at hE
   ·rename_i hk;exact j142 ho hs hk hE
   ·rename_i hk;exact sem_str ho hs hk hE hobl
   ·exact q131 ho (by rw [hs];rfl) hE
  ·cases hE
 case h_16 t parts ho =>
  split at hE
  ·rename_i E' he;cases hE;exact q132 ho he hobl
  ·exact j139 ho hE hobl
 case h_17 t len parts ho =>
  cases len with
  |zero =>
   simp only at hE
   split at hE
   ·exact z136 ho hE hobl
   ·exact x141 ho hE hobl
  | succ n => exact x132 ho hE hobl
 case h_18 t x lo hi mx ho => exact j134 ho hE hobl
 case h_19 fn first caps ho =>
  split at hE
  ·rename_i E' he;cases hE;exact z133 ho he
  ·exact z137 ho hE
 case h_20 x i ho => exact z131 ho hE
 case h_21 c ho =>
  unfold effBuiltin at hE
  split at hE
  ·rename_i x t h1 h2 h3
   have hc : c = { callee := .builtin .len,args := #[x],argTypes := #[t] } := by
    obtain ⟨cl,ar,at_⟩ := c
    simp only at h1 h2 h3
    subst h1
    have e2 : ar = #[x] := by apply Array.ext';simpa using h2
    have e3 : at_ = #[t] := by apply Array.ext';simpa using h3
    rw [e2,e3]
   split at hE
   ·exact x139 ho hc hE hobl
   ·exact sem_len ho hc hE
  ·rename_i s y t t' h1 h2 h3
   have hc : c = { callee := .builtin .delete,args := #[s,y],argTypes := #[t,t'] } := by
    obtain ⟨cl,ar,at_⟩ := c
    simp only at h1 h2 h3
    subst h1
    have e2 : ar = #[s,y] := by apply Array.ext';simpa using h2
    have e3 : at_ = #[t,t'] := by apply Array.ext';simpa using h3
    rw [e2,e3]
   exact z139 ho hc hE hobl
  ·rename_i s y t t' h1 h2 h3
   have hc : c = { callee := .builtin .copy,args := #[s,y],argTypes := #[t,t'] } := by
    obtain ⟨cl,ar,at_⟩ := c
    simp only at h1 h2 h3
    subst h1
    have e2 : ar = #[s,y] := by apply Array.ext';simpa using h2
    have e3 : at_ = #[t,t'] := by apply Array.ext';simpa using h3
    rw [e2,e3]
   exact z140 ho hc hE hobl
  ·rename_i s y t t' h1 h2 h3
   have hc : c = { callee := .builtin .append,args := #[s,y],argTypes := #[t,t'] } := by
    obtain ⟨cl,ar,at_⟩ := c
    simp only at h1 h2 h3
    subst h1
    have e2 : ar = #[s,y] := by apply Array.ext';simpa using h2
    have e3 : at_ = #[t,t'] := by apply Array.ext';simpa using h3
    rw [e2,e3]
   split at hE
   ·exact j136 ho hc hE hobl
   ·split at hE
    ·exact x140 ho hc hE hobl
    ·exact j132 ho hc hE hobl
  ·rename_i s t h1 h2 h3
   have hc : c = { callee := .builtin .clear,args := #[s],argTypes := #[t] } := by
    obtain ⟨cl,ar,at_⟩ := c
    simp only at h1 h2 h3
    subst h1
    have e2 : ar = #[s] := by apply Array.ext';simpa using h2
    have e3 : at_ = #[t] := by apply Array.ext';simpa using h3
    rw [e2,e3]
   exact j140 ho hc hE hobl
  ·cases hE
 case h_22 t x y ho =>
  split at hE
  ·exact q136 ho hE hobl
  ·exact x142 ho hE hobl
 case h_23 t r ho =>
  split at hE
  ·exact j138 ho hE
  ·cases hE
 case h_24 t x k ok ho => exact q139 ho hE hobl
 case h_25 t m k v ho => exact z88 (.inl ho) hE hobl
 case h_26 t m k v ho => exact z88 (.inr ho) hE hobl
 case h_27 => cases hE
def OpT (P : Program) (o : Oper) (xs : List AV) (lL : Option (Nat × LV)) (E : Eff) : Prop :=
 ∀ (B : Nat → Prop) (w : World) (h : Gh) (a : Act) (next : Act → World → Prop) (Q : Exit → Act → World → Prop),NewIn B w → GZ w h.g → RelAs w h (o.op.operands.toList.map a.eval) xs →
  (∀ l L,lL = some (l,L) → LocOK B w h l L) →
  (∀ v w' h',RelA w' h' v E.val → Trans B w h w' h' (ownOf h lL E) (E.upd.map (·.1)) E.fresh →
   (∀ l L',E.upd = some (l,L') → LocOK B w' h' l L' ∧ ∀ b,inB h' l L' b → w.heap.size ≤ b ∨ (E.fresh = false ∧ ∃ L,lL = some (l,L) ∧ inB h l L b)) → next (a.put o.dst v) w') →
  o.wp P a w next Q
theorem OpSem.toT {o : Oper} {xs : List AV} {lL : Option (Nat × LV)} {E : Eff} (hs : OpSem P o xs lL E) : OpT P o xs lL E := by
 intro B w h a next Q hB hz hr hL hn
 obtain ⟨n,v,w',h',h1,h2,h3,h4,h5⟩ := hs B w h a.eval hB hz hr hL
 unfold Oper.wp
 rw [h1]
 rcases h2 with rfl | ⟨rfl,rfl⟩
 ·exact hn v w' h' h3 h4 h5
 ·exact hn undef w' h' h3 h4 h5
def resAV : List PV → AV
 | [x] => .p x
 | xs => .tup xs
theorem z143 {w : World} {h : Gh} {v : Value} {rs : List PV} (r : RelR w h.g v rs) : RelA w h v (resAV rs) := by
 match rs,r with
 | [x],r => exact r
 | [],r => exact r
 | _ :: _ :: _,r => exact r
def calleeAV : AV → Option (FuncId × List PV × List PV)
 | .p (.fn (.func f) a b) => some (f,a,b)
 | _ => none
theorem x143 {o : Oper} {c : Call} {f : Operand} (ho : o.op = .call c) (hc : c.callee = .value f) {x : AV} {g : FuncId} {pre post : List PV} (hx : calleeAV x = some (g,pre,post)) {ys : List PV}
  {w : World} {h : Gh} {a : Act} (hf : RelA w h (a.eval f) x) (hargs : RelPs w h.g (c.args.toList.map a.eval) ys) :
  ∃ vs : List Value,RelPs w h.g vs (pre ++ ys ++ post) ∧ (execOp a.eval o).run P w = (callFunc g vs.toArray).run P w := by
 unfold calleeAV at hx
 split at hx
 ·rename_i g' a' b'
  cases hx
  obtain ⟨v0,hv0⟩ : ∃ v,a.eval f = v := ⟨_,rfl⟩
  rw [hv0] at hf
  cases hf with
  |fn _ us vs _ _ hl hm hr hs =>
   refine ⟨us ++ c.args.toList.map a.eval ++ vs,RelPs.append (RelPs.append ⟨hl,hr⟩ hargs) ⟨hm,hs⟩,?_⟩
   have : (us ++ c.args.toList.map a.eval ++ vs).toArray = us.toArray ++ c.args.map a.eval ++ vs.toArray := by
    apply Array.ext';simp
   rw [this]
   simp [execOp,ho,resolve,hc,hv0,Deferred.ofValue,invoke]
 ·cases hx
theorem RelAs.tail {w : World} {h : Gh} {v : Value} {us : List Value} {x : AV} {xs : List AV} (r : RelAs w h (v :: us) (x :: xs)) : RelAs w h us xs :=
 ⟨by simpa using r.1,fun j u z hu hz => r.2 (j + 1) u z (by simpa using hu) (by simpa using hz)⟩
theorem j143 {o : Oper} {c : Call} {f : Operand} (ho : o.op = .call c) (hc : c.callee = .value f) {xs : List AV} {x : AV} {zs : List AV} (hxs : xs = x :: zs) {g : FuncId} {pre post : List PV} (hx : calleeAV x = some (g,pre,post))
  {ys : List PV} (hys : zs.mapM pvAV = some ys) {rs : List PV} (hcall : ACalls P g (pre ++ ys ++ post) (· = rs)) (lL : Option (Nat × LV)) : OpT P o xs lL { val := resAV rs } := by
 subst hxs
 intro B w h a next Q hB hz hr hL hn
 have hops : o.op.operands.toList.map a.eval = a.eval f :: c.args.toList.map a.eval := by simp [ho,Op.operands,Call.operands,hc]
 rw [hops] at hr
 have hf := hr.2 0 (a.eval f) x rfl rfl
 have hargs := j52 (w := w) (h := h) hys hr.tail
 obtain ⟨vs,hvs,hrun⟩ := x143 (P := P) ho hc hx hf hargs
 have key := hcall w h.g vs hz hvs
 have fin : ∀ v w',(∃ g' r,Ext w h.g w' g' ∧ r = rs ∧ RelR w' g' v r) → next (a.put o.dst v) w' := by
  rintro v w' ⟨g',r,he,rfl,hrel⟩
  refine hn v w' { h with g := g' } (z143 hrel) ?_ (fun l L' hl => by cases hl)
  exact Trans.same he.belowS (fun b hb => ⟨he.below.block b hb,he.gam b hb⟩) hz he.gz hB _
 unfold Oper.wp
 rw [hrun]
 unfold CallRes at key
 split at key
 ·rename_i f' args w1 hrr
  rw [hrr]
  show Calls P f' args w1 _
  refine key.mono fun e w' ⟨v,he,hR⟩ => ?_
  subst he
  exact fin v w' hR
 ·rename_i v w1 hrr
  rw [hrr]
  exact fin v w1 key
 ·exact key.elim
section
variable {w0 : Base} {g0 : Nat → Nat} {nt : Nat} {A : ASt} {h : Gh} {a : Act} {w : World}
theorem Rel.opT {o : Oper} {lo : Option Nat} {E : Eff} {next : Act → World → Prop} {Q : Exit → Act → World → Prop} (r : Rel w0 g0 nt A h a w) (hs : OpT P o (o.op.operands.toList.map A.eval) (A.locAt lo) E)
  (hd : ∀ d,o.dst = some d → d < nt) (hf : E.fresh = true → ∀ l L,E.upd = some (l,L) → A.unused l) (hu : ∀ l L,E.upd = some (l,L) → E.fresh = false → lo = some l)
  (hn : ∀ v w' h',Rel w0 g0 nt (A.apply o.dst E) h' (a.put o.dst v) w' → next (a.put o.dst v) w') : o.wp P a w next Q := by
 have hlo : ∀ l L,A.locAt lo = some (l,L) → look A.locs l = some L := by
  intro l L he
  cases lo with
  | none => simp [ASt.locAt] at he
  |some l' =>
   simp only [ASt.locAt] at he
   cases hk : look A.locs l' with
   | none => simp [hk] at he
   | some L' => simp [hk] at he;obtain ⟨rfl,rfl⟩ := he;exact hk
 refine hs w0.O w h a next Q r.base r.gz (r.evals _) (fun l L he => r.locs l L (hlo l L he)) fun v w' h' h3 h4 h5 => ?_
 refine hn v w' h' ?_
 exact r.carry (o := o) hd hf hu h3 h4 h5
end
end Go.Proofs.YtemcdefpihkfpaaGreat.AL
namespace Go.Proofs.YtemcdefpihkfpaaGreat.AL
open Go.RowKit
variable {P : Program}
def wantedA (ops : Array Oper) (o : Oper) (A : ASt) : Option Bool :=
 match o.guard with
 | none => some true
 |some (j,want) => match (ops[j]?).bind (·.dst) with
  |some d => match look A.fr d with
   | some (.p (.d (.v (.bool b)))) => some (b == want)
   | some .undef => some false
   | _ => none
  | none => some false
theorem x53 {w0 : Base} {g0 : Nat → Nat} {nt : Nat} {A : ASt} {h : Gh} {a : Act} {w : World} (r : Rel w0 g0 nt A h a w) {ops : Array Oper} {o : Oper} {b : Bool} (hw : wantedA ops o A = some b) :
  Region.wanted o (yielded ops a.tmps) = b := by
 unfold wantedA at hw
 unfold Region.wanted
 split at hw
 ·rename_i hg;cases hw;rw [hg]
 ·rename_i j want hg
  rw [hg]
  simp only
  unfold yielded
  split at hw
  ·rename_i d hd
   rw [hd]
   simp only [Option.bind_some]
   split at hw
   ·rename_i q hq
    cases hw
    have := j16 (r.fr d _ hq)
    have ht : a.tmps[d]? = some (.bool q) := by
     rw [Array.getD_eq_getD_getElem?] at this
     cases hx : a.tmps[d]? with
     | none => rw [hx] at this;cases this
     | some v => rw [hx] at this;simp at this;rw [this]
    rw [ht]
    simp
   ·rename_i hq
    cases hw
    have : a.tmps.getD d undef = undef := r.fr d _ hq
    rw [Array.getD_eq_getD_getElem?] at this
    cases hx : a.tmps[d]? with
    | none => simp
    | some v => rw [hx] at this;simp at this;subst this;rfl
   ·cases hw
  ·rename_i hd
   rw [hd]
   cases hw
   rfl
structure OpDo (P : Program) (nt : Nat) (ops : Array Oper) (o : Oper) (A : ASt) (lo : Option Nat) (E : Eff) : Prop where
 dst : ∀ d,o.dst = some d → d < nt
 does : (wantedA ops o A = some false ∧ E = { val := .undef }) ∨
  (wantedA ops o A = some true ∧ OpT P o (o.op.operands.toList.map A.eval) (A.locAt lo) E)
 fresh : E.fresh = true → ∀ l L,E.upd = some (l,L) → A.unused l
 upd : ∀ l L,E.upd = some (l,L) → E.fresh = false → lo = some l
theorem OpDo.sound {nt : Nat} {ops : Array Oper} {o : Oper} {A : ASt} {lo : Option Nat} {E : Eff} (d : OpDo P nt ops o A lo E) {w0 : Base} {g0 : Nat → Nat} {h : Gh} {a : Act} {w : World} (r : Rel w0 g0 nt A h a w)
  {K : Act → World → Prop} {Q : Exit → Act → World → Prop} (hn : ∀ a' w' h',Rel w0 g0 nt (A.apply o.dst E) h' a' w' → K a' w') :
  if Region.wanted o (yielded ops a.tmps) then o.wp P a w K Q ∨ (o.asks P a w ∧ LetsOut Q) else K (a.put o.dst undef) w := by
 rcases d.does with ⟨h1,rfl⟩ | ⟨h1,h2⟩
 ·rw [x53 r h1]
  simp only [Bool.false_eq_true,if_false]
  exact hn _ _ h (Rel.put r d.dst rfl)
 ·rw [x53 r h1]
  simp only [if_true]
  exact .inl (Rel.opT r h2 d.dst d.fresh d.upd fun v w' h' hr => hn _ _ h' hr)
def StepS (P : Program) (nt : Nat) (ops : Array Oper) (o : Oper) (A A' : ASt) : Prop :=
 ∀ (w0 : Base) (g0 : Nat → Nat) (h : Gh) (a : Act) (w : World),Rel w0 g0 nt A h a w → ∀ (K : Act → World → Prop) (Q : Exit → Act → World → Prop),(∀ a' w' h',Rel w0 g0 nt A' h' a' w' → K a' w') →
  if Region.wanted o (yielded ops a.tmps) then o.wp P a w K Q ∨ (o.asks P a w ∧ LetsOut Q) else K (a.put o.dst undef) w
def StepX (P : Program) (nt : Nat) (ops : Array Oper) (o : Oper) (A : ASt) (S : ASt → Prop) : Prop :=
 ∀ (w0 : Base) (g0 : Nat → Nat) (h : Gh) (a : Act) (w : World),Rel w0 g0 nt A h a w → ∀ (K : Act → World → Prop) (Q : Exit → Act → World → Prop),(∀ A' a' w' h',S A' → Rel w0 g0 nt A' h' a' w' → K a' w') →
  if Region.wanted o (yielded ops a.tmps) then o.wp P a w K Q ∨ (o.asks P a w ∧ LetsOut Q) else K (a.put o.dst undef) w
theorem StepS.x {P : Program} {nt : Nat} {ops : Array Oper} {o : Oper} {A A' : ASt} (h : StepS P nt ops o A A') : StepX P nt ops o A (· = A') :=
 fun w0 g0 h' a w r K Q hn => h w0 g0 h' a w r K Q fun a' w' h'' hr => hn _ a' w' h'' rfl hr
theorem StepX.s {P : Program} {nt : Nat} {ops : Array Oper} {o : Oper} {A A' : ASt} (h : StepX P nt ops o A (· = A')) : StepS P nt ops o A A' :=
 fun w0 g0 h' a w r K Q hn => h w0 g0 h' a w r K Q fun A1 a' w' h'' e hr => hn a' w' h'' (e ▸ hr)
theorem OpDo.step {nt : Nat} {ops : Array Oper} {o : Oper} {A : ASt} {lo : Option Nat} {E : Eff} (d : OpDo P nt ops o A lo E) : StepS P nt ops o A (A.apply o.dst E) :=
 fun w0 g0 h a w r K Q hn => d.sound r hn
def OpR (P : Program) (o : Oper) (xs : List AV) (rd : List Nat) (L : List (Nat × LV)) (x : AV) : Prop :=
 ∀ (B : Nat → Prop) (w : World) (h : Gh) (a : Act) (next : Act → World → Prop) (Q : Exit → Act → World → Prop),NewIn B w → GZ w h.g → RelAs w h (o.op.operands.toList.map a.eval) xs →
  (∀ l,rd.contains l = true → ∀ X,look L l = some X → LocOK B w h l X) →
  (∀ l l',rd.contains l = true → rd.contains l' = true → l ≠ l' → ∀ X X' b,look L l = some X → look L l' = some X' → inB h l X b → ¬ inB h l' X' b) →
  (∀ v w' h',RelA w' h' v x → Trans B w h w' h' (fun _ => False) none false → next (a.put o.dst v) w') → o.wp P a w next Q
theorem OpR.congr {P : Program} {o : Oper} {xs : List AV} {rd : List Nat} {L L' : List (Nat × LV)} {x : AV} (h : ∀ l,rd.contains l = true → look L' l = look L l) (k : OpR P o xs rd L x) : OpR P o xs rd L' x := by
 intro B w g a next Q hB hz hr hL hS hn
 exact k B w g a next Q hB hz hr (fun l hl X hX => hL l hl X (by rw [h l hl];exact hX)) (fun l l' hl hl' hne X X' b h1 h2 => hS l l' hl hl' hne X X' b (by rw [h l hl];exact h1) (by rw [h l' hl'];exact h2)) hn
structure OpRd (P : Program) (nt : Nat) (ops : Array Oper) (o : Oper) (A : ASt) (rd : List Nat) (E : Eff) : Prop where
 dst : ∀ d,o.dst = some d → d < nt
 want : wantedA ops o A = some true
 does : OpR P o (o.op.operands.toList.map A.eval) rd A.locs E.val
 upd : E.upd = none
 fresh : E.fresh = false
theorem OpRd.sound {P : Program} {nt : Nat} {ops : Array Oper} {o : Oper} {A : ASt} {rd : List Nat} {E : Eff} (d : OpRd P nt ops o A rd E) {w0 : Base} {g0 : Nat → Nat} {h : Gh} {a : Act} {w : World} (r : Rel w0 g0 nt A h a w)
  {K : Act → World → Prop} {Q : Exit → Act → World → Prop} (hn : ∀ a' w' h',Rel w0 g0 nt (A.apply o.dst E) h' a' w' → K a' w') :
  if Region.wanted o (yielded ops a.tmps) then o.wp P a w K Q ∨ (o.asks P a w ∧ LetsOut Q) else K (a.put o.dst undef) w := by
 rw [x53 r d.want]
 simp only [if_true]
 refine .inl (d.does w0.O w h a K Q r.base r.gz (r.evals _) (fun l _ X hX => r.locs l X hX) (fun l l' _ _ hne X X' b h1 h2 => r.sep l l' X X' b hne h1 h2) fun v w' h' h3 t => hn _ _ h' ?_)
 have e1 := d.upd
 have e2 := d.fresh
 refine Rel.carry (lo := none) (o := o) r d.dst (fun hf => by rw [e2] at hf;cases hf) (fun l L hu => by rw [e1] at hu;cases hu) h3 ?_ (fun l L' hu => by rw [e1] at hu;cases hu)
 have : ownOf h (A.locAt none) E = (fun _ => False) := by unfold ownOf;rw [e1];cases E.fresh <;> rfl
 rw [this,e1,e2]
 exact t
def Did (P : Program) (nt : Nat) (ops : Array Oper) (o : Oper) (A : ASt) (lo : Option Nat) (E : Eff) (rd : List Nat) : Prop :=
 (OpDo P nt ops o A lo E ∧ rd = []) ∨ (lo = none ∧ OpRd P nt ops o A rd E)
theorem Did.sound {P : Program} {nt : Nat} {ops : Array Oper} {o : Oper} {A : ASt} {lo : Option Nat} {E : Eff} {rd : List Nat} (d : Did P nt ops o A lo E rd) {w0 : Base} {g0 : Nat → Nat} {h : Gh} {a : Act} {w : World} (r : Rel w0 g0 nt A h a w)
  {K : Act → World → Prop} {Q : Exit → Act → World → Prop} (hn : ∀ a' w' h',Rel w0 g0 nt (A.apply o.dst E) h' a' w' → K a' w') :
  if Region.wanted o (yielded ops a.tmps) then o.wp P a w K Q ∨ (o.asks P a w ∧ LetsOut Q) else K (a.put o.dst undef) w := by
 rcases d with ⟨d,_⟩ | ⟨_,d⟩
 ·exact d.sound r hn
 ·exact d.sound r hn
def walkS (P : Program) (nt : Nat) (ops : Array Oper) : List Oper → ASt → (ASt → Prop) → Prop
 | [],A,K => K A
 | o :: rest,A,K => (∃ S : ASt → Prop,StepX P nt ops o A S ∧ ∀ A',S A' → walkS P nt ops rest A' K)
theorem z41 {P : Program} {nt : Nat} {ops : Array Oper} {o : Oper} {rest : List Oper} {A A' : ASt} {K : ASt → Prop} (h : StepS P nt ops o A A') (k : walkS P nt ops rest A' K) : walkS P nt ops (o :: rest) A K :=
 ⟨_,h.x,fun A1 e => by subst e;exact k⟩
theorem z90 {nt : Nat} {ops : Array Oper} {w0 : Base} {g0 : Nat → Nat} {Q : Exit → Act → World → Prop} {K : ASt → Prop} (hQ : ∀ A h a w,Rel w0 g0 nt A h a w → K A → Q .normal a w) :
  ∀ (l : List Oper) (A : ASt) (h : Gh) (a : Act) (w : World),Rel w0 g0 nt A h a w → walkS P nt ops l A K → wpList P ops Q l a w
 | [],A,h,a,w,r,hk => hQ A h a w r hk
 |o :: rest,A,h,a,w,r,hk => by
  obtain ⟨S,hd,hk⟩ := hk
  have := hd w0 g0 h a w r (wpList P ops Q rest) Q (fun A' a' w' h' hs hr => z90 hQ rest _ h' a' w' hr (hk A' hs))
  simpa [wpList] using this
structure Done where
 o : Oper
 lo : Option Nat
 E : Eff
 rd : List Nat
def part (S : Nat → Bool) : Nat → List Done → ASt → ASt
 | _,[],A => A
 | k,d :: r,A => part S (k + 1) r (if S k then A.apply d.o.dst d.E else A)
theorem x90 (A : ASt) (dst : Option Tmp) (E : Eff) (t : Nat) : look (A.apply dst E).fr t = if dst = some t then some E.val else look A.fr t := by
 unfold ASt.apply ASt.put ASt.upd
 cases dst with
 | none => cases E.upd <;> simp
 |some d =>
  by_cases h : d = t
  ·subst h;cases E.upd <;> simp [look]
  ·cases E.upd <;> simp [look,h]
theorem j90 (A : ASt) (dst : Option Tmp) (E : Eff) (l : Nat) : look (A.apply dst E).locs l = match E.upd with
  | some (l',L) => if l' = l then some L else look A.locs l
  | none => look A.locs l := by
 unfold ASt.apply ASt.put ASt.upd
 cases dst <;> cases E.upd <;> simp [look]
def lastW {α β : Type} (f : α → Option β) : List α → Option β
 | [] => none
 |x :: r => match lastW f r with
  | some y => some y
  | none => f x
def valAt (t : Nat) (d : Done) : Option AV := if d.o.dst = some t then some d.E.val else none
def locAtD (l : Nat) (d : Done) : Option LV := match d.E.upd with
 | some (l',L) => if l' = l then some L else none
 | none => none
def selD {β : Type} (S : Nat → Bool) (f : Done → Option β) : Nat × Done → Option β := fun p => if S p.1 then f p.2 else none
def idx {α : Type} (k : Nat) : List α → List (Nat × α)
 | [] => []
 | x :: r => (k,x) :: idx (k + 1) r
theorem x41 {α : Type} : ∀ {l : List α} {k i : Nat} {x : α},(i,x) ∈ idx k l ↔ k ≤ i ∧ l[i - k]? = some x
 | [],k,i,x => by simp [idx]
 |y :: r,k,i,x => by
  simp only [idx,List.mem_cons,Prod.mk.injEq,x41 (l := r)]
  constructor
  ·rintro (⟨rfl,rfl⟩ | ⟨h1,h2⟩)
   ·simp
   ·refine ⟨by omega,?_⟩
    have : i - k = (i - (k + 1)) + 1 := by omega
    rw [this];simpa using h2
  ·rintro ⟨h1,h2⟩
   by_cases h : i = k
   ·subst h;simp at h2;exact .inl ⟨rfl,h2.symm⟩
   ·refine .inr ⟨by omega,?_⟩
    have : i - k = (i - (k + 1)) + 1 := by omega
    rw [this] at h2;simpa using h2
theorem q36 (S : Nat → Bool) (t : Nat) : ∀ (l : List Done) (k : Nat) (A : ASt),look (part S k l A).fr t = (lastW (selD S (valAt t)) (idx k l)).or (look A.fr t)
 | [],k,A => by simp [part,idx,lastW]
 |d :: r,k,A => by
  simp only [part,idx,lastW,q36 S t r (k + 1)]
  cases hl : lastW (selD S (valAt t)) (idx (k + 1) r) with
  | some y => simp
  |none =>
   simp only [Option.none_or,selD]
   cases S k with
   | false => simp
   |true =>
    simp only [if_true,x90,valAt]
    split <;> simp
theorem z29 (S : Nat → Bool) (l : Nat) : ∀ (tr : List Done) (k : Nat) (A : ASt),look (part S k tr A).locs l = (lastW (selD S (locAtD l)) (idx k tr)).or (look A.locs l)
 | [],k,A => by simp [part,idx,lastW]
 |d :: r,k,A => by
  simp only [part,idx,lastW,z29 S l r (k + 1)]
  cases hl : lastW (selD S (locAtD l)) (idx (k + 1) r) with
  | some y => simp
  |none =>
   simp only [Option.none_or,selD]
   cases S k with
   | false => simp
   |true =>
    simp only [if_true,j90,locAtD]
    cases d.E.upd with
    | none => simp
    |some p =>
     obtain ⟨l',L⟩ := p
     simp only
     split <;> simp
theorem q91 {α β : Type} {f g : α → Option β} : ∀ {l : List α},(∀ x ∈ l,f x = g x) → lastW f l = lastW g l
 | [],_ => rfl
 |x :: r,h => by
  simp only [lastW,q91 (l := r) fun y hy => h y (by simp [hy]),h x (by simp)]
theorem j53 {α β : Type} {f : α → Option β} : ∀ {l : List α} {y : β},lastW f l = some y → ∃ x ∈ l,f x = some y
 | [],y,h => by cases h
 |x :: r,y,h => by
  simp only [lastW] at h
  split at h
  ·rename_i z hz;cases h;obtain ⟨x',h1,h2⟩ := j53 hz;exact ⟨x',by simp [h1],h2⟩
  ·exact ⟨x,by simp,h⟩
end Go.Proofs.YtemcdefpihkfpaaGreat.AL
namespace Go.Proofs.YtemcdefpihkfpaaGreat.AL
open Go.RowKit
variable {P : Program}
def preds (o : Oper) : List Nat := (o.after.toList.filter (Region.binds .any)).map (·.on)
def ancs : List Oper → List (List Nat) → List (List Nat)
 | [],acc => acc
 | o :: r,acc => ancs r (acc ++ [((preds o).flatMap fun p => p :: acc.getD p []).eraseDups])
def Closed (ops : List Oper) (S : Nat → Bool) : Prop := ∀ i o,ops[i]? = some o → S i = true → ∀ p ∈ preds o,S p = true
theorem z91 (ops : List Oper) (S : Nat → Bool) (hS : Closed ops S) : ∀ (l : List Oper) (acc : List (List Nat)),ops.drop acc.length = l →
  (∀ (i : Nat) (aq : List Nat),acc[i]? = some aq → ∀ o,ops[i]? = some o → (∀ p ∈ preds o,S p = true) → ∀ j ∈ aq,S j = true) →
  ∀ (i : Nat) (aq : List Nat),(ancs l acc)[i]? = some aq → ∀ o,ops[i]? = some o → (∀ p ∈ preds o,S p = true) → ∀ j ∈ aq,S j = true
 | [],acc,_,hacc => hacc
 |o :: r,acc,hd,hacc => by
  simp only [ancs]
  have ho : ops[acc.length]? = some o := by
   have : (ops.drop acc.length)[0]? = some o := by rw [hd];rfl
   simpa using this
  refine z91 ops S hS r _ ?_ ?_
  ·have : ops.drop (acc.length + 1) = (ops.drop acc.length).drop 1 := by rw [List.drop_drop]
   simp [this,hd]
  ·intro i aq hi o' ho' hp j hj
   by_cases hlt : i < acc.length
   ·rw [List.getElem?_append_left hlt] at hi
    exact hacc i aq hi o' ho' hp j hj
   ·have hi' : i = acc.length := by
     have := (List.getElem?_eq_some_iff.1 hi).1
     simp at this;omega
    subst hi'
    rw [ho] at ho';cases ho'
    simp at hi
    subst hi
    rw [List.mem_eraseDups,List.mem_flatMap] at hj
    obtain ⟨p,hpm,hjp⟩ := hj
    rcases List.mem_cons.1 hjp with rfl | hjp
    ·exact hp j hpm
    ·cases hq : acc[p]? with
     | none => simp [List.getD_eq_getElem?_getD,hq] at hjp
     |some bs =>
      simp [List.getD_eq_getElem?_getD,hq] at hjp
      cases hop : ops[p]? with
      |none =>
       have h1 := (List.getElem?_eq_some_iff.1 hq).1
       have h2 := List.getElem?_eq_none_iff.1 hop
       have h3 := (List.getElem?_eq_some_iff.1 ho).1
       omega
      | some op => exact hacc p bs hq op hop (hS p op hop (hp p hpm)) j hjp
def ahead (an : List (List Nat)) (j i : Nat) : Bool := (an.getD i []).contains j
def ordered (an : List (List Nat)) (i k : Nat) : Bool := if k < i then ahead an k i else ahead an i k
def okPairs (n : Nat) (an : List (List Nat)) (conf : Nat → Nat → Bool) : Bool :=
 (List.range n).all fun i => (List.range n).all fun k => i == k || !conf i k || ordered an i k
def confTmps (ops : List Oper) (i k : Nat) : Bool :=
 match ops[i]?,ops[k]? with
 |some o,some o' => match o'.dst with
  | some d => (o.looksAt ops.toArray).contains d || o.dst == some d
  | none => false
 | _,_ => false
def okEdges (ops : List Oper) : Bool := (List.range ops.length).all fun i => match ops[i]? with
 | some o => (preds o).all (· < i)
 | none => true
def okText (ops : List Oper) : Bool := okEdges ops && okPairs ops.length (ancs ops []) (confTmps ops) && ops.all fun o => match o.op with
 | .select .. => false
 | _ => true
def updOf (d : Done) : Option Nat := d.E.upd.map (·.1)
def confLocs (tr : List Done) (i k : Nat) : Bool :=
 match tr[i]?,tr[k]? with
 |some d,some d' => match updOf d' with
  | some l => d.lo == some l || updOf d == some l || d.rd.contains l
  | none => false
 | _,_ => false
def mentionsE (E : Eff) : List Nat := E.val.mentions ++ (match E.upd with
 | some (_,L) => L.mentions
 | none => [])
def confFresh (tr : List Done) (i k : Nat) : Bool :=
 match tr[i]?,tr[k]? with
 |some d,some d' => d.E.fresh && (match updOf d with
  | some l => (mentionsE d'.E).contains l
  | none => false)
 | _,_ => false
def okAhead (n : Nat) (an : List (List Nat)) (conf : Nat → Nat → Bool) : Bool :=
 (List.range n).all fun i => (List.range n).all fun k => i == k || !conf i k || ahead an i k
def OkTrace (ops : List Oper) (A : ASt) (tr : List Done) : Prop :=
 okPairs tr.length (ancs ops []) (confLocs tr) = true ∧ okAhead tr.length (ancs ops []) (confFresh tr) = true ∧
 ∀ d ∈ tr,d.E.fresh = true → ∀ l,updOf d = some l → A.unused l
def walkD (P : Program) (nt : Nat) (ops : Array Oper) (K : ASt → List Done → Prop) : List Oper → ASt → List Done → Prop
 | [],A,tr => K A tr.reverse
 | o :: rest,A,tr => ∃ lo E rd,Did P nt ops o A lo E rd ∧ walkD P nt ops K rest (A.apply o.dst E) (⟨o,lo,E,rd⟩ :: tr)
def Traced (P : Program) (nt : Nat) (ops : Array Oper) (A : ASt) (tr : List Done) : Prop :=
 ∀ i d,tr[i]? = some d → ops[i]? = some d.o ∧ Did P nt ops d.o (part (fun k => decide (k < i)) 0 tr A) d.lo d.E d.rd
theorem x69 {S T : Nat → Bool} : ∀ (l : List Done) (k : Nat) (A : ASt),(∀ i,k ≤ i → i < k + l.length → S i = T i) → part S k l A = part T k l A
 | [],k,A,_ => rfl
 |d :: r,k,A,h => by
  simp only [part]
  rw [h k (Nat.le_refl _) (by simp),x69 r (k + 1) _ fun i h1 h2 => h i (by omega) (by simp;omega)]
theorem q54 (S : Nat → Bool) : ∀ (l l' : List Done) (k : Nat) (A : ASt),part S k (l ++ l') A = part S (k + l.length) l' (part S k l A)
 | [],l',k,A => by simp [part]
 |d :: r,l',k,A => by
  simp only [List.cons_append,part,q54 S r l' (k + 1),List.length_cons]
  congr 1;omega
theorem z54 : ∀ (l : List Done) (k : Nat) (A : ASt) (S : Nat → Bool),(∀ i,k ≤ i → i < k + l.length → S i = false) → part S k l A = A
 | [],k,A,S,_ => rfl
 |d :: r,k,A,S,h => by
  simp only [part,h k (Nat.le_refl _) (by simp)]
  exact z54 r (k + 1) A S fun i h1 h2 => h i (by omega) (by simp;omega)
theorem x91 {nt : Nat} {ops : Array Oper} {K : ASt → List Done → Prop} (A0 : ASt) : ∀ (l : List Oper) (A : ASt) (tr : List Done),
  ops.toList = (tr.reverse.map (·.o)) ++ l → A = part (fun _ => true) 0 tr.reverse A0 → Traced P nt ops A0 tr.reverse → walkD P nt ops K l A tr →
  ∃ tr',Traced P nt ops A0 tr' ∧ tr'.map (·.o) = ops.toList ∧ K (part (fun _ => true) 0 tr' A0) tr'
 | [],A,tr,ho,hA,ht,hk => ⟨tr.reverse,ht,by simp [ho],by rw [← hA];exact hk⟩
 |o :: rest,A,tr,ho,hA,ht,hk => by
  obtain ⟨lo,E,rd,hd,hk⟩ := hk
  have hlen : tr.reverse.length = tr.length := List.length_reverse
  refine x91 A0 rest _ (⟨o,lo,E,rd⟩ :: tr) (by simp [ho]) ?_ ?_ hk
  ·rw [List.reverse_cons,q54,← hA]
   simp [part]
  ·rw [List.reverse_cons]
   intro i d hi
   by_cases hlt : i < tr.reverse.length
   ·rw [List.getElem?_append_left hlt] at hi
    obtain ⟨e1,e2⟩ := ht i d hi
    refine ⟨e1,?_⟩
    rw [q54,z54 _ _ _ _ (fun j h1 h2 => by simp at h1 hlt ⊢;omega)]
    exact e2
   ·have hi' : i = tr.reverse.length := by
     have := (List.getElem?_eq_some_iff.1 hi).1
     simp at this hlt;simp;omega
    subst hi'
    simp at hi
    subst hi
    have hget : ops[tr.reverse.length]? = some o := by
     have : ops.toList[tr.reverse.length]? = some o := by rw [ho];simp
     simpa using this
    refine ⟨hget,?_⟩
    rw [q54,z54 [_] _ _ _ (fun j h1 h2 => by simp at h1 h2 ⊢;omega)]
    rw [x69 (T := fun _ => true) _ _ _ (fun j h1 h2 => by simp at h2 ⊢;omega),← hA]
    exact hd
end Go.Proofs.YtemcdefpihkfpaaGreat.AL
namespace Go.Proofs.YtemcdefpihkfpaaGreat.AL
open Go.RowKit
variable {P : Program}
theorem Rel.ext' {w0 : Base} {g0 : Nat → Nat} {nt : Nat} {A A' : ASt} {h : Gh} {a : Act} {w : World} (r : Rel w0 g0 nt A h a w) (hf : ∀ t,look A'.fr t = look A.fr t) (hl : ∀ l,look A'.locs l = look A.locs l) : Rel w0 g0 nt A' h a w :=
 ⟨r.size,r.defers,fun t x hx => r.fr t x (by rw [← hf];exact hx),fun l L hL => r.locs l L (by rw [← hl];exact hL),
  fun l l' L L' b hne h1 h2 => r.sep l l' L L' b hne (by rw [← hl];exact h1) (by rw [← hl];exact h2),r.ext,r.pin⟩
theorem q144 {n : Nat} {an : List (List Nat)} {conf : Nat → Nat → Bool} (h : okPairs n an conf = true) {i k : Nat} (hi : i < n) (hk : k < n) (hne : i ≠ k) (hc : conf i k = true) : ordered an i k = true := by
 unfold okPairs at h
 have h1 := List.all_eq_true.1 h i (List.mem_range.2 hi)
 have h2 := List.all_eq_true.1 h1 k (List.mem_range.2 hk)
 simp [hne,hc] at h2
 exact h2
theorem z144 {n : Nat} {an : List (List Nat)} {conf : Nat → Nat → Bool} (h : okAhead n an conf = true) {i k : Nat} (hi : i < n) (hk : k < n) (hne : i ≠ k) (hc : conf i k = true) : ahead an i k = true := by
 unfold okAhead at h
 have h1 := List.all_eq_true.1 h i (List.mem_range.2 hi)
 have h2 := List.all_eq_true.1 h1 k (List.mem_range.2 hk)
 simp [hne,hc] at h2
 exact h2
section
variable {opsL : List Oper} {S : Nat → Bool}
theorem j69 (hS : Closed opsL S) {i j : Nat} {o : Oper} (ho : opsL[i]? = some o) (hp : ∀ p ∈ preds o,S p = true) (hj : ahead (ancs opsL []) j i = true) : S j = true := by
 unfold ahead at hj
 cases hq : (ancs opsL [])[i]? with
 | none => simp [List.getD_eq_getElem?_getD,hq] at hj
 |some aq =>
  simp [List.getD_eq_getElem?_getD,hq] at hj
  exact z91 opsL S hS opsL [] rfl (fun i aq h => by simp at h) i aq hq o ho hp j hj
theorem j91 (hS : Closed opsL S) {n : Nat} {conf : Nat → Nat → Bool} (hc : okPairs n (ancs opsL []) conf = true) {i k : Nat} (hi : i < n) (hk : k < n) (hne : i ≠ k) (hcf : conf i k = true)
  {o ok : Oper} (ho : opsL[i]? = some o) (hok : opsL[k]? = some ok) (hp : ∀ p ∈ preds o,S p = true) (hSi : S i = false) : S k = decide (k < i) := by
 have h := q144 hc hi hk hne hcf
 unfold ordered at h
 by_cases hlt : k < i
 ·rw [if_pos hlt] at h
  rw [j69 hS ho hp h];simp [hlt]
 ·rw [if_neg hlt] at h
  cases hSk : S k with
  | false => simp [hlt]
  |true =>
   have := j69 hS hok (hS k ok hok hSk) h
   rw [hSi] at this;cases this
end
theorem q92 {α : Type} {p q : α → Bool} : ∀ (l : List α) (x : α),x ∈ l → p x = true → q x = false → (∀ y,q y = true → p y = true) → l.countP q < l.countP p
 | [],x,hx,_,_,_ => by cases hx
 |y :: r,x,hx,hp,hq,hi => by
  simp only [List.countP_cons]
  have hle : r.countP q ≤ r.countP p := List.countP_mono_left fun z _ hz => hi z hz
  rcases List.mem_cons.1 hx with rfl | hx
  ·simp [hp,hq];omega
  ·have := q92 r x hx hp hq hi
   cases hqy : q y with
   | true => simp [hi y hqy];omega
   | false => cases p y <;> simp <;> omega
theorem q32 {β : Type} {S T : Nat → Bool} {f : Done → Option β} {tr : List Done} (h : ∀ k d y,tr[k]? = some d → f d = some y → S k = T k) : lastW (selD S f) (idx 0 tr) = lastW (selD T f) (idx 0 tr) := by
 refine q91 fun p hp => ?_
 obtain ⟨k,d⟩ := p
 obtain ⟨_,hk⟩ := x41.1 hp
 simp only [selD]
 cases hf : f d with
 | none => simp
 | some y => rw [h k d y (by simpa using hk) hf]
theorem q70 {β : Type} {f : Done → Option β} : ∀ (tr : List Done) (k i : Nat) (d : Done) (y : β),k ≤ i → tr[i - k]? = some d → f d = some y → lastW (selD (fun j => decide (j ≤ i)) f) (idx k tr) = some y
 | [],k,i,d,y,h,hd,_ => by simp at hd
 |x :: r,k,i,d,y,h,hd,hf => by
  simp only [idx,lastW]
  by_cases hik : i = k
  ·subst hik
   simp at hd
   subst hd
   have hnone : lastW (selD (fun j => decide (j ≤ i)) f) (idx (i + 1) r) = none := by
    cases hl : lastW (selD (fun j => decide (j ≤ i)) f) (idx (i + 1) r) with
    | none => rfl
    |some z =>
     obtain ⟨p,hp,hz⟩ := j53 hl
     obtain ⟨j,d'⟩ := p
     have := (x41.1 hp).1
     simp only [selD] at hz
     rw [if_neg (by simp;omega)] at hz
     cases hz
   rw [hnone]
   simp [selD,hf]
  ·have : i - k = (i - (k + 1)) + 1 := by omega
   rw [this] at hd
   simp at hd
   rw [q70 r (k + 1) i d y (by omega) hd hf]
theorem x144 {A A' : ASt} {lo : Option Nat} (h : ∀ l,lo = some l → look A.locs l = look A'.locs l) : A.locAt lo = A'.locAt lo := by
 cases lo with
 | none => rfl
 | some l => simp [ASt.locAt,h l rfl]
theorem j144 {A A' : ASt} {x : Operand} (h : ∀ t,x = .tmp t → look A.fr t = look A'.fr t) : A.eval x = A'.eval x := by
 cases x with
 | tmp t => simp [ASt.eval,h t rfl]
 | _ => rfl
section
variable {nt : Nat} {ops : Array Oper} {A0 : ASt} {tr : List Done} {S : Nat → Bool}
theorem q145 (hT : Traced P nt ops A0 tr) (hm : tr.map (·.o) = ops.toList) (hX : okText ops.toList = true) (hO : OkTrace ops.toList A0 tr) (hS : Closed ops.toList S) {i : Nat} {d : Done} (hi : tr[i]? = some d)
  (hp : ∀ p ∈ preds d.o,S p = true) (hSi : S i = false) :
  Did P nt ops d.o (part S 0 tr A0) d.lo d.E d.rd ∧
  (∀ t,look (part (fun k => S k || decide (k = i)) 0 tr A0).fr t = look ((part S 0 tr A0).apply d.o.dst d.E).fr t) ∧
  (∀ l,look (part (fun k => S k || decide (k = i)) 0 tr A0).locs l = look ((part S 0 tr A0).apply d.o.dst d.E).locs l) := by
 have hlen : tr.length = ops.toList.length := by rw [← hm];simp
 have hin : i < tr.length := (List.getElem?_eq_some_iff.1 hi).1
 have hop : ∀ {k : Nat} {d' : Done},tr[k]? = some d' → ops.toList[k]? = some d'.o := by
  intro k d' hk;rw [← hm,List.getElem?_map,hk];rfl
 unfold okText at hX
 simp only [Bool.and_eq_true] at hX
 obtain ⟨⟨hE,hPT⟩,_⟩ := hX
 obtain ⟨hL,hF,hU⟩ := hO
 rw [← hlen] at hPT
 have selT : ∀ {k : Nat} {d' : Done} {t : Tmp},tr[k]? = some d' → d'.o.dst = some t → (t ∈ d.o.looksAt ops ∨ d.o.dst = some t) → k ≠ i → S k = decide (k < i) := by
  intro k d' t hk hdst ht hne
  have hkn : k < tr.length := (List.getElem?_eq_some_iff.1 hk).1
  refine j91 hS hPT hin hkn (Ne.symm hne) ?_ (hop hi) (hop hk) hp hSi
  unfold confTmps
  rw [hop hi,hop hk]
  simp only [hdst]
  rcases ht with ht | ht
  ·simp;exact .inl ht
  ·simp [ht]
 have selL : ∀ {k : Nat} {d' : Done} {l : Nat},tr[k]? = some d' → updOf d' = some l → (d.lo = some l ∨ updOf d = some l ∨ d.rd.contains l = true) → k ≠ i → S k = decide (k < i) := by
  intro k d' l hk hu hl hne
  have hkn : k < tr.length := (List.getElem?_eq_some_iff.1 hk).1
  refine j91 hS hL hin hkn (Ne.symm hne) ?_ (hop hi) (hop hk) hp hSi
  unfold confLocs
  rw [hi,hk]
  simp only [hu]
  rcases hl with hl | hl | hl
  ·simp [hl]
  ·simp [hl]
  ·rw [hl];simp
 have updA : ∀ {d' : Done} {l : Nat} {L : LV},locAtD l d' = some L → updOf d' = some l := by
  intro d' l L h
  unfold locAtD at h
  unfold updOf
  cases hq : d'.E.upd with
  | none => rw [hq] at h;cases h
  |some q =>
   obtain ⟨l',L'⟩ := q
   rw [hq] at h
   simp only at h
   split at h
   ·rename_i e;simp [e]
   ·cases h
 have frEq : ∀ t,(t ∈ d.o.looksAt ops) → look (part S 0 tr A0).fr t = look (part (fun k => decide (k < i)) 0 tr A0).fr t := by
  intro t ht
  rw [q36,q36,q32 (T := fun k => decide (k < i))]
  intro k d' y hk hy
  unfold valAt at hy
  split at hy
  ·rename_i hdst
   by_cases hki : k = i
   ·subst hki;rw [hSi];simp
   ·exact selT hk hdst (.inl ht) hki
  ·cases hy
 have locEq : ∀ l,(d.lo = some l) → look (part S 0 tr A0).locs l = look (part (fun k => decide (k < i)) 0 tr A0).locs l := by
  intro l hl
  rw [z29,z29,q32 (T := fun k => decide (k < i))]
  intro k d' y hk hy
  by_cases hki : k = i
  ·subst hki;rw [hSi];simp
  ·exact selL hk (updA hy) (.inl hl) hki
 have rdEq : ∀ l,d.rd.contains l = true → look (part S 0 tr A0).locs l = look (part (fun k => decide (k < i)) 0 tr A0).locs l := by
  intro l hl
  rw [z29,z29,q32 (T := fun k => decide (k < i))]
  intro k d' y hk hy
  by_cases hki : k = i
  ·subst hki;rw [hSi];simp
  ·exact selL hk (updA hy) (.inr (.inr hl)) hki
 obtain ⟨hget,hdid⟩ := hT i d hi
 have hw : wantedA ops d.o (part S 0 tr A0) = wantedA ops d.o (part (fun k => decide (k < i)) 0 tr A0) := by
  unfold wantedA
  split
  ·rfl
  ·rename_i j want hg
   split
   ·rename_i t hdt
    rw [frEq t (by unfold Oper.looksAt;rw [hg];simp [hdt])]
   ·rfl
 have he : d.o.op.operands.toList.map (part S 0 tr A0).eval = d.o.op.operands.toList.map (part (fun k => decide (k < i)) 0 tr A0).eval := by
  refine List.map_congr_left fun x hx => j144 fun t hxt => frEq t ?_
  subst hxt
  unfold Oper.looksAt
  refine List.mem_append.2 (.inl (List.mem_filterMap.2 ⟨_,hx,rfl⟩))
 refine ⟨?_,?_,?_⟩
 ·rcases hdid with ⟨hdo,hrd⟩ | ⟨hlo,hdo⟩
  case inr =>
   refine .inr ⟨hlo,hdo.dst,by rw [hw];exact hdo.want,?_,hdo.upd,hdo.fresh⟩
   rw [he]
   exact hdo.does.congr rdEq
  refine .inl ⟨⟨hdo.dst,?_,fun hfr l L hu => ?_,hdo.upd⟩,hrd⟩
  ·rw [hw,he,x144 locEq];exact hdo.does
  ·have hul : updOf d = some l := by simp [updOf,hu]
   obtain ⟨u1,u2,u3⟩ := hU d (List.mem_of_getElem? hi) hfr l hul
   have notIn : ∀ {k : Nat} {d' : Done},tr[k]? = some d' → S k = true → l ∉ mentionsE d'.E := by
    intro k d' hk hSk hmem
    have hkn : k < tr.length := (List.getElem?_eq_some_iff.1 hk).1
    have hki : k ≠ i := fun e => by subst e;rw [hSi] at hSk;cases hSk
    have hcf : confFresh tr i k = true := by
     unfold confFresh
     rw [hi,hk]
     simp [hfr,hul,hmem]
    have hord := z144 hF hin hkn (Ne.symm hki) hcf
    have := j69 hS (hop hk) (hS k _ (hop hk) hSk) hord
    rw [hSi] at this;cases this
   refine ⟨fun t x hx => ?_,fun l' L' hL' => ?_,u3⟩
   ·rw [q36] at hx
    cases hl : lastW (selD S (valAt t)) (idx 0 tr) with
    | none => rw [hl] at hx;simp at hx;exact u1 t x hx
    |some y =>
     rw [hl] at hx;simp at hx;subst hx
     obtain ⟨⟨k,d'⟩,hmem,hy⟩ := j53 hl
     have hk := (x41.1 hmem).2
     simp only [selD] at hy
     split at hy
     ·rename_i hSk
      unfold valAt at hy
      split at hy
      ·cases hy
       intro hm'
       exact notIn (by simpa using hk) hSk (List.mem_append.2 (.inl hm'))
      ·cases hy
     ·cases hy
   ·rw [z29] at hL'
    cases hl : lastW (selD S (locAtD l')) (idx 0 tr) with
    | none => rw [hl] at hL';simp at hL';exact u2 l' L' hL'
    |some y =>
     rw [hl] at hL';simp at hL';subst hL'
     obtain ⟨⟨k,d'⟩,hmem,hy⟩ := j53 hl
     have hk := (x41.1 hmem).2
     simp only [selD] at hy
     split at hy
     ·rename_i hSk
      unfold locAtD at hy
      cases hq : d'.E.upd with
      | none => rw [hq] at hy;cases hy
      |some q =>
       obtain ⟨l'',L''⟩ := q
       rw [hq] at hy
       simp only at hy
       split at hy
       ·cases hy
        intro hm'
        exact notIn (by simpa using hk) hSk (List.mem_append.2 (.inr (by rw [hq];exact hm')))
       ·cases hy
     ·cases hy
 ·intro t
  rw [x90,q36]
  by_cases hdt : d.o.dst = some t
  ·rw [if_pos hdt,q32 (T := fun k => decide (k ≤ i))]
   ·rw [q70 tr 0 i d d.E.val (Nat.zero_le _) (by simpa using hi) (by simp [valAt,hdt])]
    simp
   ·intro k d' y hk hy
    unfold valAt at hy
    split at hy
    ·rename_i hdst
     by_cases hki : k = i
     ·subst hki;simp
     ·rw [selT hk hdst (.inr hdt) hki]
      simp [hki];omega
    ·cases hy
  ·rw [if_neg hdt,q36,q32 (T := S)]
   intro k d' y hk hy
   unfold valAt at hy
   split at hy
   ·rename_i hdst
    have hki : k ≠ i := fun e => by subst e;rw [hi] at hk;cases hk;exact hdt hdst
    simp [hki]
   ·cases hy
 ·intro l
  rw [j90,z29]
  have rest : updOf d ≠ some l → (lastW (selD (fun k => S k || decide (k = i)) (locAtD l)) (idx 0 tr)).or (look A0.locs l) = look (part S 0 tr A0).locs l := by
   intro hne
   rw [z29,q32 (T := S)]
   intro k d' y hk hy
   have hki : k ≠ i := fun e => by subst e;rw [hi] at hk;cases hk;exact hne (updA hy)
   simp [hki]
  cases hq : d.E.upd with
  | none => exact rest (by simp [updOf,hq])
  |some q =>
   obtain ⟨l',L'⟩ := q
   simp only
   by_cases hll : l' = l
   ·subst hll
    rw [if_pos rfl,q32 (T := fun k => decide (k ≤ i))]
    ·rw [q70 tr 0 i d L' (Nat.zero_le _) (by simpa using hi) (by simp [locAtD,hq])]
     simp
    ·intro k d' y hk hy
     by_cases hki : k = i
     ·subst hki;simp
     ·rw [selL hk (updA hy) (.inr (by simp [updOf,hq])) hki]
      simp [hki];omega
   ·rw [if_neg hll]
    exact rest (by simp [updOf,hq,hll])
theorem z145 {w0 : Base} {g0 : Nat → Nat} {Q : Exit → Act → World → Prop} (hT : Traced P nt ops A0 tr) (hm : tr.map (·.o) = ops.toList) (hX : okText ops.toList = true) (hO : OkTrace ops.toList A0 tr)
  (hQ : ∀ h a w,Rel w0 g0 nt (part (fun _ => true) 0 tr A0) h a w → Q .normal a w) :
  ∀ (fuel : Nat) (listed : Array Bool) (a : Act) (w : World) (h : Gh),listed.size = ops.size → Closed ops.toList (fun i => listed.getD i true) →
   ((List.range ops.size).countP fun i => !listed.getD i true) ≤ fuel → Rel w0 g0 nt (part (fun i => listed.getD i true) 0 tr A0) h a w → wpAny P .any ops Q fuel listed a w := by
 have hlen : tr.length = ops.size := by have := congrArg List.length hm;simpa using this
 have hop : ∀ {k : Nat} {d' : Done},tr[k]? = some d' → ops.toList[k]? = some d'.o := by
  intro k d' hk;rw [← hm,List.getElem?_map,hk];rfl
 have hEdge : ∀ i o,ops.toList[i]? = some o → ∀ p ∈ preds o,p < i := by
  intro i o ho p hp
  unfold okText okEdges at hX
  simp only [Bool.and_eq_true] at hX
  have h1 := List.all_eq_true.1 hX.1.1 i (List.mem_range.2 (List.getElem?_eq_some_iff.1 ho).1)
  rw [ho] at h1
  have := List.all_eq_true.1 h1 p hp
  simpa using this
 have readyIff : ∀ (listed : Array Bool) (i : Nat),listed.size = ops.size → (i ∈ Region.ready .any ops listed ↔ ∃ o,ops.toList[i]? = some o ∧ listed.getD i true = false ∧ ∀ p ∈ preds o,listed.getD p true = true) := by
  intro listed i hsz
  unfold Region.ready
  rw [List.mem_filter,List.mem_range]
  constructor
  ·rintro ⟨h1,h2⟩
   have hi : ops[i]? = some ops[i] := by simp [h1]
   rw [hi] at h2
   simp only [Option.map_some,Option.getD_some,Bool.and_eq_true] at h2
   refine ⟨ops[i],by simp [h1],by simpa using h2.1,fun p hp => ?_⟩
   have hlt := hEdge i ops[i] (by simp [h1]) p hp
   unfold preds at hp
   rw [List.mem_map] at hp
   obtain ⟨e,he,rfl⟩ := hp
   rw [List.mem_filter] at he
   have hall := Array.all_eq_true_iff_forall_mem.1 h2.2 e (by simpa using he.1)
   rw [he.2] at hall
   have hlt' : e.on < listed.size := by omega
   simp [Array.getD_eq_getD_getElem?,hlt'] at hall ⊢
   exact hall
  ·rintro ⟨o,ho,h2,h3⟩
   have h1 : i < ops.size := by have := (List.getElem?_eq_some_iff.1 ho).1;simpa using this
   refine ⟨h1,?_⟩
   have hi : ops[i]? = some o := by simpa using ho
   rw [hi]
   simp only [Option.map_some,Option.getD_some,Bool.and_eq_true]
   refine ⟨by simpa using h2,Array.all_eq_true_iff_forall_mem.2 fun e he => ?_⟩
   cases hb : Region.binds .any e with
   | false => simp
   |true =>
    have hp : e.on ∈ preds o := List.mem_map.2 ⟨e,List.mem_filter.2 ⟨by simpa using he,hb⟩,rfl⟩
    have hlt := hEdge i o ho _ hp
    have := h3 _ hp
    have hlt' : e.on < listed.size := by omega
    simp [Array.getD_eq_getD_getElem?,hlt'] at this ⊢
    exact this
 have fin : ∀ (listed : Array Bool) (a : Act) (w : World) (h : Gh),listed.size = ops.size → Region.ready .any ops listed = [] → Rel w0 g0 nt (part (fun i => listed.getD i true) 0 tr A0) h a w → Q .normal a w := by
  intro listed a w h hsz hr rel
  have all : ∀ i,i < ops.size → listed.getD i true = true := by
   intro i
   induction i using Nat.strongRecOn with
   |_ i ih =>
    intro hi
    cases hb : listed.getD i true with
    | true => rfl
    |false =>
     have : i ∈ Region.ready .any ops listed := (readyIff listed i hsz).2 ⟨ops[i],by simp [hi],hb,fun p hp => ih p (hEdge i _ (by simp [hi]) p hp) (by have := hEdge i _ (by simp [hi]) p hp;omega)⟩
     rw [hr] at this;cases this
  refine hQ h a w ?_
  rw [x69 (S := fun _ => true) (T := fun i => listed.getD i true) tr 0 A0 (fun i _ hi => (all i (by omega)).symm)]
  exact rel
 intro fuel
 induction fuel with
 |zero =>
  intro listed a w h hsz hcl hcnt rel
  have hr : Region.ready .any ops listed = [] := by
   cases hq : Region.ready .any ops listed with
   | nil => rfl
   |cons i rs =>
    have hi : i ∈ Region.ready .any ops listed := by rw [hq];simp
    obtain ⟨o,h1,h2,_⟩ := (readyIff listed i hsz).1 hi
    have hlt : i < ops.size := by have := (List.getElem?_eq_some_iff.1 h1).1;simpa using this
    have : 0 < (List.range ops.size).countP fun i => !listed.getD i true := List.countP_pos_iff.2 ⟨i,List.mem_range.2 hlt,by simp [h2]⟩
    omega
  exact ⟨hr,fin listed a w h hsz hr rel⟩
 |succ fuel ih =>
  intro listed a w h hsz hcl hcnt rel
  refine ⟨fun hr => fin listed a w h hsz hr rel,fun i hi => ?_⟩
  obtain ⟨o,h1,h2,h3⟩ := (readyIff listed i hsz).1 hi
  have hlt : i < ops.size := by have := (List.getElem?_eq_some_iff.1 h1).1;simpa using this
  have hit : tr[i]? = some tr[i] := by simp [hlen,hlt]
  have ho : tr[i].o = o := by have := hop hit;rw [h1] at this;exact (Option.some.inj this).symm
  obtain ⟨p1,p2,p3⟩ := q145 hT hm hX hO hcl hit (by rw [ho];exact h3) h2
  have hsel : ∀ k,(listed.setIfInBounds i true).getD k true = (listed.getD k true || decide (k = i)) := by
   intro k
   simp only [Array.getD_eq_getD_getElem?,Array.getElem?_setIfInBounds]
   by_cases hk : i = k
   ·subst hk;simp;split <;> rfl
   ·have : k ≠ i := fun e => hk e.symm
    simp [hk,this]
  have hset : (fun k => (listed.setIfInBounds i true).getD k true) = fun k => listed.getD k true || decide (k = i) := funext hsel
  unfold wpOp
  have hget : ops[i]? = some tr[i].o := by rw [ho];simpa using h1
  rw [hget]
  refine p1.sound rel fun a' w' h' hr => ih _ a' w' h' (by simpa using hsz) ?_ ?_ ?_
  ·intro j oj hoj hj p hp
   simp only [hsel,Bool.or_eq_true] at hj ⊢
   rcases hj with hj | hj
   ·exact .inl (hcl j oj hoj hj p hp)
   ·have hji : j = i := by simpa using hj
    subst hji
    rw [h1] at hoj;cases hoj
    exact .inl (h3 p hp)
  ·have hdec : ((List.range ops.size).countP fun k => !(listed.setIfInBounds i true).getD k true) < (List.range ops.size).countP fun k => !listed.getD k true := by
    refine q92 (List.range ops.size) i (List.mem_range.2 hlt) (by simp [h2]) (by simp [hsel]) fun k hk => ?_
    simp [hsel] at hk ⊢
    exact hk.1
   omega
  ·rw [hset]
   exact Rel.ext' hr p2 p3
end
end Go.Proofs.YtemcdefpihkfpaaGreat.AL
namespace Go.Proofs.YtemcdefpihkfpaaGreat.AL
open Go.RowKit
variable {P : Program}
theorem Rel.drew {w0 : Base} {g0 : Nat → Nat} {nt : Nat} {A : ASt} {h : Gh} {a : Act} {w : World} (r : Rel w0 g0 nt A h a w) : Rel w0 g0 nt A h a { w with drawn := w.drawn + 1 } := by
 have t : Trans w0.O w h { w with drawn := w.drawn + 1 } h (fun _ => False) none false :=
  Trans.same (w := w) (w' := { w with drawn := w.drawn + 1 }) (g' := h.g) ⟨rfl,rfl,rfl,Nat.le_refl _,fun _ _ _ => rfl⟩ (fun _ _ => ⟨rfl,rfl⟩) r.gz r.gz r.base (fun _ => False)
 exact ⟨r.size,r.defers,fun x y hy => RelA.trans t (fun hf => by cases hf) (r.fr x y hy),fun l L hL => (LocOK.trans t (by simp) (fun hf => by cases hf) (fun b _ => by simp) (r.locs l L hL)).1,r.sep,
  ⟨r.ext.below.trans t.below,r.ext.gam,r.ext.gz,r.ext.keep.trans t.keep⟩,r.pin⟩
def AWP (P : Program) (nt : Nat) (c : Code) (Q : Exit → ASt → Prop) (A : ASt) : Prop :=
 ∀ (w0 : Base) (g0 : Nat → Nat) (h : Gh) (a : Act) (w : World),Rel w0 g0 nt A h a w → c.wp P (fun e a' w' => ∃ A' h',Q e A' ∧ Rel w0 g0 nt A' h' a' w') a w
section
variable {nt : Nat} {Q : Exit → ASt → Prop} {A : ASt}
theorem z70 {c : Code} {Q' : Exit → ASt → Prop} (h : AWP P nt c Q A) (hq : ∀ e A,Q e A → Q' e A) : AWP P nt c Q' A :=
 fun w0 g0 h' a w r => Go.wp_mono (h w0 g0 h' a w r) fun e a' w' ⟨A',hh,q,rr⟩ => ⟨A',hh,hq _ _ q,rr⟩
theorem j5 (h : Q .normal A) : AWP P nt .skip Q A := fun _ _ h' _ _ r => wp_skip ⟨A,h',h,r⟩
theorem x6 {id : Nat} (h : Q (.exit id) A) : AWP P nt (.exit id) Q A := fun _ _ h' _ _ r => wp_exit ⟨A,h',h,r⟩
theorem j9 (h : Q .ret A) : AWP P nt .ret Q A := fun _ _ h' _ _ r => wp_ret ⟨A,h',h,r⟩
def Weak (A A' : ASt) : Prop := ∀ (w0 : Base) (g0 : Nat → Nat) (nt : Nat) (h : Gh) (a : Act) (w : World),Rel w0 g0 nt A h a w → ∃ h',Rel w0 g0 nt A' h' a w
theorem Weak.refl (A : ASt) : Weak A A := fun _ _ _ h _ _ r => ⟨h,r⟩
theorem Weak.trans {A A' A'' : ASt} (h : Weak A A') (k : Weak A' A'') : Weak A A'' := fun w0 g0 nt h' a w r => let ⟨_,r'⟩ := h w0 g0 nt h' a w r;k w0 g0 nt _ a w r'
theorem q18 {c : Code} {A' : ASt} (hw : Weak A A') (h : AWP P nt c Q A') : AWP P nt c Q A := fun w0 g0 h' a w r => let ⟨_,r'⟩ := hw w0 g0 nt h' a w r;h w0 g0 _ a w r'
def keep {α : Type} (ks : List Nat) (l : List (Nat × α)) : List (Nat × α) := match ks with
 | [] => []
 |k :: r => match look l k with
  | some x => (k,x) :: keep r l
  | none => keep r l
theorem x54 {α : Type} (l : List (Nat × α)) : ∀ (ks : List Nat) (t : Nat) (x : α),look (keep ks l) t = some x → look l t = some x
 | [],t,x,h => by cases h
 |k :: r,t,x,h => by
  unfold keep at h
  split at h
  ·rename_i y hy
   simp only [look] at h
   split at h
   ·rename_i e;subst e;cases h;exact hy
   ·exact x54 l r t x h
  ·exact x54 l r t x h
theorem Weak.of_look {A A' : ASt} (hf : ∀ t x,look A'.fr t = some x → look A.fr t = some x) (hl : ∀ l L,look A'.locs l = some L → look A.locs l = some L) : Weak A A' :=
 fun w0 g0 nt h a w r => ⟨h,r.size,r.defers,fun t x hx => r.fr t x (hf t x hx),fun l L hL => r.locs l L (hl l L hL),fun l l' L L' b hne h1 h2 => r.sep l l' L L' b hne (hl l L h1) (hl l' L' h2),r.ext,r.pin⟩
theorem z32 (ks ls : List Nat) {c : Code} (h : AWP P nt c Q ⟨keep ks A.fr,keep ls A.locs⟩) : AWP P nt c Q A :=
 q18 (Weak.of_look (fun t x hx => x54 A.fr ks t x hx) (fun l L hL => x54 A.locs ls l L hL)) h
def seqQ (P : Program) (nt : Nat) (y : Code) (Q : Exit → ASt → Prop) : Exit → ASt → Prop
 | .normal,A => AWP P nt y Q A
 | e,A => Q e A
theorem j0 {x y : Code} (h : AWP P nt x (seqQ P nt y Q) A) : AWP P nt (.seq x y) Q A := by
 intro w0 g0 h' a w r
 refine wp_seq (Go.wp_mono (h w0 g0 h' a w r) fun e a' w' ⟨A',hh,q,rr⟩ => ?_)
 cases e with
 | normal => exact q w0 g0 hh a' w' rr
 | _ => exact ⟨A',hh,q,rr⟩
theorem j15 {c : Operand} {x y : Code} {t : Bool} (hc : A.eval c = .p (.d (.v (.bool t)))) (ht : t = true → AWP P nt x Q A) (hf : t = false → AWP P nt y Q A) : AWP P nt (.cond c x y) Q A := by
 intro w0 g0 h' a w r
 have hv := r.eval c
 rw [hc] at hv
 exact wp_cond_split (j16 hv) (fun e => ht e w0 g0 h' a w r) (fun e => hf e w0 g0 h' a w r)
def blockQ (id : Nat) (Q : Exit → ASt → Prop) : Exit → ASt → Prop
 | .exit id',A => if id' = id then Q .normal A else Q (.exit id') A
 | e,A => Q e A
theorem z8 {id : Nat} {Q : Exit → ASt → Prop} {A : ASt} : blockQ id Q .normal A = Q .normal A := rfl
theorem j6 {id : Nat} {c : Code} (h : AWP P nt c (blockQ id Q) A) : AWP P nt (.block id c) Q A := by
 intro w0 g0 h' a w r
 refine wp_block (Go.wp_mono (h w0 g0 h' a w r) fun e a' w' ⟨A',hh,q,rr⟩ => ?_)
 cases e with
 |exit id' =>
  simp only [blockQ] at q
  simp only [Exit.inBlock]
  split at q
  ·rename_i e;rw [if_pos e];exact ⟨A',hh,q,rr⟩
  ·rename_i e;rw [if_neg e];exact ⟨A',hh,q,rr⟩
 | _ => exact ⟨A',hh,q,rr⟩
theorem x145 {c : Code} {Q : Exit → Act → World → Prop} (I : Nat → Act → World → Prop)
  (round : ∀ n a w,I n a w → c.wp P (Exit.then (fun a' w' => ∃ m,m < n ∧ I m a' w') Q) a w) : ∀ n a w,I n a w → (Code.loop c).wp P Q a w := by
 intro n a w hI b k cs
 have key : ∀ n a w,I n a w → ∃ e a' w',Q e a' w' ∧ Arrives P (lone (b.at a (.code c :: .inLoop c :: k)) cs w) b k cs e a' w' := by
  intro n
  induction n using Nat.strongRecOn with
  |_ n ih =>
   intro a w hI
   obtain ⟨e,a₁,w₁,hq,harr⟩ := round n a w hI b (.inLoop c :: k) cs
   cases e with
   |normal =>
    obtain ⟨m,hm,hI₁⟩ := hq
    obtain ⟨e₂,a₂,w₂,hq₂,harr₂⟩ := ih m hm a₁ w₁ hI₁
    exact ⟨e₂,a₂,w₂,hq₂,.of_steps (Steps.trans harr (.one step_inLoop)) harr₂⟩
   | exit id => exact ⟨_,a₁,w₁,hq,.pass (x := .inLoop c) rfl (fun _ _ => .inl (by simp)) harr⟩
   | goto l => exact ⟨_,a₁,w₁,hq,.pass (x := .inLoop c) rfl (fun _ _ => .inl (by simp)) harr⟩
   | ret => exact ⟨_,a₁,w₁,hq,.pass (x := .inLoop c) rfl (fun _ _ => .inl (by simp)) harr⟩
   | panic ch => exact ⟨_,a₁,w₁,hq,.pass (x := .inLoop c) rfl (fun _ _ => .inl (by simp)) harr⟩
   | outgrown => exact ⟨_,a₁,w₁,hq,.pass (x := .inLoop c) rfl (fun _ _ => .inl (by simp)) harr⟩
 obtain ⟨e,a',w',hq,harr⟩ := key n a w hI
 exact ⟨e,a',w',hq,.of_steps (.one step_loop) harr⟩
def loopQ {ι : Type} (I : ι → ASt) (μ : ι → Nat) (x : ι) (Q : Exit → ASt → Prop) : Exit → ASt → Prop
 | .normal,A => ∃ x',μ x' < μ x ∧ Weak A (I x')
 | e,A => Q e A
theorem j13 {ι : Type} (I : ι → ASt) (μ : ι → Nat) {c : Code} (x0 : ι) (h0 : Weak A (I x0)) (round : ∀ x,AWP P nt c (loopQ I μ x Q) (I x)) : AWP P nt (.loop c) Q A := by
 intro w0 g0 h' a w r
 obtain ⟨h1,r1⟩ := h0 w0 g0 nt h' a w r
 refine x145 (fun n a w => ∃ x h,μ x = n ∧ Rel w0 g0 nt (I x) h a w) (fun n a w ⟨x,h,hn,rr⟩ => ?_) (μ x0) a w ⟨x0,h1,rfl,r1⟩
 refine Go.wp_mono (round x w0 g0 h a w rr) fun e a' w' ⟨A',hh,q,rr'⟩ => ?_
 cases e with
 |normal =>
  obtain ⟨x',hlt,hw⟩ := q
  obtain ⟨h2,r2⟩ := hw w0 g0 nt hh a' w' rr'
  exact ⟨μ x',by omega,x',h2,rfl,r2⟩
 | _ => exact ⟨A',hh,q,rr'⟩
theorem x5 {id : Nat} {l : List Oper} (hh : ∀ K : ASt → Prop,(∀ A',Q .normal A' → K A') → walkS P nt l.toArray l A K) : AWP P nt (.region id l.toArray false) Q A := by
 have h := hh _ fun _ h => h
 intro w0 g0 h' a w r
 refine wp_region_list ?_
 exact z90 (Q := fun e a' w' => ∃ A' h',Q e A' ∧ Rel w0 g0 nt A' h' a' w') (fun A h a w r k => ⟨A,h,k,r⟩) l A h' a w r h
theorem j145 {id : Nat} {l : List Oper} (hm : P.follows .mixedOrders = true) (hX : okText l = true) (hh : ∀ K : ASt → List Done → Prop,(∀ A' tr,OkTrace l A tr → Q .normal A' → K A' tr) → walkD P nt l.toArray K l A []) : AWP P nt (.region id l.toArray true) Q A := by
 have h := hh (fun A' tr => OkTrace l A tr ∧ Q .normal A') fun _ _ h1 h2 => ⟨h1,h2⟩
 intro w0 g0 h' a w r
 obtain ⟨tr,t1,t2,t3,t4⟩ := x91 (ops := l.toArray) A l A [] (by simp) (by simp [part]) (fun i d hi => by simp at hi) h
 refine wp_region_any hm ?_
 refine z145 (ops := l.toArray) t1 t2 (by simpa using hX) (by simpa using t3) (fun h a w r => ⟨_,h,t4,r⟩) _ _ a _ h' (by simp) (fun i o ho hi p hp => ?_) ?_ ?_
 ·exfalso
  have hlt : i < l.length := by have := (List.getElem?_eq_some_iff.1 ho).1;simpa using this
  simp [hlt] at hi
 ·exact Nat.le_trans List.countP_le_length (by simp)
 ·have : part (fun i => (Array.replicate l.toArray.size false).getD i true) 0 tr A = A := by
   refine z54 tr 0 A _ (fun i _ hi => ?_)
   have hlen : tr.length = l.length := by have := congrArg List.length t2;simpa using this
   have hlt : i < l.length := by omega
   simp [hlt]
  rw [this]
  exact r.drew
theorem x8 {id : Nat} {l : List Oper} (hh : ∀ K : ASt → List Done → Prop,(∀ A' tr,OkTrace l A tr → Q .normal A' → K A' tr) → walkD P nt l.toArray K l A []) (hm : P.follows .mixedOrders = true := by kernel_rfl) (hX : okText l = true := by kernel_rfl) : AWP P nt (.region id l.toArray true) Q A := j145 hm hX hh
end
section
variable {nt : Nat} {ops : Array Oper} {o : Oper} {rest : List Oper} {A : ASt}
def unusedB (A : ASt) (l : Nat) : Bool := (A.fr.all fun p => !p.2.mentions.contains l) && (A.locs.all fun p => !p.2.mentions.contains l) && decide (l < 1000)
theorem j41 {α : Type} : ∀ {l : List (Nat × α)} {t : Nat} {x : α},look l t = some x → (t,x) ∈ l
 | [],t,x,h => by cases h
 |(u,y) :: r,t,x,h => by
  simp only [look] at h
  split at h
  ·rename_i e;subst e;cases h;simp
  ·exact List.mem_cons_of_mem _ (j41 h)
theorem z36 {l : Nat} (h : unusedB A l = true) : A.unused l := by
 unfold unusedB at h
 simp only [Bool.and_eq_true] at h
 refine ⟨fun t x hx => ?_,fun l' L hL => ?_,of_decide_eq_true h.2⟩
 ·have := List.all_eq_true.1 h.1.1 _ (j41 hx)
  simpa using this
 ·have := List.all_eq_true.1 h.1.2 _ (j41 hL)
  simpa using this
def effOK (A : ASt) (lo : Option Nat) (E : Eff) : Prop :=
 match E.upd with
 | none => True
 | some (l,_) => if E.fresh then unusedB A l = true else lo = some l
def dstOK (nt : Nat) (o : Oper) : Bool := match o.dst with
 | some d => decide (d < nt)
 | none => true
theorem j54 (h : dstOK nt o = true) : ∀ d,o.dst = some d → d < nt := by
 intro d hd;unfold dstOK at h;rw [hd] at h;simpa using h
theorem x70 {M : List Nat} {E : Eff} (hd : dstOK nt o = true) (hw : wantedA ops o A = some true)
  (hE : opEff P M o (o.op.operands.toList.map A.eval) (A.locAt (locNeed o (o.op.operands.toList.map A.eval))) = some E) (hobl : E.obl) (hok : effOK A (locNeed o (o.op.operands.toList.map A.eval)) E) :
  OpDo P nt ops o A (locNeed o (o.op.operands.toList.map A.eval)) E := by
 refine ⟨j54 hd,.inr ⟨hw,(q143 hE hobl).toT⟩,fun hf l L hu => ?_,fun l L hu hf => ?_⟩
 ·unfold effOK at hok
  rw [hu] at hok
  simp only [hf,if_true] at hok
  exact z36 hok
 ·unfold effOK at hok
  rw [hu] at hok
  simp only [hf] at hok
  exact hok
theorem z92 (hd : dstOK nt o = true) (hw : wantedA ops o A = some false) : OpDo P nt ops o A none { val := .undef } :=
 ⟨j54 hd,.inl ⟨hw,rfl⟩,fun hf => (by cases hf),fun l L hu => (by cases hu)⟩
theorem q146 {c : Call} {f : Operand} (hd : dstOK nt o = true) (hw : wantedA ops o A = some true) (ho : o.op = .call c) (hc : c.callee = .value f) {g : FuncId} {pre post ys rs : List PV}
  (hx : calleeAV (A.eval f) = some (g,pre,post)) (hys : (c.args.toList.map A.eval).mapM pvAV = some ys) (hcall : ACalls P g (pre ++ ys ++ post) (· = rs)) : OpDo P nt ops o A none { val := resAV rs } := by
 refine ⟨j54 hd,.inr ⟨hw,j143 (x := A.eval f) (zs := c.args.toList.map A.eval) ho hc ?_ hx hys hcall none⟩,fun hf => (by cases hf),fun l L hu => (by cases hu)⟩
 simp [ho,Op.operands,Call.operands,hc]
end
end Go.Proofs.YtemcdefpihkfpaaGreat.AL
namespace Go.Proofs.YtemcdefpihkfpaaGreat.AL
open Go.RowKit
variable {P : Program}
def ptrLoc : AV → Option Nat
 | .loc l _ => some l
 | _ => none
def ResVar (P : Program) (A : ASt) : ResultVar → PV → Prop
 | .tmp t,r => pvAV (A.eval (.tmp t)) = some r
 | .cell a t,r => match effLoad P t [A.eval (.tmp a)] (A.locAt (ptrLoc (A.eval (.tmp a)))) with
  | some E => E.obl ∧ pvAV E.val = some r
  | none => False
def ResVars (P : Program) (A : ASt) : List ResultVar → List PV → Prop
 | [],[] => True
 | v :: vs,r :: rs => ResVar P A v r ∧ ResVars P A vs rs
 | _,_ => False
section
variable {w0 : Base} {g0 : Nat → Nat} {nt : Nat} {A : ASt} {h : Gh} {a : Act} {w : World}
def oneResult (tmps : Array Value) : ResultVar → Sem Value
 | .tmp t => pure (tmps.getD t undef)
 | .cell b t => do loadVar t (← asAddr (tmps.getD b undef))
theorem x92 (r : Rel w0 g0 nt A h a w) {v : ResultVar} {x : PV} (hv : ResVar P A v x) : ∃ u,(oneResult a.tmps v).run P w = .ok u w ∧ RelP w h.g u x := by
 cases v with
 | tmp t => exact ⟨_,rfl,j68 hv (r.eval (.tmp t))⟩
 |cell b t =>
  simp only [ResVar] at hv
  split at hv
  case h_2 => exact hv.elim
  rename_i E hE
  obtain ⟨hobl,hp⟩ := hv
  have hev := r.eval (.tmp b)
  obtain ⟨hs, _, _⟩ := q85 (o := { dst := none, op := .load t (.tmp b), type := 0, pos := "", after := #[], guard := none }) rfl hE hobl
  obtain ⟨u,hrun,hrel⟩ := hs w0.O w h a.eval (by simpa [Op.operands] using r.evals [.tmp b]) (fun l L he => by
   unfold ptrLoc at he
   split at he
   ·rename_i l' q heq
    simp only [ASt.locAt] at he
    cases hk : look A.locs l' with
    | none => simp [hk] at he
    | some L' => simp [hk] at he;obtain ⟨rfl,rfl⟩ := he;exact r.locs _ _ hk
   ·simp [ASt.locAt] at he)
  refine ⟨u,?_,j68 hp hrel⟩
  have hptr : ∃ ad,a.eval (.tmp b) = .pointer (some ad) := by
   unfold effLoad at hE
   split at hE
   ·rename_i ti cs hti heq
    simp only [List.cons.injEq,and_true] at heq
    rw [heq] at hev
    obtain ⟨v0,hv0⟩ : ∃ v,a.eval (.tmp b) = v := ⟨_,rfl⟩
    rw [hv0] at hev
    cases hev with | d _ _ hev => obtain ⟨b',q,rfl⟩ := q52 hev;exact ⟨_,hv0⟩
   ·rename_i ti n f hti heq
    simp only [List.cons.injEq,and_true] at heq
    rw [heq] at hev
    obtain ⟨v0,hv0⟩ : ∃ v,a.eval (.tmp b) = v := ⟨_,rfl⟩
    rw [hv0] at hev
    cases hev with | d _ _ hev => cases hev with | bf => exact ⟨_,hv0⟩
   ·rename_i ti l off hti heq
    simp only [List.cons.injEq,and_true] at heq
    rw [heq] at hev
    exact ⟨_,hev⟩
   ·cases hE
  obtain ⟨ad,had⟩ := hptr
  have he : a.tmps.getD b undef = .pointer (some ad) := had
  simp only [execOp,had,Instr.loadAt,Instr.sureAddr,Sem.run_bind,Sem.run_pure,Result.andThen_ok] at hrun
  simp only [oneResult,he,asAddr,Sem.run_bind,Sem.run_pure,Result.andThen_ok]
  cases hl : (loadVar t ad).run P w with
  | ok u' w' => rw [hl] at hrun;simp at hrun;obtain ⟨rfl,rfl⟩ := hrun;rfl
  | halt x w' => rw [hl] at hrun;simp [Result.andThen] at hrun
theorem j92 (r : Rel w0 g0 nt A h a w) : ∀ {vs : List ResultVar} {rs : List PV},ResVars P A vs rs → ∃ us,(vs.mapM (oneResult a.tmps)).run P w = .ok us w ∧ RelPs w h.g us rs
 | [],[],_ => ⟨[],rfl,RelPs.nil _ _⟩
 |v :: vs,x :: rs,hv => by
  obtain ⟨u,h1,h2⟩ := x92 r hv.1
  obtain ⟨us,h3,h4⟩ := j92 r hv.2
  exact ⟨u :: us,by simp [List.mapM_cons,h1,h3],RelPs.cons h2 h4⟩
 | [],_ :: _,hv => hv.elim
 | _ :: _,[],hv => hv.elim
theorem z146 (r : Rel w0 g0 nt A h a w) {fn : Func} {rs : List PV} (hv : ResVars P A fn.results.toList rs) : ∃ v,(results fn a.tmps).run P w = .ok v w ∧ RelR w h.g v rs := by
 obtain ⟨us,h1,h2⟩ := j92 r hv
 have e : (fn.results.mapM (oneResult a.tmps)).run P w = .ok us.toArray w := by
  rw [Array.mapM_eq_mapM_toList]
  simp [h1]
 have e' : results fn a.tmps = (do let vs ← fn.results.mapM (oneResult a.tmps);pure (if h : vs.size = 1 then vs[0] else .tuple vs)) := by
  unfold results
  congr 1
 rw [e']
 simp only [Sem.run_bind,e,Result.andThen_ok,Sem.run_pure]
 refine ⟨_,rfl,?_⟩
 match us,rs,h2 with
 | [u],[x],h2 => exact h2.2 0 u x rfl rfl
 | [],[],h2 => exact ⟨[],rfl,h2⟩
 | u :: u' :: us,x :: x' :: rs,h2 => exact ⟨_,by simp,h2⟩
 | [],_ :: _,h2 => simp [RelPs] at h2
 | _ :: _,[],h2 => simp [RelPs] at h2
 | [_],_ :: _ :: _,h2 => simp [RelPs] at h2
 | _ :: _ :: _,[_],h2 => simp [RelPs] at h2
end
def frOf : Nat → List PV → List (Nat × AV)
 | _,[] => []
 | k,x :: r => (k,.p x) :: frOf (k + 1) r
theorem q93 : ∀ (xs : List PV) (k t : Nat) (y : AV),look (frOf k xs) t = some y → ∃ x,k ≤ t ∧ xs[t - k]? = some x ∧ y = .p x
 | [],k,t,y,h => by cases h
 |x :: r,k,t,y,h => by
  simp only [frOf,look] at h
  split at h
  ·rename_i e;subst e;cases h;exact ⟨x,Nat.le_refl _,by simp,rfl⟩
  ·obtain ⟨z,h1,h2,h3⟩ := q93 r (k + 1) t y h
   refine ⟨z,by omega,?_,h3⟩
   have : t - k = (t - (k + 1)) + 1 := by omega
   rw [this];simpa using h2
def retQ (P : Program) (fn : Func) (Q : List PV → Prop) : Exit → ASt → Prop
 | .normal,A => ∃ rs,ResVars P A fn.results.toList rs ∧ Q rs
 | .ret,A => ∃ rs,ResVars P A fn.results.toList rs ∧ Q rs
 | _,_ => False
theorem q12 {f : FuncId} {fn : Func} {c : Code} {xs : List PV} {Q : List PV → Prop} (hf : P.funcs[f]? = some fn) (hb : fn.body = some c) (hname : (fn.name == "runtime.NumGoroutine") = false) (hn : xs.length ≤ fn.ntmps)
  (h : AWP P fn.ntmps c (retQ P fn Q) ⟨frOf 0 xs,[]⟩) : ACalls P f xs Q := by
 intro w g vs hz hr
 have hrun : (callFunc f vs.toArray).run P w = .ok (.enter f vs.toArray) w := by
  simp only [callFunc,program,Sem.run,Bind.bind,Sem.bind,hf,hname,hb];rfl
 rw [hrun]
 show Calls P f vs.toArray w _
 refine calls_of_wp hf hb ?_
 have hrel : Rel (Base.of w) g fn.ntmps ⟨frOf 0 xs,[]⟩ ⟨g,id,fun _ => undef,fun _ => 0⟩ { tmps := vs.toArray ++ Array.replicate (fn.ntmps - vs.toArray.size) undef,defers := [] } w := by
  refine ⟨by have := hr.1;simp;omega,rfl,fun t y hy => ?_,fun l L hL => (by cases hL),fun l l' L L' b _ hL => (by cases hL),ExtS.refl (Base.of w) hz,fun l _ => ⟨rfl,.inr ⟨rfl,rfl⟩⟩⟩
  obtain ⟨x,_,hx,rfl⟩ := q93 xs 0 t y hy
  have hlt : t < vs.length := by rw [hr.1];have := (List.getElem?_eq_some_iff.1 hx).1;simpa using this
  have hv : (vs.toArray ++ Array.replicate (fn.ntmps - vs.toArray.size) undef).getD t undef = vs[t] := by
   rw [Array.getD_eq_getD_getElem?,Array.getElem?_append_left (by simpa using hlt)]
   simp [hlt]
  show RelP _ _ _ _
  rw [hv]
  exact hr.2 t _ x (by simp [hlt]) (by simpa using hx)
 refine Go.wp_mono (h (Base.of w) g _ _ w hrel) fun e a' w' ⟨A',h',q,rr⟩ => ?_
 have fin : (∃ rs,ResVars P A' fn.results.toList rs ∧ Q rs) → a'.defers = [] ∧ ∃ v,(results fn a'.tmps).run P w' = .ok v w' ∧ ∃ u,Ending.returned v = .returned u ∧ ∃ g' rs,Ext w g w' g' ∧ Q rs ∧ RelR w' g' u rs := by
  rintro ⟨rs,hv,hq⟩
  obtain ⟨v,h1,h2⟩ := z146 rr hv
  exact ⟨rr.defers,v,h1,v,rfl,h'.g,rs,rr.ext.toExt,hq,h2⟩
 cases e with
 | normal => exact fin q
 | ret => exact fin q
 | exit id => exact q.elim
 | goto l => exact q.elim
 | panic ch => exact q.elim
 | outgrown => exact q.elim
end Go.Proofs.YtemcdefpihkfpaaGreat.AL
namespace Go.Proofs.YtemcdefpihkfpaaGreat.AL
open Go.RowKit
variable {P : Program}
section
variable {nt : Nat} {ops : Array Oper} {o : Oper} {rest : List Oper} {A : ASt}
def mapEv (A : ASt) : List Operand → List AV
 | [] => []
 | x :: r => A.eval x :: mapEv A r
theorem q42 (A : ASt) : ∀ l : List Operand,mapEv A l = l.map A.eval
 | [] => rfl
 | x :: r => by simp [mapEv,q42 A r]
def stepE (P : Program) (M : List Nat) (nt : Nat) (o : Oper) (A : ASt) (K : Option Nat → Eff → Prop) : Prop :=
 match opEff P M o (mapEv A o.op.operands.toList) (A.locAt (locNeed o (mapEv A o.op.operands.toList))) with
 | some E => dstOK nt o = true ∧ E.obl ∧ effOK A (locNeed o (mapEv A o.op.operands.toList)) E ∧ K (locNeed o (mapEv A o.op.operands.toList)) E
 | none => False
theorem z93 {M : List Nat} {K : Option Nat → Eff → Prop} (hw : wantedA ops o A = some true) (h : stepE P M nt o A K) : ∃ lo E,OpDo P nt ops o A lo E ∧ K lo E := by
 unfold stepE at h
 rw [q42] at h
 split at h
 ·rename_i E hE
  exact ⟨_,E,x70 h.1 hw hE h.2.1 h.2.2.1,h.2.2.2⟩
 ·exact h.elim
theorem x146 (M : List Nat) {K : ASt → Prop} (hw : wantedA ops o A = some true) (h : stepE P M nt o A fun _ E => walkS P nt ops rest (A.apply o.dst E) K) : walkS P nt ops (o :: rest) A K := by
 obtain ⟨lo,E,h1,h2⟩ := z93 hw h
 exact z41 h1.step h2
theorem j146 (M : List Nat) {K : ASt → List Done → Prop} {tr : List Done} (hw : wantedA ops o A = some true) (h : stepE P M nt o A fun lo E => walkD P nt ops K rest (A.apply o.dst E) (⟨o,lo,E,[]⟩ :: tr)) : walkD P nt ops K (o :: rest) A tr := by
 obtain ⟨lo,E,h1,h2⟩ := z93 hw h
 exact ⟨lo,E,[],.inl ⟨h1,rfl⟩,h2⟩
theorem q28 {K : ASt → Prop} (hw : wantedA ops o A = some false) (hd : dstOK nt o = true) (h : walkS P nt ops rest (A.put o.dst .undef) K) : walkS P nt ops (o :: rest) A K :=
 z41 (z92 hd hw).step h
theorem x93 {K : ASt → List Done → Prop} {tr : List Done} (hw : wantedA ops o A = some false) (hd : dstOK nt o = true) (h : walkD P nt ops K rest (A.put o.dst .undef) (⟨o,none,{ val := .undef },[]⟩ :: tr)) : walkD P nt ops K (o :: rest) A tr :=
 ⟨none,_,[],.inl ⟨z92 hd hw,rfl⟩,h⟩
def callAV (A : ASt) (o : Oper) : Option (FuncId × List PV) :=
 match o.op with
 | .call c => match c.callee with
  | .value f => match calleeAV (A.eval f),(mapEv A c.args.toList).mapM pvAV with
   | some (g,pre,post),some ys => some (g,pre ++ ys ++ post)
   | _,_ => none
  | _ => none
 | _ => none
theorem j93 {g : FuncId} {xs rs : List PV} (hd : dstOK nt o = true) (hw : wantedA ops o A = some true) (hx : callAV A o = some (g,xs)) (h : ACalls P g xs (· = rs)) : OpDo P nt ops o A none { val := resAV rs } := by
 unfold callAV at hx
 split at hx
 ·rename_i c hc
  split at hx
  ·rename_i f hf
   split at hx
   ·rename_i g' pre post ys h1 h2
    cases hx
    rw [q42] at h2
    exact q146 hd hw hc hf h1 h2 h
   ·cases hx
  ·cases hx
 ·cases hx
theorem q147 {K : ASt → Prop} {g : FuncId} {xs rs : List PV} (hw : wantedA ops o A = some true) (hd : dstOK nt o = true) (hx : callAV A o = some (g,xs)) (h : ACalls P g xs (· = rs))
  (hk : walkS P nt ops rest (A.put o.dst (resAV rs)) K) : walkS P nt ops (o :: rest) A K := z41 (j93 hd hw hx h).step hk
theorem z147 {K : ASt → List Done → Prop} {tr : List Done} {g : FuncId} {xs rs : List PV} (hw : wantedA ops o A = some true) (hd : dstOK nt o = true) (hx : callAV A o = some (g,xs)) (h : ACalls P g xs (· = rs))
  (hk : walkD P nt ops K rest (A.put o.dst (resAV rs)) (⟨o,none,{ val := resAV rs },[]⟩ :: tr)) : walkD P nt ops K (o :: rest) A tr := ⟨none,_,[],.inl ⟨j93 hd hw hx h,rfl⟩,hk⟩
def callK (A : ASt) (o : Oper) (K : FuncId → List PV → Prop) : Prop :=
 match callAV A o with
 | some (g,xs) => K g xs
 | none => False
theorem x147 {K : ASt → Prop} (hw : wantedA ops o A = some true) (hd : dstOK nt o = true) (h : callK A o fun g xs => ∃ rs,ACalls P g xs (· = rs) ∧ walkS P nt ops rest (A.put o.dst (resAV rs)) K) : walkS P nt ops (o :: rest) A K := by
 unfold callK at h
 split at h
 ·rename_i g xs hx
  obtain ⟨rs,h1,h2⟩ := h
  exact q147 hw hd hx h1 h2
 ·exact h.elim
theorem j147 {K : ASt → List Done → Prop} {tr : List Done} (hw : wantedA ops o A = some true) (hd : dstOK nt o = true)
  (h : callK A o fun g xs => ∃ rs,ACalls P g xs (· = rs) ∧ walkD P nt ops K rest (A.put o.dst (resAV rs)) (⟨o,none,{ val := resAV rs },[]⟩ :: tr)) : walkD P nt ops K (o :: rest) A tr := by
 unfold callK at h
 split at h
 ·rename_i g xs hx
  obtain ⟨rs,h1,h2⟩ := h
  exact z147 hw hd hx h1 h2
 ·exact h.elim
end
section
variable {nt : Nat} {ops : Array Oper} {o : Oper} {rest : List Oper} {A : ASt}
def isCall (o : Oper) : Bool := match o.op with
 | .call c => (match c.callee with
  | .value _ => true
  | _ => false)
 | _ => false
theorem x29 (M : List Nat) {K : ASt → Prop} (_hc : isCall o = false) (hw : wantedA ops o A = some true) (h : stepE P M nt o A fun _ E => walkS P nt ops rest (A.apply o.dst E) K) : walkS P nt ops (o :: rest) A K := x146 M hw h
theorem q148 (M : List Nat) {K : ASt → List Done → Prop} {tr : List Done} (_hc : isCall o = false) (hw : wantedA ops o A = some true) (h : stepE P M nt o A fun lo E => walkD P nt ops K rest (A.apply o.dst E) (⟨o,lo,E,[]⟩ :: tr)) : walkD P nt ops K (o :: rest) A tr := j146 M hw h
theorem x10 {K : ASt → Prop} (_hc : isCall o = true) (hw : wantedA ops o A = some true) (hd : dstOK nt o = true) (h : callK A o fun g xs => ∃ rs,ACalls P g xs (· = rs) ∧ walkS P nt ops rest (A.put o.dst (resAV rs)) K) : walkS P nt ops (o :: rest) A K := x147 hw hd h
theorem q13 {K : ASt → List Done → Prop} {tr : List Done} (_hc : isCall o = true) (hw : wantedA ops o A = some true) (hd : dstOK nt o = true)
  (h : callK A o fun g xs => ∃ rs,ACalls P g xs (· = rs) ∧ walkD P nt ops K rest (A.put o.dst (resAV rs)) (⟨o,none,{ val := resAV rs },[]⟩ :: tr)) : walkD P nt ops K (o :: rest) A tr := j147 hw hd h
end
def okFresh (A : ASt) (tr : List Done) : Bool := tr.all fun d => !d.E.fresh || match updOf d with
 | some l => unusedB A l
 | none => true
def okTrace (ops : List Oper) (A : ASt) (tr : List Done) : Bool :=
 okPairs tr.length (ancs ops []) (confLocs tr) && okAhead tr.length (ancs ops []) (confFresh tr) && okFresh A tr
theorem j8 {ops : List Oper} {A : ASt} {tr : List Done} (h : okTrace ops A tr = true := by kernel_rfl) : OkTrace ops A tr := by
 unfold okTrace at h
 simp only [Bool.and_eq_true] at h
 refine ⟨h.1.1,h.1.2,fun d hd hf l hl => ?_⟩
 have := List.all_eq_true.1 h.2 d hd
 rw [hf,hl] at this
 exact z36 (by simpa using this)
end Go.Proofs.YtemcdefpihkfpaaGreat.AL
namespace Go.Proofs.YtemcdefpihkfpaaGreat.AL
open Go.RowKit
variable {P : Program}
section
variable (P : Program) (M : List Nat) (nt : Nat) (ops : Array Oper)
def runS : List Oper → ASt → (ASt → List Oper → Prop) → Prop
 | [],A,K => K A []
 |o :: rest,A,K => match wantedA ops o A with
  |some true => match isCall o with
   | true => K A (o :: rest)
   |false => match opEff P M o (mapEv A o.op.operands.toList) (A.locAt (locNeed o (mapEv A o.op.operands.toList))) with
    | some E => dstOK nt o = true ∧ E.obl ∧ effOK A (locNeed o (mapEv A o.op.operands.toList)) E ∧ runS rest (A.apply o.dst E) K
    | none => False
  | some false => dstOK nt o = true ∧ runS rest (A.put o.dst .undef) K
  | none => K A (o :: rest)
def runC (o : Oper) (rest : List Oper) (A : ASt) (lo : Option Nat) (K : ASt → List Oper → Prop) : Option Eff → Prop
 | some E => dstOK nt o = true ∧ E.obl ∧ effOK A lo E ∧ runS P M nt ops rest (A.apply o.dst E) K
 | none => False
def runB (o : Oper) (rest : List Oper) (A : ASt) (K : ASt → List Oper → Prop) : List AV → Prop
 | xs => runC P M nt ops o rest A (locNeed o xs) K (opEff P M o xs (A.locAt (locNeed o xs)))
def runA (o : Oper) (rest : List Oper) (A : ASt) (K : ASt → List Oper → Prop) : Option Bool → Bool → Prop
 | some true,true => K A (o :: rest)
 | some true,false => runB P M nt ops o rest A K (mapEv A o.op.operands.toList)
 | some false,_ => dstOK nt o = true ∧ runS P M nt ops rest (A.put o.dst .undef) K
 | none,_ => K A (o :: rest)
def runD : List Oper → ASt → List Done → (ASt → List Oper → List Done → Prop) → Prop
 | [],A,tr,K => K A [] tr
 |o :: rest,A,tr,K => match wantedA ops o A with
  |some true => match isCall o with
   | true => K A (o :: rest) tr
   |false => match opEff P M o (mapEv A o.op.operands.toList) (A.locAt (locNeed o (mapEv A o.op.operands.toList))) with
    | some E => dstOK nt o = true ∧ E.obl ∧ effOK A (locNeed o (mapEv A o.op.operands.toList)) E ∧ runD rest (A.apply o.dst E) (⟨o,locNeed o (mapEv A o.op.operands.toList),E,[]⟩ :: tr) K
    | none => False
  | some false => dstOK nt o = true ∧ runD rest (A.put o.dst .undef) (⟨o,none,{ val := .undef },[]⟩ :: tr) K
  | none => K A (o :: rest) tr
def runCD (o : Oper) (rest : List Oper) (A : ASt) (tr : List Done) (lo : Option Nat) (K : ASt → List Oper → List Done → Prop) : Option Eff → Prop
 | some E => dstOK nt o = true ∧ E.obl ∧ effOK A lo E ∧ runD P M nt ops rest (A.apply o.dst E) (⟨o,lo,E,[]⟩ :: tr) K
 | none => False
def runBD (o : Oper) (rest : List Oper) (A : ASt) (tr : List Done) (K : ASt → List Oper → List Done → Prop) : List AV → Prop
 | xs => runCD P M nt ops o rest A tr (locNeed o xs) K (opEff P M o xs (A.locAt (locNeed o xs)))
def runAD (o : Oper) (rest : List Oper) (A : ASt) (tr : List Done) (K : ASt → List Oper → List Done → Prop) : Option Bool → Bool → Prop
 | some true,true => K A (o :: rest) tr
 | some true,false => runBD P M nt ops o rest A tr K (mapEv A o.op.operands.toList)
 | some false,_ => dstOK nt o = true ∧ runD P M nt ops rest (A.put o.dst .undef) (⟨o,none,{ val := .undef },[]⟩ :: tr) K
 | none,_ => K A (o :: rest) tr
end
section
variable {M : List Nat} {nt : Nat} {ops : Array Oper}
theorem z148 (A : ASt) (K : ASt → List Oper → Prop) : runS P M nt ops [] A K = K A [] := rfl
theorem x148 (o : Oper) (rest : List Oper) (A : ASt) (K : ASt → List Oper → Prop) : runS P M nt ops (o :: rest) A K = runA P M nt ops o rest A K (wantedA ops o A) (isCall o) := by
 simp only [runS,runA,runB,runC]
 cases wantedA ops o A with
 | none => rfl
 | some b => cases b <;> cases isCall o <;> first | rfl | (simp only [];split <;> rename_i h <;> simp only [h])
theorem j148 (A : ASt) (tr : List Done) (K : ASt → List Oper → List Done → Prop) : runD P M nt ops [] A tr K = K A [] tr := rfl
theorem q149 (o : Oper) (rest : List Oper) (A : ASt) (tr : List Done) (K : ASt → List Oper → List Done → Prop) : runD P M nt ops (o :: rest) A tr K = runAD P M nt ops o rest A tr K (wantedA ops o A) (isCall o) := by
 simp only [runD,runAD,runBD,runCD]
 cases wantedA ops o A with
 | none => rfl
 | some b => cases b <;> cases isCall o <;> first | rfl | (simp only [];split <;> rename_i h <;> simp only [h])
end
theorem j11 (M : List Nat) {nt : Nat} {ops : Array Oper} {K : ASt → Prop} : ∀ (l : List Oper) (A : ASt),runS P M nt ops l A (fun A' l' => walkS P nt ops l' A' K) → walkS P nt ops l A K
 | [],A,h => h
 |o :: rest,A,h => by
  unfold runS at h
  split at h
  ·rename_i hw
   split at h
   ·exact h
   ·split at h
    ·rename_i E hE
     rw [q42] at hE h
     exact z41 (x70 h.1 hw hE h.2.1 h.2.2.1).step (j11 M rest _ h.2.2.2)
    ·exact h.elim
  ·rename_i hw
   exact q28 hw h.1 (j11 M rest _ h.2)
  ·exact h
theorem x13 (M : List Nat) {nt : Nat} {ops : Array Oper} {K : ASt → List Done → Prop} : ∀ (l : List Oper) (A : ASt) (tr : List Done),runD P M nt ops l A tr (fun A' l' tr' => walkD P nt ops K l' A' tr') → walkD P nt ops K l A tr
 | [],A,tr,h => h
 |o :: rest,A,tr,h => by
  unfold runD at h
  split at h
  ·rename_i hw
   split at h
   ·exact h
   ·split at h
    ·rename_i E hE
     rw [q42] at hE h
     exact ⟨_,E,[],.inl ⟨x70 h.1 hw hE h.2.1 h.2.2.1,rfl⟩,x13 M rest _ _ h.2.2.2⟩
    ·exact h.elim
  ·rename_i hw
   exact x93 hw h.1 (x13 M rest _ _ h.2)
  ·exact h
theorem q26 {P : Program} {f : FuncId} {xs : List PV} {Q : List PV → Prop} : ACalls P f xs Q ↔ ∀ (w : World) (g : Nat → Nat) (vs : List Value),GZ w g → RelPs w g vs xs →
  CallRes P (fun v w' => ∃ g' rs,Ext w g w' g' ∧ Q rs ∧ RelR w' g' v rs) ((callFunc f vs.toArray).run P w) := Iff.rfl
theorem j70 {P : Program} {nt : Nat} {c : Code} {Q : Exit → ASt → Prop} {A : ASt} : AWP P nt c Q A ↔ ∀ (w0 : Base) (g0 : Nat → Nat) (h : Gh) (a : Act) (w : World),Rel w0 g0 nt A h a w → c.wp P (fun e a' w' => ∃ A' h',Q e A' ∧ Rel w0 g0 nt A' h' a' w') a w := Iff.rfl
theorem q55 {P : Program} {nt : Nat} {ops : Array Oper} {o : Oper} {rest : List Oper} {A : ASt} {K : ASt → Prop} (A' : ASt) (h : StepS P nt ops o A A') (k : walkS P nt ops rest A' K) : walkS P nt ops (o :: rest) A K := z41 h k
theorem z18 {P : Program} {nt : Nat} {ops : Array Oper} {o : Oper} {rest : List Oper} {A : ASt} {K : ASt → Prop} {ι : Type} {T : ι → ASt} (h : StepX P nt ops o A (fun A' => ∃ i,A' = T i)) (k : ∀ i,walkS P nt ops rest (T i) K) : walkS P nt ops (o :: rest) A K := ⟨_,h,fun A' ⟨i,e⟩ => by subst e;exact k i⟩
theorem q94 {P : Program} {nt : Nat} {ops : Array Oper} {o : Oper} {rest : List Oper} {A A' : ASt} {K : ASt → Prop} (hw : Weak A A') (h : walkS P nt ops (o :: rest) A' K) : walkS P nt ops (o :: rest) A K := by
 obtain ⟨S,hd,hk⟩ := h
 exact ⟨S,fun w0 g0 h a w r => let ⟨h',r'⟩ := hw w0 g0 nt h a w r;hd w0 g0 h' a w r',hk⟩
theorem j4 {P : Program} {nt : Nat} {ops : Array Oper} {A : ASt} {K : ASt → Prop} (h : K A) : walkS P nt ops [] A K := h
theorem q9 {P : Program} {nt : Nat} {ops : Array Oper} {A : ASt} {tr : List Done} {K : ASt → List Done → Prop} (h : K A tr.reverse) : walkD P nt ops K [] A tr := h
attribute [irreducible] ACalls AWP walkS walkD
end Go.Proofs.YtemcdefpihkfpaaGreat.AL
namespace Go.Proofs.YtemcdefpihkfpaaGreat.AL
open Go.RowKit
def Le (x y : AV) : Prop := ∀ (w : World) (h : Gh) (v : Value),RelA w h v x → RelA w h v y
theorem Le.refl (x : AV) : Le x x := fun _ _ _ r => r
theorem Le.trans {x y z : AV} (h : Le x y) (k : Le y z) : Le x z := fun w h' v r => k w h' v (h w h' v r)
theorem q11 (x : AV) : Le x x = True := eq_true (Le.refl x)
theorem z11 (x : AV) : Le x .top = True := eq_true fun _ _ _ _ => trivial
theorem q22 {l gen sz n n' : Nat} {f f' : Nat → List Dat} (hn : n = n') (hf : ∀ i,i < n → f i = f' i) : Le (.gr l gen sz n f) (.p (.d (.sl sz n' f'))) := by
 subst hn
 intro w h v r
 exact .d _ _ (r.1.sl_congr hf)
theorem z27 (sz n : Nat) (f : Nat → List Dat) (hn : n = 0) : Le (.p (.d (.v (.slice none 0 0)))) (.p (.d (.sl sz n f))) := by
 subst hn
 intro w h v r
 cases r with
 | d _ _ r => exact .d _ _ (r.nil sz f)
theorem le_sl {sz n n' : Nat} {f f' : Nat → List Dat} (hn : n = n') (hf : ∀ i,i < n → f i = f' i) : Le (.p (.d (.sl sz n f))) (.p (.d (.sl sz n' f'))) := by
 subst hn
 intro w h v r
 cases r with
 | d _ _ r => exact .d _ _ (r.sl_congr hf)
theorem z26 {l gen gen' sz n n' : Nat} {f f' : Nat → List Dat} (hg : gen = gen') (hn : n = n') (hf : ∀ i,i < n → f i = f' i) : Le (.gr l gen sz n f) (.gr l gen' sz n' f') := by
 subst hg;subst hn
 intro w h v r
 exact ⟨r.1.sl_congr hf,r.2⟩
theorem q8 {x y : AV} (h : x = y) : Le x y := h ▸ Le.refl x
def AllF (A : ASt) : List (Nat × AV) → Prop
 | [] => True
 | p :: r => (∃ x,look A.fr p.1 = some x ∧ Le x p.2) ∧ AllF A r
def LLe : LV → LV → Prop
 | .cells e cs,.cells e' cs' => e = e' ∧ cs.length = cs'.length ∧ ∀ (i : Nat) x y,cs[i]? = some x → cs'[i]? = some y → Le x y
 | .arr e n f,.arr e' n' f' => e = e' ∧ n = n' ∧ ∀ i,i < n → f i = f' i
 | .grow e sz n gen,.grow e' sz' n' gen' => e = e' ∧ sz = sz' ∧ n = n' ∧ gen = gen'
 | .own e sz n gen f,.own e' sz' n' gen' f' => e = e' ∧ sz = sz' ∧ n = n' ∧ gen = gen' ∧ ∀ i,i < n → f i = f' i
 | .fz e cs,.fz e' cs' => e = e' ∧ cs.length = cs'.length ∧ ∀ (i : Nat) x y,cs[i]? = some x → cs'[i]? = some y → Le x y
 | .map ks es,.map ks' es' => ks = ks' ∧ es = es'
 | .raw M,.raw M' => M = M'
 | .blk e sz n f,.blk e' sz' n' f' => e = e' ∧ sz = sz' ∧ n = n' ∧ f = f'
 | .obj o,.obj o' => o = o'
 | _,_ => False
def AllL (A : ASt) : List (Nat × LV) → Prop
 | [] => True
 | p :: r => (∃ x,look A.locs p.1 = some x ∧ LLe x p.2) ∧ AllL A r
theorem z94 {A : ASt} : ∀ {l : List (Nat × AV)} {t : Nat} {y : AV},AllF A l → (t,y) ∈ l → ∃ x,look A.fr t = some x ∧ Le x y
 |p :: r,t,y,h,hm => by
  cases hm with
  | head => exact h.1
  | tail _ hm => exact z94 h.2 hm
theorem x94 {A : ASt} : ∀ {l : List (Nat × LV)} {t : Nat} {y : LV},AllL A l → (t,y) ∈ l → ∃ x,look A.locs t = some x ∧ LLe x y
 |p :: r,t,y,h,hm => by
  cases hm with
  | head => exact h.1
  | tail _ hm => exact x94 h.2 hm
theorem x32 {B : Nat → Prop} {w : World} {h : Gh} {l : Nat} {L L' : LV} (hl : LLe L L') (k : LocOK B w h l L) : LocOK B w h l L' ∧ inB h l L' = inB h l L := by
 cases L with
 |cells e cs =>
  cases L' with
  |cells e' cs' =>
   obtain ⟨h1,h2,h3⟩ := hl
   subst h1
   obtain ⟨arr,a1,a2,a3,a4,a5⟩ := k
   refine ⟨⟨arr,a1,a2,by omega,a4,fun i v x hv hx => ?_⟩,rfl⟩
   have hi : i < cs.length := by have := (List.getElem?_eq_some_iff.1 hx).1;omega
   exact ⟨h3 i cs[i] x (List.getElem?_eq_getElem hi) hx w h v (a5 i v cs[i] hv (List.getElem?_eq_getElem hi)).1,(a5 i v cs[i] hv (List.getElem?_eq_getElem hi)).2⟩
  | _ => exact hl.elim
 |arr e n f =>
  cases L' with
  |arr e' n' f' =>
   obtain ⟨h1,h2,h3⟩ := hl
   subst h1;subst h2
   obtain ⟨arr,fz,a1,a2,az,a3,a4,a5⟩ := k
   refine ⟨⟨arr,fz,a1,a2,az,a3,a4,fun i v hi hv => ?_⟩,rfl⟩
   rw [← h3 i hi];exact a5 i v hi hv
  | _ => exact hl.elim
 |grow e sz n gen =>
  cases L' with
  |grow e' sz' n' gen' =>
   obtain ⟨h1,h2,h3,h4⟩ := hl
   subst h1;subst h2;subst h3;subst h4
   exact ⟨k,rfl⟩
  | _ => exact hl.elim
 |own e sz n gen f =>
  cases L' with
  |own e' sz' n' gen' f' =>
   obtain ⟨h1,h2,h3,h4,h5⟩ := hl
   subst h1;subst h2;subst h3;subst h4
   obtain ⟨k1,⟨xs,k2,k3⟩,k4⟩ := k
   exact ⟨⟨k1,⟨xs,k2,fun i hi => by rw [← h5 i hi];exact k3.1 i hi,fun i j d hi hj hd => k3.2 i j d hi hj (by rw [h5 i hi];exact hd)⟩,k4⟩,rfl⟩
  | _ => exact hl.elim
 |fz e cs =>
  cases L' with
  |fz e' cs' =>
   obtain ⟨h1,h2,h3⟩ := hl
   subst h1
   obtain ⟨arr,a1,a2,a3,a4,a5⟩ := k
   refine ⟨⟨arr,a1,a2,by omega,a4,fun i v x hv hx => ?_⟩,rfl⟩
   have hi : i < cs.length := by have := (List.getElem?_eq_some_iff.1 hx).1;omega
   exact ⟨h3 i cs[i] x (List.getElem?_eq_getElem hi) hx w h v (a5 i v cs[i] hv (List.getElem?_eq_getElem hi)).1,(a5 i v cs[i] hv (List.getElem?_eq_getElem hi)).2⟩
  | _ => exact hl.elim
 |map ks es =>
  cases L' with
  | map ks' es' => obtain ⟨h1,h2⟩ := hl;subst h1;subst h2;exact ⟨k,rfl⟩
  | _ => exact hl.elim
 |raw M =>
  cases L' with
  | raw M' => cases hl;exact ⟨k,rfl⟩
  | _ => exact hl.elim
 |blk e sz n f =>
  cases L' with
  | blk e' sz' n' f' => obtain ⟨h1,h2,h3,h4⟩ := hl;subst h1;subst h2;subst h3;subst h4;exact ⟨k,rfl⟩
  | _ => exact hl.elim
 |obj o =>
  cases L' with
  | obj o' => cases hl;exact ⟨k,rfl⟩
  | _ => exact hl.elim
theorem Weak.list {A B : ASt} (hf : AllF A B.fr) (hl : AllL A B.locs) : Weak A B := by
 intro w0 g0 nt h a w r
 have key : ∀ l L,look B.locs l = some L → ∃ L0,look A.locs l = some L0 ∧ LocOK w0.O w h l L ∧ inB h l L = inB h l L0 := by
  intro l L hL
  obtain ⟨L0,h1,h2⟩ := x94 hl (j41 hL)
  exact ⟨L0,h1,x32 h2 (r.locs l L0 h1)⟩
 refine ⟨h,r.size,r.defers,fun t y hy => ?_,fun l L hL => ?_,fun l l' L L' b hne hL hL' hb => ?_,r.ext,r.pin⟩
 ·obtain ⟨x,h1,h2⟩ := z94 hf (j41 hy)
  exact h2 _ _ _ (r.fr t x h1)
 ·exact (key l L hL).choose_spec.2.1
 ·obtain ⟨L0,a1,a2,a3⟩ := key l L hL
  obtain ⟨L0',b1,b2,b3⟩ := key l' L' hL'
  rw [b3]
  exact r.sep l l' L0 L0' b hne a1 b1 (by rw [← a3];exact hb)
theorem j10 (L : LV) : LLe L L = True := by
 refine eq_true ?_
 cases L with
 | cells e cs => exact ⟨rfl,rfl,fun i x y h1 h2 => by rw [h1] at h2;cases h2;exact Le.refl _⟩
 | arr e n f => exact ⟨rfl,rfl,fun _ _ => rfl⟩
 | grow e sz n gen => exact ⟨rfl,rfl,rfl,rfl⟩
 | own e sz n gen f => exact ⟨rfl,rfl,rfl,rfl,fun _ _ => rfl⟩
 | fz e cs => exact ⟨rfl,rfl,fun i x y h1 h2 => by rw [h1] at h2;cases h2;exact Le.refl _⟩
 | map ks es => exact ⟨rfl,rfl⟩
 | raw M => exact rfl
 | blk e sz n f => exact ⟨rfl,rfl,rfl,rfl⟩
 | obj o => exact rfl
theorem q71 {w : World} {h : Gh} {v u : Value} (r : RelA w h v (.p (.d (.v u)))) : v = u := by
 cases r with
 | d _ _ r => cases r;rfl
theorem Weak.nilNew (A : ASt) (t l : Nat) (x : AV) (X : LV) (ht : look A.fr t = some (.p (.d (.v (.slice none 0 0))))) (hu : unusedB A l = true) (hn : look A.locs l = none)
  (hx : ∀ (w : World) (h : Gh),h.κ l = .slice none 0 0 → h.μ l = 0 → RelA w h (.slice none 0 0) x) (hX : ∀ (O : Nat → Prop) (w : World) (h : Gh),h.κ l = .slice none 0 0 → h.μ l = 0 → LocOK O w h l X)
  (hb : ∀ h : Gh,h.κ l = .slice none 0 0 → ∀ b,¬ inB h l X b) :
  Weak A ⟨(t,x) :: A.fr,(l,X) :: A.locs⟩ := by
 intro w0 g0 nt h a w r
 let h' : Gh := { h with κ := fun k => if k = l then .slice none 0 0 else h.κ k,μ := fun k => if k = l then 0 else h.μ k }
 have un := z36 hu
 have tr : Trans w0.O w h w h' (fun _ => False) (some l) true := by
  refine ⟨BelowS.refl _ _,fun b _ _ => ⟨rfl,rfl⟩,⟨fun b => Nat.le_refl _,fun b o _ => rfl⟩,r.gz,fun b _ => rfl,fun _ _ => rfl,fun k hk => ?_,fun k _ hf => by cases hf⟩
  have : k ≠ l := fun e => hk (by rw [e])
  simp [h',this]
 have nl : h'.κ l = .slice none 0 0 := by simp [h']
 have nm : h'.μ l = 0 := by simp [h']
 refine ⟨h',r.size,r.defers,fun u y hy => ?_,fun k L hL => ?_,fun k k' L L' b hne hL hL' hbk => ?_,r.ext,fun k hk => ?_⟩
 ·simp only [look] at hy
  split at hy
  ·rename_i e;subst e;cases hy
   have he := q71 (r.fr t _ ht)
   rw [he]
   exact hx w h' nl nm
  ·exact RelA.trans tr (fun _ l' hl' hm => by cases hl';exact un.1 u y hy hm) (r.fr u y hy)
 ·simp only [look] at hL
  split at hL
  ·rename_i e;subst e;cases hL;exact hX _ w h' nl nm
  ·rename_i hne
   exact (LocOK.trans tr (fun e => hne (by cases e;rfl)) (fun _ l' hl' hm => by cases hl';exact un.2.1 k L hL hm) (fun b _ => by simp) (r.locs k L hL)).1
 ·have other : ∀ k L,k ≠ l → look A.locs k = some L → inB h' k L = inB h k L := fun k L hne hL =>
   (LocOK.trans tr (fun e => hne (by cases e;rfl)) (fun _ l' hl' hm => by cases hl';exact un.2.1 k L hL hm) (fun b _ => by simp) (r.locs k L hL)).2
  have none_l : ∀ L,look ((l,X) :: A.locs) l = some L → ∀ b,¬ inB h' l L b := by
   intro L hL
   simp only [look,if_true] at hL
   cases hL
   exact hb h' nl
  by_cases hk : k = l
  ·subst hk;exact absurd hbk (none_l L hL b)
  ·by_cases hk' : k' = l
   ·subst hk';exact none_l L' hL' b
   ·have e1 : look A.locs k = some L := by simpa [look,Ne.symm hk] using hL
    have e2 : look A.locs k' = some L' := by simpa [look,Ne.symm hk'] using hL'
    rw [other k L hk e1] at hbk
    rw [other k' L' hk' e2]
    exact r.sep k k' L L' b hne e1 e2 hbk
 ·have : k ≠ l := by have := un.2.2;omega
  simp only [h',if_neg this]
  exact r.pin k hk
theorem Weak.grow (A : ASt) (t l sz : Nat) (e : TypeId) (f : Nat → List Dat) (ht : look A.fr t = some (.p (.d (.v (.slice none 0 0))))) (hu : unusedB A l = true) (hn : look A.locs l = none) :
  Weak A ⟨(t,.gr l 0 sz 0 f) :: A.fr,(l,.grow e sz 0 0) :: A.locs⟩ :=
 Weak.nilNew A t l _ _ ht hu hn (fun w h k m => ⟨.sl0 _ _ _ _,by omega,fun _ => k.symm⟩)
  (fun O w h k m => ⟨m,⟨[],by rw [k];exact World.ownsRow_nil _ _ _ _⟩,fun b c hb => by rw [k] at hb;simp at hb,fun b hb => by rw [k] at hb;simp [Value.ownBlock] at hb⟩)
  (fun h k => by simp [inB,k,Value.ownBlock])
theorem Weak.own (A : ASt) (t l sz : Nat) (e : TypeId) (f : Nat → List Dat) (ht : look A.fr t = some (.p (.d (.v (.slice none 0 0))))) (hu : unusedB A l = true) (hn : look A.locs l = none) :
  Weak A ⟨(t,.ow l 0 sz 0) :: A.fr,(l,.own e sz 0 0 f) :: A.locs⟩ :=
 Weak.nilNew A t l _ _ ht hu hn (fun w h k m => ⟨by omega,⟨_,_,rfl,fun hh => by omega⟩,fun _ => k.symm⟩)
  (fun O w h k m => ⟨m,⟨[],by rw [k];exact World.ownsRow_nil _ _ _ _,fun i hi => by omega,fun i j d hi => by omega⟩,fun b hb => by rw [k] at hb;simp [Value.ownBlock] at hb⟩)
  (fun h k => by simp [inB,k,Value.ownBlock])
theorem j94 {P : Program} {nt : Nat} {c : Code} {Q : Exit → ASt → Prop} {A : ASt} (t l sz : Nat) (e : TypeId) (f : Nat → List Dat) (ht : look A.fr t = some (.p (.d (.v (.slice none 0 0))))) (hu : unusedB A l = true) (hn : look A.locs l = none)
  (h : AWP P nt c Q ⟨(t,.ow l 0 sz 0) :: A.fr,(l,.own e sz 0 0 f) :: A.locs⟩) : AWP P nt c Q A := q18 (Weak.own A t l sz e f ht hu hn) h
def dropL (l : Nat) (L : List (Nat × LV)) : List (Nat × LV) := L.filter fun p => p.1 != l
theorem z22 (l : Nat) (L : List (Nat × LV)) (k : Nat) : look (dropL l L) k = if k = l then none else look L k := by
 unfold dropL
 induction L with
 | nil => simp [look]
 |cons p L ih =>
  obtain ⟨t,x⟩ := p
  simp only [List.filter_cons]
  by_cases ht : t = l
  ·subst ht
   simp only [bne_self_eq_false,Bool.false_eq_true,if_false,look]
   rw [ih]
   by_cases hk : k = t
   ·subst hk;simp
   ·rw [if_neg hk,if_neg hk,if_neg (Ne.symm hk)]
  ·have : (t != l) = true := by simpa using ht
   simp only [this,if_true,look]
   by_cases hk : t = k
   ·subst hk;rw [if_pos rfl,if_neg ht,if_pos rfl]
   ·rw [if_neg hk,if_neg hk];exact ih
theorem Weak.freeze (A : ASt) (t l gen sz n : Nat) (e : TypeId) (f : Nat → List Dat) (ht : look A.fr t = some (.ow l gen sz n)) (hl : look A.locs l = some (.own e sz n gen f)) :
  Weak A ⟨(t,.p (.d (.sl sz n f))) :: A.fr,dropL l A.locs⟩ := by
 intro w0 g0 nt h a w r
 have hL := r.locs l _ hl
 obtain ⟨q1,⟨va,vc,q2,q2'⟩,q3⟩ := r.fr t _ ht
 have hv := q3 hL.1
 have hne : ∀ k L,look (dropL l A.locs) k = some L → k ≠ l ∧ look A.locs k = some L := by
  intro k L hk
  rw [z22] at hk
  split at hk
  ·cases hk
  ·exact ⟨‹_›,hk⟩
 by_cases hn : (h.κ l).ownBlock = none
 ·have n0 : n = 0 := by
   obtain ⟨_,⟨xs,⟨_,⟨_,h0⟩ | ⟨gb,cap,cur,h0,_⟩⟩,_⟩,_⟩ := hL
   ·exact h0
   ·rw [h0] at hn;simp [Value.ownBlock] at hn
  subst n0
  refine ⟨h,r.size,r.defers,fun u y hy => ?_,fun k L hk => r.locs k L (hne k L hk).2,fun k k' L L' b h1 h2 h3 => r.sep k k' L L' b h1 (hne k L h2).2 (hne k' L' h3).2,r.ext,r.pin⟩
  simp only [look] at hy
  split at hy
  ·rename_i e;subst e;cases hy
   rw [q2];exact .d _ _ (.sl0 _ _ _ _)
  ·exact r.fr u y hy
 ·obtain ⟨b,hb⟩ := Option.ne_none_iff_exists'.1 hn
  obtain ⟨cap,cur,c1,c2,c3,c4,c5,c6,c7,c8⟩ := q53 hL hb
  have hbl : b < w.heap.size := (Array.getElem?_eq_some_iff.1 c2).1
  let h' : Gh := { h with g := setG h.g b (n * sz) }
  have hkeep : Keep w h.g w h'.g := by
   refine ⟨fun k => ?_,fun k q hq => rfl⟩
   simp only [h',setG];split
   ·rename_i e;rw [e,c6];exact Nat.zero_le _
   ·exact Nat.le_refl _
  have gz' : GZ w h'.g := fun k hk => by
   have : k ≠ b := by omega
   simp only [h',setG,if_neg this];exact r.gz k hk
  have tr : Trans w0.O w h w h' (fun k => b = k) none false := by
   refine ⟨BelowS.refl _ _,fun k _ hk => ⟨rfl,?_⟩,hkeep,gz',fun k hk => ?_,fun _ _ => rfl,fun k _ => ⟨rfl,rfl⟩,fun k hk => by cases hk⟩
   ·have : k ≠ b := fun e => hk e.symm
    simp [h',setG,this]
   ·have : k ≠ b := fun e => hk (e ▸ c7)
    simp [h',setG,this]
  have ho : ∀ k L,look (dropL l A.locs) k = some L → LocOK w0.O w h' k L ∧ inB h' k L = inB h k L := by
   intro k L hk
   obtain ⟨k1,k2⟩ := hne k L hk
   refine LocOK.trans tr (by simp) (fun hf => by cases hf) (fun b' hb' e => ?_) (r.locs k L k2)
   cases e
   exact r.sep k l L _ b k1 k2 hl hb' (by simp [inB,hb])
  refine ⟨h',r.size,r.defers,fun u y hy => ?_,fun k L hk => (ho k L hk).1,fun k k' L L' b' h1 h2 h3 h4 => ?_,⟨r.ext.below,fun k hk => (tr.gB k hk).trans (r.ext.gam k hk),gz',r.ext.keep.trans hkeep⟩,r.pin⟩
  ·simp only [look] at hy
   split at hy
   ·rename_i e;subst e;cases hy
    rw [hv,c1]
    refine .d _ _ (.sl b 0 n cap sz f (fun i j => (cur[i * sz + j]?).getD undef) c3 c8.1 (fun i j hi hj => ?_) (by simp [h',setG]) (fun i j d hi hd => ?_))
    ·obtain ⟨u,d,k1,k2,k3⟩ := c8.at hi hj
     rw [Nat.zero_add,x19 c2,k2];rfl
    ·have hj : j < sz := by have := (List.getElem?_eq_some_iff.1 hd).1;rw [c8.1 i hi] at this;exact this
     obtain ⟨u,k2,k3⟩ := c8.cell hi hj hd
     rw [k2];exact k3.keep hkeep
   ·exact RelA.trans tr (fun hf => by cases hf) (r.fr u y hy)
  ·rw [(ho k L h2).2] at h4
   rw [(ho k' L' h3).2]
   exact r.sep k k' L L' b' h1 (hne k L h2).2 (hne k' L' h3).2 h4
theorem q95 {P : Program} {nt : Nat} {c : Code} {Q : Exit → ASt → Prop} {A : ASt} (t l gen sz n : Nat) (e : TypeId) (f : Nat → List Dat) (ht : look A.fr t = some (.ow l gen sz n)) (hl : look A.locs l = some (.own e sz n gen f))
  (h : AWP P nt c Q ⟨(t,.p (.d (.sl sz n f))) :: A.fr,dropL l A.locs⟩) : AWP P nt c Q A := q18 (Weak.freeze A t l gen sz n e f ht hl) h
theorem z20 {e : TypeId} {sz n n' g g' : Nat} {f f' : Nat → List Dat} (h : n = n') (h2 : g = g') (hf : ∀ i,i < n → f i = f' i) : LLe (.own e sz n g f) (.own e sz n' g' f') := ⟨rfl,rfl,h,h2,hf⟩
theorem j32 {P : Program} {nt : Nat} {c : Code} {Q : Exit → ASt → Prop} {A : ASt} (t l sz : Nat) (e : TypeId) (f : Nat → List Dat) (ht : look A.fr t = some (.p (.d (.v (.slice none 0 0))))) (hu : unusedB A l = true) (hn : look A.locs l = none)
  (h : AWP P nt c Q ⟨(t,.gr l 0 sz 0 f) :: A.fr,(l,.grow e sz 0 0) :: A.locs⟩) : AWP P nt c Q A := q18 (Weak.grow A t l sz e f ht hu hn) h
theorem q17 {P : Program} {nt : Nat} {c : Code} {Q : Exit → ASt → Prop} {A : ASt} (t : Nat) (x y : AV) (ht : look A.fr t = some x) (hle : Le x y)
  (h : AWP P nt c Q ⟨(t,y) :: A.fr,A.locs⟩) : AWP P nt c Q A := by
 refine q18 ?_ h
 intro w0 g0 nt h a w r
 refine ⟨h,r.size,r.defers,fun u z hz => ?_,r.locs,r.sep,r.ext,r.pin⟩
 simp only [look] at hz
 split at hz
 ·rename_i e;subst e;cases hz;exact hle _ _ _ (r.fr t x ht)
 ·exact r.fr u z hz
theorem z7 {P : Program} {nt : Nat} {Q : Exit → ASt → Prop} {A : ASt} {c : Operand} {x y : Code} (hc : A.eval c = .p (.d (.v (.bool true)))) (h : AWP P nt x Q A) : AWP P nt (.cond c x y) Q A :=
 j15 hc (fun _ => h) (fun e => Bool.noConfusion e)
theorem x7 {P : Program} {nt : Nat} {Q : Exit → ASt → Prop} {A : ASt} {c : Operand} {x y : Code} (hc : A.eval c = .p (.d (.v (.bool false)))) (h : AWP P nt y Q A) : AWP P nt (.cond c x y) Q A :=
 j15 hc (fun e => Bool.noConfusion e) (fun _ => h)
theorem j7 (M : List Nat) {P : Program} {nt : Nat} {ops : Array Oper} {K : ASt → Prop} {o : Oper} {l : List Oper} {A : ASt} (_hc : isCall o = false) (h : runS P M nt ops (o :: l) A (fun A' l' => walkS P nt ops l' A' K)) : walkS P nt ops (o :: l) A K := j11 M _ _ h
theorem q10 (M : List Nat) {P : Program} {nt : Nat} {ops : Array Oper} {K : ASt → List Done → Prop} {o : Oper} {l : List Oper} {A : ASt} {tr : List Done} (_hc : isCall o = false) (h : runD P M nt ops (o :: l) A tr (fun A' l' tr' => walkD P nt ops K l' A' tr')) : walkD P nt ops K (o :: l) A tr := x13 M _ _ _ h
theorem x11 {k : IntKind} {a b : Int} (h : a = b) : Le (.p (.d (.v (.int k a)))) (.p (.d (.v (.int k b)))) := q8 (by rw [h])
theorem x36 {e : TypeId} {n : Nat} {f f' : Nat → Dat} (h : ∀ i,i < n → f i = f' i) : LLe (.arr e n f) (.arr e n f') := ⟨rfl,rfl,h⟩
theorem q33 {e : TypeId} {sz n n' g g' : Nat} (h : n = n') (h2 : g = g') : LLe (.grow e sz n g) (.grow e sz n' g') := ⟨rfl,rfl,h,h2⟩
end Go.Proofs.YtemcdefpihkfpaaGreat.AL
namespace Go.Proofs.YtemcdefpihkfpaaGreat.AL
open Go.ChangeShapes Go.WideShapes Go.ChangeAt Go.RowKit
inductive Sh where
 | int (k : IntKind)
 | bool
 | string
 | slice (s : Sh)
 | unit
 | pair (a b : Sh)
def Sh.size : Sh → Nat
 | .unit => 0
 | .pair a b => a.size + b.size
 | _ => 1
def zeroSh : Sh → List Dat
 | .int k => [.v (.int k 0)]
 | .bool => [.v (.bool false)]
 | .string => [.v (.string ⟨#[]⟩)]
 | .slice s => [.sl s.size 0 fun _ => zeroSh s]
 | .unit => []
 | .pair a b => zeroSh a ++ zeroSh b
def Is (N : Nat) : Sh → List Dat → Prop
 | .int k,ds => ∃ n,ds = [.v (.int k n)] ∧ (Lit.int k n).wf = true
 | .bool,ds => ∃ b,ds = [.v (.bool b)]
 | .string,ds => ∃ s : ByteArray,ds = [.v (.string s)] ∧ s.size ≤ N
 | .slice s,ds => ∃ n f,ds = [.sl s.size n f] ∧ n ≤ N ∧ (∀ i,i < n → Is N s (f i)) ∧ ∀ i,n ≤ i → f i = zeroSh s
 | .unit,ds => ds = []
 | .pair a b,ds => ∃ x y,ds = x ++ y ∧ Is N a x ∧ Is N b y
theorem Is.len {N : Nat} : ∀ {s : Sh} {ds : List Dat},Is N s ds → ds.length = s.size
 | .int k,ds,⟨n,h,_⟩ => by subst h;rfl
 | .bool,ds,⟨n,h⟩ => by subst h;rfl
 | .string,ds,⟨n,h,_⟩ => by subst h;rfl
 | .slice s,ds,⟨n,f,h,_⟩ => by subst h;rfl
 | .unit,ds,h => by simp only [Is] at h;subst h;rfl
 | .pair a b,ds,⟨x,y,h,hx,hy⟩ => by subst h;simp only [List.length_append,hx.len,hy.len,Sh.size]
def repSh (s : Sh) : Nat → Sh
 | 0 => .unit
 | n + 1 => .pair s (repSh s n)
def shFs (P : Program) (g : TypeId → Option Sh) : Nat → List Field → Option (Sh × Nat)
 | off,[] => some (.unit,off)
 |off,f :: r => match g f.type with
  |some s => match decide (f.offset = off ∧ s.size = P.cellsOf f.type),shFs P g (off + s.size) r with
   | true,some (z,e) => some (.pair s z,e)
   | _,_ => none
  | none => none
def shOf (P : Program) : Nat → TypeId → Option Sh
 | 0,_ => none
 |m + 1,t => match P.underlying t with
  | some .bool => some .bool
  | some (.int k) => some (.int k)
  | some .string => some .string
  |some (.slice e) => match shOf P m e with
   |some s => match decide (s.size = P.cellsOf e ∧ 0 < s.size) with
    | true => some (.slice s)
    | false => none
   | none => none
  |some (.struct fs) => match shFs P (shOf P m) 0 fs.toList with
   |some (s,e) => match decide (e = P.cellsOf t) with
    | true => some s
    | false => none
   | none => none
  |some (.array n e) => match shOf P m e with
   |some s => match decide (s.size = P.cellsOf e ∧ n * s.size = P.cellsOf t) with
    | true => some (repSh s n)
    | false => none
   | none => none
  | _ => none
def gall (w : World) : Nat → Nat := fun b => match w.heap[b]? with
 | some (.cells c _ _) => c.size
 | _ => 0
theorem gall_gz (w : World) : GZ w (gall w) := fun b hb => by
 unfold gall
 rw [Array.getElem?_eq_none hb]
theorem z95 {w : World} {a : Addr} {v : Value} (h : w.cell? a = some v) : a.spot = none ∧ a.off < gall w a.block := by
 unfold World.cell? at h
 unfold gall
 split at h
 ·rename_i c e f hb
  rw [hb]
  split at h
  ·cases h
  ·rename_i hs
   refine ⟨by simpa using hs,?_⟩
   exact (Array.getElem?_eq_some_iff.1 h).1
 ·cases h
theorem x95 {w : World} {g : Nat → Nat} {vs us : List Value} {xs ys : List Dat} (h : RelC w g vs xs) (k : RelC w g us ys) : RelC w g (vs ++ us) (xs ++ ys) := by
 refine ⟨by simp [h.1,k.1],fun j u d hu hd => ?_⟩
 by_cases hj : j < vs.length
 ·rw [List.getElem?_append_left hj] at hu
  rw [List.getElem?_append_left (h.1 ▸ hj)] at hd
  exact h.2 j u d hu hd
 ·rw [List.getElem?_append_right (by omega)] at hu
  rw [List.getElem?_append_right (by have := h.1;omega),← h.1] at hd
  exact k.2 _ u d hu hd
theorem j36 {w : World} {g : Nat → Nat} {v : Value} {x : Dat} (h : RelD w g v x) : RelC w g [v] [x] :=
 ⟨rfl,fun j u d hu hd => by
  cases j with
  | zero => simp at hu hd;subst hu;subst hd;exact h
  | succ j => simp at hu⟩
section
variable {H : Type} {enc : TypeId × Value → H} {P : Program} {w : World} {base : Nat} {spare : Nat → Bool} {held : Bool} {N : Nat}
structure Bounded (N : Nat) (S : DataW H → Prop) : Prop where
 agg : ∀ l,S (.agg l) → ∀ x ∈ l,S x
 slice : ∀ l r,S (.slice l r) → l.length ≤ maxLen → l.length ≤ N ∧ ∀ x ∈ l,S x
 str : ∀ l : List UInt8,S (.lit (.string l)) → l.length ≤ maxLen → l.length ≤ N
theorem z149 {α β : Type} {f : α → Option β} : ∀ {l : List α} {ys : List β},l.mapM f = some ys → ys.length = l.length ∧ ∀ (i : Nat) a,l[i]? = some a → ∃ y,ys[i]? = some y ∧ f a = some y := by
 intro l
 induction l with
 | nil => intro ys h;simp at h;subst h;exact ⟨rfl,fun i a h => by simp at h⟩
 |cons a l ih =>
  intro ys h
  simp only [List.mapM_cons,Option.bind_eq_bind,Option.bind_eq_some_iff,Option.pure_def,Option.some.injEq] at h
  obtain ⟨y,hy,zs,hz,rfl⟩ := h
  obtain ⟨i1,i2⟩ := ih hz
  refine ⟨by simp [i1],fun i b hb => ?_⟩
  cases i with
  | zero => simp at hb;subst hb;exact ⟨y,rfl,hy⟩
  | succ i => simpa using i2 i b (by simpa using hb)
theorem z71 {w : World} {base : Nat} {a : Addr} {n : Nat} {cs : List Value} (h : w.cells? base a n = some cs) : cs.length = n ∧ ∀ j,j < n → ∃ v,cs[j]? = some v ∧ w.cell? (a.add j) = some v := by
 unfold World.cells? at h
 split at h
 ·obtain ⟨h1,h2⟩ := z149 h
  refine ⟨by simpa using h1,fun j hj => ?_⟩
  obtain ⟨v,k1,k2⟩ := h2 j j (List.getElem?_range hj)
  exact ⟨v,k1,k2⟩
 ·cases h
theorem j95 {S : DataW H → Prop} {m fuel : Nat} {cs : List Value} (ih : ∀ t s,shOf P m t = some s → ∀ cs d ps,DataW.trod enc P w base spare held fuel t cs = some (d,ps) → S d → ∃ ds,Is N s ds ∧ RelC w (gall w) cs ds) :
  ∀ (fl : List Field) (off : Nat) (z : Sh) (e : Nat) (xs : List (DataW H × List MemPlace)),shFs P (shOf P m) off fl = some (z,e) → xs.length = fl.length →
   (∀ (i : Nat) f y,fl[i]? = some f → xs[i]? = some y → DataW.trod enc P w base spare held fuel f.type ((cs.drop f.offset).take (P.cellsOf f.type)) = some y) → (∀ y ∈ xs,S y.1) →
   ∃ ds,Is N z ds ∧ RelC w (gall w) ((cs.drop off).take (e - off)) ds ∧ off ≤ e ∧ e = off + z.size
 | [],off,z,e,xs,h,hl,hx,hS => by
  simp only [shFs,Option.some.injEq,Prod.mk.injEq] at h
  obtain ⟨rfl,rfl⟩ := h
  exact ⟨[],rfl,by rw [Nat.sub_self,List.take_zero];exact ⟨rfl,fun j u d hu => by simp at hu⟩,Nat.le_refl _,rfl⟩
 |f :: r,off,z,e,xs,h,hl,hx,hS => by
  simp only [shFs] at h
  split at h
  ·rename_i s hs
   split at h
   ·rename_i z' e' hd hr
    cases h
    obtain ⟨d1,d2⟩ := of_decide_eq_true hd
    match xs,hl with
    |y :: ys,hl =>
     have h0 := hx 0 f y rfl rfl
     obtain ⟨ds0,q1,q2⟩ := ih f.type s hs _ _ _ h0 (hS y (by simp))
     obtain ⟨ds1,k1,k2,k3,k4⟩ := j95 ih r (off + s.size) z' e ys hr (by simpa using hl) (fun i f' y' h1 h2 => hx (i + 1) f' y' (by simpa using h1) (by simpa using h2)) (fun y' hy' => hS y' (by simp [hy']))
     refine ⟨ds0 ++ ds1,⟨ds0,ds1,rfl,q1,k1⟩,?_,by omega,by simp only [Sh.size];omega⟩
     have hq := x95 q2 k2
     rw [d1,← d2] at hq
     have e2 : (cs.drop off).take (e - off) = (cs.drop off).take s.size ++ (cs.drop (off + s.size)).take (e - (off + s.size)) := by
      rw [show e - off = s.size + (e - (off + s.size)) from by omega,List.take_add,List.drop_drop]
     rw [e2];exact hq
   ·cases h
  ·cases h
theorem q96 {S : DataW H → Prop} {fuel : Nat} {e : TypeId} {cs : List Value} {s : Sh} (ih : ∀ cs d ps,DataW.trod enc P w base spare held fuel e cs = some (d,ps) → S d → ∃ ds,Is N s ds ∧ RelC w (gall w) cs ds) :
  ∀ (n k : Nat) (xs : List (DataW H × List MemPlace)),(∀ i,i < n → ∃ y ∈ xs,DataW.trod enc P w base spare held fuel e ((cs.drop ((k + i) * s.size)).take s.size) = some y) → (∀ y ∈ xs,S y.1) →
   ∃ ds,Is N (repSh s n) ds ∧ RelC w (gall w) ((cs.drop (k * s.size)).take (n * s.size)) ds
 | 0,k,xs,hx,hS => ⟨[],rfl,by rw [Nat.zero_mul,List.take_zero];exact ⟨rfl,fun j u d hu => by simp at hu⟩⟩
 |n + 1,k,xs,hx,hS => by
  obtain ⟨y,hy,h0⟩ := hx 0 (by omega)
  obtain ⟨ds0,q1,q2⟩ := ih _ _ _ h0 (hS y hy)
  obtain ⟨ds1,k1,k2⟩ := q96 ih n (k + 1) xs (fun i hi => by rw [show k + 1 + i = k + (i + 1) from by omega];exact hx (i + 1) (by omega)) hS
  refine ⟨ds0 ++ ds1,⟨ds0,ds1,rfl,q1,k1⟩,?_⟩
  have hq := x95 q2 k2
  rw [Nat.add_zero] at hq
  rw [show (n + 1) * s.size = s.size + n * s.size from by rw [Nat.add_mul,Nat.one_mul];omega,List.take_add,List.drop_drop,show k * s.size + s.size = (k + 1) * s.size from by rw [Nat.add_mul,Nat.one_mul]]
  exact hq
theorem trod_sh {S : DataW H → Prop} (hB : Bounded N S) : ∀ (m : Nat) (t : TypeId) (s : Sh),shOf P m t = some s → ∀ (fuel : Nat) (cs : List Value) d ps,DataW.trod enc P w base spare held fuel t cs = some (d,ps) → S d →
  ∃ ds,Is N s ds ∧ RelC w (gall w) cs ds := by
 intro m
 induction m with
 | zero => intro t s h;cases h
 |succ m ih =>
  intro t s h fuel cs d ps ht hS
  simp only [shOf] at h
  split at h
  ·rename_i hu;cases h
   obtain ⟨b,rfl,-⟩ := DataW.trod_bool hu ht
   exact ⟨[.v (.bool b)],⟨b,rfl⟩,j36 (.v _ rfl)⟩
  ·rename_i k hu;cases h
   obtain ⟨n,rfl,-,hw⟩ := DataW.trod_int hu ht
   exact ⟨[.v (.int k n)],⟨n,rfl,hw⟩,j36 (.v _ rfl)⟩
  ·rename_i hu;cases h
   obtain ⟨b,rfl,hx,hw⟩ := DataW.trod_string hu ht
   cases hx
   exact ⟨[.v (.string b)],⟨b,rfl,by have := hB.str _ hS (by simpa using hw);simpa using this⟩,j36 (.v _ rfl)⟩
  ·rename_i e hu
   split at h
   ·rename_i s' hs'
    split at h
    ·rename_i hd
     cases h
     obtain ⟨d1,d2⟩ := of_decide_eq_true hd
     rcases DataW.trod_slice hu ht with ⟨rfl,hx⟩ | ⟨a,len,cap,elems,rest,n,_,rfl,hx,hb,hl,hm,hlen,hel,hsp,hns⟩
     ·cases hx
      exact ⟨[.sl s'.size 0 fun _ => zeroSh s'],⟨0,_,rfl,by omega,fun i hi => by omega,fun _ _ => rfl⟩,j36 (.sl0 _ _ _ _)⟩
     ·cases hx
      obtain ⟨b1,b2⟩ := hB.slice _ _ hS (by simp only [List.length_map];omega)
      have key : ∀ i,i < len → ∃ ds,Is N s' ds ∧ ∃ cs,w.cells? base (a.add (i * P.cellsOf e)) (P.cellsOf e) = some cs ∧ RelC w (gall w) cs ds := by
       intro i hi
       have h1 := hel i hi
       have h2 : i < elems.length := by omega
       rw [List.getElem?_eq_getElem h2] at h1
       rw [Option.bind_eq_some_iff] at h1
       obtain ⟨cs,c1,c2⟩ := h1
       obtain ⟨ds,g1,g2⟩ := ih e s' hs' _ _ _ _ c2 (b2 _ (by simp only [List.mem_map];exact ⟨_,List.getElem_mem h2,rfl⟩))
       exact ⟨ds,g1,cs,c1,g2⟩
      by_cases h0 : len = 0
      ·subst h0
       exact ⟨[.sl s'.size 0 fun _ => zeroSh s'],⟨0,_,rfl,by omega,fun i hi => by omega,fun _ _ => rfl⟩,j36 (.sl0 _ _ _ _)⟩
      ·obtain ⟨ab,ao,asp⟩ := a
       have hsp0 : asp = none := by
        obtain ⟨ds,_,cs,c1,_⟩ := key 0 (by omega)
        obtain ⟨_,c3⟩ := z71 c1
        obtain ⟨v,_,c4⟩ := c3 0 (by omega)
        simpa [Addr.add] using (z95 c4).1
       subst hsp0
       have hcell : ∀ i j,i < len → j < s'.size → ∃ v,w.cell? ⟨ab,ao + i * s'.size + j,none⟩ = some v := by
        intro i j hi hj
        obtain ⟨ds,_,cs,c1,_⟩ := key i hi
        obtain ⟨_,c3⟩ := z71 c1
        obtain ⟨v,_,c4⟩ := c3 j (by omega)
        rw [j20,j20,← d1] at c4
        exact ⟨v,c4⟩
       let f : Nat → List Dat := fun i => if hi : i < len then Classical.choose (key i hi) else zeroSh s'
       have hf : ∀ i (hi : i < len),Is N s' (f i) ∧ ∃ cs,w.cells? base ((⟨ab,ao,none⟩ : Addr).add (i * P.cellsOf e)) (P.cellsOf e) = some cs ∧ RelC w (gall w) cs (f i) := by
        intro i hi
        simp only [f,dif_pos hi]
        exact Classical.choose_spec (key i hi)
       refine ⟨[.sl s'.size len f],⟨len,f,rfl,by simpa [hlen] using b1,fun i hi => (hf i hi).1,fun i hi => by simp only [f,dif_neg (show ¬ i < len from by omega)]⟩,j36 ?_⟩
       refine .sl ab ao len cap s'.size f (fun i j => (w.cell? ⟨ab,ao + i * s'.size + j,none⟩).getD undef) hl (fun i hi => (hf i hi).1.len) (fun i j hi hj => ?_) ?_ (fun i j x hi hx => ?_)
       ·obtain ⟨v,hv⟩ := hcell i j hi hj
        rw [hv];rfl
       ·obtain ⟨v,hv⟩ := hcell (len - 1) (s'.size - 1) (by omega) (by omega)
        have hg := (z95 hv).2
        simp only at hg
        have e2 : len * s'.size = (len - 1) * s'.size + s'.size := by
         rw [show len = (len - 1) + 1 from by omega,Nat.add_mul,Nat.one_mul,Nat.add_sub_cancel]
        omega
       ·obtain ⟨hi1,cs,c1,c2⟩ := hf i hi
        obtain ⟨c3,c4⟩ := z71 c1
        have hj : j < s'.size := by have := (List.getElem?_eq_some_iff.1 hx).1;rw [hi1.len] at this;exact this
        obtain ⟨v,v1,v2⟩ := c4 j (by omega)
        rw [j20,j20,← d1] at v2
        simp only [v2,Option.getD_some]
        exact c2.2 j v x v1 hx
    ·cases h
   ·cases h
  ·rename_i fs hu
   split at h
   ·rename_i s' e hs'
    split at h
    ·rename_i hd
     cases h
     have d1 := of_decide_eq_true hd
     obtain ⟨xs,n,_,hx,hl,hlen,hf⟩ := DataW.trod_struct hu ht
     cases hx
     obtain ⟨ds,g1,g2,g3,g4⟩ := j95 (cs := cs) (fun t s hs cs d ps hh hS' => ih t s hs n cs d ps hh hS') fs.toList 0 s e xs hs' (by simpa using hlen)
      (fun i f y h1 h2 => by rw [← h2];exact hf i f (by simpa using h1)) (fun y hy => hB.agg _ hS _ (by simp only [List.mem_map];exact ⟨y,hy,rfl⟩))
     refine ⟨ds,g1,?_⟩
     rw [List.drop_zero,Nat.sub_zero,List.take_of_length_le (by omega)] at g2
     exact g2
    ·cases h
   ·cases h
  ·rename_i n e hu
   split at h
   ·rename_i s' hs'
    split at h
    ·rename_i hd
     cases h
     obtain ⟨d1,d2⟩ := of_decide_eq_true hd
     obtain ⟨xs,k,_,hx,hl,hlen,hf⟩ := DataW.trod_array hu ht
     cases hx
     obtain ⟨ds,g1,g2⟩ := q96 (N := N) (S := S) (w := w) (cs := cs) (s := s') (fun cs d ps hh hS' => ih e s' hs' k cs d ps hh hS') n 0 xs
      (fun i hi => by
       have hi' : i < xs.length := by omega
       refine ⟨xs[i],List.getElem_mem hi',?_⟩
       rw [Nat.zero_add,d1,hf i hi,List.getElem?_eq_getElem hi'])
      (fun y hy => hB.agg _ hS _ (by simp only [List.mem_map];exact ⟨y,hy,rfl⟩))
     refine ⟨ds,g1,?_⟩
     rw [Nat.zero_mul,List.drop_zero,List.take_of_length_le (by omega)] at g2
     exact g2
    ·cases h
   ·cases h
  ·cases h
end
theorem z33 {α : Type} {N : Nat} {Q : α → Prop} (enc : α → List Dat) (z : α) (s : Sh) (hz : enc z = zeroSh s) (h : ∀ ds,Is N s ds → ∃ a,ds = enc a ∧ Q a) {ds : List Dat} (hd : Is N (.slice s) ds) :
  ∃ l : List α,ds = [.sl s.size l.length fun i => enc (l.getD i z)] ∧ l.length ≤ N ∧ ∀ a ∈ l,Q a := by
 obtain ⟨n,f,rfl,hn,h1,h2⟩ := hd
 have h3 : ∀ i,∃ a,(i < n → f i = enc a ∧ Q a) := fun i => by
  by_cases hi : i < n
  ·obtain ⟨a,ha⟩ := h _ (h1 i hi);exact ⟨a,fun _ => ha⟩
  ·exact ⟨z,fun hh => absurd hh hi⟩
 obtain ⟨c,hc⟩ := Classical.axiomOfChoice h3
 refine ⟨(List.range n).map c,?_,by simpa using hn,fun a ha => ?_⟩
 ·have : f = fun i => enc (((List.range n).map c).getD i z) := by
   funext i
   by_cases hi : i < n
   ·rw [(hc i hi).1,List.getD_eq_getElem?_getD,List.getElem?_map,List.getElem?_range hi];rfl
   ·rw [h2 i (by omega),← hz,List.getD_eq_getElem?_getD,List.getElem?_eq_none (by simp;omega)];rfl
  rw [this];simp
 ·simp only [List.mem_map,List.mem_range] at ha
  obtain ⟨i,hi,rfl⟩ := ha
  exact (hc i hi).2
theorem x22 {n : Int} (h : (Lit.int .i64 n).wf = true) : -9223372036854775808 ≤ n ∧ n < 9223372036854775808 := by
 simp [Lit.wf,IntKind.min,IntKind.max,IntKind.signed,IntKind.bits] at h
 omega
theorem z96 {n : Int} (h : (Lit.int .u64 n).wf = true) : 0 ≤ n ∧ n < 18446744073709551616 := by
 simp [Lit.wf,IntKind.min,IntKind.max,IntKind.signed,IntKind.bits] at h
 omega
end Go.Proofs.YtemcdefpihkfpaaGreat.AL
namespace Go.Proofs.YtemcdefpihkfpaaGreat
open Go.Proofs.YtemcdefpihkfpaaGreat.AL
def bvi (a : BitVec 64) : Int := (a.toNat : Int)
def hi (x : BitVec 128) : Int := bvi (x.extractLsb' 64 64)
def lo (x : BitVec 128) : Int := bvi (x.extractLsb' 0 64)
def hd (x : BitVec 128) : List Dat := [.v (.int .u64 (hi x)),.v (.int .u64 (lo x))]
theorem j29 (a : BitVec 64) : BitVec.ofInt 64 (bvi a) = a := by
 unfold bvi
 rw [BitVec.ofInt_natCast]
 simp
theorem z55 (a : BitVec 64) : IntKind.u64.wrap (a.toNat : Int) = bvi a := by
 have := a.isLt
 simp [IntKind.wrap,IntKind.bits,IntKind.signed,bvi]
 omega
theorem x71 (a b : BitVec 64) : bits .and .u64 (bvi a) (bvi b) = bvi (a &&& b) := by
 unfold bits
 show IntKind.u64.wrap ((BitVec.ofInt 64 (bvi a) &&& BitVec.ofInt 64 (bvi b)).toNat : Int) = _
 rw [j29,j29,z55]
theorem x55 (a b : BitVec 64) : bits .or .u64 (bvi a) (bvi b) = bvi (a ||| b) := by
 unfold bits
 show IntKind.u64.wrap ((BitVec.ofInt 64 (bvi a) ||| BitVec.ofInt 64 (bvi b)).toNat : Int) = _
 rw [j29,j29,z55]
theorem x96 (a b : BitVec 64) : bits .xor .u64 (bvi a) (bvi b) = bvi (a ^^^ b) := by
 unfold bits
 show IntKind.u64.wrap ((BitVec.ofInt 64 (bvi a) ^^^ BitVec.ofInt 64 (bvi b)).toNat : Int) = _
 rw [j29,j29,z55]
theorem j96 (a b : BitVec 64) : bits .andNot .u64 (bvi a) (bvi b) = bvi (a &&& ~~~b) := by
 unfold bits
 show IntKind.u64.wrap ((BitVec.ofInt 64 (bvi a) &&& ~~~(BitVec.ofInt 64 (bvi b))).toNat : Int) = _
 rw [j29,j29,z55]
theorem z42 (a : BitVec 64) (n : Nat) : bvi a / 2 ^ min n 64 = bvi (a >>> n) := by
 unfold bvi
 rw [BitVec.toNat_ushiftRight,Nat.shiftRight_eq_div_pow]
 have e : ((a.toNat : Int) / 2 ^ min n 64) = ((a.toNat / 2 ^ min n 64 : Nat) : Int) := by simp
 rw [e]
 congr 1
 by_cases h : n ≤ 64
 ·rw [Nat.min_eq_left h]
 ·rw [Nat.min_eq_right (by omega)]
  have h1 := a.isLt
  have h2 : (2 : Nat) ^ 64 ≤ 2 ^ n := Nat.pow_le_pow_right (by omega) (by omega)
  rw [Nat.div_eq_of_lt h1,Nat.div_eq_of_lt (by omega)]
theorem j55 (a : BitVec 64) (n : Nat) : IntKind.u64.wrap (bvi a * 2 ^ min n 64) = bvi (a <<< n) := by
 unfold bvi
 rw [BitVec.toNat_shiftLeft,Nat.shiftLeft_eq]
 have e : ((a.toNat : Int) * 2 ^ min n 64) = ((a.toNat * 2 ^ min n 64 : Nat) : Int) := by simp
 rw [e]
 have w : ∀ k : Nat,IntKind.u64.wrap (k : Int) = ((k % 2 ^ 64 : Nat) : Int) := by
  intro k;simp [IntKind.wrap,IntKind.bits,IntKind.signed]
 rw [w]
 congr 1
 by_cases h : n ≤ 64
 ·rw [Nat.min_eq_left h]
 ·rw [Nat.min_eq_right (by omega)]
  have e1 : n = 64 + (n - 64) := by omega
  rw [e1,Nat.pow_add,← Nat.mul_assoc]
  simp [Nat.mul_mod]
theorem j71 {a b : BitVec 64} : (bvi a == bvi b) = (a == b) := by
 unfold bvi
 rw [Bool.eq_iff_iff]
 simp [BitVec.toNat_eq]
 omega
theorem x27 {x : BitVec 128} {a : BitVec 64} (h : ∀ i,i < 64 → a.getLsbD i = x.getLsbD (64 + i)) : hi x = bvi a := by
 unfold hi
 congr 1
 apply BitVec.eq_of_getLsbD_eq
 intro i hi'
 rw [BitVec.getLsbD_extractLsb',h i hi']
 simp [hi']
theorem j27 {x : BitVec 128} {a : BitVec 64} (h : ∀ i,i < 64 → a.getLsbD i = x.getLsbD i) : lo x = bvi a := by
 unfold lo
 congr 1
 apply BitVec.eq_of_getLsbD_eq
 intro i hi'
 rw [BitVec.getLsbD_extractLsb',h i hi']
 simp [hi']
theorem hi_and (x y : BitVec 128) : bits .and .u64 (hi x) (hi y) = hi (x &&& y) := by
 unfold hi;rw [x71];symm;exact x27 (fun i h => by simp [BitVec.getLsbD_extractLsb',h])
theorem lo_and (x y : BitVec 128) : bits .and .u64 (lo x) (lo y) = lo (x &&& y) := by
 unfold lo;rw [x71];symm;exact j27 (fun i h => by simp [BitVec.getLsbD_extractLsb',h])
theorem hi_or (x y : BitVec 128) : bits .or .u64 (hi x) (hi y) = hi (x ||| y) := by
 unfold hi;rw [x55];symm;exact x27 (fun i h => by simp [BitVec.getLsbD_extractLsb',h])
theorem lo_or (x y : BitVec 128) : bits .or .u64 (lo x) (lo y) = lo (x ||| y) := by
 unfold lo;rw [x55];symm;exact j27 (fun i h => by simp [BitVec.getLsbD_extractLsb',h])
theorem hi_xor (x y : BitVec 128) : bits .xor .u64 (hi x) (hi y) = hi (x ^^^ y) := by
 unfold hi;rw [x96];symm;exact x27 (fun i h => by simp [BitVec.getLsbD_extractLsb',h])
theorem lo_xor (x y : BitVec 128) : bits .xor .u64 (lo x) (lo y) = lo (x ^^^ y) := by
 unfold lo;rw [x96];symm;exact j27 (fun i h => by simp [BitVec.getLsbD_extractLsb',h])
theorem hi_less (x y : BitVec 128) : bits .andNot .u64 (hi x) (hi y) = hi (x &&& ~~~y) := by
 unfold hi;rw [j96];symm;exact x27 (fun i h => by simp [BitVec.getLsbD_extractLsb',h,(by omega : 64 + i < 128)])
theorem lo_less (x y : BitVec 128) : bits .andNot .u64 (lo x) (lo y) = lo (x &&& ~~~y) := by
 unfold lo;rw [j96];symm;exact j27 (fun i h => by simp [BitVec.getLsbD_extractLsb',h,(by omega : i < 128)])
theorem q97 (x y : BitVec 128) : ((hi x == hi y) && (lo x == lo y)) = (x == y) := by
 unfold hi lo
 rw [j71,j71,Bool.eq_iff_iff]
 simp only [Bool.and_eq_true,beq_iff_eq]
 constructor
 ·rintro ⟨h1,h2⟩
  apply BitVec.eq_of_getLsbD_eq
  intro i hi'
  by_cases hlt : i < 64
  ·have := congrArg (fun v => v.getLsbD i) h2
   simpa [BitVec.getLsbD_extractLsb',hlt] using this
  ·have := congrArg (fun v => v.getLsbD (i - 64)) h1
   have hk : i - 64 < 64 := by omega
   have e : 64 + (i - 64) = i := by omega
   simpa [BitVec.getLsbD_extractLsb',hk,e] using this
 ·rintro rfl;exact ⟨rfl,rfl⟩
theorem z24 : hi 0 = 0 := by decide
theorem x24 : lo 0 = 0 := by decide
theorem x149 {a b : Int} (ha : 0 ≤ a) (ha' : a < 18446744073709551616) (hb : 0 ≤ b) (hb' : b < 18446744073709551616) : ∃ x,hi x = a ∧ lo x = b := by
 refine ⟨BitVec.ofNat 64 a.toNat ++ BitVec.ofNat 64 b.toNat,?_,?_⟩
 ·rw [x27 (a := BitVec.ofNat 64 a.toNat) (fun i h => by rw [BitVec.getLsbD_append];simp)]
  unfold bvi;rw [BitVec.toNat_ofNat];omega
 ·rw [j27 (a := BitVec.ofNat 64 b.toNat) (fun i h => by rw [BitVec.getLsbD_append];simp [h])]
  unfold bvi;rw [BitVec.toNat_ofNat];omega
theorem wi {n : Int} (h : -9223372036854775808 ≤ n ∧ n < 9223372036854775808) : IntKind.i64.wrap n = n := by
 simp [IntKind.wrap,IntKind.bits,IntKind.signed];omega
theorem wu {n : Int} (h : 0 ≤ n ∧ n < 18446744073709551616) : IntKind.u64.wrap n = n := by
 simp [IntKind.wrap,IntKind.bits,IntKind.signed];omega
theorem j149 : IntKind.u64.bits = 64 := rfl
theorem nn {n : Int} (h : 0 ≤ n) : (0 ≤ n) = True := eq_true h
theorem tnA (n : Nat) : ((n : Int) - 64).toNat = n - 64 := by omega
theorem nc (n : Nat) : ((no_index (OfNat.ofNat n) : Nat) : Int) = OfNat.ofNat n := rfl
theorem tnC (n : Nat) : (127 - (n : Int)).toNat = 127 - n := by omega
theorem tnB (n : Nat) : (64 - (n : Int)).toNat = 64 - n := by omega
theorem cs1 (n : Nat) : ((n + 1 : Nat) : Int) - 1 = (n : Int) := by omega
theorem bqt (b : Bool) : (b == true) = b := by cases b <;> rfl
theorem bqf (b : Bool) : (b == false) = !b := by cases b <;> rfl
theorem dge {a b : Int} (h : a ≥ b) : decide (a ≥ b) = true := decide_eq_true h
theorem dnge {a b : Int} (h : ¬ a ≥ b) : decide (a ≥ b) = false := decide_eq_false h
theorem dlt {a b : Int} (h : a < b) : decide (a < b) = true := decide_eq_true h
theorem dnlt {a b : Int} (h : ¬ a < b) : decide (a < b) = false := decide_eq_false h
theorem dgt {a b : Int} (h : a > b) : decide (a > b) = true := decide_eq_true h
theorem dngt {a b : Int} (h : ¬ a > b) : decide (a > b) = false := decide_eq_false h
theorem dle {a b : Int} (h : a ≤ b) : decide (a ≤ b) = true := decide_eq_true h
theorem dnle {a b : Int} (h : ¬ a ≤ b) : decide (a ≤ b) = false := decide_eq_false h
theorem q150 (x : BitVec 128) (n : Nat) (hn : n < 64) :
  bits .or .u64 (lo x / 2 ^ min n 64) (IntKind.u64.wrap (hi x * 2 ^ min (64 - n) 64)) = lo (x >>> n) := by
 unfold hi lo
 rw [z42,j55,x55];symm
 refine j27 (fun i h => ?_)
 simp [BitVec.getLsbD_extractLsb',BitVec.getLsbD_ushiftRight,BitVec.getLsbD_shiftLeft,h]
 by_cases h2 : n + i < 64
 ·simp [h2,show i < 64 - n from by omega]
 ·simp [h2,show ¬ i < 64 - n from by omega,show 64 + (i - (64 - n)) = n + i from by omega,show i - (64 - n) < 64 from by omega]
theorem z150 (x : BitVec 128) (n : Nat) (hn : n < 64) : hi x / 2 ^ min n 64 = hi (x >>> n) := by
 unfold hi
 rw [z42];symm
 refine x27 (fun i h => ?_)
 simp [BitVec.getLsbD_extractLsb',BitVec.getLsbD_ushiftRight,h]
 by_cases h2 : n + i < 64
 ·simp [h2,show 64 + (n + i) = n + (64 + i) from by omega]
 ·simp [h2,BitVec.getLsbD_of_ge x (n + (64 + i)) (by omega)]
theorem x150 (x : BitVec 128) (n : Nat) (hn : 64 ≤ n) : (0 : Int) = hi (x >>> n) := by
 rw [← z24];unfold hi;symm
 refine x27 (fun i h => ?_)
 simp [BitVec.getLsbD_extractLsb',BitVec.getLsbD_ushiftRight,h]
 exact BitVec.getLsbD_of_ge x (n + (64 + i)) (by omega)
theorem j150 (x : BitVec 128) (n : Nat) (hn : 64 ≤ n) : hi x / 2 ^ min (n - 64) 64 = lo (x >>> n) := by
 unfold hi lo
 rw [z42];symm
 refine j27 (fun i h => ?_)
 simp [BitVec.getLsbD_extractLsb',BitVec.getLsbD_ushiftRight,h]
 by_cases h2 : n - 64 + i < 64
 ·simp [h2,show 64 + (n - 64 + i) = n + i from by omega]
 ·simp [h2,BitVec.getLsbD_of_ge x (n + i) (by omega)]
theorem q151 (x : BitVec 128) (n : Nat) (hn : n < 64) :
  bits .or .u64 (IntKind.u64.wrap (hi x * 2 ^ min n 64)) (lo x / 2 ^ min (64 - n) 64) = hi (x <<< n) := by
 unfold hi lo
 rw [z42,j55,x55];symm
 refine x27 (fun i h => ?_)
 simp [BitVec.getLsbD_extractLsb',BitVec.getLsbD_ushiftRight,BitVec.getLsbD_shiftLeft,h,show 64 + i < 128 from by omega,show ¬ 64 + i < n from by omega]
 by_cases h2 : i < n
 ·simp [h2,show 64 - n + i < 64 from by omega,show 64 + i - n = 64 - n + i from by omega];exact BitVec.getLsbD_eq_getElem _
 ·simp [h2,show ¬ 64 - n + i < 64 from by omega,show i - n < 64 from by omega,show 64 + i - n = 64 + (i - n) from by omega];exact BitVec.getLsbD_eq_getElem _
theorem z151 (x : BitVec 128) (n : Nat) (hn : n < 64) : IntKind.u64.wrap (lo x * 2 ^ min n 64) = lo (x <<< n) := by
 unfold lo
 rw [j55];symm
 refine j27 (fun i h => ?_)
 simp [BitVec.getLsbD_extractLsb',BitVec.getLsbD_shiftLeft,h,show i < 128 from by omega]
 by_cases h2 : i < n
 ·simp [h2]
 ·simp [h2,show i - n < 64 from by omega];exact BitVec.getLsbD_eq_getElem _
theorem x151 (x : BitVec 128) (n : Nat) (hn : 64 ≤ n) : (0 : Int) = lo (x <<< n) := by
 rw [← x24];unfold lo;symm
 refine j27 (fun i h => ?_)
 simp [BitVec.getLsbD_extractLsb',BitVec.getLsbD_shiftLeft,h,show i < 128 from by omega,show i < n from by omega]
theorem j151 (x : BitVec 128) (n : Nat) (hn : 64 ≤ n) : IntKind.u64.wrap (lo x * 2 ^ min (n - 64) 64) = hi (x <<< n) := by
 unfold hi lo
 rw [j55];symm
 refine x27 (fun i h => ?_)
 simp [BitVec.getLsbD_extractLsb',BitVec.getLsbD_shiftLeft,h,show 64 + i < 128 from by omega]
 by_cases h2 : i < n - 64
 ·simp [h2,show 64 + i < n from by omega]
 ·simp [h2,show ¬ 64 + i < n from by omega,show i - (n - 64) < 64 from by omega,show 64 + i - n = i - (n - 64) from by omega];exact BitVec.getLsbD_eq_getElem _
theorem bit_lo (x : BitVec 128) : (bits .and .u64 (lo x) 1 == 1) = x.getLsbD 0 := by
 have e : (1 : Int) = bvi 1 := by decide
 unfold lo
 rw [e,x71,j71]
 have : (BitVec.extractLsb' 0 64 x &&& 1 == 1) = (BitVec.extractLsb' 0 64 x).getLsbD 0 := by
  rw [Bool.eq_iff_iff,beq_iff_eq]
  constructor
  ·intro h;have := congrArg (fun v => v.getLsbD 0) h;simpa using this
  ·intro h;apply BitVec.eq_of_getLsbD_eq;intro i hi'
   rw [BitVec.getLsbD_and]
   by_cases h0 : i = 0
   ·subst h0;simp at h ⊢;exact h
   ·have : (1 : BitVec 64).getLsbD i = false := by
     rw [show (1 : BitVec 64) = 1#64 from rfl,BitVec.getLsbD_one]
     simp [h0]
    rw [this,Bool.and_false]
 rw [this];simp [BitVec.getLsbD_extractLsb']
theorem z97 (a : BitVec 64) (n : Nat) (hn : n < 64) : ((bvi a / 2 ^ min n 64).tmod 2 == 1) = a.getLsbD n := by
 rw [z42]
 have h : ∀ b : BitVec 64,((bvi b).tmod 2 == 1) = b.getLsbD 0 := by
  intro b
  have e : b.getLsbD 0 = decide (b.toNat % 2 = 1) := by simp [BitVec.getLsbD,Nat.testBit_zero]
  have e2 : (bvi b).tmod 2 = ((b.toNat % 2 : Nat) : Int) := by unfold bvi;rw [Int.tmod_eq_emod_of_nonneg (by omega)];omega
  rw [e,e2,Bool.eq_iff_iff,beq_iff_eq,decide_eq_true_eq]
  omega
 rw [h,BitVec.getLsbD_ushiftRight,Nat.add_zero]
theorem rem_lo (x : BitVec 128) (n : Nat) (hn : n < 64) : ((lo x / 2 ^ min n 64).tmod 2 == 1) = x.getLsbD n := by
 unfold lo;rw [z97 _ n hn,BitVec.getLsbD_extractLsb'];simp [hn]
theorem rem_hi (x : BitVec 128) (n : Nat) (h0 : 64 ≤ n) (hn : n < 128) : ((hi x / 2 ^ min (n - 64) 64).tmod 2 == 1) = x.getLsbD n := by
 unfold hi;rw [z97 _ (n - 64) (by omega),BitVec.getLsbD_extractLsb'];simp [show n - 64 < 64 from by omega,show 64 + (n - 64) = n from by omega]
def num (b : Nat → Bool) (lo : Nat) : Nat → Nat
 | 0 => 0
 | n + 1 => (if b lo then 1 else 0) + 2 * num b (lo + 1) n
theorem q56 (b : Nat → Bool) : ∀ (n lo : Nat),num b lo n < 2 ^ n
 | 0,lo => by simp [num]
 |n + 1,lo => by
  have := q56 b n (lo + 1)
  unfold num
  rw [Nat.pow_succ]
  split <;> omega
theorem x97 (b : Nat → Bool) (lo n : Nat) (h : n ≤ 63) : num b lo n < 9223372036854775808 :=
 Nat.lt_of_lt_of_le (q56 b n lo) (Nat.pow_le_pow_right (n := 2) (by omega) h)
theorem z56 (b : Nat → Bool) : ∀ (n lo i : Nat),(num b lo n).testBit i = (decide (i < n) && b (lo + i))
 | 0,lo,i => by simp [num]
 |n + 1,lo,0 => by
  unfold num
  rw [Nat.testBit_zero]
  cases b lo <;> simp
 |n + 1,lo,i + 1 => by
  unfold num
  rw [Nat.testBit_succ]
  have : ((if b lo then 1 else 0) + 2 * num b (lo + 1) n) / 2 = num b (lo + 1) n := by split <;> omega
  rw [this,z56 b n (lo + 1) i]
  simp [show lo + 1 + i = lo + (i + 1) from by omega]
def ofBits (b : Nat → Bool) : BitVec 128 := BitVec.ofNat 128 (num b 0 128)
theorem q72 (b : Nat → Bool) (i : Nat) (h : i < 128) : (ofBits b).getLsbD i = b i := by
 unfold ofBits
 rw [BitVec.getLsbD_ofNat,z56]
 simp [h]
theorem q152 (b : Nat → Bool) (x : BitVec 128) (h : ∀ i,i < 128 → b i = x.getLsbD i) : ofBits b = x := by
 apply BitVec.eq_of_getLsbD_eq
 intro i hlt
 rw [q72 b i hlt,h i hlt]
theorem z152 (b : Nat → Bool) : hi (ofBits b) = (num b 64 64 : Int) := by
 have hb := q56 b 64 64
 rw [x27 (a := BitVec.ofNat 64 (num b 64 64)) (fun i h => by rw [BitVec.getLsbD_ofNat,z56,q72 b _ (by omega)];simp [h])]
 unfold bvi
 rw [BitVec.toNat_ofNat,Nat.mod_eq_of_lt hb]
theorem x152 (b : Nat → Bool) : lo (ofBits b) = (num b 0 64 : Int) := by
 have hb := q56 b 64 0
 rw [j27 (a := BitVec.ofNat 64 (num b 0 64)) (fun i h => by rw [BitVec.getLsbD_ofNat,z56,q72 b _ (by omega)];simp [h])]
 unfold bvi
 rw [BitVec.toNat_ofNat,Nat.mod_eq_of_lt hb]
def ones (n : Nat) : BitVec 128 := BitVec.ofNat 128 (2 ^ n - 1)
theorem low_lo (n : Nat) (hn : n < 128) : (((BitVec.extractLsb' 0 64 ((1 : BitVec 128) <<< n)).toNat + 18446744073709551616 - 1) % 18446744073709551616 : Nat) = lo (ones n) := by
 have : ∀ k : Fin 128,((((BitVec.extractLsb' 0 64 ((1 : BitVec 128) <<< k.val)).toNat + 18446744073709551616 - 1) % 18446744073709551616 : Nat) : Int) = lo (ones k.val) := by decide +kernel
 exact this ⟨n,hn⟩
theorem low_hi (n : Nat) (hn : n < 128) : IntKind.u64.wrap (hi ((1 : BitVec 128) <<< n) - ((if (BitVec.extractLsb' 0 64 ((1 : BitVec 128) <<< n)).toNat < 1 then 1 else 0 : Nat) : Int)) = hi (ones n) := by
 have : ∀ k : Fin 128,IntKind.u64.wrap (hi ((1 : BitVec 128) <<< k.val) - ((if (BitVec.extractLsb' 0 64 ((1 : BitVec 128) <<< k.val)).toNat < 1 then 1 else 0 : Nat) : Int)) = hi (ones k.val) := by decide +kernel
 exact this ⟨n,hn⟩
theorem x12 (x y : BitVec 128) : eqI [hi x,lo x] [hi y,lo y] = (x == y) := by
 rw [← q97];simp only [eqI,Bool.and_true]
theorem j12 (x : BitVec 128) : eqI [hi x,lo x] [0,0] = (x == 0) := by
 rw [← x12,z24,x24]
def fieldB (a b m : Int) : Bool := decide (0 ≤ a ∧ 0 ≤ b ∧ b ≤ m ∧ a + b ≤ 128)
structure Cube where
 v : BitVec 128
 c : BitVec 128
deriving DecidableEq
def cb (k : Cube) : List Dat := [.v (.int .u64 (hi k.v)),.v (.int .u64 (lo k.v)),.v (.int .u64 (hi k.c)),.v (.int .u64 (lo k.c))]
def Cube.sound (k : Cube) : Bool := k.v &&& ~~~k.c == 0
def hasC (k : Cube) (h : BitVec 128) : Bool := k.sound && (h &&& k.c == k.v)
def apart (a b : Cube) : BitVec 128 := (a.v ^^^ b.v) &&& (a.c &&& b.c)
def meetO (a b : Cube) : Bool := a.sound && b.sound && (apart a b == 0)
def meetV (a b : Cube) : Cube := if meetO a b then ⟨a.v ||| b.v,a.c ||| b.c⟩ else ⟨0,0⟩
def withinC (a b : Cube) : Bool := a.sound && b.sound && (b.c &&& ~~~a.c == 0) && (apart a b == 0)
def setH (h : BitVec 128) (s : Cube) : BitVec 128 := (h &&& ~~~s.c) ||| (s.v &&& s.c)
def chI (k : Cube) (i : Nat) : Int := if k.c.getLsbD i then (if k.v.getLsbD i then 49 else 48) else 120
def txt (k : Cube) : ByteArray := strOfNums ((AL.rng 128).map fun i => chI k (127 - i))
theorem j19 (k : Cube) : k.sound = true ↔ ∀ i,i < 128 → k.v.getLsbD i = true → k.c.getLsbD i = true := by
 unfold Cube.sound
 rw [beq_iff_eq]
 constructor
 ·intro h i hi' hv
  have := congrArg (fun z => z.getLsbD i) h
  simp [hi',hv] at this
  rw [BitVec.getLsbD_eq_getElem hi'];simpa using this
 ·intro h
  apply BitVec.eq_of_getLsbD_eq
  intro i hlt
  have := h i hlt
  simp [hlt]
  cases hv : k.v.getLsbD i
  ·simp [BitVec.getLsbD_eq_getElem hlt] at hv;simp [hv]
  ·have h2 := this hv
   simp [BitVec.getLsbD_eq_getElem hlt] at h2;simp [h2]
def rowC (l : List Cube) : Nat → List Dat := fun i => cb (l.getD i ⟨0,0⟩)
def lessGo (b : Cube) (more : BitVec 128) : Nat → Cube → List Cube
 | 0,_ => []
 | n + 1,r => if more.getLsbD n then ⟨(r.v ||| (b.v &&& (ones 1 <<< n))) ^^^ (ones 1 <<< n),r.c ||| (ones 1 <<< n)⟩ :: lessGo b more n ⟨r.v ||| (b.v &&& (ones 1 <<< n)),r.c ||| (ones 1 <<< n)⟩ else lessGo b more n r
def lessL (a b : Cube) : List Cube := if a.sound && b.sound then (if meetO a b then lessGo b (b.c &&& ~~~a.c) 128 a else [a]) else []
section
open Go.Proofs.YtemcdefpihkfpaaGreat.AL
attribute [go_sem] z148 x148 runA runB runC j148 q149 runAD runBD runCD isCall wantedA List.getElem?_toArray stepE opEff mapEv Op.operands Call.operands locNeed
attribute [go_sem] ASt.locAt ASt.eval AL.look frOf effMove effPick pickAV boolAV effNil effBox effAlloc effLoad effStore effFieldAddr effIndexAddr effField effIndex effBin effInt
attribute [go_sem] effUn effConvert effMake effBytes effStr numD effBuild effBuildSlice effBuildSlice0 nilR nilAV effNil' effSlice effFunc effExtract effBuiltin effLen effAppend AV.mentions datAV datsAV cellsAV pvAV
attribute [go_sem] intAV lenAV srcAV intsD TK.agg fillD rowsOf bnds bndAV callK callAV calleeAV resAV dstOK effOK ASt.apply ASt.upd ASt.put unusedB LV.mentions Value.oneCell'
attribute [go_sem] Eff.val Eff.upd Eff.fresh Eff.obl List.contains_nil List.contains_cons List.elem_cons List.elem_nil List.map_cons List.map_nil List.mapM_cons List.mapM_nil
attribute [go_sem] List.flatMap_cons List.flatMap_nil List.length_cons List.length_nil List.take_succ_cons List.take_zero List.take_nil List.drop_succ_cons List.drop_zero
attribute [go_sem] List.drop_nil List.nil_append List.cons_append List.append_nil List.zip_cons_cons List.zip_nil_left List.zip_nil_right List.all_cons List.all_nil List.isEmpty_nil
attribute [go_sem] List.isEmpty_cons List.getElem?_cons_zero List.getElem?_cons_succ List.getElem?_nil List.range'_succ List.range'_zero cond_true cond_false Option.map_some
attribute [go_sem] Option.map_none Option.getD_some Option.getD_none Option.bind_some Option.isSome_some Option.isSome_none Option.pure_def Option.bind_eq_bind true_and and_true
attribute [go_sem] decide_true decide_false decide_eq_true_eq Array.toList_append Nat.succ_ne_zero Nat.add_zero Nat.zero_add Bool.and_true Bool.true_and Bool.and_false
attribute [go_sem] Bool.false_and Bool.or_false Bool.or_true Bool.not_true Bool.not_false Bool.false_eq_true beq_self_eq_true BEq.rfl ne_eq not_false_eq_true not_true_eq_false
attribute [go_sem] Bool.not_eq_true' Nat.le_refl Int.toNat_natCast List.reverse_cons List.reverse_nil Nat.mul_one Nat.one_mul implies_true nc tnC cs1 Option.some.injEq wi wu nn
attribute [go_sem] exX exAt effLoadX effStoreX effIndexAddrX effFieldAddrX effAppendX effClearX slX_0 slX_l mxOf q27
attribute [go_sem] ownX ownD effLoadO effStoreO effIndexAddrO effFieldAddrO effMakeO effBuildSlice0O effAppendO cvAV effFuncO CV.mentions
attribute [go_sem] mapX effLenM effDelete effCopyO effNilP nilP effMakeMap effLookup effUpdate effBuildC effFieldC CV.av
attribute [go_sem] j149 bqt bqf dge dnge dgt dngt dlt dnlt dle dnle tnA tnB PV.agg.injEq PV.d.injEq Dat.v.injEq
end
end Go.Proofs.YtemcdefpihkfpaaGreat
namespace Go.Proofs.YtemcdefpihkfpaaGreat
open Go.Proofs.YtemcdefpihkfpaaGreat.AL Go.ChangeShapes Go.WideShapes Go.ChangeAt Go.RowKit
theorem j152 : ownKnob Tryz.prog.godebug = none := by kernel_rfl
namespace AL
theorem q153 {P : Program} {f : FuncId} {fn : Func} {xs : List PV} {W : World} {g : Nat → Nat} {args : Array Value} (h : ACalls P f xs (· = [.d (.v (.bool true))])) (hf : P.funcs[f]? = some fn) (hb : fn.body.isSome = true) (hname : (fn.name == "runtime.NumGoroutine") = false)
  (hz : GZ W g) (hr : RelPs W g args.toList xs) : Calls P f args W fun e W' => e = .returned (.bool true) ∧ Below W.heap.size W W' := by
 have h := q26.1 h W g args.toList hz hr
 obtain ⟨c,hc⟩ := Option.isSome_iff_exists.1 hb
 have hrun : (callFunc f args).run P W = .ok (.enter f args) W := by
  simp only [callFunc,program,Sem.run,Bind.bind,Sem.bind,hf,hname,hc];rfl
 rw [Array.toArray_toList,hrun] at h
 refine Calls.mono (h : Calls P f args W _) fun e W' ⟨v,he,g',rs,h1,h2,h3⟩ => ?_
 subst h2
 cases h3 with
 | d _ _ h3 => cases h3;exact ⟨he,h1.below⟩
def aggT (P : Program) (t : TypeId) : Bool := match P.underlying t with
 | some (.struct _) => true
 | some (.array _ _) => true
 | _ => false
def pvSh (agg : Bool) (ds : List Dat) : PV := bif agg then .agg ds else .d (ds.headD default)
def pvs : List (Bool × Sh) → List (List Dat) → List PV
 | (b,_) :: ss,x :: xs => pvSh b x :: pvs ss xs
 | _,_ => []
def IsAll (N : Nat) : List (Bool × Sh) → List (List Dat) → Prop
 | [],[] => True
 | (_,s) :: ss,x :: xs => Is N s x ∧ IsAll N ss xs
 | _,_ => False
theorem x56 {N : Nat} {p : Bool × Sh} {ss : List (Bool × Sh)} {xs : List (List Dat)} (h : IsAll N (p :: ss) xs) : ∃ x xs',xs = x :: xs' ∧ Is N p.2 x ∧ IsAll N ss xs' := by
 cases xs with
 | nil => exact h.elim
 | cons x xs => exact ⟨x,xs,rfl,h.1,h.2⟩
theorem z153 {N : Nat} {xs : List (List Dat)} (h : IsAll N [] xs) : xs = [] := by
 cases xs with
 | nil => rfl
 | cons x xs => exact h.elim
def argsOf (P : Program) : List TypeId → Option (List (Bool × Sh))
 | [] => some []
 |t :: ts => match shOf P 12 t,argsOf P ts with
  | some s,some l => some ((aggT P t,s) :: l)
  | _,_ => none
section
variable {H : Type} {enc : TypeId × Value → H} {P : Program} {w : World} {base : Nat} {spare : Nat → Bool} {held : Bool} {N : Nat}
theorem x153 {S : DataW H → Prop} (hB : Bounded N S) {r : Reach} {b0 : Nat} {t : TypeId} {s : Sh} {v : Value} {d : DataW H} {p : List MemPlace} (hv : Value.okWide P w r b0 t v) (hs : shOf P 12 t = some s)
  (h : DataW.Trod enc P w base spare held t v d p) (hS : S d) : ∃ ds,Is N s ds ∧ RelP w (gall w) v (pvSh (aggT P t) ds) := by
 obtain ⟨fuel,hf⟩ := h
 obtain ⟨ds,h1,h2⟩ := trod_sh hB 12 t s hs fuel _ _ _ hf hS
 refine ⟨ds,h1,?_⟩
 have one : v.oneCell' = true → aggT P t = false → RelP w (gall w) v (pvSh (aggT P t) ds) := by
  intro ho ha
  rw [ha]
  rw [z142 ho] at h2
  have hl := h2.1
  match ds,hl with
  | [x],_ => exact .d _ _ (h2.2 0 v x rfl rfl)
 simp only [shOf] at hs
 split at hs
 ·rename_i hu;obtain ⟨b,rfl⟩ := okWide_bool hu hv;exact one rfl (by simp [aggT,hu])
 ·rename_i k hu;obtain ⟨n,rfl⟩ := okWide_int hu hv;exact one rfl (by simp [aggT,hu])
 ·rename_i hu;obtain ⟨b,rfl⟩ := okWide_string hu hv;exact one rfl (by simp [aggT,hu])
 ·rename_i e hu;obtain ⟨a,l,c,rfl⟩ := okWide_slice hu hv;exact one rfl (by simp [aggT,hu])
 ·rename_i fs hu
  obtain ⟨cs,rfl,_⟩ := okWide_struct hu hv
  have : aggT P t = true := by simp [aggT,hu]
  rw [this]
  have h3 := RelP.agg cs.toList ds h2.1 (fun j v x hv hx => h2.2 j v x hv hx)
  rw [Array.toArray_toList] at h3
  exact h3
 ·rename_i n e hu
  have : aggT P t = true := by simp [aggT,hu]
  rw [this]
  unfold Value.okWide at hv
  rw [hu] at hv
  obtain ⟨cs,rfl,_⟩ := hv
  have h3 := RelP.agg cs.toList ds h2.1 (fun j v x hv hx => h2.2 j v x hv hx)
  rw [Array.toArray_toList] at h3
  exact h3
 ·cases hs
theorem j97 {S : DataW H → Prop} (hB : Bounded N S) {r : Reach} {b0 : Nat} : ∀ (ts : List TypeId) (ss : List (Bool × Sh)) (vs : List Value) (ds : List (DataW H)) (ps : List MemPlace),argsOf P ts = some ss →
  (∀ (j : Nat) t v,ts[j]? = some t → vs[j]? = some v → Value.okWide P w r b0 t v) → DataW.TrodAll enc P w base spare held ts vs ds ps → (∀ d ∈ ds,S d) →
  ∃ xs,IsAll N ss xs ∧ RelPs w (gall w) vs (pvs ss xs)
 | [],ss,vs,ds,ps,h,hv,ht,hS => by
  obtain ⟨rfl,rfl,rfl⟩ := trodAll_nil ht
  cases h
  exact ⟨[],trivial,.nil _ _⟩
 |t :: ts,ss,vs,ds,ps,h,hv,ht,hS => by
  obtain ⟨v,vs',d,ds',p,q,rfl,rfl,rfl,h0,h1⟩ := trodAll_cons ht
  simp only [argsOf] at h
  split at h
  ·rename_i s l hs hl
   cases h
   obtain ⟨x,x1,x2⟩ := x153 hB (hv 0 t v rfl rfl) hs h0 (hS d (by simp))
   obtain ⟨xs,y1,y2⟩ := j97 hB ts l vs' ds' q hl (fun j t v a b => hv (j + 1) t v (by simpa using a) (by simpa using b)) h1 (fun d hd => hS d (by simp [hd]))
   exact ⟨x :: xs,⟨x1,y1⟩,.cons x2 y2⟩
  ·cases h
theorem j153 {W W' : World} (h : Below W.heap.size W W') (may : MemPlace → Prop) : W.keptBut W' may := by
 refine ⟨h.os,h.output,fun i hi => ?_⟩
 rw [h.block i hi]
 have : ∃ o,W.heap[i]? = some o := ⟨W.heap[i],by simp [hi]⟩
 obtain ⟨o,ho⟩ := this
 rw [ho]
 cases o <;> simp
theorem q154 {W W' : World} (h : Below W.heap.size W W') (a : Addr) (ha : a.block < W.heap.size) : W'.frozen? a = W.frozen? a := by
 unfold World.frozen?;rw [h.block _ ha]
theorem q98 (hl : laidOutB P = true) {W W' : World} {sp : Nat → Bool} : ∀ (ts : List TypeId) (vs : List Value) (ds : List (DataW H)) (ps : List MemPlace),(ts.all fun t => P.readableRec t && decide (t < P.types.size)) = true →
  DataW.TrodAll enc P W base (fun _ => true) true ts vs ds ps → (∀ p ∈ ps,W.sameAt W' p) → (∀ p ∈ ps,sp p.block = true) → DataW.TrodAll enc P W' base sp true ts vs ds ps
 | [],vs,ds,ps,hr,h,_,_ => by
  obtain ⟨rfl,rfl,rfl⟩ := trodAll_nil h
  rfl
 |t :: ts,vs,ds,ps,hr,h,hs,hp => by
  obtain ⟨v,vs',d,ds',p,q,rfl,rfl,rfl,h0,h1⟩ := trodAll_cons h
  simp only [List.all_cons,Bool.and_eq_true,decide_eq_true_eq] at hr
  exact ⟨p,q,WideElems.Trod_stays hl hr.1.1 hr.1.2 h0 (fun x hx => hs x (by simp [hx])) (fun x hx => hp x (by simp [hx])),
   q98 hl ts vs' ds' q hr.2 h1 (fun x hx => hs x (by simp [hx])) (fun x hx => hp x (by simp [hx])),rfl⟩
theorem z154 {f : Func} {s : ChangeSpec} {apart fresh handsOn again : Bool} {W W' : World} {args : Array Value} {tb : TypeId} {ds gs : List (DataW H)} {before : List MemPlace}
  (hl : laidOutB P = true) (hr : (f.params.toList.all fun t => P.readableRec t && decide (t < P.types.size)) = true) (hres : f.resultTypes = #[tb]) (hub : P.underlying tb = some .bool) (hv : s.vars = []) 
  (hsp : s.fn H (ds ++ gs) = { results := [.lit (.bool true)],args := ds })
  (hW : DataW.Whole enc P f.params.toList s.vars apart W args.toList ds gs before) (hB : Below W.heap.size W W') :
  s.post enc P f apart fresh handsOn again W args (.bool true) W' := by
 have hlt := hW.lt
 have hW' := hW
 obtain ⟨p,q,hA,hV,hpq,hz,hn⟩ := hW'
 rw [hv] at hV
 obtain ⟨rfl,rfl⟩ := trodVars_none hV
 rw [List.append_nil] at hpq
 subst hpq
 have hres' : ∀ (b : Nat) (sp : Nat → Bool) (hd : Bool),DataW.TrodAll enc P W' b sp hd f.resultTypes.toList ((Value.bool true).resultList f.resultTypes.size) (s.fn H (ds ++ [])).results [] := by
  intro b sp hd
  rw [hsp,hres]
  exact trodAll_mk1 (shut_bool hub true)
 have hargs : ∀ sp : Nat → Bool,(∀ x ∈ before,sp x.block = true) → DataW.TrodAll enc P W' 0 sp true f.params.toList args.toList (s.fn H (ds ++ [])).args before := by
  intro sp hs
  rw [hsp]
  exact q98 hl _ _ _ _ hr hA (fun x hx => hB.same (hlt x hx)) hs
 have hvars : ∀ sp : Nat → Bool,DataW.TrodVars enc P W' sp s.vars (s.fn H (ds ++ [])).vars [] := by
  intro sp
  rw [hsp,hv]
  rfl
 have hok : ∀ (j : Nat) (t : TypeId) (r : Value),f.resultTypes[j]? = some t → ((Value.bool true).resultList f.resultTypes.size)[j]? = some r → Value.okWide P W' .any 0 t r :=
  ok_one hres rfl (okWide_bool_mk hub true)
 have hold : ∀ x ∈ before,(fun b => decide (b < W.heap.size)) x.block = true := fun x hx => by simpa using hlt x hx
 refine ⟨ds,[],before,[],before,[],hW,hres' _ _ _,hargs _ hold,hvars _,j153 hB _,fun _ => ?_⟩
 refine ⟨hok,_,_,([] ++ before) ++ [],⟨[] ++ before,[],trodAll_append (hargs _ (fun _ _ => rfl)) (hres' _ _ _),hvars _,rfl,?_,?_⟩,?_⟩
 ·intro b off hp
  have hp' : MemPlace.cell b off ∈ before := by simpa using hp
  rw [q154 hB _ (hlt _ hp')]
  exact hz b off hp'
 ·intro ha
  simpa using hn ha
 ·intro p hp _
  simpa using hp
theorem x154 {S : DataW H → Prop} (hS : Bounded N S) {f : FuncId} {fn : Func} {s : ChangeSpec} {tb : TypeId} {ss : List (Bool × Sh)} {fresh handsOn again : Bool} (hf : P.funcs[f]? = some fn) (hb : fn.body.isSome = true) (hname : (fn.name == "runtime.NumGoroutine") = false)
  (hl : laidOutB P = true) (hr : (fn.params.toList.all fun t => P.readableRec t && decide (t < P.types.size)) = true) (hres : fn.resultTypes = #[tb]) (hub : P.underlying tb = some .bool) (hv : s.vars = [])
  (hss : argsOf P fn.params.toList = some ss) (hsp : ∀ ds : List (DataW H),ds.length = fn.params.toList.length → s.fn H (ds ++ []) = { results := [.lit (.bool true)],args := ds })
  (law : ∀ xs,IsAll N ss xs → ACalls P f (pvs ss xs) (· = [.d (.v (.bool true))]))
  (W : World) (base : Nat) (args : Array Value) (ds gs : List (DataW H)) (before : List MemPlace)
  (hval : ∀ (j : Nat) t v,fn.params[j]? = some t → args[j]? = some v → Value.okWide P W .any base t v) (hW : DataW.Whole enc P fn.params.toList s.vars false W args.toList ds gs before) (hSd : ∀ d ∈ ds,S d) :
  Calls P f args W fun e W' => ∃ v,e = .returned v ∧ s.post enc P fn false fresh handsOn again W args v W' := by
 have hW' := hW
 obtain ⟨p,q,hA,hV,hpq,hz,hn⟩ := hW'
 rw [hv] at hV
 obtain ⟨rfl,rfl⟩ := trodVars_none hV
 obtain ⟨xs,x1,x2⟩ := j97 hS fn.params.toList ss args.toList ds p hss (fun j t v a b => hval j t v (by simpa using a) (by simpa using b)) hA hSd
 have hlen : ∀ (ts : List TypeId) (vs : List Value) (ds : List (DataW H)) (ps : List MemPlace),DataW.TrodAll enc P W 0 (fun _ => true) true ts vs ds ps → ds.length = ts.length := by
  intro ts
  induction ts with
  | nil => intro vs ds ps h;obtain ⟨rfl,rfl,rfl⟩ := trodAll_nil h;rfl
  | cons t ts ih => intro vs ds ps h;obtain ⟨v,vs',d,ds',p,q,rfl,rfl,rfl,h0,h1⟩ := trodAll_cons h;simp [ih _ _ _ h1]
 refine (q153 (law xs x1) hf hb hname (gall_gz W) x2).mono fun e W' ⟨he,hg⟩ => ?_
 exact ⟨_,he,z154 hl hr hres hub hv (hsp ds (hlen _ _ _ _ hA)) hW hg⟩
end
end AL
theorem one_le {H : Type} (d : DataW H) : 1 ≤ Rows.uptoBulk d := by
 cases d with
 | lit l => cases l <;> simp [Rows.uptoBulk]
 | nil => simp [Rows.uptoBulk]
 | ptr d => simp [Rows.uptoBulk]
 | slice elems spare => simp [Rows.uptoBulk]
 | agg parts => simp [Rows.uptoBulk]
 | iface t d => simp [Rows.uptoBulk]
 | map entries => simp [Rows.uptoBulk]
 | held h => simp [Rows.uptoBulk]
theorem z72 {H : Type} {d : DataW H} {l : List (DataW H)} (h : d ∈ l) : Rows.uptoBulk d ≤ Rows.uptoBulkAll l := by
 induction l with
 | nil => cases h
 |cons x r ih =>
  simp only [Rows.uptoBulkAll]
  cases List.mem_cons.1 h with
  | inl e => subst e;omega
  | inr e => have := ih e;omega
theorem j154 {H : Type} (l : List (DataW H)) : l.length ≤ Rows.uptoBulkAll l := by
 induction l with
 | nil => simp [Rows.uptoBulkAll]
 | cons x r ih => have := one_le x;simp only [Rows.uptoBulkAll,List.length_cons];omega
theorem q155 {H : Type} : Bounded (H := H) 1048576 (fun d => Rows.uptoBulk d ≤ 1048576) where
 agg l h x hx := by have := z72 hx;simp only [Rows.uptoBulk] at h;omega
 slice l r h _ := by
  simp only [Rows.uptoBulk] at h
  exact ⟨by have := j154 l;omega,fun x hx => by have := z72 hx;omega⟩
 str l h _ := by simp only [Rows.uptoBulk] at h;omega
theorem z155 {H : Type} {l : List (DataW H)} (hk : Rows.uptoSmall H (l ++ []) = true) : ∀ d ∈ l,Rows.uptoBulk d ≤ 1048576 := by
 have h : Rows.uptoBulkAll (l ++ []) ≤ 1048576 := of_decide_eq_true hk
 intro d hd
 rw [List.append_nil] at h
 have := z72 hd
 omega
def headSh : Sh := .pair (.int .u64) (.pair (.int .u64) .unit)
def cubeSh : Sh := .pair headSh (.pair headSh .unit)
theorem is_hd {N : Nat} {ds : List Dat} (h : Is N headSh ds) : ∃ x : BitVec 128,ds = hd x := by
 obtain ⟨_,_,rfl,⟨a,rfl,wa⟩,_,_,rfl,⟨b,rfl,wb⟩,rfl⟩ := h
 have h1 := z96 wa;have h2 := z96 wb
 obtain ⟨x,rfl,rfl⟩ := x149 h1.1 h1.2 h2.1 h2.2
 exact ⟨x,rfl⟩
theorem is_cb {N : Nat} {ds : List Dat} (h : Is N cubeSh ds) : ∃ k : Cube,ds = cb k := by
 obtain ⟨_,_,rfl,ha,_,_,rfl,hb,rfl⟩ := h
 obtain ⟨x,rfl⟩ := is_hd ha
 obtain ⟨y,rfl⟩ := is_hd hb
 exact ⟨⟨x,y⟩,rfl⟩
end Go.Proofs.YtemcdefpihkfpaaGreat
namespace Go.Proofs.YtemcdefpihkfpaaGreat
open Go.Proofs.YtemcdefpihkfpaaGreat.AL
@[go_sem] theorem fu1 : isFuncT Tryz.prog 1 = true := by kernel_rfl
@[go_sem] theorem fu26 : isFuncT Tryz.prog 26 = true := by kernel_rfl
@[go_sem] theorem fu29 : isFuncT Tryz.prog 29 = true := by kernel_rfl
@[go_sem] theorem fu33 : isFuncT Tryz.prog 33 = true := by kernel_rfl
@[go_sem] theorem fu34 : isFuncT Tryz.prog 34 = true := by kernel_rfl
@[go_sem] theorem fu35 : isFuncT Tryz.prog 35 = true := by kernel_rfl
@[go_sem] theorem fu37 : isFuncT Tryz.prog 37 = true := by kernel_rfl
@[go_sem] theorem fu39 : isFuncT Tryz.prog 39 = true := by kernel_rfl
@[go_sem] theorem fu40 : isFuncT Tryz.prog 40 = true := by kernel_rfl
@[go_sem] theorem fu43 : isFuncT Tryz.prog 43 = true := by kernel_rfl
@[go_sem] theorem fu44 : isFuncT Tryz.prog 44 = true := by kernel_rfl
@[go_sem] theorem fu47 : isFuncT Tryz.prog 47 = true := by kernel_rfl
@[go_sem] theorem fu48 : isFuncT Tryz.prog 48 = true := by kernel_rfl
@[go_sem] theorem fu49 : isFuncT Tryz.prog 49 = true := by kernel_rfl
@[go_sem] theorem fu50 : isFuncT Tryz.prog 50 = true := by kernel_rfl
@[go_sem] theorem fu51 : isFuncT Tryz.prog 51 = true := by kernel_rfl
@[go_sem] theorem fu55 : isFuncT Tryz.prog 55 = true := by kernel_rfl
@[go_sem] theorem fu56 : isFuncT Tryz.prog 56 = true := by kernel_rfl
@[go_sem] theorem fu57 : isFuncT Tryz.prog 57 = true := by kernel_rfl
@[go_sem] theorem fu58 : isFuncT Tryz.prog 58 = true := by kernel_rfl
@[go_sem] theorem fu60 : isFuncT Tryz.prog 60 = true := by kernel_rfl
@[go_sem] theorem fu62 : isFuncT Tryz.prog 62 = true := by kernel_rfl
@[go_sem] theorem fu63 : isFuncT Tryz.prog 63 = true := by kernel_rfl
@[go_sem] theorem fu65 : isFuncT Tryz.prog 65 = true := by kernel_rfl
@[go_sem] theorem fu70 : isFuncT Tryz.prog 70 = true := by kernel_rfl
@[go_sem] theorem fu72 : isFuncT Tryz.prog 72 = true := by kernel_rfl
@[go_sem] theorem fu73 : isFuncT Tryz.prog 73 = true := by kernel_rfl
@[go_sem] theorem fu74 : isFuncT Tryz.prog 74 = true := by kernel_rfl
@[go_sem] theorem fu88 : isFuncT Tryz.prog 88 = true := by kernel_rfl
@[go_sem] theorem fu89 : isFuncT Tryz.prog 89 = true := by kernel_rfl
@[go_sem] theorem fu90 : isFuncT Tryz.prog 90 = true := by kernel_rfl
@[go_sem] theorem fu91 : isFuncT Tryz.prog 91 = true := by kernel_rfl
@[go_sem] theorem fu92 : isFuncT Tryz.prog 92 = true := by kernel_rfl
@[go_sem] theorem fu96 : isFuncT Tryz.prog 96 = true := by kernel_rfl
@[go_sem] theorem fu99 : isFuncT Tryz.prog 99 = true := by kernel_rfl
@[go_sem] theorem fu100 : isFuncT Tryz.prog 100 = true := by kernel_rfl
@[go_sem] theorem fu101 : isFuncT Tryz.prog 101 = true := by kernel_rfl
@[go_sem] theorem fu102 : isFuncT Tryz.prog 102 = true := by kernel_rfl
@[go_sem] theorem fu103 : isFuncT Tryz.prog 103 = true := by kernel_rfl
@[go_sem] theorem fu104 : isFuncT Tryz.prog 104 = true := by kernel_rfl
@[go_sem] theorem fu105 : isFuncT Tryz.prog 105 = true := by kernel_rfl
@[go_sem] theorem fu106 : isFuncT Tryz.prog 106 = true := by kernel_rfl
@[go_sem] theorem fu107 : isFuncT Tryz.prog 107 = true := by kernel_rfl
@[go_sem] theorem fu108 : isFuncT Tryz.prog 108 = true := by kernel_rfl
@[go_sem] theorem fu109 : isFuncT Tryz.prog 109 = true := by kernel_rfl
@[go_sem] theorem fu110 : isFuncT Tryz.prog 110 = true := by kernel_rfl
@[go_sem] theorem fu111 : isFuncT Tryz.prog 111 = true := by kernel_rfl
@[go_sem] theorem fu113 : isFuncT Tryz.prog 113 = true := by kernel_rfl
@[go_sem] theorem fu114 : isFuncT Tryz.prog 114 = true := by kernel_rfl
@[go_sem] theorem fu115 : isFuncT Tryz.prog 115 = true := by kernel_rfl
@[go_sem] theorem fu116 : isFuncT Tryz.prog 116 = true := by kernel_rfl
@[go_sem] theorem fu118 : isFuncT Tryz.prog 118 = true := by kernel_rfl
@[go_sem] theorem fu119 : isFuncT Tryz.prog 119 = true := by kernel_rfl
@[go_sem] theorem fu121 : isFuncT Tryz.prog 121 = true := by kernel_rfl
@[go_sem] theorem fu122 : isFuncT Tryz.prog 122 = true := by kernel_rfl
@[go_sem] theorem fu124 : isFuncT Tryz.prog 124 = true := by kernel_rfl
@[go_sem] theorem fu125 : isFuncT Tryz.prog 125 = true := by kernel_rfl
@[go_sem] theorem fu126 : isFuncT Tryz.prog 126 = true := by kernel_rfl
@[go_sem] theorem fu127 : isFuncT Tryz.prog 127 = true := by kernel_rfl
@[go_sem] theorem fu128 : isFuncT Tryz.prog 128 = true := by kernel_rfl
@[go_sem] theorem fu129 : isFuncT Tryz.prog 129 = true := by kernel_rfl
@[go_sem] theorem fu130 : isFuncT Tryz.prog 130 = true := by kernel_rfl
@[go_sem] theorem fu131 : isFuncT Tryz.prog 131 = true := by kernel_rfl
@[go_sem] theorem fu132 : isFuncT Tryz.prog 132 = true := by kernel_rfl
@[go_sem] theorem fu139 : isFuncT Tryz.prog 139 = true := by kernel_rfl
@[go_sem] theorem fu140 : isFuncT Tryz.prog 140 = true := by kernel_rfl
@[go_sem] theorem fu141 : isFuncT Tryz.prog 141 = true := by kernel_rfl
@[go_sem] theorem fu142 : isFuncT Tryz.prog 142 = true := by kernel_rfl
@[go_sem] theorem fu143 : isFuncT Tryz.prog 143 = true := by kernel_rfl
@[go_sem] theorem fu144 : isFuncT Tryz.prog 144 = true := by kernel_rfl
@[go_sem] theorem fu145 : isFuncT Tryz.prog 145 = true := by kernel_rfl
@[go_sem] theorem fu147 : isFuncT Tryz.prog 147 = true := by kernel_rfl
@[go_sem] theorem fu148 : isFuncT Tryz.prog 148 = true := by kernel_rfl
@[go_sem] theorem fu150 : isFuncT Tryz.prog 150 = true := by kernel_rfl
@[go_sem] theorem fu151 : isFuncT Tryz.prog 151 = true := by kernel_rfl
@[go_sem] theorem fu152 : isFuncT Tryz.prog 152 = true := by kernel_rfl
@[go_sem] theorem fu153 : isFuncT Tryz.prog 153 = true := by kernel_rfl
@[go_sem] theorem fu154 : isFuncT Tryz.prog 154 = true := by kernel_rfl
@[go_sem] theorem fu155 : isFuncT Tryz.prog 155 = true := by kernel_rfl
@[go_sem] theorem fu156 : isFuncT Tryz.prog 156 = true := by kernel_rfl
@[go_sem] theorem fu157 : isFuncT Tryz.prog 157 = true := by kernel_rfl
@[go_sem] theorem fu159 : isFuncT Tryz.prog 159 = true := by kernel_rfl
@[go_sem] theorem fu160 : isFuncT Tryz.prog 160 = true := by kernel_rfl
@[go_sem] theorem fu161 : isFuncT Tryz.prog 161 = true := by kernel_rfl
@[go_sem] theorem fu163 : isFuncT Tryz.prog 163 = true := by kernel_rfl
@[go_sem] theorem fu164 : isFuncT Tryz.prog 164 = true := by kernel_rfl
@[go_sem] theorem fu165 : isFuncT Tryz.prog 165 = true := by kernel_rfl
@[go_sem] theorem fu166 : isFuncT Tryz.prog 166 = true := by kernel_rfl
@[go_sem] theorem fu167 : isFuncT Tryz.prog 167 = true := by kernel_rfl
@[go_sem] theorem fu168 : isFuncT Tryz.prog 168 = true := by kernel_rfl
@[go_sem] theorem fu169 : isFuncT Tryz.prog 169 = true := by kernel_rfl
@[go_sem] theorem fu170 : isFuncT Tryz.prog 170 = true := by kernel_rfl
@[go_sem] theorem fu172 : isFuncT Tryz.prog 172 = true := by kernel_rfl
@[go_sem] theorem fu173 : isFuncT Tryz.prog 173 = true := by kernel_rfl
@[go_sem] theorem fu174 : isFuncT Tryz.prog 174 = true := by kernel_rfl
@[go_sem] theorem fu175 : isFuncT Tryz.prog 175 = true := by kernel_rfl
@[go_sem] theorem fu176 : isFuncT Tryz.prog 176 = true := by kernel_rfl
@[go_sem] theorem fu177 : isFuncT Tryz.prog 177 = true := by kernel_rfl
@[go_sem] theorem fu178 : isFuncT Tryz.prog 178 = true := by kernel_rfl
@[go_sem] theorem fu181 : isFuncT Tryz.prog 181 = true := by kernel_rfl
@[go_sem] theorem fu182 : isFuncT Tryz.prog 182 = true := by kernel_rfl
@[go_sem] theorem fu183 : isFuncT Tryz.prog 183 = true := by kernel_rfl
@[go_sem] theorem fu184 : isFuncT Tryz.prog 184 = true := by kernel_rfl
@[go_sem] theorem fu186 : isFuncT Tryz.prog 186 = true := by kernel_rfl
@[go_sem] theorem fu190 : isFuncT Tryz.prog 190 = true := by kernel_rfl
@[go_sem] theorem fu191 : isFuncT Tryz.prog 191 = true := by kernel_rfl
@[go_sem] theorem fu192 : isFuncT Tryz.prog 192 = true := by kernel_rfl
@[go_sem] theorem fu193 : isFuncT Tryz.prog 193 = true := by kernel_rfl
@[go_sem] theorem fu194 : isFuncT Tryz.prog 194 = true := by kernel_rfl
@[go_sem] theorem fu196 : isFuncT Tryz.prog 196 = true := by kernel_rfl
@[go_sem] theorem fu197 : isFuncT Tryz.prog 197 = true := by kernel_rfl
@[go_sem] theorem fu199 : isFuncT Tryz.prog 199 = true := by kernel_rfl
@[go_sem] theorem fu200 : isFuncT Tryz.prog 200 = true := by kernel_rfl
@[go_sem] theorem fu201 : isFuncT Tryz.prog 201 = true := by kernel_rfl
@[go_sem] theorem fu202 : isFuncT Tryz.prog 202 = true := by kernel_rfl
@[go_sem] theorem fu203 : isFuncT Tryz.prog 203 = true := by kernel_rfl
@[go_sem] theorem fu204 : isFuncT Tryz.prog 204 = true := by kernel_rfl
@[go_sem] theorem fu207 : isFuncT Tryz.prog 207 = true := by kernel_rfl
@[go_sem] theorem fu208 : isFuncT Tryz.prog 208 = true := by kernel_rfl
@[go_sem] theorem fu209 : isFuncT Tryz.prog 209 = true := by kernel_rfl
@[go_sem] theorem fu210 : isFuncT Tryz.prog 210 = true := by kernel_rfl
@[go_sem] theorem fu211 : isFuncT Tryz.prog 211 = true := by kernel_rfl
@[go_sem] theorem fu213 : isFuncT Tryz.prog 213 = true := by kernel_rfl
@[go_sem] theorem fu214 : isFuncT Tryz.prog 214 = true := by kernel_rfl
@[go_sem] theorem fu215 : isFuncT Tryz.prog 215 = true := by kernel_rfl
@[go_sem] theorem fu217 : isFuncT Tryz.prog 217 = true := by kernel_rfl
@[go_sem] theorem fu219 : isFuncT Tryz.prog 219 = true := by kernel_rfl
@[go_sem] theorem fu220 : isFuncT Tryz.prog 220 = true := by kernel_rfl
@[go_sem] theorem fu221 : isFuncT Tryz.prog 221 = true := by kernel_rfl
@[go_sem] theorem fu222 : isFuncT Tryz.prog 222 = true := by kernel_rfl
@[go_sem] theorem fu223 : isFuncT Tryz.prog 223 = true := by kernel_rfl
@[go_sem] theorem fu224 : isFuncT Tryz.prog 224 = true := by kernel_rfl
@[go_sem] theorem fu225 : isFuncT Tryz.prog 225 = true := by kernel_rfl
@[go_sem] theorem fu227 : isFuncT Tryz.prog 227 = true := by kernel_rfl
@[go_sem] theorem fu228 : isFuncT Tryz.prog 228 = true := by kernel_rfl
@[go_sem] theorem fu229 : isFuncT Tryz.prog 229 = true := by kernel_rfl
@[go_sem] theorem fu231 : isFuncT Tryz.prog 231 = true := by kernel_rfl
@[go_sem] theorem fu233 : isFuncT Tryz.prog 233 = true := by kernel_rfl
@[go_sem] theorem fu234 : isFuncT Tryz.prog 234 = true := by kernel_rfl
@[go_sem] theorem fu235 : isFuncT Tryz.prog 235 = true := by kernel_rfl
@[go_sem] theorem fu238 : isFuncT Tryz.prog 238 = true := by kernel_rfl
@[go_sem] theorem fu239 : isFuncT Tryz.prog 239 = true := by kernel_rfl
@[go_sem] theorem fu240 : isFuncT Tryz.prog 240 = true := by kernel_rfl
@[go_sem] theorem fu246 : isFuncT Tryz.prog 246 = true := by kernel_rfl
@[go_sem] theorem fu249 : isFuncT Tryz.prog 249 = true := by kernel_rfl
@[go_sem] theorem fu255 : isFuncT Tryz.prog 255 = true := by kernel_rfl
@[go_sem] theorem ty1 : tiOf Tryz.prog 1 = some ⟨.other,1,[.nilFunc]⟩ := by kernel_rfl
@[go_sem] theorem ty2 : tiOf Tryz.prog 2 = some ⟨.int .i64,1,[.int .i64 0]⟩ := by kernel_rfl
@[go_sem] theorem ty3 : tiOf Tryz.prog 3 = some ⟨.int .i64,1,[.int .i64 0]⟩ := by kernel_rfl
@[go_sem] theorem ty4 : tiOf Tryz.prog 4 = some ⟨.bool,1,[.bool false]⟩ := by kernel_rfl
@[go_sem] theorem un4 : Tryz.prog.underlying 4 = some .bool := by kernel_rfl
@[go_sem] theorem ty5 : tiOf Tryz.prog 5 = some ⟨.int .u8,1,[.int .u8 0]⟩ := by kernel_rfl
@[go_sem] theorem ty6 : tiOf Tryz.prog 6 = some ⟨.int .u8,1,[.int .u8 0]⟩ := by kernel_rfl
@[go_sem] theorem ty7 : tiOf Tryz.prog 7 = some ⟨.struct [(0,1,false),(1,1,false),(2,1,false),(3,1,false)],4,[.int .i64 0,.int .i64 0,.bool false,.int .u8 0]⟩ := by kernel_rfl
@[go_sem] theorem ty8 : tiOf Tryz.prog 8 = some ⟨.struct [(0,1,false),(1,1,false),(2,1,false),(3,1,false)],4,[.int .i64 0,.int .i64 0,.bool false,.int .u8 0]⟩ := by kernel_rfl
@[go_sem] theorem ty9 : tiOf Tryz.prog 9 = some ⟨.string,1,[.string ⟨#[]⟩]⟩ := by kernel_rfl
@[go_sem] theorem ty10 : tiOf Tryz.prog 10 = some ⟨.string,1,[.string ⟨#[]⟩]⟩ := by kernel_rfl
@[go_sem] theorem ty11 : tiOf Tryz.prog 11 = some ⟨.string,1,[.string ⟨#[]⟩]⟩ := by kernel_rfl
@[go_sem] theorem ty12 : tiOf Tryz.prog 12 = some ⟨.int .u64,1,[.int .u64 0]⟩ := by kernel_rfl
@[go_sem] theorem ty13 : tiOf Tryz.prog 13 = some ⟨.struct [(0,1,false),(1,1,false)],2,[.string ⟨#[]⟩,.int .u64 0]⟩ := by kernel_rfl
@[go_sem] theorem ty14 : tiOf Tryz.prog 14 = some ⟨.struct [(0,1,false),(1,1,false)],2,[.string ⟨#[]⟩,.int .u64 0]⟩ := by kernel_rfl
@[go_sem] theorem ty15 : tiOf Tryz.prog 15 = some ⟨.ptr,1,[.pointer none]⟩ := by kernel_rfl
@[go_sem] theorem ty16 : tiOf Tryz.prog 16 = some ⟨.ptr,1,[.pointer none]⟩ := by kernel_rfl
@[go_sem] theorem ty17 : tiOf Tryz.prog 17 = some ⟨.ptr,1,[.pointer none]⟩ := by kernel_rfl
@[go_sem] theorem ty18 : tiOf Tryz.prog 18 = some ⟨.struct [(0,1,false)],1,[.pointer none]⟩ := by kernel_rfl
@[go_sem] theorem ty19 : tiOf Tryz.prog 19 = some ⟨.struct [(0,1,false)],1,[.pointer none]⟩ := by kernel_rfl
@[go_sem] theorem ty21 : tiOf Tryz.prog 21 = some ⟨.int .i32,1,[.int .i32 0]⟩ := by kernel_rfl
@[go_sem] theorem ty22 : tiOf Tryz.prog 22 = some ⟨.slice 53 4 32,1,[.slice none 0 0]⟩ := by kernel_rfl
@[go_sem] theorem ty23 : tiOf Tryz.prog 23 = some ⟨.int .u64,1,[.int .u64 0]⟩ := by kernel_rfl
@[go_sem] theorem ty24 : tiOf Tryz.prog 24 = some ⟨.struct [(0,1,false),(1,1,false)],2,[.int .u64 0,.int .u64 0]⟩ := by kernel_rfl
@[go_sem] theorem ty25 : tiOf Tryz.prog 25 = some ⟨.struct [(0,1,false),(1,1,false)],2,[.int .u64 0,.int .u64 0]⟩ := by kernel_rfl
theorem x9 : EqTy Tryz.prog 25 [.u64,.u64] := by
 refine ⟨by kernel_rfl,fun w xs ys hx hy => ?_⟩
 rcases xs with _ | ⟨a1,_ | ⟨a2,_ | ⟨a3,ar⟩⟩⟩ <;> first | (simp at hx;done) | skip
 rcases ys with _ | ⟨b1,_ | ⟨b2,_ | ⟨b3,br⟩⟩⟩ <;> first | (simp at hy;done) | skip
 show (Op.equalIn 10000 25 _ _).run _ _ = _
 simp [go_sem,ints,eqI]
 by_cases h1 : a1 = b1
 case neg => simp [h1]
 by_cases h2 : a2 = b2
 case neg => simp [h1,h2]
 simp [h1,h2]
@[go_sem] theorem ty26 : tiOf Tryz.prog 26 = some ⟨.other,1,[.nilFunc]⟩ := by kernel_rfl
@[go_sem] theorem ty27 : tiOf Tryz.prog 27 = some ⟨.slice 9 1 16,1,[.slice none 0 0]⟩ := by kernel_rfl
@[go_sem] theorem ty29 : tiOf Tryz.prog 29 = some ⟨.other,1,[.nilFunc]⟩ := by kernel_rfl
@[go_sem] theorem ty30 : tiOf Tryz.prog 30 = some ⟨.slice 42 4 64,1,[.slice none 0 0]⟩ := by kernel_rfl
@[go_sem] theorem ty31 : tiOf Tryz.prog 31 = some ⟨.int .i64,1,[.int .i64 0]⟩ := by kernel_rfl
@[go_sem] theorem ty33 : tiOf Tryz.prog 33 = some ⟨.other,1,[.nilFunc]⟩ := by kernel_rfl
@[go_sem] theorem ty34 : tiOf Tryz.prog 34 = some ⟨.other,1,[.nilFunc]⟩ := by kernel_rfl
@[go_sem] theorem ty35 : tiOf Tryz.prog 35 = some ⟨.other,1,[.nilFunc]⟩ := by kernel_rfl
@[go_sem] theorem ty36 : tiOf Tryz.prog 36 = some ⟨.slice 3 1 8,1,[.slice none 0 0]⟩ := by kernel_rfl
@[go_sem] theorem ty37 : tiOf Tryz.prog 37 = some ⟨.other,1,[.nilFunc]⟩ := by kernel_rfl
@[go_sem] theorem ty39 : tiOf Tryz.prog 39 = some ⟨.other,1,[.nilFunc]⟩ := by kernel_rfl
@[go_sem] theorem ty40 : tiOf Tryz.prog 40 = some ⟨.other,1,[.nilFunc]⟩ := by kernel_rfl
@[go_sem] theorem ty41 : tiOf Tryz.prog 41 = some ⟨.struct [(0,1,false),(1,2,true),(3,1,false)],4,[.slice none 0 0,.int .u64 0,.int .u64 0,.slice none 0 0]⟩ := by kernel_rfl
@[go_sem] theorem ty42 : tiOf Tryz.prog 42 = some ⟨.struct [(0,1,false),(1,2,true),(3,1,false)],4,[.slice none 0 0,.int .u64 0,.int .u64 0,.slice none 0 0]⟩ := by kernel_rfl
@[go_sem] theorem ty43 : tiOf Tryz.prog 43 = some ⟨.other,1,[.nilFunc]⟩ := by kernel_rfl
@[go_sem] theorem ty44 : tiOf Tryz.prog 44 = some ⟨.other,1,[.nilFunc]⟩ := by kernel_rfl
@[go_sem] theorem ty45 : tiOf Tryz.prog 45 = some ⟨.slice 5 1 1,1,[.slice none 0 0]⟩ := by kernel_rfl
@[go_sem] theorem ty46 : tiOf Tryz.prog 46 = some ⟨.slice 27 1 24,1,[.slice none 0 0]⟩ := by kernel_rfl
@[go_sem] theorem ty47 : tiOf Tryz.prog 47 = some ⟨.other,1,[.nilFunc]⟩ := by kernel_rfl
@[go_sem] theorem ty48 : tiOf Tryz.prog 48 = some ⟨.other,1,[.nilFunc]⟩ := by kernel_rfl
@[go_sem] theorem ty49 : tiOf Tryz.prog 49 = some ⟨.other,1,[.nilFunc]⟩ := by kernel_rfl
@[go_sem] theorem ty50 : tiOf Tryz.prog 50 = some ⟨.other,1,[.nilFunc]⟩ := by kernel_rfl
@[go_sem] theorem ty51 : tiOf Tryz.prog 51 = some ⟨.other,1,[.nilFunc]⟩ := by kernel_rfl
@[go_sem] theorem ty52 : tiOf Tryz.prog 52 = some ⟨.struct [(0,2,true),(2,2,true)],4,[.int .u64 0,.int .u64 0,.int .u64 0,.int .u64 0]⟩ := by kernel_rfl
@[go_sem] theorem ty53 : tiOf Tryz.prog 53 = some ⟨.struct [(0,2,true),(2,2,true)],4,[.int .u64 0,.int .u64 0,.int .u64 0,.int .u64 0]⟩ := by kernel_rfl
theorem z10 : EqTy Tryz.prog 53 [.u64,.u64,.u64,.u64] := by
 refine ⟨by kernel_rfl,fun w xs ys hx hy => ?_⟩
 rcases xs with _ | ⟨a1,_ | ⟨a2,_ | ⟨a3,_ | ⟨a4,_ | ⟨a5,ar⟩⟩⟩⟩⟩ <;> first | (simp at hx;done) | skip
 rcases ys with _ | ⟨b1,_ | ⟨b2,_ | ⟨b3,_ | ⟨b4,_ | ⟨b5,br⟩⟩⟩⟩⟩ <;> first | (simp at hy;done) | skip
 show (Op.equalIn 10000 53 _ _).run _ _ = _
 simp [go_sem,ints,eqI]
 by_cases h1 : a1 = b1
 case neg => simp [h1]
 by_cases h2 : a2 = b2
 case neg => simp [h1,h2]
 by_cases h3 : a3 = b3
 case neg => simp [h1,h2,h3]
 by_cases h4 : a4 = b4
 case neg => simp [h1,h2,h3,h4]
 simp [h1,h2,h3,h4]
@[go_sem] theorem ty55 : tiOf Tryz.prog 55 = some ⟨.other,1,[.nilFunc]⟩ := by kernel_rfl
@[go_sem] theorem ty56 : tiOf Tryz.prog 56 = some ⟨.other,1,[.nilFunc]⟩ := by kernel_rfl
@[go_sem] theorem ty57 : tiOf Tryz.prog 57 = some ⟨.other,1,[.nilFunc]⟩ := by kernel_rfl
@[go_sem] theorem ty58 : tiOf Tryz.prog 58 = some ⟨.other,1,[.nilFunc]⟩ := by kernel_rfl
@[go_sem] theorem ty59 : tiOf Tryz.prog 59 = some ⟨.slice 69 12 96,1,[.slice none 0 0]⟩ := by kernel_rfl
@[go_sem] theorem ty60 : tiOf Tryz.prog 60 = some ⟨.other,1,[.nilFunc]⟩ := by kernel_rfl
@[go_sem] theorem ty62 : tiOf Tryz.prog 62 = some ⟨.other,1,[.nilFunc]⟩ := by kernel_rfl
@[go_sem] theorem ty63 : tiOf Tryz.prog 63 = some ⟨.other,1,[.nilFunc]⟩ := by kernel_rfl
@[go_sem] theorem ty65 : tiOf Tryz.prog 65 = some ⟨.other,1,[.nilFunc]⟩ := by kernel_rfl
@[go_sem] theorem ty66 : tiOf Tryz.prog 66 = some ⟨.struct [(0,1,false),(1,1,false),(2,1,false),(3,4,true)],7,[.int .i64 0,.int .i64 0,.int .i64 0,.int .u64 0,.int .u64 0,.int .u64 0,.int .u64 0]⟩ := by kernel_rfl
@[go_sem] theorem ty67 : tiOf Tryz.prog 67 = some ⟨.struct [(0,1,false),(1,1,false),(2,1,false),(3,4,true)],7,[.int .i64 0,.int .i64 0,.int .i64 0,.int .u64 0,.int .u64 0,.int .u64 0,.int .u64 0]⟩ := by kernel_rfl
theorem z17 : EqTy Tryz.prog 67 [.i64,.i64,.i64,.u64,.u64,.u64,.u64] := by
 refine ⟨by kernel_rfl,fun w xs ys hx hy => ?_⟩
 rcases xs with _ | ⟨a1,_ | ⟨a2,_ | ⟨a3,_ | ⟨a4,_ | ⟨a5,_ | ⟨a6,_ | ⟨a7,_ | ⟨a8,ar⟩⟩⟩⟩⟩⟩⟩⟩ <;> first | (simp at hx;done) | skip
 rcases ys with _ | ⟨b1,_ | ⟨b2,_ | ⟨b3,_ | ⟨b4,_ | ⟨b5,_ | ⟨b6,_ | ⟨b7,_ | ⟨b8,br⟩⟩⟩⟩⟩⟩⟩⟩ <;> first | (simp at hy;done) | skip
 show (Op.equalIn 10000 67 _ _).run _ _ = _
 simp [go_sem,ints,eqI]
 by_cases h1 : a1 = b1
 case neg => simp [h1]
 by_cases h2 : a2 = b2
 case neg => simp [h1,h2]
 by_cases h3 : a3 = b3
 case neg => simp [h1,h2,h3]
 by_cases h4 : a4 = b4
 case neg => simp [h1,h2,h3,h4]
 by_cases h5 : a5 = b5
 case neg => simp [h1,h2,h3,h4,h5]
 by_cases h6 : a6 = b6
 case neg => simp [h1,h2,h3,h4,h5,h6]
 by_cases h7 : a7 = b7
 case neg => simp [h1,h2,h3,h4,h5,h6,h7]
 simp [h1,h2,h3,h4,h5,h6,h7]
@[go_sem] theorem ty68 : tiOf Tryz.prog 68 = some ⟨.struct [(0,1,false),(1,4,true),(5,7,true)],12,[.int .i64 0,.int .u64 0,.int .u64 0,.int .u64 0,.int .u64 0,.int .i64 0,.int .i64 0,.int .i64 0,.int .u64 0,.int .u64 0,.int .u64 0,.int .u64 0]⟩ := by kernel_rfl
@[go_sem] theorem ty69 : tiOf Tryz.prog 69 = some ⟨.struct [(0,1,false),(1,4,true),(5,7,true)],12,[.int .i64 0,.int .u64 0,.int .u64 0,.int .u64 0,.int .u64 0,.int .i64 0,.int .i64 0,.int .i64 0,.int .u64 0,.int .u64 0,.int .u64 0,.int .u64 0]⟩ := by kernel_rfl
theorem z13 : EqTy Tryz.prog 69 [.i64,.u64,.u64,.u64,.u64,.i64,.i64,.i64,.u64,.u64,.u64,.u64] := by
 refine ⟨by kernel_rfl,fun w xs ys hx hy => ?_⟩
 rcases xs with _ | ⟨a1,_ | ⟨a2,_ | ⟨a3,_ | ⟨a4,_ | ⟨a5,_ | ⟨a6,_ | ⟨a7,_ | ⟨a8,_ | ⟨a9,_ | ⟨a10,_ | ⟨a11,_ | ⟨a12,_ | ⟨a13,ar⟩⟩⟩⟩⟩⟩⟩⟩⟩⟩⟩⟩⟩ <;> first | (simp at hx;done) | skip
 rcases ys with _ | ⟨b1,_ | ⟨b2,_ | ⟨b3,_ | ⟨b4,_ | ⟨b5,_ | ⟨b6,_ | ⟨b7,_ | ⟨b8,_ | ⟨b9,_ | ⟨b10,_ | ⟨b11,_ | ⟨b12,_ | ⟨b13,br⟩⟩⟩⟩⟩⟩⟩⟩⟩⟩⟩⟩⟩ <;> first | (simp at hy;done) | skip
 show (Op.equalIn 10000 69 _ _).run _ _ = _
 simp [go_sem,ints,eqI]
 by_cases h1 : a1 = b1
 case neg => simp [h1]
 by_cases h2 : a2 = b2
 case neg => simp [h1,h2]
 by_cases h3 : a3 = b3
 case neg => simp [h1,h2,h3]
 by_cases h4 : a4 = b4
 case neg => simp [h1,h2,h3,h4]
 by_cases h5 : a5 = b5
 case neg => simp [h1,h2,h3,h4,h5]
 by_cases h6 : a6 = b6
 case neg => simp [h1,h2,h3,h4,h5,h6]
 by_cases h7 : a7 = b7
 case neg => simp [h1,h2,h3,h4,h5,h6,h7]
 by_cases h8 : a8 = b8
 case neg => simp [h1,h2,h3,h4,h5,h6,h7,h8]
 by_cases h9 : a9 = b9
 case neg => simp [h1,h2,h3,h4,h5,h6,h7,h8,h9]
 by_cases h10 : a10 = b10
 case neg => simp [h1,h2,h3,h4,h5,h6,h7,h8,h9,h10]
 by_cases h11 : a11 = b11
 case neg => simp [h1,h2,h3,h4,h5,h6,h7,h8,h9,h10,h11]
 by_cases h12 : a12 = b12
 case neg => simp [h1,h2,h3,h4,h5,h6,h7,h8,h9,h10,h11,h12]
 simp [h1,h2,h3,h4,h5,h6,h7,h8,h9,h10,h11,h12]
@[go_sem] theorem ty70 : tiOf Tryz.prog 70 = some ⟨.other,1,[.nilFunc]⟩ := by kernel_rfl
@[go_sem] theorem ty71 : tiOf Tryz.prog 71 = some ⟨.slice 59 1 24,1,[.slice none 0 0]⟩ := by kernel_rfl
@[go_sem] theorem ty72 : tiOf Tryz.prog 72 = some ⟨.other,1,[.nilFunc]⟩ := by kernel_rfl
@[go_sem] theorem ty73 : tiOf Tryz.prog 73 = some ⟨.other,1,[.nilFunc]⟩ := by kernel_rfl
@[go_sem] theorem ty74 : tiOf Tryz.prog 74 = some ⟨.other,1,[.nilFunc]⟩ := by kernel_rfl
@[go_sem] theorem ty75 : tiOf Tryz.prog 75 = some ⟨.slice 133 1 24,1,[.slice none 0 0]⟩ := by kernel_rfl
@[go_sem] theorem ty76 : tiOf Tryz.prog 76 = some ⟨.struct [(0,1,false)],1,[.slice none 0 0]⟩ := by kernel_rfl
@[go_sem] theorem ty77 : tiOf Tryz.prog 77 = some ⟨.struct [(0,1,false)],1,[.slice none 0 0]⟩ := by kernel_rfl
@[go_sem] theorem ty78 : tiOf Tryz.prog 78 = some ⟨.slice 134 2 16,1,[.slice none 0 0]⟩ := by kernel_rfl
@[go_sem] theorem ty79 : tiOf Tryz.prog 79 = some ⟨.slice 136 3 24,1,[.slice none 0 0]⟩ := by kernel_rfl
@[go_sem] theorem ty80 : tiOf Tryz.prog 80 = some ⟨.struct [(0,1,false),(1,1,false),(2,1,false)],3,[.int .i64 0,.slice none 0 0,.slice none 0 0]⟩ := by kernel_rfl
@[go_sem] theorem ty81 : tiOf Tryz.prog 81 = some ⟨.struct [(0,1,false),(1,1,false),(2,1,false)],3,[.int .i64 0,.slice none 0 0,.slice none 0 0]⟩ := by kernel_rfl
@[go_sem] theorem ty82 : tiOf Tryz.prog 82 = some ⟨.slice 71 1 24,1,[.slice none 0 0]⟩ := by kernel_rfl
@[go_sem] theorem ty83 : tiOf Tryz.prog 83 = some ⟨.struct [(0,1,true),(1,3,true),(4,1,false)],5,[.slice none 0 0,.int .i64 0,.slice none 0 0,.slice none 0 0,.slice none 0 0]⟩ := by kernel_rfl
@[go_sem] theorem ty84 : tiOf Tryz.prog 84 = some ⟨.struct [(0,1,true),(1,3,true),(4,1,false)],5,[.slice none 0 0,.int .i64 0,.slice none 0 0,.slice none 0 0,.slice none 0 0]⟩ := by kernel_rfl
@[go_sem] theorem ty85 : tiOf Tryz.prog 85 = some ⟨.struct [(0,1,false),(1,1,false)],2,[.int .i64 0,.int .i64 0]⟩ := by kernel_rfl
@[go_sem] theorem ty86 : tiOf Tryz.prog 86 = some ⟨.struct [(0,1,false),(1,1,false)],2,[.int .i64 0,.int .i64 0]⟩ := by kernel_rfl
theorem z12 : EqTy Tryz.prog 86 [.i64,.i64] := by
 refine ⟨by kernel_rfl,fun w xs ys hx hy => ?_⟩
 rcases xs with _ | ⟨a1,_ | ⟨a2,_ | ⟨a3,ar⟩⟩⟩ <;> first | (simp at hx;done) | skip
 rcases ys with _ | ⟨b1,_ | ⟨b2,_ | ⟨b3,br⟩⟩⟩ <;> first | (simp at hy;done) | skip
 show (Op.equalIn 10000 86 _ _).run _ _ = _
 simp [go_sem,ints,eqI]
 by_cases h1 : a1 = b1
 case neg => simp [h1]
 by_cases h2 : a2 = b2
 case neg => simp [h1,h2]
 simp [h1,h2]
@[go_sem] theorem ty88 : tiOf Tryz.prog 88 = some ⟨.other,1,[.nilFunc]⟩ := by kernel_rfl
@[go_sem] theorem ty89 : tiOf Tryz.prog 89 = some ⟨.other,1,[.nilFunc]⟩ := by kernel_rfl
@[go_sem] theorem ty90 : tiOf Tryz.prog 90 = some ⟨.other,1,[.nilFunc]⟩ := by kernel_rfl
@[go_sem] theorem ty91 : tiOf Tryz.prog 91 = some ⟨.other,1,[.nilFunc]⟩ := by kernel_rfl
@[go_sem] theorem ty92 : tiOf Tryz.prog 92 = some ⟨.other,1,[.nilFunc]⟩ := by kernel_rfl
@[go_sem] theorem ty93 : tiOf Tryz.prog 93 = some ⟨.slice 98 5 40,1,[.slice none 0 0]⟩ := by kernel_rfl
@[go_sem] theorem ty94 : tiOf Tryz.prog 94 = some ⟨.struct [(0,1,false),(1,2,true),(3,1,false)],4,[.int .i64 0,.int .i64 0,.int .i64 0,.slice none 0 0]⟩ := by kernel_rfl
@[go_sem] theorem ty95 : tiOf Tryz.prog 95 = some ⟨.struct [(0,1,false),(1,2,true),(3,1,false)],4,[.int .i64 0,.int .i64 0,.int .i64 0,.slice none 0 0]⟩ := by kernel_rfl
@[go_sem] theorem ty96 : tiOf Tryz.prog 96 = some ⟨.other,1,[.nilFunc]⟩ := by kernel_rfl
@[go_sem] theorem ty97 : tiOf Tryz.prog 97 = some ⟨.struct [(0,1,false),(1,1,false),(2,1,false),(3,2,true)],5,[.int .i64 0,.int .i64 0,.int .i64 0,.int .u64 0,.int .u64 0]⟩ := by kernel_rfl
@[go_sem] theorem ty98 : tiOf Tryz.prog 98 = some ⟨.struct [(0,1,false),(1,1,false),(2,1,false),(3,2,true)],5,[.int .i64 0,.int .i64 0,.int .i64 0,.int .u64 0,.int .u64 0]⟩ := by kernel_rfl
@[go_sem] theorem ty99 : tiOf Tryz.prog 99 = some ⟨.other,1,[.nilFunc]⟩ := by kernel_rfl
@[go_sem] theorem ty100 : tiOf Tryz.prog 100 = some ⟨.other,1,[.nilFunc]⟩ := by kernel_rfl
@[go_sem] theorem ty101 : tiOf Tryz.prog 101 = some ⟨.other,1,[.nilFunc]⟩ := by kernel_rfl
@[go_sem] theorem ty102 : tiOf Tryz.prog 102 = some ⟨.other,1,[.nilFunc]⟩ := by kernel_rfl
@[go_sem] theorem ty103 : tiOf Tryz.prog 103 = some ⟨.other,1,[.nilFunc]⟩ := by kernel_rfl
@[go_sem] theorem ty104 : tiOf Tryz.prog 104 = some ⟨.other,1,[.nilFunc]⟩ := by kernel_rfl
@[go_sem] theorem ty105 : tiOf Tryz.prog 105 = some ⟨.other,1,[.nilFunc]⟩ := by kernel_rfl
@[go_sem] theorem ty106 : tiOf Tryz.prog 106 = some ⟨.other,1,[.nilFunc]⟩ := by kernel_rfl
@[go_sem] theorem ty107 : tiOf Tryz.prog 107 = some ⟨.other,1,[.nilFunc]⟩ := by kernel_rfl
@[go_sem] theorem ty108 : tiOf Tryz.prog 108 = some ⟨.other,1,[.nilFunc]⟩ := by kernel_rfl
@[go_sem] theorem ty109 : tiOf Tryz.prog 109 = some ⟨.other,1,[.nilFunc]⟩ := by kernel_rfl
@[go_sem] theorem ty110 : tiOf Tryz.prog 110 = some ⟨.other,1,[.nilFunc]⟩ := by kernel_rfl
@[go_sem] theorem ty111 : tiOf Tryz.prog 111 = some ⟨.other,1,[.nilFunc]⟩ := by kernel_rfl
@[go_sem] theorem ty112 : tiOf Tryz.prog 112 = some ⟨.array 128 4 1 false,128,(.bool false) :: List.replicate 127 (.bool false)⟩ := by kernel_rfl
@[go_sem] theorem zr112 : ((.bool false : Value) :: List.replicate 127 (.bool false) = List.replicate 128 (.bool false)) = True := eq_true rfl
@[go_sem] theorem ty113 : tiOf Tryz.prog 113 = some ⟨.other,1,[.nilFunc]⟩ := by kernel_rfl
@[go_sem] theorem ty114 : tiOf Tryz.prog 114 = some ⟨.other,1,[.nilFunc]⟩ := by kernel_rfl
@[go_sem] theorem ty115 : tiOf Tryz.prog 115 = some ⟨.other,1,[.nilFunc]⟩ := by kernel_rfl
@[go_sem] theorem ty116 : tiOf Tryz.prog 116 = some ⟨.other,1,[.nilFunc]⟩ := by kernel_rfl
@[go_sem] theorem ty118 : tiOf Tryz.prog 118 = some ⟨.other,1,[.nilFunc]⟩ := by kernel_rfl
@[go_sem] theorem ty119 : tiOf Tryz.prog 119 = some ⟨.other,1,[.nilFunc]⟩ := by kernel_rfl
@[go_sem] theorem ty120 : tiOf Tryz.prog 120 = some ⟨.slice 69 12 96,1,[.slice none 0 0]⟩ := by kernel_rfl
@[go_sem] theorem ty121 : tiOf Tryz.prog 121 = some ⟨.other,1,[.nilFunc]⟩ := by kernel_rfl
@[go_sem] theorem ty122 : tiOf Tryz.prog 122 = some ⟨.other,1,[.nilFunc]⟩ := by kernel_rfl
@[go_sem] theorem ty124 : tiOf Tryz.prog 124 = some ⟨.other,1,[.nilFunc]⟩ := by kernel_rfl
@[go_sem] theorem ty125 : tiOf Tryz.prog 125 = some ⟨.other,1,[.nilFunc]⟩ := by kernel_rfl
@[go_sem] theorem ty126 : tiOf Tryz.prog 126 = some ⟨.other,1,[.nilFunc]⟩ := by kernel_rfl
@[go_sem] theorem ty127 : tiOf Tryz.prog 127 = some ⟨.other,1,[.nilFunc]⟩ := by kernel_rfl
@[go_sem] theorem ty128 : tiOf Tryz.prog 128 = some ⟨.other,1,[.nilFunc]⟩ := by kernel_rfl
@[go_sem] theorem ty129 : tiOf Tryz.prog 129 = some ⟨.other,1,[.nilFunc]⟩ := by kernel_rfl
@[go_sem] theorem ty130 : tiOf Tryz.prog 130 = some ⟨.other,1,[.nilFunc]⟩ := by kernel_rfl
@[go_sem] theorem ty131 : tiOf Tryz.prog 131 = some ⟨.other,1,[.nilFunc]⟩ := by kernel_rfl
@[go_sem] theorem ty132 : tiOf Tryz.prog 132 = some ⟨.other,1,[.nilFunc]⟩ := by kernel_rfl
@[go_sem] theorem ty133 : tiOf Tryz.prog 133 = some ⟨.slice 138 5 40,1,[.slice none 0 0]⟩ := by kernel_rfl
@[go_sem] theorem ty134 : tiOf Tryz.prog 134 = some ⟨.array 2 3 1 false,2,[.int .i64 0,.int .i64 0]⟩ := by kernel_rfl
@[go_sem] theorem ty135 : tiOf Tryz.prog 135 = some ⟨.struct [(0,1,false),(1,1,false),(2,1,false)],3,[.int .i64 0,.int .i64 0,.int .i64 0]⟩ := by kernel_rfl
@[go_sem] theorem ty136 : tiOf Tryz.prog 136 = some ⟨.struct [(0,1,false),(1,1,false),(2,1,false)],3,[.int .i64 0,.int .i64 0,.int .i64 0]⟩ := by kernel_rfl
theorem j56 : EqTy Tryz.prog 136 [.i64,.i64,.i64] := by
 refine ⟨by kernel_rfl,fun w xs ys hx hy => ?_⟩
 rcases xs with _ | ⟨a1,_ | ⟨a2,_ | ⟨a3,_ | ⟨a4,ar⟩⟩⟩⟩ <;> first | (simp at hx;done) | skip
 rcases ys with _ | ⟨b1,_ | ⟨b2,_ | ⟨b3,_ | ⟨b4,br⟩⟩⟩⟩ <;> first | (simp at hy;done) | skip
 show (Op.equalIn 10000 136 _ _).run _ _ = _
 simp [go_sem,ints,eqI]
 by_cases h1 : a1 = b1
 case neg => simp [h1]
 by_cases h2 : a2 = b2
 case neg => simp [h1,h2]
 by_cases h3 : a3 = b3
 case neg => simp [h1,h2,h3]
 simp [h1,h2,h3]
@[go_sem] theorem ty137 : tiOf Tryz.prog 137 = some ⟨.struct [(0,1,false),(1,1,false),(2,1,false),(3,1,false),(4,1,false)],5,[.int .i64 0,.int .i64 0,.int .i64 0,.int .i64 0,.int .i64 0]⟩ := by kernel_rfl
@[go_sem] theorem ty138 : tiOf Tryz.prog 138 = some ⟨.struct [(0,1,false),(1,1,false),(2,1,false),(3,1,false),(4,1,false)],5,[.int .i64 0,.int .i64 0,.int .i64 0,.int .i64 0,.int .i64 0]⟩ := by kernel_rfl
theorem x15 : EqTy Tryz.prog 138 [.i64,.i64,.i64,.i64,.i64] := by
 refine ⟨by kernel_rfl,fun w xs ys hx hy => ?_⟩
 rcases xs with _ | ⟨a1,_ | ⟨a2,_ | ⟨a3,_ | ⟨a4,_ | ⟨a5,_ | ⟨a6,ar⟩⟩⟩⟩⟩⟩ <;> first | (simp at hx;done) | skip
 rcases ys with _ | ⟨b1,_ | ⟨b2,_ | ⟨b3,_ | ⟨b4,_ | ⟨b5,_ | ⟨b6,br⟩⟩⟩⟩⟩⟩ <;> first | (simp at hy;done) | skip
 show (Op.equalIn 10000 138 _ _).run _ _ = _
 simp [go_sem,ints,eqI]
 by_cases h1 : a1 = b1
 case neg => simp [h1]
 by_cases h2 : a2 = b2
 case neg => simp [h1,h2]
 by_cases h3 : a3 = b3
 case neg => simp [h1,h2,h3]
 by_cases h4 : a4 = b4
 case neg => simp [h1,h2,h3,h4]
 by_cases h5 : a5 = b5
 case neg => simp [h1,h2,h3,h4,h5]
 simp [h1,h2,h3,h4,h5]
@[go_sem] theorem ty139 : tiOf Tryz.prog 139 = some ⟨.other,1,[.nilFunc]⟩ := by kernel_rfl
@[go_sem] theorem ty140 : tiOf Tryz.prog 140 = some ⟨.other,1,[.nilFunc]⟩ := by kernel_rfl
@[go_sem] theorem ty141 : tiOf Tryz.prog 141 = some ⟨.other,1,[.nilFunc]⟩ := by kernel_rfl
@[go_sem] theorem ty142 : tiOf Tryz.prog 142 = some ⟨.other,1,[.nilFunc]⟩ := by kernel_rfl
@[go_sem] theorem ty143 : tiOf Tryz.prog 143 = some ⟨.other,1,[.nilFunc]⟩ := by kernel_rfl
@[go_sem] theorem ty144 : tiOf Tryz.prog 144 = some ⟨.other,1,[.nilFunc]⟩ := by kernel_rfl
@[go_sem] theorem ty145 : tiOf Tryz.prog 145 = some ⟨.other,1,[.nilFunc]⟩ := by kernel_rfl
@[go_sem] theorem ty146 : tiOf Tryz.prog 146 = some ⟨.slice 3 1 8,1,[.slice none 0 0]⟩ := by kernel_rfl
@[go_sem] theorem ty147 : tiOf Tryz.prog 147 = some ⟨.other,1,[.nilFunc]⟩ := by kernel_rfl
@[go_sem] theorem ty148 : tiOf Tryz.prog 148 = some ⟨.other,1,[.nilFunc]⟩ := by kernel_rfl
@[go_sem] theorem ty149 : tiOf Tryz.prog 149 = some ⟨.int .u64,1,[.int .u64 0]⟩ := by kernel_rfl
@[go_sem] theorem ty150 : tiOf Tryz.prog 150 = some ⟨.other,1,[.nilFunc]⟩ := by kernel_rfl
@[go_sem] theorem ty151 : tiOf Tryz.prog 151 = some ⟨.other,1,[.nilFunc]⟩ := by kernel_rfl
@[go_sem] theorem ty152 : tiOf Tryz.prog 152 = some ⟨.other,1,[.nilFunc]⟩ := by kernel_rfl
@[go_sem] theorem ty153 : tiOf Tryz.prog 153 = some ⟨.other,1,[.nilFunc]⟩ := by kernel_rfl
@[go_sem] theorem ty154 : tiOf Tryz.prog 154 = some ⟨.other,1,[.nilFunc]⟩ := by kernel_rfl
@[go_sem] theorem ty155 : tiOf Tryz.prog 155 = some ⟨.other,1,[.nilFunc]⟩ := by kernel_rfl
@[go_sem] theorem ty156 : tiOf Tryz.prog 156 = some ⟨.other,1,[.nilFunc]⟩ := by kernel_rfl
@[go_sem] theorem ty157 : tiOf Tryz.prog 157 = some ⟨.other,1,[.nilFunc]⟩ := by kernel_rfl
@[go_sem] theorem ty159 : tiOf Tryz.prog 159 = some ⟨.other,1,[.nilFunc]⟩ := by kernel_rfl
@[go_sem] theorem ty160 : tiOf Tryz.prog 160 = some ⟨.other,1,[.nilFunc]⟩ := by kernel_rfl
@[go_sem] theorem ty161 : tiOf Tryz.prog 161 = some ⟨.other,1,[.nilFunc]⟩ := by kernel_rfl
@[go_sem] theorem ty162 : tiOf Tryz.prog 162 = some ⟨.slice 4 1 1,1,[.slice none 0 0]⟩ := by kernel_rfl
@[go_sem] theorem ty163 : tiOf Tryz.prog 163 = some ⟨.other,1,[.nilFunc]⟩ := by kernel_rfl
@[go_sem] theorem ty164 : tiOf Tryz.prog 164 = some ⟨.other,1,[.nilFunc]⟩ := by kernel_rfl
@[go_sem] theorem ty165 : tiOf Tryz.prog 165 = some ⟨.other,1,[.nilFunc]⟩ := by kernel_rfl
@[go_sem] theorem ty166 : tiOf Tryz.prog 166 = some ⟨.other,1,[.nilFunc]⟩ := by kernel_rfl
@[go_sem] theorem ty167 : tiOf Tryz.prog 167 = some ⟨.other,1,[.nilFunc]⟩ := by kernel_rfl
@[go_sem] theorem ty168 : tiOf Tryz.prog 168 = some ⟨.other,1,[.nilFunc]⟩ := by kernel_rfl
@[go_sem] theorem ty169 : tiOf Tryz.prog 169 = some ⟨.other,1,[.nilFunc]⟩ := by kernel_rfl
@[go_sem] theorem ty170 : tiOf Tryz.prog 170 = some ⟨.other,1,[.nilFunc]⟩ := by kernel_rfl
@[go_sem] theorem ty171 : tiOf Tryz.prog 171 = some ⟨.slice 86 2 16,1,[.slice none 0 0]⟩ := by kernel_rfl
@[go_sem] theorem ty172 : tiOf Tryz.prog 172 = some ⟨.other,1,[.nilFunc]⟩ := by kernel_rfl
@[go_sem] theorem ty173 : tiOf Tryz.prog 173 = some ⟨.other,1,[.nilFunc]⟩ := by kernel_rfl
@[go_sem] theorem ty174 : tiOf Tryz.prog 174 = some ⟨.other,1,[.nilFunc]⟩ := by kernel_rfl
@[go_sem] theorem ty175 : tiOf Tryz.prog 175 = some ⟨.other,1,[.nilFunc]⟩ := by kernel_rfl
@[go_sem] theorem ty176 : tiOf Tryz.prog 176 = some ⟨.other,1,[.nilFunc]⟩ := by kernel_rfl
@[go_sem] theorem ty177 : tiOf Tryz.prog 177 = some ⟨.other,1,[.nilFunc]⟩ := by kernel_rfl
@[go_sem] theorem ty178 : tiOf Tryz.prog 178 = some ⟨.other,1,[.nilFunc]⟩ := by kernel_rfl
@[go_sem] theorem ty179 : tiOf Tryz.prog 179 = some ⟨.struct [(0,1,false),(1,1,false)],2,[.int .u64 0,.int .u64 0]⟩ := by kernel_rfl
@[go_sem] theorem ty181 : tiOf Tryz.prog 181 = some ⟨.other,1,[.nilFunc]⟩ := by kernel_rfl
@[go_sem] theorem ty182 : tiOf Tryz.prog 182 = some ⟨.other,1,[.nilFunc]⟩ := by kernel_rfl
@[go_sem] theorem ty183 : tiOf Tryz.prog 183 = some ⟨.other,1,[.nilFunc]⟩ := by kernel_rfl
@[go_sem] theorem ty184 : tiOf Tryz.prog 184 = some ⟨.other,1,[.nilFunc]⟩ := by kernel_rfl
@[go_sem] theorem ty185 : tiOf Tryz.prog 185 = some ⟨.slice 22 1 24,1,[.slice none 0 0]⟩ := by kernel_rfl
@[go_sem] theorem ty186 : tiOf Tryz.prog 186 = some ⟨.other,1,[.nilFunc]⟩ := by kernel_rfl
@[go_sem] theorem ty187 : tiOf Tryz.prog 187 = some ⟨.ptr,1,[.pointer none]⟩ := by kernel_rfl
@[go_sem] theorem ty188 : tiOf Tryz.prog 188 = some ⟨.struct [(0,1,false),(1,1,false)],2,[.slice none 0 0,.slice none 0 0]⟩ := by kernel_rfl
@[go_sem] theorem ty189 : tiOf Tryz.prog 189 = some ⟨.struct [(0,1,false),(1,1,false)],2,[.slice none 0 0,.slice none 0 0]⟩ := by kernel_rfl
@[go_sem] theorem ty190 : tiOf Tryz.prog 190 = some ⟨.other,1,[.nilFunc]⟩ := by kernel_rfl
@[go_sem] theorem ty191 : tiOf Tryz.prog 191 = some ⟨.other,1,[.nilFunc]⟩ := by kernel_rfl
@[go_sem] theorem ty192 : tiOf Tryz.prog 192 = some ⟨.other,1,[.nilFunc]⟩ := by kernel_rfl
@[go_sem] theorem ty193 : tiOf Tryz.prog 193 = some ⟨.other,1,[.nilFunc]⟩ := by kernel_rfl
@[go_sem] theorem ty194 : tiOf Tryz.prog 194 = some ⟨.other,1,[.nilFunc]⟩ := by kernel_rfl
@[go_sem] theorem ty196 : tiOf Tryz.prog 196 = some ⟨.other,1,[.nilFunc]⟩ := by kernel_rfl
@[go_sem] theorem ty197 : tiOf Tryz.prog 197 = some ⟨.other,1,[.nilFunc]⟩ := by kernel_rfl
@[go_sem] theorem ty199 : tiOf Tryz.prog 199 = some ⟨.other,1,[.nilFunc]⟩ := by kernel_rfl
@[go_sem] theorem ty200 : tiOf Tryz.prog 200 = some ⟨.other,1,[.nilFunc]⟩ := by kernel_rfl
@[go_sem] theorem ty201 : tiOf Tryz.prog 201 = some ⟨.other,1,[.nilFunc]⟩ := by kernel_rfl
@[go_sem] theorem ty202 : tiOf Tryz.prog 202 = some ⟨.other,1,[.nilFunc]⟩ := by kernel_rfl
@[go_sem] theorem ty203 : tiOf Tryz.prog 203 = some ⟨.other,1,[.nilFunc]⟩ := by kernel_rfl
@[go_sem] theorem ty204 : tiOf Tryz.prog 204 = some ⟨.other,1,[.nilFunc]⟩ := by kernel_rfl
@[go_sem] theorem ty205 : tiOf Tryz.prog 205 = some ⟨.int .i64,1,[.int .i64 0]⟩ := by kernel_rfl
@[go_sem] theorem ty207 : tiOf Tryz.prog 207 = some ⟨.other,1,[.nilFunc]⟩ := by kernel_rfl
@[go_sem] theorem ty208 : tiOf Tryz.prog 208 = some ⟨.other,1,[.nilFunc]⟩ := by kernel_rfl
@[go_sem] theorem ty209 : tiOf Tryz.prog 209 = some ⟨.other,1,[.nilFunc]⟩ := by kernel_rfl
@[go_sem] theorem ty210 : tiOf Tryz.prog 210 = some ⟨.other,1,[.nilFunc]⟩ := by kernel_rfl
@[go_sem] theorem ty211 : tiOf Tryz.prog 211 = some ⟨.other,1,[.nilFunc]⟩ := by kernel_rfl
@[go_sem] theorem ty212 : tiOf Tryz.prog 212 = some ⟨.int .u32,1,[.int .u32 0]⟩ := by kernel_rfl
@[go_sem] theorem ty213 : tiOf Tryz.prog 213 = some ⟨.other,1,[.nilFunc]⟩ := by kernel_rfl
@[go_sem] theorem ty214 : tiOf Tryz.prog 214 = some ⟨.other,1,[.nilFunc]⟩ := by kernel_rfl
@[go_sem] theorem ty215 : tiOf Tryz.prog 215 = some ⟨.other,1,[.nilFunc]⟩ := by kernel_rfl
@[go_sem] theorem ty216 : tiOf Tryz.prog 216 = some ⟨.struct [(0,1,false),(1,4,true),(5,7,true)],12,[.int .i64 0,.int .u64 0,.int .u64 0,.int .u64 0,.int .u64 0,.int .i64 0,.int .i64 0,.int .i64 0,.int .u64 0,.int .u64 0,.int .u64 0,.int .u64 0]⟩ := by kernel_rfl
@[go_sem] theorem ty217 : tiOf Tryz.prog 217 = some ⟨.other,1,[.nilFunc]⟩ := by kernel_rfl
@[go_sem] theorem ty218 : tiOf Tryz.prog 218 = some ⟨.slice 36 1 24,1,[.slice none 0 0]⟩ := by kernel_rfl
@[go_sem] theorem ty219 : tiOf Tryz.prog 219 = some ⟨.other,1,[.nilFunc]⟩ := by kernel_rfl
@[go_sem] theorem ty220 : tiOf Tryz.prog 220 = some ⟨.other,1,[.nilFunc]⟩ := by kernel_rfl
@[go_sem] theorem ty221 : tiOf Tryz.prog 221 = some ⟨.other,1,[.nilFunc]⟩ := by kernel_rfl
@[go_sem] theorem ty222 : tiOf Tryz.prog 222 = some ⟨.other,1,[.nilFunc]⟩ := by kernel_rfl
@[go_sem] theorem ty223 : tiOf Tryz.prog 223 = some ⟨.other,1,[.nilFunc]⟩ := by kernel_rfl
@[go_sem] theorem ty224 : tiOf Tryz.prog 224 = some ⟨.other,1,[.nilFunc]⟩ := by kernel_rfl
@[go_sem] theorem ty225 : tiOf Tryz.prog 225 = some ⟨.other,1,[.nilFunc]⟩ := by kernel_rfl
@[go_sem] theorem ty226 : tiOf Tryz.prog 226 = some ⟨.int .u64,1,[.int .u64 0]⟩ := by kernel_rfl
@[go_sem] theorem ty227 : tiOf Tryz.prog 227 = some ⟨.other,1,[.nilFunc]⟩ := by kernel_rfl
@[go_sem] theorem ty228 : tiOf Tryz.prog 228 = some ⟨.other,1,[.nilFunc]⟩ := by kernel_rfl
@[go_sem] theorem ty229 : tiOf Tryz.prog 229 = some ⟨.other,1,[.nilFunc]⟩ := by kernel_rfl
@[go_sem] theorem ty230 : tiOf Tryz.prog 230 = some ⟨.ptr,1,[.pointer none]⟩ := by kernel_rfl
@[go_sem] theorem ty231 : tiOf Tryz.prog 231 = some ⟨.other,1,[.nilFunc]⟩ := by kernel_rfl
@[go_sem] theorem ty233 : tiOf Tryz.prog 233 = some ⟨.other,1,[.nilFunc]⟩ := by kernel_rfl
@[go_sem] theorem ty234 : tiOf Tryz.prog 234 = some ⟨.other,1,[.nilFunc]⟩ := by kernel_rfl
@[go_sem] theorem ty235 : tiOf Tryz.prog 235 = some ⟨.other,1,[.nilFunc]⟩ := by kernel_rfl
@[go_sem] theorem ty236 : tiOf Tryz.prog 236 = some ⟨.ptr,1,[.pointer none]⟩ := by kernel_rfl
@[go_sem] theorem ty238 : tiOf Tryz.prog 238 = some ⟨.other,1,[.nilFunc]⟩ := by kernel_rfl
@[go_sem] theorem ty239 : tiOf Tryz.prog 239 = some ⟨.other,1,[.nilFunc]⟩ := by kernel_rfl
@[go_sem] theorem ty240 : tiOf Tryz.prog 240 = some ⟨.other,1,[.nilFunc]⟩ := by kernel_rfl
@[go_sem] theorem ty241 : tiOf Tryz.prog 241 = some ⟨.struct [(0,1,false),(1,1,false),(2,1,false),(3,1,false)],4,[.pointer none,.pointer none,.pointer none,.string ⟨#[]⟩]⟩ := by kernel_rfl
@[go_sem] theorem ty242 : tiOf Tryz.prog 242 = some ⟨.struct [(0,1,false),(1,1,false),(2,1,false),(3,1,false)],4,[.pointer none,.pointer none,.pointer none,.string ⟨#[]⟩]⟩ := by kernel_rfl
@[go_sem] theorem ty243 : tiOf Tryz.prog 243 = some ⟨.array 0 16 1 false,0,[]⟩ := by kernel_rfl
@[go_sem] theorem ty244 : tiOf Tryz.prog 244 = some ⟨.struct [(0,0,true)],0,[]⟩ := by kernel_rfl
@[go_sem] theorem ty245 : tiOf Tryz.prog 245 = some ⟨.struct [(0,0,true)],0,[]⟩ := by kernel_rfl
@[go_sem] theorem ty246 : tiOf Tryz.prog 246 = some ⟨.other,1,[.nilFunc]⟩ := by kernel_rfl
@[go_sem] theorem ty247 : tiOf Tryz.prog 247 = some ⟨.int .u8,1,[.int .u8 0]⟩ := by kernel_rfl
@[go_sem] theorem ty248 : tiOf Tryz.prog 248 = some ⟨.int .u8,1,[.int .u8 0]⟩ := by kernel_rfl
@[go_sem] theorem ty249 : tiOf Tryz.prog 249 = some ⟨.other,1,[.nilFunc]⟩ := by kernel_rfl
@[go_sem] theorem ty250 : tiOf Tryz.prog 250 = some ⟨.ptr,1,[.pointer none]⟩ := by kernel_rfl
@[go_sem] theorem ty251 : tiOf Tryz.prog 251 = some ⟨.int .i32,1,[.int .i32 0]⟩ := by kernel_rfl
@[go_sem] theorem ty252 : tiOf Tryz.prog 252 = some ⟨.int .i32,1,[.int .i32 0]⟩ := by kernel_rfl
@[go_sem] theorem ty253 : tiOf Tryz.prog 253 = some ⟨.struct [(0,1,false),(1,1,false),(2,1,false),(3,1,false),(4,1,false),(5,1,false),(6,1,false),(7,1,false),(8,1,false),(9,1,false),(10,1,false)],11,[.int .u64 0,.int .u64 0,.int .u32 0,.int .u8 0,.int .u8 0,.int .u8 0,.int .u8 0,.nilFunc,.pointer none,.int .i32 0,.int .i32 0]⟩ := by kernel_rfl
@[go_sem] theorem ty254 : tiOf Tryz.prog 254 = some ⟨.struct [(0,1,false),(1,1,false),(2,1,false),(3,1,false),(4,1,false),(5,1,false),(6,1,false),(7,1,false),(8,1,false),(9,1,false),(10,1,false)],11,[.int .u64 0,.int .u64 0,.int .u32 0,.int .u8 0,.int .u8 0,.int .u8 0,.int .u8 0,.nilFunc,.pointer none,.int .i32 0,.int .i32 0]⟩ := by kernel_rfl
@[go_sem] theorem ty255 : tiOf Tryz.prog 255 = some ⟨.other,1,[.nilFunc]⟩ := by kernel_rfl
end Go.Proofs.YtemcdefpihkfpaaGreat
namespace Go.Proofs.YtemcdefpihkfpaaGreat.AL
open Go.RowKit
variable {P : Program}
def LocsOK (O : Nat → Prop) (w : World) (h : Gh) (L : List (Nat × LV)) : Prop :=
 (∀ l X,look L l = some X → LocOK O w h l X) ∧ ∀ l l' X X' b,l ≠ l' → look L l = some X → look L l' = some X' → inB h l X b → ¬ inB h l' X' b
def ownB (h : Gh) (L : List (Nat × LV)) (b : Nat) : Prop := ∃ l X,look L l = some X ∧ inB h l X b
def RelRA (w : World) (h : Gh) (v : Value) : List AV → Prop
 | [x] => RelA w h v x
 | xs => ∃ vs : List Value,v = .tuple vs.toArray ∧ RelAs w h vs xs
structure Chg (L L' : List (Nat × LV)) (w : World) (h : Gh) (w' : World) (h' : Gh) : Prop where
 below : BelowS (ownB h L) w w'
 gam : ∀ b,b < w.heap.size → ¬ ownB h L b → h'.g b = h.g b
 gz : GZ w' h'.g
 keep : Keep w h.g w' h'.g
 ρ : ∀ l X,look L l = some X → h'.ρ l = h.ρ l
 up : ∀ l X,look L l = some X → h.μ l < h'.μ l ∨ (h'.κ l = h.κ l ∧ h'.μ l = h.μ l)
 own : ∀ b,ownB h' L' b → w.heap.size ≤ b ∨ ownB h L b
def MCalls (P : Program) (f : FuncId) (xs : List AV) (L : List (Nat × LV)) (Q : List AV → List (Nat × LV) → Prop) : Prop :=
 ∀ (w : World) (h : Gh) (vs : List Value),GZ w h.g → RelAs w h vs xs → LocsOK (fun _ => True) w h L →
  CallRes P (fun v w' => ∃ h' rs L',Q rs L' ∧ RelRA w' h' v rs ∧ LocsOK (fun _ => True) w' h' L' ∧ Chg L L' w h w' h') ((callFunc f vs.toArray).run P w)
theorem MCalls.mono {P : Program} {f : FuncId} {xs : List AV} {L : List (Nat × LV)} {Q Q' : List AV → List (Nat × LV) → Prop} (h : MCalls P f xs L Q) (hq : ∀ rs M,Q rs M → Q' rs M) : MCalls P f xs L Q' := by
 intro w g vs hz hr hl
 have key := h w g vs hz hr hl
 unfold CallRes at *
 split at key
 ·exact key.mono fun e w' ⟨v,he,h',rs,L',h1,h2⟩ => ⟨v,he,h',rs,L',hq _ _ h1,h2⟩
 ·obtain ⟨h',rs,L',h1,h2⟩ := key;exact ⟨h',rs,L',hq _ _ h1,h2⟩
 ·exact key.elim
theorem q57 {O O' : Nat → Prop} {w : World} {h : Gh} {l : Nat} {X : LV} (k : LocOK O w h l X) (hO : ∀ b,inB h l X b → O' b) : LocOK O' w h l X := by
 cases X with
 | cells e cs => obtain ⟨arr,h1,h2⟩ := k;exact ⟨arr,hO _ rfl,h2⟩
 | arr e n f => obtain ⟨arr,fz,h1,h2⟩ := k;exact ⟨arr,fz,hO _ rfl,h2⟩
 | grow e sz n gen => obtain ⟨h1,h2,h3,h4⟩ := k;exact ⟨h1,h2,h3,fun b hb => hO b (by simpa [inB] using hb)⟩
 | own e sz n gen f => obtain ⟨h1,h2,h4⟩ := k;exact ⟨h1,h2,fun b hb => ⟨(h4 b hb).1,hO b (by simpa [inB] using hb)⟩⟩
 | fz e cs => obtain ⟨arr,h1,h2⟩ := k;exact ⟨arr,hO _ rfl,h2⟩
 | map ks es => obtain ⟨arr,c,h1,h2⟩ := k;exact ⟨arr,c,hO _ rfl,h2⟩
 | raw M => intro b o hb;exact ⟨hO b (by simp [inB,hb]),(k b o hb).2⟩
 | blk e sz n f => obtain ⟨cap,h1,h2⟩ := k;exact ⟨cap,hO _ rfl,h2⟩
 | obj o => exact ⟨hO _ rfl,k.2⟩
theorem inB_O {O : Nat → Prop} {w : World} {h : Gh} {l : Nat} {X : LV} (k : LocOK O w h l X) {b : Nat} (hb : inB h l X b) : O b := by
 cases X with
 | cells e cs => obtain ⟨arr,h1,h2⟩ := k;simp [inB] at hb;subst hb;exact h1
 | arr e n f => obtain ⟨arr,fz,h1,h2⟩ := k;simp [inB] at hb;subst hb;exact h1
 | grow e sz n gen => obtain ⟨h1,h2,h3,h4⟩ := k;exact h4 b (by simpa [inB] using hb)
 | own e sz n gen f => obtain ⟨h1,h2,h4⟩ := k;exact (h4 b (by simpa [inB] using hb)).2
 | fz e cs => obtain ⟨arr,h1,h2⟩ := k;simp [inB] at hb;subst hb;exact h1
 | map ks es => obtain ⟨arr,c,h1,h2⟩ := k;simp [inB] at hb;subst hb;exact h1
 |raw M =>
  simp only [inB] at hb
  cases hM : M b with
  | none => exact absurd hM hb
  | some o => exact (k b o hM).1
 | blk e sz n f => obtain ⟨cap,h1,h2⟩ := k;simp [inB] at hb;subst hb;exact h1
 | obj o => simp [inB] at hb;subst hb;exact k.1
def frA : Nat → List AV → List (Nat × AV)
 | _,[] => []
 | k,x :: xs => (k,x) :: frA (k + 1) xs
theorem z98 : ∀ (xs : List AV) (k t : Nat) (y : AV),look (frA k xs) t = some y → ∃ x,k ≤ t ∧ xs[t - k]? = some x ∧ y = x
 | [],k,t,y,h => by cases h
 |x :: r,k,t,y,h => by
  simp only [frA,look] at h
  split at h
  ·rename_i e;subst e;cases h;exact ⟨x,Nat.le_refl _,by simp,rfl⟩
  ·obtain ⟨z,h1,h2,h3⟩ := z98 r (k + 1) t y h
   refine ⟨z,by omega,?_,h3⟩
   have : t - k = (t - (k + 1)) + 1 := by omega
   rw [this];simpa using h2
def ResVarA (P : Program) (A : ASt) (v : ResultVar) (x : AV) : Prop := match v with
 | .tmp t => look A.fr t = some x
 | v => ∃ y,ResVar P A v y ∧ x = .p y
def ResVarsA (P : Program) (A : ASt) : List ResultVar → List AV → Prop
 | [],[] => True
 | v :: vs,x :: xs => ResVarA P A v x ∧ ResVarsA P A vs xs
 | _,_ => False
def retM (P : Program) (fn : Func) (Q : List AV → List (Nat × LV) → Prop) : Exit → ASt → Prop
 | .normal,A => ∃ rs L',ResVarsA P A fn.results.toList rs ∧ (∀ l X,look L' l = some X → look A.locs l = some X) ∧ Q rs L'
 | .ret,A => ∃ rs L',ResVarsA P A fn.results.toList rs ∧ (∀ l X,look L' l = some X → look A.locs l = some X) ∧ Q rs L'
 | _,_ => False
section
variable {w0 : Base} {g0 : Nat → Nat} {nt : Nat} {A : ASt} {h : Gh} {a : Act} {w : World}
theorem x155 (r : Rel w0 g0 nt A h a w) {v : ResultVar} {x : AV} (hv : ResVarA P A v x) : ∃ u,(oneResult a.tmps v).run P w = .ok u w ∧ RelA w h u x := by
 cases v with
 | tmp t => exact ⟨a.tmps.getD t undef,rfl,r.fr t x hv⟩
 |_ =>
  obtain ⟨y,h1,rfl⟩ := hv
  exact x92 r h1
theorem x98 (r : Rel w0 g0 nt A h a w) : ∀ {vs : List ResultVar} {rs : List AV},ResVarsA P A vs rs → ∃ us,(vs.mapM (oneResult a.tmps)).run P w = .ok us w ∧ RelAs w h us rs
 | [],[],_ => ⟨[],rfl,rfl,fun j v x hv => by simp at hv⟩
 |v :: vs,x :: xs,hh => by
  obtain ⟨u,h1,h2⟩ := x155 r hh.1
  obtain ⟨us,h3,h4⟩ := x98 r hh.2
  refine ⟨u :: us,by simp [List.mapM_cons,h1,h3],by simp [h4.1],fun j v' x' hv hx => ?_⟩
  cases j with
  | zero => simp at hv hx;subst hv;subst hx;exact h2
  | succ j => exact h4.2 j v' x' (by simpa using hv) (by simpa using hx)
 | [],_ :: _,hh => hh.elim
 | _ :: _,[],hh => hh.elim
theorem j155 (r : Rel w0 g0 nt A h a w) {fn : Func} {rs : List AV} (hv : ResVarsA P A fn.results.toList rs) : ∃ v,(results fn a.tmps).run P w = .ok v w ∧ RelRA w h v rs := by
 obtain ⟨us,h1,h2⟩ := x98 r hv
 have e : (fn.results.mapM (oneResult a.tmps)).run P w = .ok us.toArray w := by
  rw [Array.mapM_eq_mapM_toList]
  simp [h1]
 have e' : results fn a.tmps = (do let vs ← fn.results.mapM (oneResult a.tmps);pure (if h : vs.size = 1 then vs[0] else .tuple vs)) := by
  unfold results
  congr 1
 rw [e']
 simp only [Sem.run_bind,e,Result.andThen_ok,Sem.run_pure]
 refine ⟨_,rfl,?_⟩
 match us,rs,h2 with
 | [u],[x],h2 => exact h2.2 0 u x rfl rfl
 | [],[],h2 => exact ⟨[],rfl,h2⟩
 | u :: u' :: us,x :: x' :: rs,h2 => exact ⟨_,by simp,h2⟩
 | [],_ :: _,h2 => simp [RelAs] at h2
 | _ :: _,[],h2 => simp [RelAs] at h2
 | [_],_ :: _ :: _,h2 => simp [RelAs] at h2
 | _ :: _ :: _,[_],h2 => simp [RelAs] at h2
end
theorem q20 {f : FuncId} {fn : Func} {c : Code} {xs : List AV} {L : List (Nat × LV)} {Q : List AV → List (Nat × LV) → Prop} (hf : P.funcs[f]? = some fn) (hb : fn.body = some c) (hname : (fn.name == "runtime.NumGoroutine") = false) (hn : xs.length ≤ fn.ntmps)
  (hL : ∀ l X,look L l = some X → 1000 ≤ l) (H : AWP P fn.ntmps c (retM P fn Q) ⟨frA 0 xs,L⟩) : MCalls P f xs L Q := by
 intro w h vs hz hr hl
 have hrun : (callFunc f vs.toArray).run P w = .ok (.enter f vs.toArray) w := by
  simp only [callFunc,program,Sem.run,Bind.bind,Sem.bind,hf,hname,hb];rfl
 rw [hrun]
 show Calls P f vs.toArray w _
 refine calls_of_wp hf hb ?_
 let w0 : Base := ⟨w,fun b => w.heap.size ≤ b ∨ ownB h L b,fun b hb => .inl hb,h.ρ,h.κ,h.μ⟩
 have hlt : ∀ b,ownB h L b → b < w.heap.size := fun b ⟨l,X,h1,h2⟩ => z31 (hl.1 l X h1) h2
 have hrel : Rel w0 h.g fn.ntmps ⟨frA 0 xs,L⟩ h { tmps := vs.toArray ++ Array.replicate (fn.ntmps - vs.toArray.size) undef,defers := [] } w := by
  refine ⟨by have := hr.1;simp;omega,rfl,fun t y hy => ?_,fun l X hX => q57 (hl.1 l X hX) fun b hb => .inr ⟨l,X,hX,hb⟩,hl.2,ExtS.refl w0 hz,fun l _ => ⟨rfl,.inr ⟨rfl,rfl⟩⟩⟩
  obtain ⟨x,_,hx,rfl⟩ := z98 xs 0 t y hy
  have hlt : t < vs.length := by rw [hr.1];have := (List.getElem?_eq_some_iff.1 hx).1;simpa using this
  have hv : (vs.toArray ++ Array.replicate (fn.ntmps - vs.toArray.size) undef).getD t undef = vs[t] := by
   rw [Array.getD_eq_getD_getElem?,Array.getElem?_append_left (by simpa using hlt)]
   simp [hlt]
  rw [hv]
  exact hr.2 t _ y (by simp [hlt]) (by simpa using hx)
 refine Go.wp_mono (j70.1 H w0 h.g _ _ w hrel) fun e a' w' ⟨A',h',q,rr⟩ => ?_
 have fin : (∃ rs L',ResVarsA P A' fn.results.toList rs ∧ (∀ l X,look L' l = some X → look A'.locs l = some X) ∧ Q rs L') → a'.defers = [] ∧ ∃ v,(results fn a'.tmps).run P w' = .ok v w' ∧
   ∃ u,Ending.returned v = .returned u ∧ ∃ h' rs L',Q rs L' ∧ RelRA w' h' u rs ∧ LocsOK (fun _ => True) w' h' L' ∧ Chg L L' w h w' h' := by
  rintro ⟨rs,L',hv,hL',hq⟩
  obtain ⟨v,h1,h2⟩ := j155 rr hv
  refine ⟨rr.defers,v,h1,v,rfl,h',rs,L',hq,h2,⟨fun l X hX => q57 (rr.locs l X (hL' l X hX)) fun _ _ => trivial,fun l l' X X' b hne h1 h2 => rr.sep l l' X X' b hne (hL' l X h1) (hL' l' X' h2)⟩,?_⟩
  refine ⟨⟨rr.ext.below.os,rr.ext.below.tape,rr.ext.below.output,rr.ext.below.size,fun k hk hno => rr.ext.below.block k hk ?_⟩,fun b hb hno => rr.ext.gam b ?_,rr.ext.gz,rr.ext.keep,fun l X hX => (rr.pin l (hL l X hX)).1,fun l X hX => (rr.pin l (hL l X hX)).2,fun b ⟨l,X,h1,h2⟩ => inB_O (rr.locs l X (hL' l X h1)) h2⟩
  ·rintro (hge | ho)
   ·have hk : k < w.heap.size := hk
    omega
   ·exact hno ho
  ·rintro (hge | ho)
   ·omega
   ·exact hno ho
 cases e with
 | normal => exact fin q
 | ret => exact fin q
 | exit id => exact q.elim
 | goto l => exact q.elim
 | panic ch => exact q.elim
 | outgrown => exact q.elim
theorem q16 {fn : Func} {Q : List AV → List (Nat × LV) → Prop} {A : ASt} {l : Nat} {X : LV} (hr : fn.results.toList = []) (hl : look A.locs l = some X) (hq : Q [] [(l,X)]) : retM P fn Q .normal A ∧ retM P fn Q .ret A := by
 have : ∃ rs L',ResVarsA P A fn.results.toList rs ∧ (∀ l X,look L' l = some X → look A.locs l = some X) ∧ Q rs L' := by
  refine ⟨[],[(l,X)],by rw [hr];trivial,fun k Y h => ?_,hq⟩
  simp only [look] at h
  split at h
  ·rename_i e;subst e;cases h;exact hl
  ·cases h
 exact ⟨this,this⟩
def sub (sg : List (Nat × Nat)) (l : Nat) : Nat := (look sg l).getD l
def back : List (Nat × Nat) → Nat → Option Nat
 | [],_ => none
 | (l,m) :: r,u => if m = u then some l else back r u
def CV.ren (s : Nat → Nat) : CV → CV
 | .p x => .p x
 | .loc l off => .loc (s l) off
 | .ow l gen sz n => .ow (s l) gen sz n
 | .mp l => .mp (s l)
 | .a1 l off => .a1 (s l) off
def AV.ren (s : Nat → Nat) : AV → AV
 | .ow l gen sz n => .ow (s l) gen sz n
 | .el l gen sz i j => .el (s l) gen sz i j
 | .cl f a b => .cl f (a.map (CV.ren s)) (b.map (CV.ren s))
 | .loc l off => .loc (s l) off
 | .gr l gen sz n f => .gr (s l) gen sz n f
 | .row l sz off n => .row (s l) sz off n
 | .mp l => .mp (s l)
 | .ag cs => .ag (cs.map (CV.ren s))
 | x => x
def LV.ren (s : Nat → Nat) : LV → LV
 | .cells e cs => .cells e (cs.map (AV.ren s))
 | .fz e cs => .fz e (cs.map (AV.ren s))
 | X => X
def Gh.ren (h : Gh) (s : Nat → Nat) : Gh := ⟨h.g,fun l => h.ρ (s l),fun l => h.κ (s l),fun l => h.μ (s l)⟩
theorem q37 {w : World} {h : Gh} {s : Nat → Nat} {v : Value} {x : AV} : RelA w h v (x.ren s) ↔ RelA w (h.ren s) v x := by
 have hc : ∀ (vs : List Value) (cs : List CV),RelCs w h vs (cs.map (CV.ren s)) ↔ RelCs w (h.ren s) vs cs := by
  intro vs cs
  have one : ∀ v (c : CV),RelCV w h v (c.ren s) ↔ RelCV w (h.ren s) v c := fun v c => by cases c <;> exact Iff.rfl
  constructor
  ·rintro ⟨h1,h2⟩
   exact ⟨by simpa using h1,fun j v c hv hc => (one v c).1 (h2 j v _ hv (by rw [List.getElem?_map,hc];rfl))⟩
  ·rintro ⟨h1,h2⟩
   refine ⟨by simpa using h1,fun j v c hv hc => ?_⟩
   rw [List.getElem?_map] at hc
   cases hj : cs[j]? with
   | none => rw [hj] at hc;cases hc
   | some y => rw [hj] at hc;cases hc;exact (one v y).2 (h2 j v y hv hj)
 cases x with
 |cl f a b =>
  constructor
  ·rintro ⟨vs,us,h1,h2,h3⟩;exact ⟨vs,us,h1,(hc _ _).1 h2,(hc _ _).1 h3⟩
  ·rintro ⟨vs,us,h1,h2,h3⟩;exact ⟨vs,us,h1,(hc _ _).2 h2,(hc _ _).2 h3⟩
 |ag cs =>
  constructor
  ·rintro ⟨vs,h1,h2,h3⟩;exact ⟨vs,h1,(hc _ _).1 h2,h3⟩
  ·rintro ⟨vs,h1,h2,h3⟩;exact ⟨vs,h1,(hc _ _).2 h2,h3⟩
 | _ => exact Iff.rfl
theorem j98 {O : Nat → Prop} {w : World} {h : Gh} {s : Nat → Nat} {l : Nat} {X : LV} : LocOK O w h (s l) (X.ren s) ↔ LocOK O w (h.ren s) l X := by
 cases X with
 |cells e cs =>
  simp only [LV.ren,LocOK]
  constructor
  ·rintro ⟨arr,h1,h2,h3,h4,h5⟩
   refine ⟨arr,h1,h2,by simpa using h3,h4,fun i v x hv hx => ?_⟩
   have := h5 i v (x.ren s) hv (by rw [List.getElem?_map,hx];rfl)
   exact ⟨q37.1 this.1,this.2⟩
  ·rintro ⟨arr,h1,h2,h3,h4,h5⟩
   refine ⟨arr,h1,h2,by simpa using h3,h4,fun i v x hv hx => ?_⟩
   rw [List.getElem?_map] at hx
   cases hc : cs[i]? with
   | none => rw [hc] at hx;cases hx
   |some y =>
    rw [hc] at hx;cases hx
    exact ⟨q37.2 (h5 i v y hv hc).1,(h5 i v y hv hc).2⟩
 |fz e cs =>
  simp only [LV.ren,LocOK]
  constructor
  ·rintro ⟨arr,h1,h2,h3,h4,h5⟩
   refine ⟨arr,h1,h2,by simpa using h3,h4,fun i v x hv hx => ?_⟩
   have := h5 i v (x.ren s) hv (by rw [List.getElem?_map,hx];rfl)
   exact ⟨q37.1 this.1,this.2⟩
  ·rintro ⟨arr,h1,h2,h3,h4,h5⟩
   refine ⟨arr,h1,h2,by simpa using h3,h4,fun i v x hv hx => ?_⟩
   rw [List.getElem?_map] at hx
   cases hc : cs[i]? with
   | none => rw [hc] at hx;cases hx
   |some y =>
    rw [hc] at hx;cases hx
    exact ⟨q37.2 (h5 i v y hv hc).1,(h5 i v y hv hc).2⟩
 | arr e n f => exact Iff.rfl
 | grow e sz n gen => exact Iff.rfl
 | own e sz n gen f => exact Iff.rfl
 | map ks es => exact Iff.rfl
 | raw M => exact Iff.rfl
 | blk e sz n f => exact Iff.rfl
 | obj o => exact Iff.rfl
theorem z57 {h : Gh} {s : Nat → Nat} {l : Nat} {X : LV} : inB h (s l) (X.ren s) = inB (h.ren s) l X := by cases X <;> rfl
theorem x57 {w : World} {h k : Gh} {v : Value} {x : AV} (hg : h.g = k.g) (hm : ∀ l ∈ x.mentions,h.ρ l = k.ρ l ∧ h.κ l = k.κ l ∧ h.μ l = k.μ l) (r : RelA w h v x) : RelA w k v x := by
 have hc : ∀ (vs : List Value) (cs : List CV),(∀ l ∈ cs.flatMap CV.mentions,h.ρ l = k.ρ l ∧ h.κ l = k.κ l ∧ h.μ l = k.μ l) → RelCs w h vs cs → RelCs w k vs cs := by
  intro vs cs hm r
  refine ⟨r.1,fun j v c hv hc => ?_⟩
  have r := r.2 j v c hv hc
  have hm := fun l hl => hm l (List.mem_flatMap.2 ⟨c,List.mem_of_getElem? hc,hl⟩)
  cases c with
  | p x => simp only [RelCV] at *;rw [← hg];exact r
  | loc l off => simp only [RelCV] at *;rw [← (hm l (by simp [CV.mentions])).1];exact r
  |ow l gen sz n =>
   obtain ⟨h1,h2,h3⟩ := hm l (by simp [CV.mentions])
   simp only [RelCV,RelOw] at *;rw [← h2,← h3];exact r
  | mp l => simp only [RelCV] at *;rw [← (hm l (by simp [CV.mentions])).1];exact r
  | a1 l off => simp only [RelCV] at *;rw [← (hm l (by simp [CV.mentions])).1];exact r
 cases x with
 |ow l gen sz n =>
  obtain ⟨h1,h2,h3⟩ := hm l (by simp [AV.mentions])
  simp only [RelA,RelOw] at *;rw [← h2,← h3];exact r
 |el l gen sz i j =>
  obtain ⟨h1,h2,h3⟩ := hm l (by simp [AV.mentions])
  simp only [RelA] at *;rw [← h2,← h3];exact r
 |cl f a b =>
  obtain ⟨vs,us,e,h1,h2⟩ := r
  simp only [AV.mentions,List.flatMap_append] at hm
  exact ⟨vs,us,e,hc _ _ (fun l hl => hm l (List.mem_append_left _ hl)) h1,hc _ _ (fun l hl => hm l (List.mem_append_right _ hl)) h2⟩
 | top => trivial
 | undef => exact r
 | p x => simp only [RelA] at *;rw [← hg];exact r
 | loc l off => simp only [RelA] at *;rw [← (hm l (by simp [AV.mentions])).1];exact r
 |gr l gen sz n f =>
  obtain ⟨h1,h2,h3⟩ := hm l (by simp [AV.mentions])
  simp only [RelA] at *;rw [← hg,← h2,← h3];exact r
 | row l sz off n => simp only [RelA] at *;rw [← (hm l (by simp [AV.mentions])).1];exact r
 | tup xs => simp only [RelA] at *;rw [← hg];exact r
 | mp l => simp only [RelA] at *;rw [← (hm l (by simp [AV.mentions])).1];exact r
 | ag cs => obtain ⟨vs,h1,h2,h3⟩ := r;exact ⟨vs,h1,hc _ _ hm h2,h3⟩
 | is q => exact r
 | ex b sz i j => exact r
theorem q99 {O : Nat → Prop} {w : World} {h k : Gh} {l : Nat} {X : LV} (hg : h.g = k.g) (hl : h.ρ l = k.ρ l ∧ h.κ l = k.κ l ∧ h.μ l = k.μ l) (hm : ∀ l ∈ X.mentions,h.ρ l = k.ρ l ∧ h.κ l = k.κ l ∧ h.μ l = k.μ l)
  (r : LocOK O w h l X) : LocOK O w k l X := by
 obtain ⟨e1,e2,e3⟩ := hl
 cases X with
 |cells e cs =>
  obtain ⟨arr,h1,h2,h3,h4,h5⟩ := r
  refine ⟨arr,by rw [← e1];exact h1,by rw [← e1];exact h2,h3,by rw [← hg,← e1];exact h4,fun i v x hv hx => ⟨x57 hg (fun l hl => hm l (List.mem_flatMap.2 ⟨x,List.mem_of_getElem? hx,hl⟩)) (h5 i v x hv hx).1,(h5 i v x hv hx).2⟩⟩
 |arr e n f =>
  obtain ⟨arr,fz,h1,h2,h3,h4,h5,h6⟩ := r
  exact ⟨arr,fz,by rw [← e1];exact h1,by rw [← e1];exact h2,h3,h4,by rw [← hg,← e1];exact h5,by rw [← hg];exact h6⟩
 |grow e sz n gen =>
  obtain ⟨h1,h2,h3,h4⟩ := r
  exact ⟨by rw [← e3];exact h1,by rw [← e2];exact h2,by rw [← e2,← hg];exact h3,by rw [← e2];exact h4⟩
 |own e sz n gen f =>
  obtain ⟨h1,h2,h4⟩ := r
  exact ⟨by rw [← e3];exact h1,by rw [← e2,← hg];exact h2,by rw [← e2,← hg];exact h4⟩
 |fz e cs =>
  obtain ⟨arr,h1,h2,h3,h4,h5⟩ := r
  refine ⟨arr,by rw [← e1];exact h1,by rw [← e1];exact h2,h3,by rw [← hg,← e1];exact h4,fun i v x hv hx => ⟨x57 hg (fun l hl => hm l (List.mem_flatMap.2 ⟨x,List.mem_of_getElem? hx,hl⟩)) (h5 i v x hv hx).1,(h5 i v x hv hx).2⟩⟩
 |map ks es =>
  obtain ⟨arr,c,h1,h2,h3,h4⟩ := r
  exact ⟨arr,c,by rw [← e1];exact h1,by rw [← e1];exact h2,by rw [← hg,← e1];exact h3,by rw [← hg];exact h4⟩
 | raw M => intro b o hb;obtain ⟨h1,h2,h3⟩ := r b o hb;exact ⟨h1,by rw [← hg];exact h2,by rw [← hg];exact h3⟩
 | blk e sz n f => obtain ⟨cap,h1,h2,h3⟩ := r;exact ⟨cap,by rw [← e1];exact h1,by rw [← e1,← hg];exact h2,by rw [← hg,← e1];exact h3⟩
 | obj o => obtain ⟨h1,h2,h3⟩ := r;exact ⟨by rw [← e1];exact h1,by rw [← e1];exact h2,by rw [← hg,← e1];exact h3⟩
theorem z99 {h k : Gh} {l : Nat} {X : LV} (hl : h.ρ l = k.ρ l ∧ h.κ l = k.κ l ∧ h.μ l = k.μ l) : inB h l X = inB k l X := by
 cases X <;> simp [inB,hl.1,hl.2.1]
def AV.clean (t : Nat → Option Nat) : AV → AV
 | .gr l gen sz n f => match t l with
  | some _ => .p (.d (.sl sz n f))
  | none => .gr l gen sz n f
 | x => x
def LV.clean (t : Nat → Option Nat) : LV → LV
 | .cells e cs => .cells e (cs.map (AV.clean t))
 | .fz e cs => .fz e (cs.map (AV.clean t))
 | X => X
theorem q156 {O : Nat → Prop} {w w' : World} {h h' : Gh} {t : Nat → Option Nat} {l : Nat} {X : LV} (hρ : h'.ρ l = h.ρ l) (hκ : h'.κ l = h.κ l) (hμ : h'.μ l = h.μ l) (hk : Keep w h.g w' h'.g)
  (hb : ∀ b,inB h l X b → w'.heap[b]? = w.heap[b]? ∧ h'.g b = h.g b) (hc : ∀ v x,(∀ l ∈ x.mentions,l ∈ X.mentions) → RelA w h v x → RelA w' h' v (x.clean t)) (k : LocOK O w h l X) :
  LocOK O w' h' l (X.clean t) ∧ inB h' l (X.clean t) = inB h l X := by
 cases X with
 |cells e cs =>
  obtain ⟨arr,h1,h2,h3,h4,h5⟩ := k
  obtain ⟨e1,e2⟩ := hb (h.ρ l) rfl
  refine ⟨⟨arr,by rw [hρ];exact h1,by rw [hρ,e1];exact h2,by simpa using h3,by rw [hρ,e2];exact h4,fun i v x hv hx => ?_⟩,by simp [inB,LV.clean,hρ]⟩
  rw [List.getElem?_map] at hx
  cases hci : cs[i]? with
  | none => rw [hci] at hx;cases hx
  |some y =>
   rw [hci] at hx;cases hx
   exact ⟨hc v y (fun l hl => List.mem_flatMap.2 ⟨y,List.mem_of_getElem? hci,hl⟩) (h5 i v y hv hci).1,(h5 i v y hv hci).2⟩
 |fz e cs =>
  obtain ⟨arr,h1,h2,h3,h4,h5⟩ := k
  obtain ⟨e1,e2⟩ := hb (h.ρ l) rfl
  refine ⟨⟨arr,by rw [hρ];exact h1,by rw [hρ,e1];exact h2,by simpa using h3,by rw [hρ,e2];exact h4,fun i v x hv hx => ?_⟩,by simp [inB,LV.clean,hρ]⟩
  rw [List.getElem?_map] at hx
  cases hci : cs[i]? with
  | none => rw [hci] at hx;cases hx
  |some y =>
   rw [hci] at hx;cases hx
   exact ⟨hc v y (fun l hl => List.mem_flatMap.2 ⟨y,List.mem_of_getElem? hci,hl⟩) (h5 i v y hv hci).1,(h5 i v y hv hci).2⟩
 |arr e n f =>
  obtain ⟨arr,fz,h1,h2,hfz,h3,h4,h5⟩ := k
  obtain ⟨e1,e2⟩ := hb (h.ρ l) rfl
  exact ⟨⟨arr,fz,by rw [hρ];exact h1,by rw [hρ,e1];exact h2,hfz,h3,by rw [hρ,e2];exact h4,fun i v hi hv => (h5 i v hi hv).keep hk⟩,by simp [inB,LV.clean,hρ]⟩
 |grow e sz n gen =>
  obtain ⟨h1,⟨xs,h2⟩,h3,h4⟩ := k
  refine ⟨⟨by rw [hμ];exact h1,⟨xs,?_⟩,fun b c hb' => ?_,fun b hb' => h4 b (by rw [← hκ];exact hb')⟩,by simp [inB,LV.clean,hκ]⟩
  ·rw [hκ]
   rcases h2 with ⟨a1,a2 | ⟨gb,cap,cur,a2,a3,a4,a5⟩⟩
   ·exact ⟨a1,.inl a2⟩
   ·have hb' : inB h l (.grow e sz n gen) gb := by simp [inB,a2,Value.ownBlock]
    exact ⟨a1,.inr ⟨gb,cap,cur,a2,a3,by rw [(hb gb hb').1];exact a4,a5⟩⟩
  ·rw [hκ] at hb'
   have hb2 : inB h l (.grow e sz n gen) b := by simp [inB,hb',Value.ownBlock]
   rw [(hb b hb2).2]
   exact h3 b c hb'
 |own e sz n gen f =>
  obtain ⟨h1,⟨xs,h2,h3⟩,h4⟩ := k
  refine ⟨⟨by rw [hμ];exact h1,⟨xs,?_,h3.keep hk⟩,fun b hb' => ?_⟩,by simp [inB,LV.clean,hκ]⟩
  ·rw [hκ]
   exact x83 h2 fun b hb' => (hb b (by simpa [inB] using hb')).1
  ·rw [hκ] at hb'
   rw [(hb b (by simpa [inB] using hb')).2]
   exact h4 b hb'
 |map ks es =>
  obtain ⟨arr,c,h1,h2,h3,h4⟩ := k
  obtain ⟨e1,e2⟩ := hb (h.ρ l) rfl
  exact ⟨⟨arr,c,by rw [hρ];exact h1,by rw [hρ,e1];exact h2,by rw [hρ,e2];exact h3,h4.keep hk⟩,by simp [inB,LV.clean,hρ]⟩
 |raw M =>
  refine ⟨fun b o hM => ?_,rfl⟩
  obtain ⟨h1,h2,h3⟩ := k b o hM
  obtain ⟨e1,e2⟩ := hb b (by simp [inB,hM])
  exact ⟨h1,h2.keep hk e1,by rw [e2];exact h3⟩
 |blk e sz n f =>
  obtain ⟨cap,h1,h2,h3⟩ := k
  obtain ⟨e1,e2⟩ := hb (h.ρ l) rfl
  exact ⟨⟨cap,by rw [hρ];exact h1,by rw [hρ];exact h2.keep hk e1,by rw [hρ,e2];exact h3⟩,by simp [inB,LV.clean,hρ]⟩
 |obj o =>
  obtain ⟨h1,h2,h3⟩ := k
  obtain ⟨e1,e2⟩ := hb (h.ρ l) rfl
  exact ⟨⟨by rw [hρ];exact h1,by rw [hρ,e1];exact h2,by rw [hρ,e2];exact h3⟩,by simp [inB,LV.clean,hρ]⟩
theorem x99 {α : Type} (L M : List (Nat × α)) (k : Nat) : look (L ++ M) k = match look L k with
  | some x => some x
  | none => look M k := by
 induction L with
 | nil => rfl
 |cons p L ih =>
  obtain ⟨t,x⟩ := p
  simp only [List.cons_append,look]
  split
  ·rfl
  ·exact ih
theorem x72 {α β : Type} (f : α → β) (L : List (Nat × α)) (k : Nat) : look (L.map fun p => (p.1,f p.2)) k = (look L k).map f := by
 induction L with
 | nil => rfl
 |cons p L ih =>
  obtain ⟨t,x⟩ := p
  simp only [List.map_cons,look]
  split
  ·rfl
  ·exact ih
theorem z156 {α : Type} (q : Nat → Bool) (L : List (Nat × α)) (k : Nat) : look (L.filter fun p => q p.1) k = if q k then look L k else none := by
 induction L with
 | nil => simp [look]
 |cons p L ih =>
  obtain ⟨t,x⟩ := p
  simp only [List.filter_cons]
  by_cases ht : t = k
  ·subst ht
   cases hq : q t
   ·simp only [Bool.false_eq_true,if_false];rw [ih,hq];rfl
   ·simp [look]
  ·cases hq : q t
   ·simp only [Bool.false_eq_true,if_false,look,if_neg ht];exact ih
   ·simp only [if_true,look,if_neg ht];exact ih
def keysOK {α : Type} : List (Nat × α) → Bool
 | [] => true
 | (t,_) :: r => (look r t).isNone && keysOK r
theorem j99 {α β : Type} (s : Nat → Nat) (f : α → β) : ∀ (L : List (Nat × α)) (m : Nat) (y : β),keysOK L = true → look (L.map fun p => (s p.1,f p.2)) m = some y → ∃ l x,look L l = some x ∧ s l = m ∧ y = f x
 | [],m,y,_,h => by cases h
 |(t,x) :: L,m,y,hk,h => by
  simp only [keysOK,Bool.and_eq_true] at hk
  simp only [List.map_cons,look] at h
  split at h
  ·rename_i e;cases h;exact ⟨t,x,by simp [look],e,rfl⟩
  ·obtain ⟨l,x',h1,h2,h3⟩ := j99 s f L m y hk.2 h
   refine ⟨l,x',?_,h2,h3⟩
   simp only [look]
   rw [if_neg (fun e => by subst e;rw [h1] at hk;simp at hk)]
   exact h1
def afterCall (sg : List (Nat × Nat)) (A : ASt) (dst : Option Tmp) (res : AV) (L' : List (Nat × LV)) : ASt :=
 ⟨(match dst with
  | some d => [(d,res.ren (sub sg))]
  | none => []) ++ A.fr.map fun p => (p.1,p.2.clean (back sg)),
  (L'.map fun p => (sub sg p.1,p.2.ren (sub sg))) ++ (A.locs.filter fun p => (back sg p.1).isNone).map fun p => (p.1,p.2.clean (back sg))⟩
def resM : List AV → Option AV
 | [x] => some x
 | xs => (xs.mapM pvAV).map .tup
theorem x156 {w : World} {h : Gh} {v : Value} {rs : List AV} {x : AV} (hx : resM rs = some x) (r : RelRA w h v rs) : RelA w h v x := by
 match rs,hx,r with
 | [y],hx,r => cases hx;exact r
 | [],hx,⟨vs,hv,hr⟩ => cases hx;exact ⟨vs,hv,by have := hr.1;simp at this;subst this;exact RelPs.nil _ _⟩
 |a :: b :: r',hx,⟨vs,hv,hr⟩ =>
  simp only [resM,Option.map_eq_some_iff] at hx
  obtain ⟨ys,hy,rfl⟩ := hx
  exact ⟨vs,hv,j52 hy hr⟩
theorem RelAs.append {w : World} {h : Gh} {vs us : List Value} {xs ys : List AV} (r : RelAs w h vs xs) (t : RelAs w h us ys) : RelAs w h (vs ++ us) (xs ++ ys) := by
 refine ⟨by simp [r.1,t.1],fun j v x hv hx => ?_⟩
 by_cases hj : j < vs.length
 ·rw [List.getElem?_append_left hj] at hv
  rw [List.getElem?_append_left (r.1 ▸ hj)] at hx
  exact r.2 j v x hv hx
 ·rw [List.getElem?_append_right (by omega)] at hv
  rw [List.getElem?_append_right (by have := r.1;omega),← r.1] at hx
  exact t.2 _ v x hv hx
def calleeC : AV → Option (FuncId × List CV × List CV)
 | .p (.fn (.func f) a b) => some (f,a.map .p,b.map .p)
 | .cl (.func f) a b => some (f,a,b)
 | _ => none
theorem q100 {w : World} {h : Gh} {vs : List Value} {xs : List CV} (r : RelCs w h vs xs) : RelAs w h vs (xs.map CV.av) := by
 refine ⟨by simp [r.1],fun j v x hv hx => ?_⟩
 rw [List.getElem?_map] at hx
 cases hj : xs[j]? with
 | none => rw [hj] at hx;cases hx
 | some y => rw [hj] at hx;cases hx;exact (x66 y).1 (r.2 j v y hv hj)
theorem z100 {w : World} {h : Gh} {vs : List Value} {xs : List PV} (r : RelPs w h.g vs xs) : RelCs w h vs (xs.map .p) := by
 refine ⟨by simp [r.1],fun j v x hv hx => ?_⟩
 rw [List.getElem?_map] at hx
 cases hj : xs[j]? with
 | none => rw [hj] at hx;cases hx
 | some y => rw [hj] at hx;cases hx;exact r.2 j v y hv hj
theorem j156 {w : World} {h : Gh} {x : AV} {g : FuncId} {pre post : List CV} (hx : calleeC x = some (g,pre,post)) {v : Value} (hf : RelA w h v x) :
  ∃ us vs : List Value,v = .func (.func g) us.toArray vs.toArray ∧ RelCs w h us pre ∧ RelCs w h vs post := by
 unfold calleeC at hx
 split at hx
 ·cases hx
  cases hf with
  | fn _ us vs _ _ hl hm hr hs => exact ⟨us,vs,rfl,z100 ⟨hl,hr⟩,z100 ⟨hm,hs⟩⟩
 ·cases hx
  obtain ⟨us,vs,e,h1,h2⟩ := hf
  exact ⟨us,vs,e,h1,h2⟩
 ·cases hx
theorem q157 {o : Oper} {c : Call} {f : Operand} (ho : o.op = .call c) (hc : c.callee = .value f) {x : AV} {g : FuncId} {pre post : List CV} (hx : calleeC x = some (g,pre,post)) {ys : List AV}
  {w : World} {h : Gh} {a : Act} (hf : RelA w h (a.eval f) x) (hargs : RelAs w h (c.args.toList.map a.eval) ys) :
  ∃ vs : List Value,RelAs w h vs (pre.map CV.av ++ ys ++ post.map CV.av) ∧ (execOp a.eval o).run P w = (callFunc g vs.toArray).run P w := by
 obtain ⟨us,vs,hv0,h1,h2⟩ := j156 hx hf
 refine ⟨us ++ c.args.toList.map a.eval ++ vs,RelAs.append (RelAs.append (q100 h1) hargs) (q100 h2),?_⟩
 have : (us ++ c.args.toList.map a.eval ++ vs).toArray = us.toArray ++ c.args.map a.eval ++ vs.toArray := by
  apply Array.ext';simp
 rw [this]
 simp [execOp,ho,resolve,hc,hv0,Deferred.ofValue,invoke]
structure NamesOK (sg : List (Nat × Nat)) (A : ASt) (L L' : List (Nat × LV)) (res : AV) : Prop where
 keys : keysOK L' = true
 locs : ∀ l X,look L l = some X → look A.locs (sub sg l) = some (X.ren (sub sg))
 dom : ∀ l X,look L l = some X → back sg (sub sg l) = some l
 dom' : ∀ l X,look L' l = some X → back sg (sub sg l) = some l ∧ ∀ k ∈ X.mentions,back sg (sub sg k) = some k
 res : ∀ k ∈ res.mentions,back sg (sub sg k) = some k
 inv : ∀ m l,back sg m = some l → sub sg l = m
 fresh : ∀ m l,back sg m = some l → (∃ X,look L l = some X) ∨ A.unused m
theorem x17 {ι : Type} {nt : Nat} {ops : Array Oper} {o : Oper} {A : ASt} {c : Call} {f : Operand} {g : FuncId} {pre post : List CV} {xs : List AV} {rsI : ι → List AV} {L : List (Nat × LV)} {LI : ι → List (Nat × LV)} {resI : ι → AV} (sg : List (Nat × Nat))
  (hw : wantedA ops o A = some true) (hd : dstOK nt o = true) (ho : o.op = .call c) (hc : c.callee = .value f) (hx : calleeC (A.eval f) = some (g,pre,post))
  (hargs : pre.map CV.av ++ c.args.toList.map A.eval ++ post.map CV.av = xs.map (AV.ren (sub sg))) (hcall : MCalls P g xs L (fun r M => ∃ i,r = rsI i ∧ M = LI i)) (hres : ∀ i,resM (rsI i) = some (resI i)) (hN : NamesOK sg A L [] .top) (hNI : ∀ i,NamesOK sg A L (LI i) (resI i)) :
  StepX P nt ops o A (fun A' => ∃ i,A' = afterCall sg A o.dst (resI i) (LI i)) := by
 intro w0 g0 h a w r K Q hn
 rw [x53 r hw]
 simp only [if_true]
 left
 have hev := r.evals c.args.toList
 obtain ⟨vs,hvs,hrun⟩ := q157 (P := P) ho hc hx (r.eval f) hev
 rw [hargs] at hvs
 let hσ := h.ren (sub sg)
 have hvs' : RelAs w hσ vs xs := by
  refine ⟨by have := hvs.1;simpa using this,fun j v x hv hxj => ?_⟩
  exact q37.1 (hvs.2 j v _ hv (by rw [List.getElem?_map,hxj];rfl))
 have hlocs : LocsOK (fun _ => True) w hσ L := by
  refine ⟨fun l X hX => q57 (j98.1 (r.locs _ _ (hN.locs l X hX))) fun _ _ => trivial,fun l l' X X' b hne h1 h2 hb hb' => ?_⟩
  rw [← z57] at hb hb'
  exact r.sep _ _ _ _ b (fun e => hne (by have e1 := hN.dom l X h1;have e2 := hN.dom l' X' h2;rw [e,e2] at e1;cases e1;rfl)) (hN.locs l X h1) (hN.locs l' X' h2) hb hb'
 have key := hcall w hσ vs r.gz hvs' hlocs
 have fin : ∀ v w',(∃ h1 r1 L1,(∃ i,r1 = rsI i ∧ L1 = LI i) ∧ RelRA w' h1 v r1 ∧ LocsOK (fun _ => True) w' h1 L1 ∧ Chg L L1 w hσ w' h1) → K (a.put o.dst v) w' := by
  rintro v w' ⟨h1,r1,L1,⟨i,e1,e2⟩,hR,hL,hC⟩
  rw [e1] at hR
  rw [e2] at hL hC
  clear e1 e2 r1 L1
  have hN := hNI i
  have hres := hres i
  have hn := fun a' w' h'' hr => hn (afterCall sg A o.dst (resI i) (LI i)) a' w' h'' ⟨i,rfl⟩ hr
  clear hNI
  generalize hrs : rsI i = rs at hR hres
  generalize hLi : LI i = L' at *
  generalize hri : resI i = res at *
  let h' : Gh := ⟨h1.g,fun m => match back sg m with | some l => h1.ρ l | none => h.ρ m,fun m => match back sg m with | some l => h1.κ l | none => h.κ m,fun m => match back sg m with | some l => h1.μ l | none => h.μ m⟩
  have hname : ∀ l,back sg (sub sg l) = some l → h1.ρ l = (h'.ren (sub sg)).ρ l ∧ h1.κ l = (h'.ren (sub sg)).κ l ∧ h1.μ l = (h'.ren (sub sg)).μ l := by
   intro l hl
   simp [Gh.ren,h',hl]
  have hout : ∀ m,back sg m = none → h'.ρ m = h.ρ m ∧ h'.κ m = h.κ m ∧ h'.μ m = h.μ m := by
   intro m hm
   simp [h',hm]
  have hownO : ∀ b,ownB hσ L b → w0.O b ∧ b < w.heap.size := by
   rintro b ⟨l,X,hX,hb⟩
   rw [← z57] at hb
   have := r.locs _ _ (hN.locs l X hX)
   exact ⟨inB_O this hb,z31 this hb⟩
  have hotherB : ∀ m Y b,look A.locs m = some Y → back sg m = none → inB h m Y b → ¬ ownB hσ L b := by
   rintro m Y b hY hm hb ⟨l,X,hX,hb2⟩
   rw [← z57] at hb2
   refine r.sep m (sub sg l) Y _ b (fun e => ?_) hY (hN.locs l X hX) hb hb2
   rw [e,hN.dom l X hX] at hm;cases hm
  have hclean : ∀ v x,(∀ m ∈ x.mentions,∀ l,back sg m = some l → ∃ X,look L l = some X) → RelA w h v x → RelA w' h' v (x.clean (back sg)) := by
   intro v x hm rx
   have hρ : ∀ l,l ∈ x.mentions → h'.ρ l = h.ρ l := by
    intro m hmm
    cases hb : back sg m with
    | none => exact (hout m hb).1
    |some l =>
     obtain ⟨X,hX⟩ := hm m hmm l hb
     have e1 := hC.ρ l X hX
     have e2 := hN.inv m l hb
     show (match back sg m with | some l => h1.ρ l | none => h.ρ m) = h.ρ m
     rw [hb]
     show h1.ρ l = h.ρ m
     rw [e1]
     show h.ρ (sub sg l) = h.ρ m
     rw [e2]
   have hup : ∀ l,l ∈ x.mentions → h.μ l < h'.μ l ∨ (h'.κ l = h.κ l ∧ h'.μ l = h.μ l) := by
    intro m hmm
    cases hb : back sg m with
    | none => exact .inr (hout m hb).2
    |some l =>
     obtain ⟨X,hX⟩ := hm m hmm l hb
     have e2 := hN.inv m l hb
     have e1 := hC.up l X hX
     simp only [hσ,Gh.ren,e2] at e1
     simp only [h',hb]
     exact e1
   have hgen : ∀ l gen,l ∈ x.mentions → gen ≤ h.μ l → gen ≤ h'.μ l ∧ (h'.μ l = gen → h.μ l = gen ∧ h'.κ l = h.κ l) := by
    intro l gen hl hg
    rcases hup l hl with hlt | ⟨e1,e2⟩
    ·exact ⟨by omega,fun he => by omega⟩
    ·rw [e1,e2];exact ⟨hg,fun e => ⟨e,rfl⟩⟩
   have how : ∀ v l gen n,l ∈ x.mentions → RelOw h v l gen n → RelOw h' v l gen n := by
    rintro v l gen n hl ⟨r1,r2,r3⟩
    obtain ⟨g1,g2⟩ := hgen l gen hl r1
    exact ⟨g1,r2,fun he => by obtain ⟨e1,e2⟩ := g2 he;rw [e2];exact r3 e1⟩
   have hcs : ∀ (vs : List Value) (cs : List CV),(∀ l ∈ cs.flatMap CV.mentions,l ∈ x.mentions) → RelCs w h vs cs → RelCs w' h' vs cs := by
    intro vs cs hmx r
    refine ⟨r.1,fun j v c hv hc => ?_⟩
    have r := r.2 j v c hv hc
    have hmx := fun l hl => hmx l (List.mem_flatMap.2 ⟨c,List.mem_of_getElem? hc,hl⟩)
    cases c with
    | p x => exact RelP.keep hC.keep r
    | loc l off => simp only [RelCV] at *;rw [hρ l (hmx l (by simp [CV.mentions]))];exact r
    | ow l gen sz n => exact how v l gen n (hmx l (by simp [CV.mentions])) r
    | mp l => simp only [RelCV] at *;rw [hρ l (hmx l (by simp [CV.mentions]))];exact r
    | a1 l off => simp only [RelCV] at *;rw [hρ l (hmx l (by simp [CV.mentions]))];exact r
   cases x with
   | ow l gen sz n => exact how v l gen n (by simp [AV.mentions]) rx
   |el l gen sz i j =>
    obtain ⟨r1,b,r2,r3⟩ := rx
    obtain ⟨g1,g2⟩ := hgen l gen (by simp [AV.mentions]) r1
    exact ⟨g1,b,r2,fun he => by obtain ⟨e1,e2⟩ := g2 he;rw [e2];exact r3 e1⟩
   |cl f a b =>
    obtain ⟨vs,us,e,h1,h2⟩ := rx
    exact ⟨vs,us,e,hcs _ _ (fun l hl => by simp only [AV.mentions,List.flatMap_append];exact List.mem_append_left _ hl) h1,hcs _ _ (fun l hl => by simp only [AV.mentions,List.flatMap_append];exact List.mem_append_right _ hl) h2⟩
   | top => trivial
   | undef => exact rx
   | p x => exact RelP.keep hC.keep rx
   | loc l off => simp only [AV.clean,RelA] at *;rw [hρ l (by simp [AV.mentions])];exact rx
   | row l sz off n => simp only [AV.clean,RelA] at *;rw [hρ l (by simp [AV.mentions])];exact rx
   | tup xs => obtain ⟨us,hv,hr⟩ := rx;exact ⟨us,hv,hr.keep hC.keep⟩
   | mp l => simp only [AV.clean,RelA] at *;rw [hρ l (by simp [AV.mentions])];exact rx
   | ag cs => obtain ⟨vs,h1,h2,h3⟩ := rx;exact ⟨vs,h1,hcs _ _ (fun l hl => hl) h2,h3⟩
   | is q => exact rx
   | ex b sz i j => exact rx
   |gr l gen sz n f =>
    obtain ⟨r1,r2,r3⟩ := rx
    simp only [AV.clean]
    cases hb : back sg l with
    | some k => exact .d _ _ (r1.keep hC.keep)
    |none =>
     obtain ⟨_,e2,e3⟩ := hout l hb
     exact ⟨r1.keep hC.keep,by rw [e3];exact r2,fun he => by rw [e2];exact r3 (by rw [← e3];exact he)⟩
  have hlookL : ∀ m Y,look (afterCall sg A o.dst res L').locs m = some Y → (∃ l X,look L' l = some X ∧ sub sg l = m ∧ Y = X.ren (sub sg)) ∨ (back sg m = none ∧ ∃ X,look A.locs m = some X ∧ Y = X.clean (back sg)) := by
   intro m Y hY
   simp only [afterCall,x99] at hY
   split at hY
   ·rename_i y hy
    cases hY
    obtain ⟨l,X,q1,q2,q3⟩ := j99 (sub sg) (LV.ren (sub sg)) L' m _ hN.keys hy
    exact .inl ⟨l,X,q1,q2,q3⟩
   ·rw [x72,z156 (fun m => (back sg m).isNone)] at hY
    split at hY
    ·rename_i hq
     cases hX : look A.locs m with
     | none => rw [hX] at hY;cases hY
     |some X =>
      rw [hX] at hY;cases hY
      exact .inr ⟨by simpa using hq,X,rfl,rfl⟩
    ·cases hY
  have hmenF : ∀ t x,look A.fr t = some x → ∀ m ∈ x.mentions,∀ l,back sg m = some l → ∃ X,look L l = some X := by
   intro t x hx m hm l hb
   rcases hN.fresh m l hb with h | h
   ·exact h
   ·exact absurd hm (h.1 t x hx)
  have hmenL : ∀ k X,look A.locs k = some X → ∀ m ∈ X.mentions,∀ l,back sg m = some l → ∃ X,look L l = some X := by
   intro k X hX m hm l hb
   rcases hN.fresh m l hb with h | h
   ·exact h
   ·exact absurd hm (h.2.1 k X hX)
  have hloc1 : ∀ l X,look L' l = some X → LocOK w0.O w' h' (sub sg l) (X.ren (sub sg)) ∧ (∀ b,inB h' (sub sg l) (X.ren (sub sg)) b → w.heap.size ≤ b ∨ ownB hσ L b) ∧ inB h' (sub sg l) (X.ren (sub sg)) = inB h1 l X := by
   intro l X hX
   obtain ⟨d1,d2⟩ := hN.dom' l X hX
   have hbk : inB h' (sub sg l) (X.ren (sub sg)) = inB h1 l X := by rw [z57,← z99 (hname l d1)]
   have hown : ∀ b,inB h1 l X b → w.heap.size ≤ b ∨ ownB hσ L b := fun b hb => hC.own b ⟨l,X,hX,hb⟩
   refine ⟨j98.2 (q99 (h := h1) (k := h'.ren (sub sg)) rfl (hname l d1) (fun k hk => hname k (d2 k hk)) (q57 (hL.1 l X hX) fun b hb => ?_)),fun b hb => hown b (by rw [← hbk];exact hb),hbk⟩
   rcases hown b hb with hge | ho
   ·exact r.base b hge
   ·exact (hownO b ho).1
  have hloc2 : ∀ m X,look A.locs m = some X → back sg m = none → LocOK w0.O w' h' m (X.clean (back sg)) ∧ inB h' m (X.clean (back sg)) = inB h m X := by
   intro m X hX hm
   obtain ⟨e1,e2,e3⟩ := hout m hm
   refine q156 e1 e2 e3 hC.keep (fun b hb => ?_) (fun v x hsub rx => hclean v x (fun k hk => hmenL m X hX k (hsub k hk)) rx) (r.locs m X hX)
   have hlt := z31 (r.locs m X hX) hb
   have hno := hotherB m X b hX hm hb
   exact ⟨hC.below.block b hlt hno,hC.gam b hlt hno⟩
  refine hn _ _ h' ⟨?_,by cases o.dst <;> exact r.defers,fun t x hx => ?_,fun m Y hY => ?_,fun m m' Y Y' b hne hY hY' hb hb' => ?_,?_,fun l hl => ?_⟩
  ·simpa [Act.put] using (by cases o.dst <;> simpa [Act.put] using r.size)
  ·simp only [afterCall,x99] at hx
   have hdt := j54 hd
   cases hod : o.dst with
   |none =>
    rw [hod] at hx
    simp only [look,x72] at hx
    cases hy : look A.fr t with
    | none => rw [hy] at hx;cases hx
    |some y =>
     rw [hy] at hx;cases hx
     simp only [Act.put]
     exact hclean _ y (hmenF t y hy) (r.fr t y hy)
   |some d =>
    rw [hod] at hx
    rw [j83 a d t v (by rw [r.size];exact hdt d hod)]
    simp only [look] at hx
    by_cases hdt' : d = t
    ·subst hdt'
     rw [if_pos rfl] at hx ⊢
     cases hx
     refine q37.2 (x57 (h := h1) rfl (fun k hk => hname k (hN.res k hk)) (x156 hres hR))
    ·rw [if_neg hdt'] at hx ⊢
     simp only [x72] at hx
     cases hy : look A.fr t with
     | none => rw [hy] at hx;cases hx
     |some y =>
      rw [hy] at hx;cases hx
      exact hclean _ y (hmenF t y hy) (r.fr t y hy)
  ·rcases hlookL m Y hY with ⟨l,X,hX,rfl,rfl⟩ | ⟨hm,X,hX,rfl⟩
   ·exact (hloc1 l X hX).1
   ·exact (hloc2 m X hX hm).1
  ·rcases hlookL m Y hY with ⟨l,X,hX,rfl,rfl⟩ | ⟨hm,X,hX,rfl⟩ <;> rcases hlookL m' Y' hY' with ⟨l',X',hX',rfl,rfl⟩ | ⟨hm',X',hX',rfl⟩
   ·rw [(hloc1 l X hX).2.2] at hb
    rw [(hloc1 l' X' hX').2.2] at hb'
    exact hL.2 l l' X X' b (fun e => hne (by rw [e])) hX hX' hb hb'
   ·rw [(hloc2 m' X' hX' hm').2] at hb'
    have hlt := z31 (r.locs m' X' hX') hb'
    rcases (hloc1 l X hX).2.1 b hb with hge | ho
    ·omega
    ·exact hotherB m' X' b hX' hm' hb' ho
   ·rw [(hloc2 m X hX hm).2] at hb
    have hlt := z31 (r.locs m X hX) hb
    rcases (hloc1 l' X' hX').2.1 b hb' with hge | ho
    ·omega
    ·exact hotherB m X b hX hm hb ho
   ·rw [(hloc2 m X hX hm).2] at hb
    rw [(hloc2 m' X' hX' hm').2] at hb'
    exact r.sep m m' X X' b hne hX hX' hb hb'
  ·refine ⟨r.ext.below.trans ⟨hC.below.os,hC.below.tape,hC.below.output,hC.below.size,fun k hk hO => hC.below.block k hk fun ho => hO (hownO k ho).1⟩,fun b hO => ?_,hC.gz,r.ext.keep.trans hC.keep⟩
   exact (hC.gam b (r.base.lt hO) fun ho => hO (hownO b ho).1).trans (r.ext.gam b hO)
  ·obtain ⟨p1,p2⟩ := r.pin l hl
   cases hb : back sg l with
   | none => obtain ⟨o1,o2,o3⟩ := hout l hb;rw [o1,o2,o3];exact ⟨p1,p2⟩
   |some k =>
    rcases hN.fresh l k hb with ⟨X,hX⟩ | hu
    ·have e1 := hC.ρ k X hX
     have e2 := hN.inv l k hb
     have e3 := hC.up k X hX
     simp only [hσ,Gh.ren,e2] at e1 e3
     simp only [h',hb]
     refine ⟨by rw [e1];exact p1,?_⟩
     rcases e3 with e3 | ⟨e3,e4⟩
     ·rcases p2 with p2 | ⟨p2,p3⟩
      ·exact .inl (by omega)
      ·exact .inl (by omega)
     ·rw [e3,e4];exact p2
    ·have := hu.2.2;omega
 unfold Oper.wp
 rw [hrun]
 unfold CallRes at key
 split at key
 ·rename_i f' args w1 hrr
  rw [hrr]
  show Calls P f' args w1 _
  refine key.mono fun e w' ⟨v,he,hR⟩ => ?_
  subst he
  exact fin v w' hR
 ·rename_i v w1 hrr
  rw [hrr]
  exact fin v w1 key
 ·exact key.elim
theorem j57 {nt : Nat} {ops : Array Oper} {o : Oper} {A : ASt} {c : Call} {f : Operand} {g : FuncId} {pre post : List CV} {xs rs : List AV} {L L' : List (Nat × LV)} {res : AV} (sg : List (Nat × Nat))
  (hw : wantedA ops o A = some true) (hd : dstOK nt o = true) (ho : o.op = .call c) (hc : c.callee = .value f) (hx : calleeC (A.eval f) = some (g,pre,post))
  (hargs : pre.map CV.av ++ c.args.toList.map A.eval ++ post.map CV.av = xs.map (AV.ren (sub sg))) (hcall : MCalls P g xs L (fun r M => r = rs ∧ M = L')) (hres : resM rs = some res) (hN : NamesOK sg A L L' res) :
  StepS P nt ops o A (afterCall sg A o.dst res L') := by
 have h := x17 (ι := Unit) (rsI := fun _ => rs) (LI := fun _ => L') (resI := fun _ => res) sg hw hd ho hc hx hargs (hcall.mono fun r M h => ⟨(),h⟩) (fun _ => hres)
  ⟨rfl,hN.locs,hN.dom,fun l X hX => (by cases hX),fun k hk => (by cases hk),hN.inv,hN.fresh⟩ (fun _ => hN)
 exact StepX.s fun w0 g0 h' a w r K Q hn => h w0 g0 h' a w r K Q fun A1 a' w' h'' ⟨_,e⟩ hr => hn A1 a' w' h'' e hr
theorem z157 : (none : Option Operand).toArray.toList = [] := rfl
theorem x157 (x : Operand) : (some x).toArray.toList = [x] := rfl
attribute [go_sem] z157 x157
attribute [go_sem] afterCall AV.clean LV.clean AV.ren LV.ren CV.ren CV.av sub back List.filter_cons List.filter_nil Option.isNone_some Option.isNone_none
def LocsAt (A : ASt) (s : Nat → Nat) : List (Nat × LV) → Prop
 | [] => True
 | p :: r => look A.locs (s p.1) = some (p.2.ren s) ∧ LocsAt A s r
def namesB (sg : List (Nat × Nat)) (A : ASt) (L L' : List (Nat × LV)) (res : AV) : Bool :=
 keysOK L' && L.all (fun p => back sg (sub sg p.1) == some p.1) && L'.all (fun p => (back sg (sub sg p.1) == some p.1) && p.2.mentions.all fun k => back sg (sub sg k) == some k) &&
  res.mentions.all (fun k => back sg (sub sg k) == some k) && sg.all (fun p => sub sg p.1 == p.2) && sg.all fun p => (look L p.1).isSome || unusedB A p.2
theorem j72 : ∀ {sg : List (Nat × Nat)} {m l : Nat},back sg m = some l → (l,m) ∈ sg
 |(l,m) :: r,u,k,h => by
  simp only [back] at h
  split at h
  ·rename_i e;cases h;subst e;simp
  ·exact List.mem_cons_of_mem _ (j72 h)
theorem q58 {α : Type} : ∀ {L : List (Nat × α)} {l : Nat} {x : α},look L l = some x → (l,x) ∈ L
 |(t,y) :: r,l,x,h => by
  simp only [look] at h
  split at h
  ·rename_i e;cases h;subst e;simp
  ·exact List.mem_cons_of_mem _ (q58 h)
theorem q15 {sg : List (Nat × Nat)} {A : ASt} {L L' : List (Nat × LV)} {res : AV} (hl : LocsAt A (sub sg) L) (hb : namesB sg A L L' res = true) : NamesOK sg A L L' res := by
 unfold namesB at hb
 simp only [Bool.and_eq_true,List.all_eq_true,beq_iff_eq,Bool.or_eq_true] at hb
 obtain ⟨⟨⟨⟨⟨h1,h2⟩,h3⟩,h4⟩,h5⟩,h6⟩ := hb
 refine ⟨h1,fun l X hX => ?_,fun l X hX => h2 (l,X) (q58 hX),fun l X hX => h3 (l,X) (q58 hX),h4,fun m l h => h5 (l,m) (j72 h),fun m l h => ?_⟩
 ·have key : ∀ (L : List (Nat × LV)),LocsAt A (sub sg) L → ∀ p ∈ L,look A.locs (sub sg p.1) = some (p.2.ren (sub sg)) := by
   intro L
   induction L with
   | nil => intro _ p hp;cases hp
   |cons q L ih =>
    intro hl p hp
    rcases List.mem_cons.1 hp with rfl | hp
    ·exact hl.1
    ·exact ih hl.2 p hp
  exact key L hl (l,X) (q58 hX)
 ·rcases h6 (l,m) (j72 h) with h | h
  ·exact .inl (Option.isSome_iff_exists.1 h)
  ·exact .inr (z36 h)
end Go.Proofs.YtemcdefpihkfpaaGreat.AL
