/- From a row's hypotheses to the logic's words, and back. Conditions: none. -/
import Derived.Test.YtfcfhlfehomhpaaRef2
import Derived.Test.YtfcfhlfehomhpaaAwake2
import Derived.Test.YtfcfhlfehomhpaaRows
import Derived.ProofKit
import Derived.Lib.SmallJoins
set_option linter.unusedSimpArgs false
set_option linter.unusedVariables false
namespace Go.Proofs.Ytfcfhlfehomhpaa
open Go.Proofs.Ytfcfhlfehomhpaa.AL Go.ChangeShapes Go.WideShapes Go.ChangeAt Go.RowKit
theorem own_knob : ownKnob Try.prog.godebug = none := by kernel_rfl
section
variable {H : Type} {enc : TypeId × Value → H} {w : World} {base : Nat} {spare : Nat → Bool} {held : Bool}
def hdV (x : BitVec 128) : Value := .agg #[.int .u64 (hi x), .int .u64 (lo x)]
def hdD (H : Type) (x : BitVec 128) : DataW H := .agg [.lit (.int .u64 (hi x)), .lit (.int .u64 (lo x))]
def cbV (k : Cube) : Value := .agg #[.int .u64 (hi k.v), .int .u64 (lo k.v), .int .u64 (hi k.c), .int .u64 (lo k.c)]
def cbD (H : Type) (k : Cube) : DataW H := .agg [hdD H k.v, hdD H k.c]
theorem wf_hi (x : BitVec 128) : (Lit.int .u64 (hi x)).wf = true := by
  have h1 := bvi_nonneg (x.extractLsb' 64 64); have h2 := bvi_lt (x.extractLsb' 64 64)
  simp [Lit.wf, IntKind.min, IntKind.max, IntKind.signed, IntKind.bits, hi]; omega
theorem wf_lo (x : BitVec 128) : (Lit.int .u64 (lo x)).wf = true := by
  have h1 := bvi_nonneg (x.extractLsb' 0 64); have h2 := bvi_lt (x.extractLsb' 0 64)
  simp [Lit.wf, IntKind.min, IntKind.max, IntKind.signed, IntKind.bits, lo]; omega
theorem word_of {x : Int} (h : (Lit.int .u64 x).wf = true) : 0 ≤ x ∧ x < 18446744073709551616 := by
  simp [Lit.wf, IntKind.min, IntKind.max, IntKind.signed, IntKind.bits] at h
  omega
theorem trod_hd {fuel : Nat} {cs : List Value} {y : DataW H × List MemPlace} (h : DataW.trod enc Try.prog w base spare held fuel 24 cs = some y) :
    ∃ x : BitVec 128, cs = [.int .u64 (hi x), .int .u64 (lo x)] ∧ y = (hdD H x, []) := by
  obtain ⟨y0, y1, n, hx, hl, h0, h1⟩ := trod_struct2 Try.underlying24 h
  have hl : cs.length = 2 := hl
  match cs, hl with
  | [c0, c1], _ =>
    obtain ⟨a, e0, rfl, w0⟩ := DataW.trod_int Try.underlying22 h0
    obtain ⟨b, e1, rfl, w1⟩ := DataW.trod_int Try.underlying22 h1
    obtain ⟨a1, a2⟩ := word_of w0
    obtain ⟨b1, b2⟩ := word_of w1
    obtain ⟨x, rfl, rfl⟩ := exists_head a1 a2 b1 b2
    have g0 : [c0] = [Value.int .u64 (hi x)] := e0
    have g1 : [c1] = [Value.int .u64 (lo x)] := e1
    clear e0 e1 h0 h1
    simp at g0 g1
    subst g0; subst g1; subst hx
    exact ⟨x, rfl, rfl⟩
theorem trod_hd_mk (m : Nat) (x : BitVec 128) : DataW.trod enc Try.prog w base spare held (m + 2) 24 [.int .u64 (hi x), .int .u64 (lo x)] = some (hdD H x, []) :=
  trod_struct2_mk (y0 := (.lit (.int .u64 (hi x)), [])) (y1 := (.lit (.int .u64 (lo x)), [])) Try.underlying24 rfl (trod_int_mk m Try.underlying22 (wf_hi x)) (trod_int_mk m Try.underlying22 (wf_lo x))
theorem open_hd {r : Reach} {b0 : Nat} {v : Value} {d : DataW H} {p : List MemPlace} (hv : Value.okWide Try.prog w r b0 24 v) (h : DataW.Trod enc Try.prog w base spare held 24 v d p) :
    ∃ x : BitVec 128, v = hdV x ∧ d = hdD H x ∧ p = [] := by
  obtain ⟨cs, rfl, hsz⟩ := okWide_struct Try.underlying24 hv
  obtain ⟨fuel, hf⟩ := h
  obtain ⟨x, e, e2⟩ := trod_hd hf
  simp only [Prod.mk.injEq] at e2
  refine ⟨x, ?_, e2.1, e2.2⟩
  have e : cs.toList = [.int .u64 (hi x), .int .u64 (lo x)] := e
  unfold hdV
  congr 1
  apply Array.ext'; rw [e]
theorem shut_hd (x : BitVec 128) : DataW.Trod enc Try.prog w base spare held 24 (hdV x) (hdD H x) [] := ⟨2, trod_hd_mk 0 x⟩
theorem trod_cb {fuel : Nat} {cs : List Value} {y : DataW H × List MemPlace} (h : DataW.trod enc Try.prog w base spare held fuel 26 cs = some y) :
    ∃ k : Cube, cs = [.int .u64 (hi k.v), .int .u64 (lo k.v), .int .u64 (hi k.c), .int .u64 (lo k.c)] ∧ y = (cbD H k, []) := by
  obtain ⟨y0, y1, n, hx, hl, h0, h1⟩ := trod_struct2 Try.underlying26 h
  have hl : cs.length = 4 := hl
  match cs, hl with
  | [c0, c1, c2, c3], _ =>
    obtain ⟨x, e0, rfl⟩ := trod_hd h0
    obtain ⟨z, e1, rfl⟩ := trod_hd h1
    have g0 : [c0, c1] = [Value.int .u64 (hi x), .int .u64 (lo x)] := e0
    have g1 : [c2, c3] = [Value.int .u64 (hi z), .int .u64 (lo z)] := e1
    clear e0 e1 h0 h1
    simp at g0 g1
    obtain ⟨rfl, rfl⟩ := g0
    obtain ⟨rfl, rfl⟩ := g1
    subst hx
    exact ⟨⟨x, z⟩, rfl, rfl⟩
theorem trod_cb_mk (m : Nat) (k : Cube) : DataW.trod enc Try.prog w base spare held (m + 3) 26 [.int .u64 (hi k.v), .int .u64 (lo k.v), .int .u64 (hi k.c), .int .u64 (lo k.c)] = some (cbD H k, []) :=
  trod_struct2_mk (y0 := (hdD H k.v, [])) (y1 := (hdD H k.c, [])) Try.underlying26 rfl (trod_hd_mk m k.v) (trod_hd_mk m k.c)
theorem open_cb {r : Reach} {b0 : Nat} {v : Value} {d : DataW H} {p : List MemPlace} (hv : Value.okWide Try.prog w r b0 26 v) (h : DataW.Trod enc Try.prog w base spare held 26 v d p) :
    ∃ k : Cube, v = cbV k ∧ d = cbD H k ∧ p = [] := by
  obtain ⟨cs, rfl, hsz⟩ := okWide_struct Try.underlying26 hv
  obtain ⟨fuel, hf⟩ := h
  obtain ⟨k, e, e2⟩ := trod_cb hf
  simp only [Prod.mk.injEq] at e2
  refine ⟨k, ?_, e2.1, e2.2⟩
  have e : cs.toList = [.int .u64 (hi k.v), .int .u64 (lo k.v), .int .u64 (hi k.c), .int .u64 (lo k.c)] := e
  unfold cbV
  congr 1
  apply Array.ext'; rw [e]
theorem shut_cb (k : Cube) : DataW.Trod enc Try.prog w base spare held 26 (cbV k) (cbD H k) [] := ⟨3, trod_cb_mk 0 k⟩
/-- The call, off its contract. -/
theorem calls_true {P : Program} {f : FuncId} {fn : Func} {xs : List PV} {W : World} {args : Array Value} (h : ACalls P f xs (· = [.d (.v (.bool true))])) (hf : P.funcs[f]? = some fn) (hb : fn.body.isSome = true) (hname : (fn.name == "runtime.NumGoroutine") = false)
    (hr : RelPs W (fun _ => 0) args.toList xs) : Calls P f args W fun e W' => e = .returned (.bool true) ∧ Below W.heap.size W W' := by
  have h := h W (fun _ => 0) args.toList (fun _ _ => rfl) hr
  obtain ⟨c, hc⟩ := Option.isSome_iff_exists.1 hb
  have hrun : (callFunc f args).run P W = .ok (.enter f args) W := by
    simp only [callFunc, program, Sem.run, Bind.bind, Sem.bind, hf, hname, hc]; rfl
  rw [Array.toArray_toList, hrun] at h
  refine Calls.mono (h : Calls P f args W _) fun e W' ⟨v, he, g', rs, h1, h2, h3⟩ => ?_
  subst h2
  cases h3 with
  | d _ _ h3 => cases h3; exact ⟨he, h1.below⟩
theorem relP_ints {W : World} {g : Nat → Nat} (l : List (IntKind × Int)) : RelP W g (.agg (l.map fun x => Value.int x.1 x.2).toArray) (.agg (l.map fun x => .v (.int x.1 x.2))) := by
  refine .agg _ _ (by simp) fun j v x hv hx => ?_
  simp at hv hx
  obtain ⟨a, b, h1, rfl⟩ := hv
  obtain ⟨a', b', h2, rfl⟩ := hx
  rw [h1] at h2; cases h2
  exact .v _ rfl
theorem rel_hd {W : World} {g : Nat → Nat} (x : BitVec 128) : RelP W g (hdV x) (.agg (hd x)) := relP_ints [(.u64, hi x), (.u64, lo x)]
theorem rel_cb {W : World} {g : Nat → Nat} (k : Cube) : RelP W g (cbV k) (.agg (cb k)) := relP_ints [(.u64, hi k.v), (.u64, lo k.v), (.u64, hi k.c), (.u64, lo k.c)]
theorem kept_below {W W' : World} (h : Below W.heap.size W W') (may : MemPlace → Prop) : W.keptBut W' may := by
  refine ⟨h.os, h.output, fun i hi => ?_⟩
  rw [h.block i hi]
  have : ∃ o, W.heap[i]? = some o := ⟨W.heap[i], by simp [hi]⟩
  obtain ⟨o, ho⟩ := this
  rw [ho]
  cases o <;> simp
theorem frozen_below {W W' : World} (h : Below W.heap.size W W') (a : Addr) (ha : a.block < W.heap.size) : W'.frozen? a = W.frozen? a := by
  unfold World.frozen?; rw [h.block _ ha]
/-- What is to be shown of a law's call: true, and the arguments as they were; new rows may bear marks. -/
theorem post_law {P : Program} {f : Func} {s : ChangeSpec} {apart fresh handsOn again : Bool} {W W' : World} {args : Array Value} {v : Value} {ds gs : List (DataW H)} {before pa pv : List MemPlace}
    (hW : DataW.Whole enc P f.params.toList s.vars apart W args.toList ds gs before)
    (hres : ∀ (b : Nat) (sp : Nat → Bool) (hd : Bool), DataW.TrodAll enc P W' b sp hd f.resultTypes.toList (v.resultList f.resultTypes.size) (s.fn H (ds ++ gs)).results [])
    (hargs : ∀ sp : Nat → Bool, (∀ p ∈ before, sp p.block = true) → DataW.TrodAll enc P W' 0 sp true f.params.toList args.toList (s.fn H (ds ++ gs)).args pa)
    (hvars : ∀ sp : Nat → Bool, (∀ p ∈ before, sp p.block = true) → DataW.TrodVars enc P W' sp s.vars (s.fn H (ds ++ gs)).vars pv)
    (hps : before = pa ++ pv) (hB : Below W.heap.size W W')
    (hok : ∀ (j : Nat) (t : TypeId) (r : Value), f.resultTypes[j]? = some t → (v.resultList f.resultTypes.size)[j]? = some r → Value.okWide P W' .any 0 t r) :
    s.post enc P f apart fresh handsOn again W args v W' := by
  have hold : ∀ p ∈ before, (fun b => decide (b < W.heap.size)) p.block = true := fun p hp => by simpa using hW.lt p hp
  refine ⟨ds, gs, before, [], pa, pv, hW, hres _ _ _, hargs _ hold, hvars _ hold, kept_below hB _, fun _ => ?_⟩
  have hlt := hW.lt
  obtain ⟨_, _, _, _, _, hz, hn⟩ := hW
  refine ⟨hok, _, _, ([] ++ pa) ++ pv, ⟨[] ++ pa, pv, trodAll_append (hargs _ (fun _ _ => rfl)) (hres _ _ _), hvars _ (fun _ _ => rfl), rfl, ?_, ?_⟩, ?_⟩
  · intro b off hp
    have hp' : MemPlace.cell b off ∈ before := by rw [hps]; simpa using hp
    rw [frozen_below hB _ (hlt _ hp')]
    exact hz b off hp'
  · intro ha
    have := hn ha
    rw [hps] at this
    simpa using this
  · intro p hp _
    rw [hps]
    simpa using hp
end
end Go.Proofs.Ytfcfhlfehomhpaa
