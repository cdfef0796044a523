/- From the contract of a law's function to what its row asks, for any parameters of plain data. Conditions: none. -/
import Derived.Test.YtokibghllpfeaaaShape
import Derived.Test.YtokibghllpfeaaaSpec
set_option linter.unusedSimpArgs false
set_option linter.unusedVariables false
namespace Go.Proofs.Ytokibghllpfeaaa
open Go.Proofs.Ytokibghllpfeaaa.AL Go.ChangeShapes Go.WideShapes Go.ChangeAt Go.RowKit
theorem own_knob : ownKnob Try.prog.godebug = none := by kernel_rfl
namespace AL
/-- The call, off its contract. -/
theorem calls_true {P : Program} {f : FuncId} {fn : Func} {xs : List PV} {W : World} {g : Nat → Nat} {args : Array Value} (h : ACalls P f xs (· = [.d (.v (.bool true))])) (hf : P.funcs[f]? = some fn) (hb : fn.body.isSome = true) (hname : (fn.name == "runtime.NumGoroutine") = false)
    (hz : GZ W g) (hr : RelPs W g args.toList xs) : Calls P f args W fun e W' => e = .returned (.bool true) ∧ Below W.heap.size W W' := by
  have h := acalls_iff.1 h W g args.toList hz hr
  obtain ⟨c, hc⟩ := Option.isSome_iff_exists.1 hb
  have hrun : (callFunc f args).run P W = .ok (.enter f args) W := by
    simp only [callFunc, program, Sem.run, Bind.bind, Sem.bind, hf, hname, hc]; rfl
  rw [Array.toArray_toList, hrun] at h
  refine Calls.mono (h : Calls P f args W _) fun e W' ⟨v, he, g', rs, h1, h2, h3⟩ => ?_
  subst h2
  cases h3 with
  | d _ _ h3 => cases h3; exact ⟨he, h1.below⟩
def aggT (P : Program) (t : TypeId) : Bool := match P.underlying t with
  | some (.struct _) => true
  | some (.array _ _) => true
  | _ => false
def pvSh (agg : Bool) (ds : List Dat) : PV := bif agg then .agg ds else .d (ds.headD default)
def pvs : List (Bool × Sh) → List (List Dat) → List PV
  | (b, _) :: ss, x :: xs => pvSh b x :: pvs ss xs
  | _, _ => []
def IsAll (N : Nat) : List (Bool × Sh) → List (List Dat) → Prop
  | [], [] => True
  | (_, s) :: ss, x :: xs => Is N s x ∧ IsAll N ss xs
  | _, _ => False
theorem isAll_cons {N : Nat} {p : Bool × Sh} {ss : List (Bool × Sh)} {xs : List (List Dat)} (h : IsAll N (p :: ss) xs) : ∃ x xs', xs = x :: xs' ∧ Is N p.2 x ∧ IsAll N ss xs' := by
  cases xs with
  | nil => exact h.elim
  | cons x xs => exact ⟨x, xs, rfl, h.1, h.2⟩
theorem isAll_nil {N : Nat} {xs : List (List Dat)} (h : IsAll N [] xs) : xs = [] := by
  cases xs with
  | nil => rfl
  | cons x xs => exact h.elim
def argsOf (P : Program) : List TypeId → Option (List (Bool × Sh))
  | [] => some []
  | t :: ts => match shOf P 12 t, argsOf P ts with
    | some s, some l => some ((aggT P t, s) :: l)
    | _, _ => none
section
variable {H : Type} {enc : TypeId × Value → H} {P : Program} {w : World} {base : Nat} {spare : Nat → Bool} {held : Bool} {N : Nat}
theorem cells_one {v x : Value} (h : v.oneCell' = true) (hc : v.cells.toList = [x]) : v = x := by
  rw [one_cells h] at hc; simpa using hc
theorem open_val {S : DataW H → Prop} (hB : Bounded N S) {r : Reach} {b0 : Nat} {t : TypeId} {s : Sh} {v : Value} {d : DataW H} {p : List MemPlace} (hv : Value.okWide P w r b0 t v) (hs : shOf P 12 t = some s)
    (h : DataW.Trod enc P w base spare held t v d p) (hS : S d) : ∃ ds, Is N s ds ∧ RelP w (gall w) v (pvSh (aggT P t) ds) := by
  obtain ⟨fuel, hf⟩ := h
  obtain ⟨ds, h1, h2⟩ := trod_sh hB 12 t s hs fuel _ _ _ hf hS
  refine ⟨ds, h1, ?_⟩
  have one : v.oneCell' = true → aggT P t = false → RelP w (gall w) v (pvSh (aggT P t) ds) := by
    intro ho ha
    rw [ha]
    rw [one_cells ho] at h2
    have hl := h2.1
    match ds, hl with
    | [x], _ => exact .d _ _ (h2.2 0 v x rfl rfl)
  simp only [shOf] at hs
  split at hs
  · rename_i hu; obtain ⟨b, rfl⟩ := okWide_bool hu hv; exact one rfl (by simp [aggT, hu])
  · rename_i k hu; obtain ⟨n, rfl⟩ := okWide_int hu hv; exact one rfl (by simp [aggT, hu])
  · rename_i hu; obtain ⟨b, rfl⟩ := okWide_string hu hv; exact one rfl (by simp [aggT, hu])
  · rename_i e hu; obtain ⟨a, l, c, rfl⟩ := okWide_slice hu hv; exact one rfl (by simp [aggT, hu])
  · rename_i fs hu
    obtain ⟨cs, rfl, _⟩ := okWide_struct hu hv
    have : aggT P t = true := by simp [aggT, hu]
    rw [this]
    have h3 := RelP.agg cs.toList ds h2.1 (fun j v x hv hx => h2.2 j v x hv hx)
    rw [Array.toArray_toList] at h3
    exact h3
  · rename_i n e hu
    have : aggT P t = true := by simp [aggT, hu]
    rw [this]
    unfold Value.okWide at hv
    rw [hu] at hv
    obtain ⟨cs, rfl, _⟩ := hv
    have h3 := RelP.agg cs.toList ds h2.1 (fun j v x hv hx => h2.2 j v x hv hx)
    rw [Array.toArray_toList] at h3
    exact h3
  · cases hs
theorem open_all {S : DataW H → Prop} (hB : Bounded N S) {r : Reach} {b0 : Nat} : ∀ (ts : List TypeId) (ss : List (Bool × Sh)) (vs : List Value) (ds : List (DataW H)) (ps : List MemPlace), argsOf P ts = some ss →
    (∀ (j : Nat) t v, ts[j]? = some t → vs[j]? = some v → Value.okWide P w r b0 t v) → DataW.TrodAll enc P w base spare held ts vs ds ps → (∀ d ∈ ds, S d) →
    ∃ xs, IsAll N ss xs ∧ RelPs w (gall w) vs (pvs ss xs)
  | [], ss, vs, ds, ps, h, hv, ht, hS => by
    obtain ⟨rfl, rfl, rfl⟩ := trodAll_nil ht
    cases h
    exact ⟨[], trivial, .nil _ _⟩
  | t :: ts, ss, vs, ds, ps, h, hv, ht, hS => by
    obtain ⟨v, vs', d, ds', p, q, rfl, rfl, rfl, h0, h1⟩ := trodAll_cons ht
    simp only [argsOf] at h
    split at h
    · rename_i s l hs hl
      cases h
      obtain ⟨x, x1, x2⟩ := open_val hB (hv 0 t v rfl rfl) hs h0 (hS d (by simp))
      obtain ⟨xs, y1, y2⟩ := open_all hB ts l vs' ds' q hl (fun j t v a b => hv (j + 1) t v (by simpa using a) (by simpa using b)) h1 (fun d hd => hS d (by simp [hd]))
      exact ⟨x :: xs, ⟨x1, y1⟩, .cons x2 y2⟩
    · cases h
theorem kept_below {W W' : World} (h : Below W.heap.size W W') (may : MemPlace → Prop) : W.keptBut W' may := by
  refine ⟨h.os, h.output, fun i hi => ?_⟩
  rw [h.block i hi]
  have : ∃ o, W.heap[i]? = some o := ⟨W.heap[i], by simp [hi]⟩
  obtain ⟨o, ho⟩ := this
  rw [ho]
  cases o <;> simp
theorem frozen_below {W W' : World} (h : Below W.heap.size W W') (a : Addr) (ha : a.block < W.heap.size) : W'.frozen? a = W.frozen? a := by
  unfold World.frozen?; rw [h.block _ ha]
/-- What was read is read anew. -/
theorem trodAll_stays (hl : laidOutB P = true) {W W' : World} {sp : Nat → Bool} : ∀ (ts : List TypeId) (vs : List Value) (ds : List (DataW H)) (ps : List MemPlace), (ts.all fun t => P.readableRec t && decide (t < P.types.size)) = true →
    DataW.TrodAll enc P W base (fun _ => true) true ts vs ds ps → (∀ p ∈ ps, W.sameAt W' p) → (∀ p ∈ ps, sp p.block = true) → DataW.TrodAll enc P W' base sp true ts vs ds ps
  | [], vs, ds, ps, hr, h, _, _ => by
    obtain ⟨rfl, rfl, rfl⟩ := trodAll_nil h
    rfl
  | t :: ts, vs, ds, ps, hr, h, hs, hp => by
    obtain ⟨v, vs', d, ds', p, q, rfl, rfl, rfl, h0, h1⟩ := trodAll_cons h
    simp only [List.all_cons, Bool.and_eq_true, decide_eq_true_eq] at hr
    exact ⟨p, q, WideElems.Trod_stays hl hr.1.1 hr.1.2 h0 (fun x hx => hs x (by simp [hx])) (fun x hx => hp x (by simp [hx])),
      trodAll_stays hl ts vs' ds' q hr.2 h1 (fun x hx => hs x (by simp [hx])) (fun x hx => hp x (by simp [hx])), rfl⟩
/-- What is to be shown of a law's call: true, and the arguments as they were. -/
theorem post_same {f : Func} {s : ChangeSpec} {apart fresh handsOn again : Bool} {W W' : World} {args : Array Value} {tb : TypeId} {ds gs : List (DataW H)} {before : List MemPlace}
    (hl : laidOutB P = true) (hr : (f.params.toList.all fun t => P.readableRec t && decide (t < P.types.size)) = true) (hres : f.resultTypes = #[tb]) (hub : P.underlying tb = some .bool) (hv : s.vars = []) 
    (hsp : s.fn H (ds ++ gs) = { results := [.lit (.bool true)], args := ds })
    (hW : DataW.Whole enc P f.params.toList s.vars apart W args.toList ds gs before) (hB : Below W.heap.size W W') :
    s.post enc P f apart fresh handsOn again W args (.bool true) W' := by
  have hlt := hW.lt
  have hW' := hW
  obtain ⟨p, q, hA, hV, hpq, hz, hn⟩ := hW'
  rw [hv] at hV
  obtain ⟨rfl, rfl⟩ := trodVars_none hV
  rw [List.append_nil] at hpq
  subst hpq
  have hres' : ∀ (b : Nat) (sp : Nat → Bool) (hd : Bool), DataW.TrodAll enc P W' b sp hd f.resultTypes.toList ((Value.bool true).resultList f.resultTypes.size) (s.fn H (ds ++ [])).results [] := by
    intro b sp hd
    rw [hsp, hres]
    exact trodAll_mk1 (shut_bool hub true)
  have hargs : ∀ sp : Nat → Bool, (∀ x ∈ before, sp x.block = true) → DataW.TrodAll enc P W' 0 sp true f.params.toList args.toList (s.fn H (ds ++ [])).args before := by
    intro sp hs
    rw [hsp]
    exact trodAll_stays hl _ _ _ _ hr hA (fun x hx => hB.same (hlt x hx)) hs
  have hvars : ∀ sp : Nat → Bool, DataW.TrodVars enc P W' sp s.vars (s.fn H (ds ++ [])).vars [] := by
    intro sp
    rw [hsp, hv]
    rfl
  have hok : ∀ (j : Nat) (t : TypeId) (r : Value), f.resultTypes[j]? = some t → ((Value.bool true).resultList f.resultTypes.size)[j]? = some r → Value.okWide P W' .any 0 t r :=
    ok_one hres rfl (okWide_bool_mk hub true)
  have hold : ∀ x ∈ before, (fun b => decide (b < W.heap.size)) x.block = true := fun x hx => by simpa using hlt x hx
  refine ⟨ds, [], before, [], before, [], hW, hres' _ _ _, hargs _ hold, hvars _, kept_below hB _, fun _ => ?_⟩
  refine ⟨hok, _, _, ([] ++ before) ++ [], ⟨[] ++ before, [], trodAll_append (hargs _ (fun _ _ => rfl)) (hres' _ _ _), hvars _, rfl, ?_, ?_⟩, ?_⟩
  · intro b off hp
    have hp' : MemPlace.cell b off ∈ before := by simpa using hp
    rw [frozen_below hB _ (hlt _ hp')]
    exact hz b off hp'
  · intro ha
    simpa using hn ha
  · intro p hp _
    simpa using hp
/-- THE CONTRACT that a law's row asks. -/
theorem law_contract {S : DataW H → Prop} (hS : Bounded N S) {f : FuncId} {fn : Func} {s : ChangeSpec} {tb : TypeId} {ss : List (Bool × Sh)} {fresh handsOn again : Bool} (hf : P.funcs[f]? = some fn) (hb : fn.body.isSome = true) (hname : (fn.name == "runtime.NumGoroutine") = false)
    (hl : laidOutB P = true) (hr : (fn.params.toList.all fun t => P.readableRec t && decide (t < P.types.size)) = true) (hres : fn.resultTypes = #[tb]) (hub : P.underlying tb = some .bool) (hv : s.vars = [])
    (hss : argsOf P fn.params.toList = some ss) (hsp : ∀ ds : List (DataW H), ds.length = fn.params.toList.length → s.fn H (ds ++ []) = { results := [.lit (.bool true)], args := ds })
    (law : ∀ xs, IsAll N ss xs → ACalls P f (pvs ss xs) (· = [.d (.v (.bool true))]))
    (W : World) (base : Nat) (args : Array Value) (ds gs : List (DataW H)) (before : List MemPlace)
    (hval : ∀ (j : Nat) t v, fn.params[j]? = some t → args[j]? = some v → Value.okWide P W .any base t v) (hW : DataW.Whole enc P fn.params.toList s.vars false W args.toList ds gs before) (hSd : ∀ d ∈ ds, S d) :
    Calls P f args W fun e W' => ∃ v, e = .returned v ∧ s.post enc P fn false fresh handsOn again W args v W' := by
  have hW' := hW
  obtain ⟨p, q, hA, hV, hpq, hz, hn⟩ := hW'
  rw [hv] at hV
  obtain ⟨rfl, rfl⟩ := trodVars_none hV
  obtain ⟨xs, x1, x2⟩ := open_all hS fn.params.toList ss args.toList ds p hss (fun j t v a b => hval j t v (by simpa using a) (by simpa using b)) hA hSd
  have hlen : ∀ (ts : List TypeId) (vs : List Value) (ds : List (DataW H)) (ps : List MemPlace), DataW.TrodAll enc P W 0 (fun _ => true) true ts vs ds ps → ds.length = ts.length := by
    intro ts
    induction ts with
    | nil => intro vs ds ps h; obtain ⟨rfl, rfl, rfl⟩ := trodAll_nil h; rfl
    | cons t ts ih => intro vs ds ps h; obtain ⟨v, vs', d, ds', p, q, rfl, rfl, rfl, h0, h1⟩ := trodAll_cons h; simp [ih _ _ _ h1]
  refine (calls_true (law xs x1) hf hb hname (gall_gz W) x2).mono fun e W' ⟨he, hg⟩ => ?_
  exact ⟨_, he, post_same hl hr hres hub hv (hsp ds (hlen _ _ _ _ hA)) hW hg⟩
end
/-- bound by nothing but what a slice may be -/
theorem bounded_any {H : Type} : Bounded (H := H) maxLen (fun _ => True) where
  agg _ _ _ _ := trivial
  slice l r _ h := ⟨h, fun _ _ => trivial⟩
  str l _ h := h
end AL
/-- What the bound of the second form gives. -/
theorem one_le {H : Type} (d : DataW H) : 1 ≤ Rows.uptoBulk d := by
  cases d with
  | lit l => cases l <;> simp [Rows.uptoBulk]
  | nil => simp [Rows.uptoBulk]
  | ptr d => simp [Rows.uptoBulk]
  | slice elems spare => simp [Rows.uptoBulk]
  | agg parts => simp [Rows.uptoBulk]
  | iface t d => simp [Rows.uptoBulk]
  | map entries => simp [Rows.uptoBulk]
  | held h => simp [Rows.uptoBulk]
theorem part_le {H : Type} {d : DataW H} {l : List (DataW H)} (h : d ∈ l) : Rows.uptoBulk d ≤ Rows.uptoBulkAll l := by
  induction l with
  | nil => cases h
  | cons x r ih =>
    simp only [Rows.uptoBulkAll]
    cases List.mem_cons.1 h with
    | inl e => subst e; omega
    | inr e => have := ih e; omega
theorem length_le {H : Type} (l : List (DataW H)) : l.length ≤ Rows.uptoBulkAll l := by
  induction l with
  | nil => simp [Rows.uptoBulkAll]
  | cons x r ih => have := one_le x; simp only [Rows.uptoBulkAll, List.length_cons]; omega
theorem bounded_upto {H : Type} : Bounded (H := H) 1048576 (fun d => Rows.uptoBulk d ≤ 1048576) where
  agg l h x hx := by have := part_le hx; simp only [Rows.uptoBulk] at h; omega
  slice l r h _ := by
    simp only [Rows.uptoBulk] at h
    exact ⟨by have := length_le l; omega, fun x hx => by have := part_le hx; omega⟩
  str l h _ := by simp only [Rows.uptoBulk] at h; omega
theorem upto_all {H : Type} {l : List (DataW H)} (hk : Rows.uptoSmall H (l ++ []) = true) : ∀ d ∈ l, Rows.uptoBulk d ≤ 1048576 := by
  have h : Rows.uptoBulkAll (l ++ []) ≤ 1048576 := of_decide_eq_true hk
  intro d hd
  rw [List.append_nil] at h
  have := part_le hd
  omega
/-! ### The shapes of the program's types -/
def headSh : Sh := .pair (.int .u64) (.pair (.int .u64) .unit)
def cubeSh : Sh := .pair headSh (.pair headSh .unit)
theorem is_hd {N : Nat} {ds : List Dat} (h : Is N headSh ds) : ∃ x : BitVec 128, ds = hd x := by
  obtain ⟨_, _, rfl, ⟨a, rfl, wa⟩, _, _, rfl, ⟨b, rfl, wb⟩, rfl⟩ := h
  have h1 := wf_u64 wa; have h2 := wf_u64 wb
  obtain ⟨x, rfl, rfl⟩ := exists_head h1.1 h1.2 h2.1 h2.2
  exact ⟨x, rfl⟩
theorem is_cb {N : Nat} {ds : List Dat} (h : Is N cubeSh ds) : ∃ k : Cube, ds = cb k := by
  obtain ⟨_, _, rfl, ha, _, _, rfl, hb, rfl⟩ := h
  obtain ⟨x, rfl⟩ := is_hd ha
  obtain ⟨y, rfl⟩ := is_hd hb
  exact ⟨⟨x, y⟩, rfl⟩
theorem is_cbs {N : Nat} {ds : List Dat} (h : Is N (.slice cubeSh) ds) : ∃ l : List Cube, ds = [.sl 4 l.length (rowC l)] ∧ l.length ≤ N := by
  obtain ⟨l, h1, h2, _⟩ := is_list (Q := fun _ => True) cb ⟨0, 0⟩ cubeSh (by unfold cb; simp only [hi_zero, lo_zero]; rfl) (fun ds hd => by obtain ⟨k, hk⟩ := is_cb hd; exact ⟨k, hk, trivial⟩) h
  exact ⟨l, h1, h2⟩
theorem is_word {N : Nat} {ds : List Dat} (h : Is N (.int .u64) ds) : ∃ v : BitVec 64, ds = [.v (.int .u64 (bvi v))] := by
  obtain ⟨n, rfl, hw⟩ := h
  have h1 := wf_u64 hw
  refine ⟨BitVec.ofNat 64 n.toNat, ?_⟩
  have : bvi (BitVec.ofNat 64 n.toNat) = n := by unfold bvi; rw [BitVec.toNat_ofNat]; omega
  rw [this]
end Go.Proofs.Ytokibghllpfeaaa
