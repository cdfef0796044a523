/- Package pile: Join, and slices.Concat, slices.Grow beneath. Conditions: none, but that no row is greater than memory bears. -/
import Derived.Test.YtfcfhlfehomhpaaPile3
import Derived.Shelf.Spec.SlicesGrow
set_option linter.unusedSimpArgs false
set_option linter.unusedVariables false
namespace Go.Proofs.Ytfcfhlfehomhpaa
open Go.Proofs.Ytfcfhlfehomhpaa.AL Go.RowKit
def growRen : Go.Shelf.Ren := ⟨fun | 4 => 81 | n => n, fun | 0 => 0 | 3 => 3 | 4 => 4 | 9 => 9 | 20 => 20 | 22 => 36 | 25 => 26 | n => n, fun n => n⟩
theorem growL : Go.Proofs.Lays8.n4 Try.prog growRen where
  mixed := by kernel_rfl
  f4 := ⟨Try.f81.name, by kernel_rfl, Try.func81.trans (congrArg some (by kernel_rfl))⟩
  t0 := Try.underlying0
  a0 := Try.isAgg0
  z0 := Try.sizeOf0
  v0 := Try.zeroValue0
  t3 := Try.underlying3
  a3 := Try.isAgg3
  z3 := Try.sizeOf3
  v3 := Try.zeroValue3
  t4 := Try.underlying4
  a4 := Try.isAgg4
  z4 := Try.sizeOf4
  v4 := Try.zeroValue4
  t9 := Try.underlying9
  a9 := Try.isAgg9
  z9 := Try.sizeOf9
  v9 := Try.zeroValue9
  t20 := Try.underlying20
  a20 := Try.isAgg20
  z20 := Try.sizeOf20
  v20 := Try.zeroValue20
  t22 := Try.underlying36
  a22 := Try.isAgg36
  z22 := Try.sizeOf36
  v22 := Try.zeroValue36
theorem callFunc_enter {P : Program} {f : FuncId} {fn : Func} {c : Code} (args : Array Value) (w : World) (hf : P.funcs[f]? = some fn) (hb : fn.body = some c) (hname : (fn.name == "runtime.NumGoroutine") = false) :
    (callFunc f args).run P w = .ok (.enter f args) w := by
  simp only [callFunc, program, Sem.run, Bind.bind, Sem.bind, hf, hname, hb]; rfl
theorem Grow0_c : ACalls Try.prog 81 [.d (.v (.slice none 0 0)), .d (.v (.int .i64 0))] (· = [.d (.v (.slice none 0 0))]) := by
  refine acalls_iff.2 fun w g vs hz hr => ?_
  have hv : vs = [.slice none 0 0, .int .i64 0] := relPs_vals [.slice none 0 0, .int .i64 0] vs hr
  subst hv
  rw [callFunc_enter _ w Try.func81 rfl (by kernel_rfl)]
  show Calls Try.prog 81 _ w _
  refine Calls.mono (Go.Proofs.Any8.slices_Grow_room growL none 0 0 0 w (Nat.le_refl _) (by omega) (by omega) (by omega)) fun e w' ⟨he, hw⟩ => ?_
  subst hw
  exact ⟨_, he, g, _, Ext.refl hz, rfl, .d _ _ (.v _ rfl)⟩
theorem Grow_c (n : Nat) (h0 : 0 < n) (hn : n ≤ 1099511627776) : MCalls Try.prog 81 [.p (.d (.v (.slice none 0 0))), .p (.d (.v (.int .i64 (n : Int))))] []
    (fun rs L' => rs = [.gr 1000 0 4 0 (rowC [])] ∧ L' = [(1000, .grow 26 4 0 0)]) := by
  intro w h vs hz hr hl
  have hv : vs = [.slice none 0 0, .int .i64 (n : Int)] := by
    match vs, hr with
    | [a, b], hr =>
      rw [relA_v (hr.2 0 a _ rfl rfl), relA_v (hr.2 1 b _ rfl rfl)]
    | [], hr => simp [RelAs] at hr
    | [_], hr => simp [RelAs] at hr
    | _ :: _ :: _ :: _, hr => simp [RelAs] at hr
  subst hv
  rw [callFunc_enter _ w Try.func81 rfl (by kernel_rfl)]
  show Calls Try.prog 81 _ w _
  obtain ⟨i0, hi0⟩ : ∃ i, Try.prog.info? 26 = some i := Option.isSome_iff_exists.1 (by kernel_rfl)
  have hs : i0.size = 4 := by
    have : (Try.prog.info? 26).map (fun i => i.size) = some 4 := by kernel_rfl
    rw [hi0] at this; simpa using this
  have hb : i0.bytes = 32 := by
    have : (Try.prog.info? 26).map (fun i => i.bytes) = some 32 := by kernel_rfl
    rw [hi0] at this; simpa using this
  obtain ⟨z, hz0⟩ : ∃ z, i0.zero = some z := by
    have : ((Try.prog.info? 26).bind (fun i => i.zero)).isSome = true := by kernel_rfl
    rw [hi0] at this
    exact Option.isSome_iff_exists.1 this
  have hzs : z.cells.size = 4 := by
    have : ((Try.prog.info? 26).bind (fun i => i.zero)).map (fun z => z.cells.size) = some 4 := by kernel_rfl
    rw [hi0] at this
    simp only [Option.bind_some, hz0, Option.map_some, Option.some.injEq] at this
    exact this
  refine Calls.mono (Go.Proofs.Any8.slices_Grow_grow growL i0 z hi0 hz0 (by omega) none 0 0 n [] w (Nat.le_refl _) (by omega) (by rw [hb]; omega) (by omega) (by simp) (fun _ => rfl) (fun a ha => by cases ha)) fun e w' ⟨he, hw⟩ => ?_
  have hge := grownCap_ge w (0 + n) 0 (growRen.t 25)
  have hcm := grownCap_le_maxLen w (0 + n) 0 (growRen.t 25) (by unfold maxLen; omega)
  generalize grownCap w (0 + n) 0 (growRen.t 25) = cap at he hw hge hcm
  subst he
  subst hw
  generalize hcur : (([] : List Value).toArray ++ Builtin.zeroCells z.cells (0 + n - 0) ++ Builtin.zeroCells z.cells (cap - (0 + n)) : Array Value) = cur
  have hcs : cur.size = cap * 4 := by
    rw [← hcur]
    simp only [Array.size_append, size_zeroCells, hzs]
    simp; omega
  let v : Value := .slice (some ⟨w.heap.size, 0, none⟩) 0 cap
  let h' : Gh := { h with κ := fun k => if k = 1000 then v else h.κ k, μ := fun k => if k = 1000 then 0 else h.μ k }
  have hold : ∀ k, k < w.heap.size → (w.drew.alloc (.cells cur 26)).heap[k]? = w.heap[k]? := fun k hk => Below.heap_alloc w.drew _ k hk
  refine ⟨v, rfl, h', _, _, ⟨rfl, rfl⟩, ⟨.sl0 _ _ _ _, by simp [h'], fun _ => by simp [h']⟩, ⟨fun l X hX => ?_, fun l l' X X' b hne h1 h2 => ?_⟩, ?_⟩
  · have hX : AL.look [(1000, LV.grow 26 4 0 0)] l = some X := hX
    simp only [AL.look] at hX
    split at hX
    · rename_i e; subst e; cases hX
      refine ⟨by simp [h'], ⟨[], by simp, .inr ⟨w.heap.size, cap, cur, by simp [h', v], Nat.zero_le _, _root_.Go.heap_alloc_new w.drew _, Nat.zero_le _, hcm, hcs, by simp⟩⟩, fun b c hb => ?_, fun _ _ => trivial⟩
      simp only [h', if_true, v, Value.slice.injEq, Option.some.injEq, Addr.mk.injEq, and_true] at hb
      rw [← hb.1, Nat.zero_mul]
      exact hz _ (Nat.le_refl _)
    · cases hX
  · have h1 : AL.look [(1000, LV.grow 26 4 0 0)] l = some X := h1
    have h2 : AL.look [(1000, LV.grow 26 4 0 0)] l' = some X' := h2
    simp only [AL.look] at h1 h2
    split at h1
    · rename_i e
      split at h2
      · rename_i e2; exact absurd (e.symm.trans e2) hne
      · cases h2
    · cases h1
  · refine ⟨((BelowS.refl _ _).drew).alloc _, fun _ _ _ => rfl, fun b hb => hz b ?_, ⟨fun _ => Nat.le_refl _, fun b o ho => ?_⟩, fun l X hX => (by cases hX), fun l X hX => (by cases hX), fun b ⟨l, X, h1, h2⟩ => .inl ?_⟩
    · simp at hb; omega
    · have hb : b < w.heap.size := by
        refine Nat.lt_of_not_le fun hle => ?_
        rw [hz b hle] at ho; omega
      exact World.cell?_of_block (w := w) (hold b hb)
    · have h1 : AL.look [(1000, LV.grow 26 4 0 0)] l = some X := h1
      simp only [AL.look] at h1
      split at h1
      · rename_i e; subst e; cases h1
        simp only [blockOf, h', if_true, v, Value.ownBlock, Option.some.injEq] at h2
        omega
      · cases h1

def rowS (ss : List (List Cube)) : Nat → List Dat := fun i => [.sl 4 (ss.getD i []).length (rowC (ss.getD i []))]
def sumL (ss : List (List Cube)) (i : Nat) : Nat := ((ss.take i).map List.length).sum
theorem sumL_succ (ss : List (List Cube)) (i : Nat) (h : i < ss.length) : sumL ss (i + 1) = sumL ss i + (ss.getD i []).length := by
  unfold sumL
  rw [take_succ_getD ss i [] h, List.map_append, List.sum_append]
  simp
theorem sumL_le (ss : List (List Cube)) (i : Nat) : sumL ss i ≤ ss.flatten.length := by
  unfold sumL
  rw [← List.length_flatten]
  have : ss.flatten = (ss.take i).flatten ++ (ss.drop i).flatten := by rw [← List.flatten_append, List.take_append_drop]
  rw [this, List.length_append]; omega
def concatI (ss : List (List Cube)) (g : Nat → List Dat) (i : Fin (ss.length + 1)) : ASt :=
  ⟨[(11, .p (.d (.v (.int .i64 (i.val : Int))))), (10, .p (.d (.v (.int .i64 (ss.length : Int))))), (9, .p (.d (.sl 1 ss.length g))), (3, .p (.d (.v (.int .i64 (sumL ss i.val : Int))))), (0, .p (.d (.sl 1 ss.length g)))], []⟩
def concatJ (ss : List (List Cube)) (g : Nat → List Dat) (s : {s : Nat × List Cube // s.1 ≤ ss.length ∧ s.2 = (ss.take s.1).flatten}) : ASt :=
  ⟨[(27, .p (.d (.v (.int .i64 (s.val.1 : Int))))), (26, .p (.d (.v (.int .i64 (ss.length : Int))))), (25, .p (.d (.sl 1 ss.length g))), (6, .gr 6 s.val.1 4 s.val.2.length (rowC s.val.2))],
   [(6, .grow 26 4 s.val.2.length s.val.1)]⟩
set_option maxRecDepth 100000 in
set_option maxHeartbeats 2000000 in
theorem Concat_c (ss : List (List Cube)) (g : Nat → List Dat) (hg : ∀ i, i < ss.length → g i = rowS ss i) (hs : ss.length ≤ 1099511627776) (hl : ss.flatten.length ≤ 1099511627776) :
    ACalls Try.prog 71 [.d (.sl 1 ss.length g)] (· = [.d (.sl 4 ss.flatten.length (rowC ss.flatten))]) := by
  have hle : ∀ i, sumL ss i ≤ 1099511627776 := fun i => Nat.le_trans (sumL_le ss i) hl
  refine acalls_of_awp Try.func71 rfl (by decide +kernel) (by rw [Try.ntmps71]; simp) ?_; rw [Try.ntmps71]; simp only [frOf]
  (repeat (first | refine awp_seq ?_ | refine awp_yes rfl ?_ | refine awp_no rfl ?_ | refine awp_block ?_ | (refine awp_region fun K hK => ?_) | (refine awp_draw (by kernel_rfl) (by kernel_rfl) fun K hK => ?_) | (refine awp_skip ?_; (first | show AWP _ _ _ _ _ | show loopQ _ _ _ _ _ _)) | (refine awp_exit ?_; (first | show AWP _ _ _ _ _ | show loopQ _ _ _ _ _ _)) | ((first | refine walkS_end (hK _ ?_) | refine walkD_end (hK _ _ (okTrace_spec (by kernel_rfl)) ?_)); clear hK K; (first | show AWP _ _ _ _ _ | show loopQ _ _ _ _ _ _)) | ((first | refine walkS_run1 [] rfl ?_ | refine walkD_run1 [] rfl ?_); simp (maxSteps := 2000000) (disch := omega) only [go_sem, ↓reduceIte, reduceCtorEq, Nat.reduceLT, Nat.reducePow, Nat.reduceLeDiff, Nat.reduceAdd, Nat.reduceMul, Nat.reduceSub, Nat.reduceEqDiff, Nat.reduceBEq, Int.reduceToNat, Int.reduceBEq, Int.reduceBNe, ty24, ty26, ty36, ty94, ty22, ty3, ty4, ty48, hd, cb, eqty24, eqty26]; (repeat (first | refine ⟨by omega, ?_⟩ | refine ⟨True.intro, ?_⟩)))))
  refine awp_loop (concatI ss g) (fun i => ss.length - i.val) ⟨0, by omega⟩ ?_ (fun s => ?_)
  · unfold concatI
    refine Weak.list ?_ ?_; (all_goals simp (disch := omega) only [AllF, AllL, le_self, le_top, lle_self, exists_eq_left', Option.some.injEq, go_sem, ↓reduceIte, reduceCtorEq, Nat.reduceLT, Nat.reducePow, Nat.reduceLeDiff, Nat.reduceAdd, Nat.reduceMul, Nat.reduceSub, Nat.reduceEqDiff, Nat.reduceBEq, Int.reduceToNat, Int.reduceBEq, Int.reduceBNe, ty24, ty26, ty36, ty94, ty22, ty3, ty4, ty48, hd, cb, eqty24, eqty26]); (all_goals (repeat' (with_reducible apply And.intro))); (all_goals try (first | exact le_eq rfl | (refine le_int ?_; omega) | (refine le_eq ?_; simp; done)))
  obtain ⟨i, hi⟩ := s
  unfold concatI
  by_cases hn : i < ss.length
  · have r1 := hg i hn
    have st := sumL_succ ss i hn
    have h1 := hle i
    have h2 := hle (i + 1)
    unfold rowS at r1
    generalize ss.getD i [] = X at r1 st
    (repeat (first | refine awp_seq ?_ | refine awp_yes rfl ?_ | refine awp_no rfl ?_ | refine awp_block ?_ | (refine awp_region fun K hK => ?_) | (refine awp_draw (by kernel_rfl) (by kernel_rfl) fun K hK => ?_) | (refine awp_skip ?_; (first | show AWP _ _ _ _ _ | show loopQ _ _ _ _ _ _)) | (refine awp_exit ?_; (first | show AWP _ _ _ _ _ | show loopQ _ _ _ _ _ _)) | ((first | refine walkS_end (hK _ ?_) | refine walkD_end (hK _ _ (okTrace_spec (by kernel_rfl)) ?_)); clear hK K; (first | show AWP _ _ _ _ _ | show loopQ _ _ _ _ _ _)) | ((first | refine walkS_run1 [] rfl ?_ | refine walkD_run1 [] rfl ?_); simp (maxSteps := 2000000) (disch := omega) only [go_sem, ↓reduceIte, reduceCtorEq, Nat.reduceLT, Nat.reducePow, Nat.reduceLeDiff, Nat.reduceAdd, Nat.reduceMul, Nat.reduceSub, Nat.reduceEqDiff, Nat.reduceBEq, Int.reduceToNat, Int.reduceBEq, Int.reduceBNe, ty24, ty26, ty36, ty94, ty22, ty3, ty4, ty48, hd, cb, eqty24, eqty26, r1]; (repeat (first | refine ⟨by omega, ?_⟩ | refine ⟨True.intro, ?_⟩)))))
    refine ⟨⟨i + 1, by omega⟩, by simp only []; omega, ?_⟩
    refine Weak.list ?_ ?_; (all_goals simp (disch := omega) only [AllF, AllL, le_self, le_top, lle_self, exists_eq_left', Option.some.injEq, go_sem, ↓reduceIte, reduceCtorEq, Nat.reduceLT, Nat.reducePow, Nat.reduceLeDiff, Nat.reduceAdd, Nat.reduceMul, Nat.reduceSub, Nat.reduceEqDiff, Nat.reduceBEq, Int.reduceToNat, Int.reduceBEq, Int.reduceBNe, ty24, ty26, ty36, ty94, ty22, ty3, ty4, ty48, hd, cb, eqty24, eqty26, r1]); (all_goals (repeat' (with_reducible apply And.intro))); (all_goals try (first | exact le_eq rfl | (refine le_int ?_; omega) | (refine le_eq ?_; simp; done)))
  · have hil : i = ss.length := by omega
    subst hil
    have hsum : sumL ss ss.length = ss.flatten.length := by unfold sumL; rw [List.take_length, List.length_flatten]
    simp only [hsum]
    generalize hN : ss.flatten.length = n at hl
    by_cases h0 : n = 0
    · subst h0
      (repeat ((fail_if_success (show AWP _ _ (.region 10 _ _) _ _)); first | refine awp_seq ?_ | refine awp_yes rfl ?_ | refine awp_no rfl ?_ | refine awp_block ?_ | (refine awp_region fun K hK => ?_) | (refine awp_draw (by kernel_rfl) (by kernel_rfl) fun K hK => ?_) | (refine awp_skip ?_; (first | show AWP _ _ _ _ _ | show loopQ _ _ _ _ _ _)) | (refine awp_exit ?_; (first | show AWP _ _ _ _ _ | show loopQ _ _ _ _ _ _)) | ((first | refine walkS_end (hK _ ?_) | refine walkD_end (hK _ _ (okTrace_spec (by kernel_rfl)) ?_)); clear hK K; (first | show AWP _ _ _ _ _ | show loopQ _ _ _ _ _ _)) | ((first | refine walkS_call3 rfl rfl rfl ?_ | refine walkD_call3 rfl rfl rfl ?_); simp (maxSteps := 2000000) (disch := omega) only [go_sem, ↓reduceIte, reduceCtorEq, Nat.reduceLT, Nat.reducePow, Nat.reduceLeDiff, Nat.reduceAdd, Nat.reduceMul, Nat.reduceSub, Nat.reduceEqDiff, Nat.reduceBEq, Int.reduceToNat, Int.reduceBEq, Int.reduceBNe, ty24, ty26, ty36, ty94, ty22, ty3, ty4, ty48, hd, cb, eqty24, eqty26]; (first | refine ⟨_, Grow0_c, ?_⟩)) | ((first | refine walkS_run1 [] rfl ?_ | refine walkD_run1 [] rfl ?_); simp (maxSteps := 2000000) (disch := omega) only [go_sem, ↓reduceIte, reduceCtorEq, Nat.reduceLT, Nat.reducePow, Nat.reduceLeDiff, Nat.reduceAdd, Nat.reduceMul, Nat.reduceSub, Nat.reduceEqDiff, Nat.reduceBEq, Int.reduceToNat, Int.reduceBEq, Int.reduceBNe, ty24, ty26, ty36, ty94, ty22, ty3, ty4, ty48, hd, cb, eqty24, eqty26]; (repeat (first | refine ⟨by omega, ?_⟩ | refine ⟨True.intro, ?_⟩)))))
      refine awp_grow 6 6 4 26 (rowC []) rfl (by kernel_rfl) rfl ?_
      (repeat (first | refine awp_seq ?_ | refine awp_yes rfl ?_ | refine awp_no rfl ?_ | refine awp_block ?_ | (refine awp_region fun K hK => ?_) | (refine awp_draw (by kernel_rfl) (by kernel_rfl) fun K hK => ?_) | (refine awp_skip ?_; (first | show AWP _ _ _ _ _ | show loopQ _ _ _ _ _ _)) | (refine awp_exit ?_; (first | show AWP _ _ _ _ _ | show loopQ _ _ _ _ _ _)) | ((first | refine walkS_end (hK _ ?_) | refine walkD_end (hK _ _ (okTrace_spec (by kernel_rfl)) ?_)); clear hK K; (first | show AWP _ _ _ _ _ | show loopQ _ _ _ _ _ _)) | ((first | refine walkS_run1 [] rfl ?_ | refine walkD_run1 [] rfl ?_); simp (maxSteps := 2000000) (disch := omega) only [go_sem, ↓reduceIte, reduceCtorEq, Nat.reduceLT, Nat.reducePow, Nat.reduceLeDiff, Nat.reduceAdd, Nat.reduceMul, Nat.reduceSub, Nat.reduceEqDiff, Nat.reduceBEq, Int.reduceToNat, Int.reduceBEq, Int.reduceBNe, ty24, ty26, ty36, ty94, ty22, ty3, ty4, ty48, hd, cb, eqty24, eqty26]; (repeat (first | refine ⟨by omega, ?_⟩ | refine ⟨True.intro, ?_⟩)))))
      refine awp_loop (concatJ ss g) (fun s => ss.length - s.val.1) ⟨(0, []), by simp, by simp⟩ ?_ (fun s => ?_)
      · unfold concatJ
        refine Weak.list ?_ ?_; (all_goals simp (disch := omega) only [AllF, AllL, le_self, le_top, lle_self, exists_eq_left', Option.some.injEq, go_sem, ↓reduceIte, reduceCtorEq, Nat.reduceLT, Nat.reducePow, Nat.reduceLeDiff, Nat.reduceAdd, Nat.reduceMul, Nat.reduceSub, Nat.reduceEqDiff, Nat.reduceBEq, Int.reduceToNat, Int.reduceBEq, Int.reduceBNe, ty24, ty26, ty36, ty94, ty22, ty3, ty4, ty48, hd, cb, eqty24, eqty26]); (all_goals (repeat' (with_reducible apply And.intro))); (all_goals try (first | exact le_eq rfl | (refine le_int ?_; omega) | (refine le_eq ?_; simp; done)))
      obtain ⟨⟨j, out⟩, hj, he⟩ := s
      unfold concatJ
      simp only [] at hj he
      have hb : out.length ≤ 1099511627776 := by
        have := sumL_le ss j
        unfold sumL at this
        rw [← List.length_flatten, ← he, hN] at this
        omega
      by_cases hm : j < ss.length
      · have r1 := hg j hm
        have st : (ss.take (j + 1)).flatten = (ss.take j).flatten ++ ss.getD j [] := by
          rw [take_succ_getD ss j [] hm, List.flatten_append]; simp
        have hb2 : (ss.take (j + 1)).flatten.length ≤ 1099511627776 := by
          have := sumL_le ss (j + 1)
          unfold sumL at this
          rw [← List.length_flatten, hN] at this
          omega
        rw [st, List.length_append, ← he] at hb2
        unfold rowS at r1
        generalize ss.getD j [] = X at r1 st hb2
        (repeat (first | refine awp_seq ?_ | refine awp_yes rfl ?_ | refine awp_no rfl ?_ | refine awp_block ?_ | (refine awp_region fun K hK => ?_) | (refine awp_draw (by kernel_rfl) (by kernel_rfl) fun K hK => ?_) | (refine awp_skip ?_; (first | show AWP _ _ _ _ _ | show loopQ _ _ _ _ _ _)) | (refine awp_exit ?_; (first | show AWP _ _ _ _ _ | show loopQ _ _ _ _ _ _)) | ((first | refine walkS_end (hK _ ?_) | refine walkD_end (hK _ _ (okTrace_spec (by kernel_rfl)) ?_)); clear hK K; (first | show AWP _ _ _ _ _ | show loopQ _ _ _ _ _ _)) | ((first | refine walkS_run1 [] rfl ?_ | refine walkD_run1 [] rfl ?_); simp (maxSteps := 2000000) (disch := omega) only [go_sem, ↓reduceIte, reduceCtorEq, Nat.reduceLT, Nat.reducePow, Nat.reduceLeDiff, Nat.reduceAdd, Nat.reduceMul, Nat.reduceSub, Nat.reduceEqDiff, Nat.reduceBEq, Int.reduceToNat, Int.reduceBEq, Int.reduceBNe, ty24, ty26, ty36, ty94, ty22, ty3, ty4, ty48, hd, cb, eqty24, eqty26, r1]; (repeat (first | refine ⟨by omega, ?_⟩ | refine ⟨True.intro, ?_⟩)))))
        refine ⟨⟨(j + 1, out ++ X), by simp only []; omega, by rw [st, ← he]⟩, by simp only []; omega, ?_⟩
        refine Weak.list ?_ ?_; (all_goals simp (disch := omega) only [AllF, AllL, le_self, le_top, lle_self, exists_eq_left', Option.some.injEq, go_sem, ↓reduceIte, reduceCtorEq, Nat.reduceLT, Nat.reducePow, Nat.reduceLeDiff, Nat.reduceAdd, Nat.reduceMul, Nat.reduceSub, Nat.reduceEqDiff, Nat.reduceBEq, Int.reduceToNat, Int.reduceBEq, Int.reduceBNe, ty24, ty26, ty36, ty94, ty22, ty3, ty4, ty48, hd, cb, eqty24, eqty26, r1]); (all_goals (repeat' (with_reducible apply And.intro))); (all_goals try (first | exact le_eq rfl | (refine le_int ?_; omega) | (refine le_eq ?_; simp; done)))
        · exact le_grgr rfl (by simp) (fun k hk => rowC_cat out X k)
        · exact lle_grow (by simp) rfl
      · have hjl : j = ss.length := by omega
        subst hjl
        rw [List.take_length] at he
        (repeat (first | refine awp_seq ?_ | refine awp_yes rfl ?_ | refine awp_no rfl ?_ | refine awp_block ?_ | (refine awp_region fun K hK => ?_) | (refine awp_draw (by kernel_rfl) (by kernel_rfl) fun K hK => ?_) | (refine awp_skip ?_; (first | show AWP _ _ _ _ _ | show loopQ _ _ _ _ _ _)) | (refine awp_exit ?_; (first | show AWP _ _ _ _ _ | show loopQ _ _ _ _ _ _)) | ((first | refine walkS_end (hK _ ?_) | refine walkD_end (hK _ _ (okTrace_spec (by kernel_rfl)) ?_)); clear hK K; (first | show AWP _ _ _ _ _ | show loopQ _ _ _ _ _ _)) | ((first | refine walkS_run1 [] rfl ?_ | refine walkD_run1 [] rfl ?_); simp (maxSteps := 2000000) (disch := omega) only [go_sem, ↓reduceIte, reduceCtorEq, Nat.reduceLT, Nat.reducePow, Nat.reduceLeDiff, Nat.reduceAdd, Nat.reduceMul, Nat.reduceSub, Nat.reduceEqDiff, Nat.reduceBEq, Int.reduceToNat, Int.reduceBEq, Int.reduceBNe, ty24, ty26, ty36, ty94, ty22, ty3, ty4, ty48, hd, cb, eqty24, eqty26]; (repeat (first | refine ⟨by omega, ?_⟩ | refine ⟨True.intro, ?_⟩)))))
        refine awp_slot 2 _ (.p (.d (.sl 4 out.length (rowC out)))) rfl (le_gr rfl (fun _ _ => rfl)) ?_
        refine awp_ret ⟨_, ?_, rfl⟩; rw [Try.results71]; simp (disch := omega) only [ResVars, ResVar, ptrLoc, go_sem, ↓reduceIte, reduceCtorEq, Nat.reduceLT, Nat.reducePow, Nat.reduceLeDiff, Nat.reduceAdd, Nat.reduceMul, Nat.reduceSub, Nat.reduceEqDiff, Nat.reduceBEq, Int.reduceToNat, Int.reduceBEq, Int.reduceBNe, ty24, ty26, ty36, ty94, ty22, ty3, ty4, ty48, hd, cb, eqty24, eqty26]
        rw [← hN, ← he]
    · have gr := Grow_c n (by omega) hl
      (repeat ((fail_if_success (show AWP _ _ (.region 9 _ _) _ _)); first | refine awp_seq ?_ | refine awp_yes rfl ?_ | refine awp_no rfl ?_ | refine awp_block ?_ | (refine awp_region fun K hK => ?_) | (refine awp_draw (by kernel_rfl) (by kernel_rfl) fun K hK => ?_) | (refine awp_skip ?_; (first | show AWP _ _ _ _ _ | show loopQ _ _ _ _ _ _)) | (refine awp_exit ?_; (first | show AWP _ _ _ _ _ | show loopQ _ _ _ _ _ _)) | ((first | refine walkS_end (hK _ ?_) | refine walkD_end (hK _ _ (okTrace_spec (by kernel_rfl)) ?_)); clear hK K; (first | show AWP _ _ _ _ _ | show loopQ _ _ _ _ _ _)) | ((first | refine walkS_run1 [] rfl ?_ | refine walkD_run1 [] rfl ?_); simp (maxSteps := 2000000) (disch := omega) only [go_sem, ↓reduceIte, reduceCtorEq, Nat.reduceLT, Nat.reducePow, Nat.reduceLeDiff, Nat.reduceAdd, Nat.reduceMul, Nat.reduceSub, Nat.reduceEqDiff, Nat.reduceBEq, Int.reduceToNat, Int.reduceBEq, Int.reduceBNe, ty24, ty26, ty36, ty94, ty22, ty3, ty4, ty48, hd, cb, eqty24, eqty26]; (repeat (first | refine ⟨by omega, ?_⟩ | refine ⟨True.intro, ?_⟩)))))
      refine awp_region fun K hK => ?_
      (first | refine walkS_run [] _ _ ?_ | refine walkD_run [] _ _ _ ?_); simp (maxSteps := 2000000) (disch := omega) only [go_sem, ↓reduceIte, reduceCtorEq, Nat.reduceLT, Nat.reducePow, Nat.reduceLeDiff, Nat.reduceAdd, Nat.reduceMul, Nat.reduceSub, Nat.reduceEqDiff, Nat.reduceBEq, Int.reduceToNat, Int.reduceBEq, Int.reduceBNe, ty24, ty26, ty36, ty94, ty22, ty3, ty4, ty48, hd, cb, eqty24, eqty26]; (repeat refine ⟨by omega, ?_⟩)
      refine walkS_cons _ (step_mcall [(1000, 6)] rfl rfl rfl rfl rfl rfl gr rfl (namesOK_new 6 (by kernel_rfl) rfl rfl)) ?_
      simp (maxSteps := 2000000) (disch := omega) only [go_sem, ↓reduceIte, reduceCtorEq, Nat.reduceLT, Nat.reducePow, Nat.reduceLeDiff, Nat.reduceAdd, Nat.reduceMul, Nat.reduceSub, Nat.reduceEqDiff, Nat.reduceBEq, Int.reduceToNat, Int.reduceBEq, Int.reduceBNe, ty24, ty26, ty36, ty94, ty22, ty3, ty4, ty48, hd, cb, eqty24, eqty26]
      (repeat (first | refine awp_seq ?_ | refine awp_yes rfl ?_ | refine awp_no rfl ?_ | refine awp_block ?_ | (refine awp_region fun K hK => ?_) | (refine awp_draw (by kernel_rfl) (by kernel_rfl) fun K hK => ?_) | (refine awp_skip ?_; (first | show AWP _ _ _ _ _ | show loopQ _ _ _ _ _ _)) | (refine awp_exit ?_; (first | show AWP _ _ _ _ _ | show loopQ _ _ _ _ _ _)) | ((first | refine walkS_end (hK _ ?_) | refine walkD_end (hK _ _ (okTrace_spec (by kernel_rfl)) ?_)); clear hK K; (first | show AWP _ _ _ _ _ | show loopQ _ _ _ _ _ _)) | ((first | refine walkS_run1 [] rfl ?_ | refine walkD_run1 [] rfl ?_); simp (maxSteps := 2000000) (disch := omega) only [go_sem, ↓reduceIte, reduceCtorEq, Nat.reduceLT, Nat.reducePow, Nat.reduceLeDiff, Nat.reduceAdd, Nat.reduceMul, Nat.reduceSub, Nat.reduceEqDiff, Nat.reduceBEq, Int.reduceToNat, Int.reduceBEq, Int.reduceBNe, ty24, ty26, ty36, ty94, ty22, ty3, ty4, ty48, hd, cb, eqty24, eqty26]; (repeat (first | refine ⟨by omega, ?_⟩ | refine ⟨True.intro, ?_⟩)))))
      refine awp_loop (concatJ ss g) (fun s => ss.length - s.val.1) ⟨(0, []), by simp, by simp⟩ ?_ (fun s => ?_)
      · unfold concatJ
        refine Weak.list ?_ ?_; (all_goals simp (disch := omega) only [AllF, AllL, le_self, le_top, lle_self, exists_eq_left', Option.some.injEq, go_sem, ↓reduceIte, reduceCtorEq, Nat.reduceLT, Nat.reducePow, Nat.reduceLeDiff, Nat.reduceAdd, Nat.reduceMul, Nat.reduceSub, Nat.reduceEqDiff, Nat.reduceBEq, Int.reduceToNat, Int.reduceBEq, Int.reduceBNe, ty24, ty26, ty36, ty94, ty22, ty3, ty4, ty48, hd, cb, eqty24, eqty26]); (all_goals (repeat' (with_reducible apply And.intro))); (all_goals try (first | exact le_eq rfl | (refine le_int ?_; omega) | (refine le_eq ?_; simp; done)))
      obtain ⟨⟨j, out⟩, hj, he⟩ := s
      unfold concatJ
      simp only [] at hj he
      have hb : out.length ≤ 1099511627776 := by
        have := sumL_le ss j
        unfold sumL at this
        rw [← List.length_flatten, ← he, hN] at this
        omega
      by_cases hm : j < ss.length
      · have r1 := hg j hm
        have st : (ss.take (j + 1)).flatten = (ss.take j).flatten ++ ss.getD j [] := by
          rw [take_succ_getD ss j [] hm, List.flatten_append]; simp
        have hb2 : (ss.take (j + 1)).flatten.length ≤ 1099511627776 := by
          have := sumL_le ss (j + 1)
          unfold sumL at this
          rw [← List.length_flatten, hN] at this
          omega
        rw [st, List.length_append, ← he] at hb2
        unfold rowS at r1
        generalize ss.getD j [] = X at r1 st hb2
        (repeat (first | refine awp_seq ?_ | refine awp_yes rfl ?_ | refine awp_no rfl ?_ | refine awp_block ?_ | (refine awp_region fun K hK => ?_) | (refine awp_draw (by kernel_rfl) (by kernel_rfl) fun K hK => ?_) | (refine awp_skip ?_; (first | show AWP _ _ _ _ _ | show loopQ _ _ _ _ _ _)) | (refine awp_exit ?_; (first | show AWP _ _ _ _ _ | show loopQ _ _ _ _ _ _)) | ((first | refine walkS_end (hK _ ?_) | refine walkD_end (hK _ _ (okTrace_spec (by kernel_rfl)) ?_)); clear hK K; (first | show AWP _ _ _ _ _ | show loopQ _ _ _ _ _ _)) | ((first | refine walkS_run1 [] rfl ?_ | refine walkD_run1 [] rfl ?_); simp (maxSteps := 2000000) (disch := omega) only [go_sem, ↓reduceIte, reduceCtorEq, Nat.reduceLT, Nat.reducePow, Nat.reduceLeDiff, Nat.reduceAdd, Nat.reduceMul, Nat.reduceSub, Nat.reduceEqDiff, Nat.reduceBEq, Int.reduceToNat, Int.reduceBEq, Int.reduceBNe, ty24, ty26, ty36, ty94, ty22, ty3, ty4, ty48, hd, cb, eqty24, eqty26, r1]; (repeat (first | refine ⟨by omega, ?_⟩ | refine ⟨True.intro, ?_⟩)))))
        refine ⟨⟨(j + 1, out ++ X), by simp only []; omega, by rw [st, ← he]⟩, by simp only []; omega, ?_⟩
        refine Weak.list ?_ ?_; (all_goals simp (disch := omega) only [AllF, AllL, le_self, le_top, lle_self, exists_eq_left', Option.some.injEq, go_sem, ↓reduceIte, reduceCtorEq, Nat.reduceLT, Nat.reducePow, Nat.reduceLeDiff, Nat.reduceAdd, Nat.reduceMul, Nat.reduceSub, Nat.reduceEqDiff, Nat.reduceBEq, Int.reduceToNat, Int.reduceBEq, Int.reduceBNe, ty24, ty26, ty36, ty94, ty22, ty3, ty4, ty48, hd, cb, eqty24, eqty26, r1]); (all_goals (repeat' (with_reducible apply And.intro))); (all_goals try (first | exact le_eq rfl | (refine le_int ?_; omega) | (refine le_eq ?_; simp; done)))
        · exact le_grgr rfl (by simp) (fun k hk => rowC_cat out X k)
        · exact lle_grow (by simp) rfl
      · have hjl : j = ss.length := by omega
        subst hjl
        rw [List.take_length] at he
        (repeat (first | refine awp_seq ?_ | refine awp_yes rfl ?_ | refine awp_no rfl ?_ | refine awp_block ?_ | (refine awp_region fun K hK => ?_) | (refine awp_draw (by kernel_rfl) (by kernel_rfl) fun K hK => ?_) | (refine awp_skip ?_; (first | show AWP _ _ _ _ _ | show loopQ _ _ _ _ _ _)) | (refine awp_exit ?_; (first | show AWP _ _ _ _ _ | show loopQ _ _ _ _ _ _)) | ((first | refine walkS_end (hK _ ?_) | refine walkD_end (hK _ _ (okTrace_spec (by kernel_rfl)) ?_)); clear hK K; (first | show AWP _ _ _ _ _ | show loopQ _ _ _ _ _ _)) | ((first | refine walkS_run1 [] rfl ?_ | refine walkD_run1 [] rfl ?_); simp (maxSteps := 2000000) (disch := omega) only [go_sem, ↓reduceIte, reduceCtorEq, Nat.reduceLT, Nat.reducePow, Nat.reduceLeDiff, Nat.reduceAdd, Nat.reduceMul, Nat.reduceSub, Nat.reduceEqDiff, Nat.reduceBEq, Int.reduceToNat, Int.reduceBEq, Int.reduceBNe, ty24, ty26, ty36, ty94, ty22, ty3, ty4, ty48, hd, cb, eqty24, eqty26]; (repeat (first | refine ⟨by omega, ?_⟩ | refine ⟨True.intro, ?_⟩)))))
        refine awp_slot 2 _ (.p (.d (.sl 4 out.length (rowC out)))) rfl (le_gr rfl (fun _ _ => rfl)) ?_
        refine awp_ret ⟨_, ?_, rfl⟩; rw [Try.results71]; simp (disch := omega) only [ResVars, ResVar, ptrLoc, go_sem, ↓reduceIte, reduceCtorEq, Nat.reduceLT, Nat.reducePow, Nat.reduceLeDiff, Nat.reduceAdd, Nat.reduceMul, Nat.reduceSub, Nat.reduceEqDiff, Nat.reduceBEq, Int.reduceToNat, Int.reduceBEq, Int.reduceBNe, ty24, ty26, ty36, ty94, ty22, ty3, ty4, ty48, hd, cb, eqty24, eqty26]
        rw [← hN, ← he]
def joinV (a b : List Cube) : List Cube := if soundP a && soundP b then leanV (a ++ b) else []
def joinE (a b : List Cube) : Int := if soundP a && soundP b then leanE (a ++ b) else 2
theorem JoinP_c (a b : List Cube) (ha : a.length ≤ 1099511627776) (hb : b.length ≤ 1099511627776) : ACalls Try.prog 48 [.d (.sl 4 a.length (rowC a)), .d (.sl 4 b.length (rowC b))]
    (· = [.d (.sl 4 (joinV a b).length (rowC (joinV a b))), .d (.v (.int .i64 (joinE a b)))]) := by
  have pr := pair_c a b ha hb
  unfold pairE at pr
  unfold joinV joinE
  cases hs : (soundP a && soundP b)
  · rw [hs] at pr
    simp only [Bool.false_eq_true, if_false] at pr ⊢
    refine acalls_of_awp Try.func48 rfl (by decide +kernel) (by rw [Try.ntmps48]; simp) ?_; rw [Try.ntmps48]; simp only [frOf]
    (repeat (first | refine awp_seq ?_ | refine awp_yes rfl ?_ | refine awp_no rfl ?_ | refine awp_block ?_ | (refine awp_region fun K hK => ?_) | (refine awp_draw (by kernel_rfl) (by kernel_rfl) fun K hK => ?_) | (refine awp_skip ?_; (first | show AWP _ _ _ _ _ | show loopQ _ _ _ _ _ _)) | (refine awp_exit ?_; (first | show AWP _ _ _ _ _ | show loopQ _ _ _ _ _ _)) | ((first | refine walkS_end (hK _ ?_) | refine walkD_end (hK _ _ (okTrace_spec (by kernel_rfl)) ?_)); clear hK K; (first | show AWP _ _ _ _ _ | show loopQ _ _ _ _ _ _)) | ((first | refine walkS_call3 rfl rfl rfl ?_ | refine walkD_call3 rfl rfl rfl ?_); simp (maxSteps := 2000000) (disch := omega) only [go_sem, ↓reduceIte, reduceCtorEq, Nat.reduceLT, Nat.reducePow, Nat.reduceLeDiff, Nat.reduceAdd, Nat.reduceMul, Nat.reduceSub, Nat.reduceEqDiff, Nat.reduceBEq, Int.reduceToNat, Int.reduceBEq, Int.reduceBNe, ty24, ty26, ty36, ty94, ty22, ty3, ty4, ty48, hd, cb, eqty24, eqty26]; (first | refine ⟨_, pr, ?_⟩)) | ((first | refine walkS_run1 [] rfl ?_ | refine walkD_run1 [] rfl ?_); simp (maxSteps := 2000000) (disch := omega) only [go_sem, ↓reduceIte, reduceCtorEq, Nat.reduceLT, Nat.reducePow, Nat.reduceLeDiff, Nat.reduceAdd, Nat.reduceMul, Nat.reduceSub, Nat.reduceEqDiff, Nat.reduceBEq, Int.reduceToNat, Int.reduceBEq, Int.reduceBNe, ty24, ty26, ty36, ty94, ty22, ty3, ty4, ty48, hd, cb, eqty24, eqty26]; (repeat (first | refine ⟨by omega, ?_⟩ | refine ⟨True.intro, ?_⟩)))))
    refine awp_slot 4 _ (.p (.d (.sl 4 ([] : List Cube).length (rowC [])))) rfl (le_nil 4 _ _ rfl) ?_
    refine awp_ret ⟨_, ?_, rfl⟩; rw [Try.results48]; simp (disch := omega) only [ResVars, ResVar, ptrLoc, go_sem, ↓reduceIte, reduceCtorEq, Nat.reduceLT, Nat.reducePow, Nat.reduceLeDiff, Nat.reduceAdd, Nat.reduceMul, Nat.reduceSub, Nat.reduceEqDiff, Nat.reduceBEq, Int.reduceToNat, Int.reduceBEq, Int.reduceBNe, ty24, ty26, ty36, ty94, ty22, ty3, ty4, ty48, hd, cb, eqty24, eqty26]
  · rw [hs] at pr
    simp only [if_true] at pr ⊢
    rw [Bool.and_eq_true] at hs
    have h1 := soundP_len hs.1
    have h2 := soundP_len hs.2
    have cc := Concat_c [a, b] (fun i => [[Dat.sl 4 a.length (rowC a)], [Dat.sl 4 b.length (rowC b)]].getD i []) (fun i hi => by
      match i, hi with
      | 0, _ => rfl
      | 1, _ => rfl) (by simp) (by simp; omega)
    simp only [List.flatten_cons, List.flatten_nil, List.append_nil] at cc
    have ln := lean_c (a ++ b) (by simp; omega)
    generalize a ++ b = c at cc ln
    refine acalls_of_awp Try.func48 rfl (by decide +kernel) (by rw [Try.ntmps48]; simp) ?_; rw [Try.ntmps48]; simp only [frOf]
    (repeat (first | refine awp_seq ?_ | refine awp_yes rfl ?_ | refine awp_no rfl ?_ | refine awp_block ?_ | (refine awp_region fun K hK => ?_) | (refine awp_draw (by kernel_rfl) (by kernel_rfl) fun K hK => ?_) | (refine awp_skip ?_; (first | show AWP _ _ _ _ _ | show loopQ _ _ _ _ _ _)) | (refine awp_exit ?_; (first | show AWP _ _ _ _ _ | show loopQ _ _ _ _ _ _)) | ((first | refine walkS_end (hK _ ?_) | refine walkD_end (hK _ _ (okTrace_spec (by kernel_rfl)) ?_)); clear hK K; (first | show AWP _ _ _ _ _ | show loopQ _ _ _ _ _ _)) | ((first | refine walkS_call3 rfl rfl rfl ?_ | refine walkD_call3 rfl rfl rfl ?_); simp (maxSteps := 2000000) (disch := omega) only [go_sem, ↓reduceIte, reduceCtorEq, Nat.reduceLT, Nat.reducePow, Nat.reduceLeDiff, Nat.reduceAdd, Nat.reduceMul, Nat.reduceSub, Nat.reduceEqDiff, Nat.reduceBEq, Int.reduceToNat, Int.reduceBEq, Int.reduceBNe, ty24, ty26, ty36, ty94, ty22, ty3, ty4, ty48, hd, cb, eqty24, eqty26]; (first | refine ⟨_, pr, ?_⟩ | refine ⟨_, cc, ?_⟩ | refine ⟨_, ln, ?_⟩)) | ((first | refine walkS_run1 [] rfl ?_ | refine walkD_run1 [] rfl ?_); simp (maxSteps := 2000000) (disch := omega) only [go_sem, ↓reduceIte, reduceCtorEq, Nat.reduceLT, Nat.reducePow, Nat.reduceLeDiff, Nat.reduceAdd, Nat.reduceMul, Nat.reduceSub, Nat.reduceEqDiff, Nat.reduceBEq, Int.reduceToNat, Int.reduceBEq, Int.reduceBNe, ty24, ty26, ty36, ty94, ty22, ty3, ty4, ty48, hd, cb, eqty24, eqty26]; (repeat (first | refine ⟨by omega, ?_⟩ | refine ⟨True.intro, ?_⟩)))))
    refine awp_ret ⟨_, ?_, rfl⟩; rw [Try.results48]; simp (disch := omega) only [ResVars, ResVar, ptrLoc, go_sem, ↓reduceIte, reduceCtorEq, Nat.reduceLT, Nat.reducePow, Nat.reduceLeDiff, Nat.reduceAdd, Nat.reduceMul, Nat.reduceSub, Nat.reduceEqDiff, Nat.reduceBEq, Int.reduceToNat, Int.reduceBEq, Int.reduceBNe, ty24, ty26, ty36, ty94, ty22, ty3, ty4, ty48, hd, cb, eqty24, eqty26]
end Go.Proofs.Ytfcfhlfehomhpaa
