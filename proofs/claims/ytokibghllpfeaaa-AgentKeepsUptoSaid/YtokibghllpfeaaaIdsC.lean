/- slices.Grow, slices.Concat at []int. Conditions: none, but that no row is greater than memory bears. -/
import Derived.Test.YtokibghllpfeaaaGen
import Derived.Test.YtokibghllpfeaaaIdsA
import Derived.Shelf.Spec.SlicesGrow
set_option linter.unusedSimpArgs false
set_option linter.unusedVariables false
namespace Go.Proofs.Ytokibghllpfeaaa
open Go.Proofs.Ytokibghllpfeaaa.AL Go.RowKit
def growRenZ : Go.Shelf.Ren := ⟨fun | 4 => 55 | n => n, fun | 0 => 0 | 3 => 3 | 4 => 4 | 9 => 9 | 20 => 20 | 22 => 30 | 25 => 3 | n => n, fun n => n⟩
theorem growLZ : Go.Proofs.Lays8.n4 Try.prog growRenZ where
  mixed := by kernel_rfl
  f4 := ⟨Try.f55.name, by kernel_rfl, Try.func55.trans (congrArg some (by kernel_rfl))⟩
  t0 := Try.underlying0
  a0 := Try.isAgg0
  z0 := Try.sizeOf0
  v0 := Try.zeroValue0
  t3 := Try.underlying3
  a3 := Try.isAgg3
  z3 := Try.sizeOf3
  v3 := Try.zeroValue3
  t4 := Try.underlying4
  a4 := Try.isAgg4
  z4 := Try.sizeOf4
  v4 := Try.zeroValue4
  t9 := Try.underlying9
  a9 := Try.isAgg9
  z9 := Try.sizeOf9
  v9 := Try.zeroValue9
  t20 := Try.underlying20
  a20 := Try.isAgg20
  z20 := Try.sizeOf20
  v20 := Try.zeroValue20
  t22 := Try.underlying30
  a22 := Try.isAgg30
  z22 := Try.sizeOf30
  v22 := Try.zeroValue30
theorem GrowZ0_c : ACalls Try.prog 55 [.d (.v (.slice none 0 0)), .d (.v (.int .i64 0))] (· = [.d (.v (.slice none 0 0))]) := by
  refine acalls_iff.2 fun w g vs hz hr => ?_
  have hv : vs = [.slice none 0 0, .int .i64 0] := relPs_vals [.slice none 0 0, .int .i64 0] vs hr
  subst hv
  rw [callFunc_enter _ w Try.func55 rfl (by kernel_rfl)]
  show Calls Try.prog 55 _ w _
  refine Calls.mono (Go.Proofs.Any8.slices_Grow_room growLZ none 0 0 0 w (Nat.le_refl _) (by omega) (by omega) (by omega)) fun e w' ⟨he, hw⟩ => ?_
  subst hw
  exact ⟨_, he, g, _, Ext.refl hz, rfl, .d _ _ (.v _ rfl)⟩
theorem GrowZ_c (n : Nat) (h0 : 0 < n) (hn : n ≤ 1099511627776) : MCalls Try.prog 55 [.p (.d (.v (.slice none 0 0))), .p (.d (.v (.int .i64 (n : Int))))] []
    (fun rs L' => rs = [.gr 1000 0 1 0 (rowZ [])] ∧ L' = [(1000, .grow 3 1 0 0)]) := by
  intro w h vs hz hr hl
  have hv : vs = [.slice none 0 0, .int .i64 (n : Int)] := by
    match vs, hr with
    | [a, b], hr =>
      rw [relA_v (hr.2 0 a _ rfl rfl), relA_v (hr.2 1 b _ rfl rfl)]
    | [], hr => simp [RelAs] at hr
    | [_], hr => simp [RelAs] at hr
    | _ :: _ :: _ :: _, hr => simp [RelAs] at hr
  subst hv
  rw [callFunc_enter _ w Try.func55 rfl (by kernel_rfl)]
  show Calls Try.prog 55 _ w _
  obtain ⟨i0, hi0⟩ : ∃ i, Try.prog.info? 3 = some i := Option.isSome_iff_exists.1 (by kernel_rfl)
  have hs : i0.size = 1 := by
    have : (Try.prog.info? 3).map (fun i => i.size) = some 1 := by kernel_rfl
    rw [hi0] at this; simpa using this
  have hb : i0.bytes = 8 := by
    have : (Try.prog.info? 3).map (fun i => i.bytes) = some 8 := by kernel_rfl
    rw [hi0] at this; simpa using this
  obtain ⟨z, hz0⟩ : ∃ z, i0.zero = some z := by
    have : ((Try.prog.info? 3).bind (fun i => i.zero)).isSome = true := by kernel_rfl
    rw [hi0] at this
    exact Option.isSome_iff_exists.1 this
  have hzs : z.cells.size = 1 := by
    have : ((Try.prog.info? 3).bind (fun i => i.zero)).map (fun z => z.cells.size) = some 1 := by kernel_rfl
    rw [hi0] at this
    simp only [Option.bind_some, hz0, Option.map_some, Option.some.injEq] at this
    exact this
  refine Calls.mono (Go.Proofs.Any8.slices_Grow_grow growLZ i0 z hi0 hz0 (by omega) none 0 0 n [] w (Nat.le_refl _) (by omega) (by rw [hb]; omega) (by omega) (by simp) (fun _ => rfl) (fun a ha => by cases ha)) fun e w' ⟨he, hw⟩ => ?_
  have hge := grownCap_ge w (0 + n) 0 (growRenZ.t 25)
  have hcm := grownCap_le_maxLen w (0 + n) 0 (growRenZ.t 25) (by unfold maxLen; omega)
  generalize grownCap w (0 + n) 0 (growRenZ.t 25) = cap at he hw hge hcm
  subst he
  subst hw
  generalize hcur : (([] : List Value).toArray ++ Builtin.zeroCells z.cells (0 + n - 0) ++ Builtin.zeroCells z.cells (cap - (0 + n)) : Array Value) = cur
  have hcs : cur.size = cap * 1 := by
    rw [← hcur]
    simp only [Array.size_append, size_zeroCells, hzs]
    simp; omega
  let v : Value := .slice (some ⟨w.heap.size, 0, none⟩) 0 cap
  let h' : Gh := { h with κ := fun k => if k = 1000 then v else h.κ k, μ := fun k => if k = 1000 then 0 else h.μ k }
  have hold : ∀ k, k < w.heap.size → (w.drew.alloc (.cells cur 3)).heap[k]? = w.heap[k]? := fun k hk => Below.heap_alloc w.drew _ k hk
  refine ⟨v, rfl, h', _, _, ⟨rfl, rfl⟩, ⟨.sl0 _ _ _ _, by simp [h'], fun _ => by simp [h']⟩, ⟨fun l X hX => ?_, fun l l' X X' b hne h1 h2 => ?_⟩, ?_⟩
  · have hX : AL.look [(1000, LV.grow 3 1 0 0)] l = some X := hX
    simp only [AL.look] at hX
    split at hX
    · rename_i e; subst e; cases hX
      refine ⟨by simp [h'], ⟨[], by simp, .inr ⟨w.heap.size, cap, cur, by simp [h', v], Nat.zero_le _, _root_.Go.heap_alloc_new w.drew _, Nat.zero_le _, hcm, hcs, by simp⟩⟩, fun b c hb => ?_, fun _ _ => trivial⟩
      simp only [h', if_true, v, Value.slice.injEq, Option.some.injEq, Addr.mk.injEq, and_true] at hb
      rw [← hb.1, Nat.zero_mul]
      exact hz _ (Nat.le_refl _)
    · cases hX
  · have h1 : AL.look [(1000, LV.grow 3 1 0 0)] l = some X := h1
    have h2 : AL.look [(1000, LV.grow 3 1 0 0)] l' = some X' := h2
    simp only [AL.look] at h1 h2
    split at h1
    · rename_i e
      split at h2
      · rename_i e2; exact absurd (e.symm.trans e2) hne
      · cases h2
    · cases h1
  · refine ⟨((BelowS.refl _ _).drew).alloc _, fun _ _ _ => rfl, fun b hb => hz b ?_, ⟨fun _ => Nat.le_refl _, fun b o ho => ?_⟩, fun l X hX => (by cases hX), fun l X hX => (by cases hX), fun b ⟨l, X, h1, h2⟩ => .inl ?_⟩
    · simp at hb; omega
    · have hb : b < w.heap.size := by
        refine Nat.lt_of_not_le fun hle => ?_
        rw [hz b hle] at ho; omega
      exact World.cell?_of_block (w := w) (hold b hb)
    · have h1 : AL.look [(1000, LV.grow 3 1 0 0)] l = some X := h1
      simp only [AL.look] at h1
      split at h1
      · rename_i e; subst e; cases h1
        simp only [inB, h', if_true, v, Value.ownBlock, Option.some.injEq] at h2
        omega
      · cases h1

def rowSZ (ss : List (List Int)) : Nat → List Dat := fun i => [.sl 1 (ss.getD i []).length (rowZ (ss.getD i []))]
def sumLZ (ss : List (List Int)) (i : Nat) : Nat := ((ss.take i).map List.length).sum
theorem sumLZ_succ (ss : List (List Int)) (i : Nat) (h : i < ss.length) : sumLZ ss (i + 1) = sumLZ ss i + (ss.getD i []).length := by
  unfold sumLZ
  rw [take_succ_getD ss i [] h, List.map_append, List.sum_append]
  simp
theorem sumLZ_le (ss : List (List Int)) (i : Nat) : sumLZ ss i ≤ ss.flatten.length := by
  unfold sumLZ
  rw [← List.length_flatten]
  have : ss.flatten = (ss.take i).flatten ++ (ss.drop i).flatten := by rw [← List.flatten_append, List.take_append_drop]
  rw [this, List.length_append]; omega
def concatZI (ss : List (List Int)) (g : Nat → List Dat) (i : Fin (ss.length + 1)) : ASt :=
  ⟨[(11, .p (.d (.v (.int .i64 (i.val : Int))))), (10, .p (.d (.v (.int .i64 (ss.length : Int))))), (9, .p (.d (.sl 1 ss.length g))), (3, .p (.d (.v (.int .i64 (sumLZ ss i.val : Int))))), (0, .p (.d (.sl 1 ss.length g)))], []⟩
def concatZJ (ss : List (List Int)) (g : Nat → List Dat) (s : {s : Nat × List Int // s.1 ≤ ss.length ∧ s.2 = (ss.take s.1).flatten}) : ASt :=
  ⟨[(27, .p (.d (.v (.int .i64 (s.val.1 : Int))))), (26, .p (.d (.v (.int .i64 (ss.length : Int))))), (25, .p (.d (.sl 1 ss.length g))), (6, .gr 6 s.val.1 1 s.val.2.length (rowZ s.val.2))],
   [(6, .grow 3 1 s.val.2.length s.val.1)]⟩
set_option maxRecDepth 100000 in
set_option maxHeartbeats 2000000 in
theorem ConcatZ_c (ss : List (List Int)) (g : Nat → List Dat) (hg : ∀ i, i < ss.length → g i = rowSZ ss i) (hs : ss.length ≤ 1099511627776) (hl : ss.flatten.length ≤ 1099511627776) :
    ACalls Try.prog 42 [.d (.sl 1 ss.length g)] (· = [.d (.sl 1 ss.flatten.length (rowZ ss.flatten))]) := by
  have hle : ∀ i, sumLZ ss i ≤ 1099511627776 := fun i => Nat.le_trans (sumLZ_le ss i) hl
  refine acalls_of_awp Try.func42 rfl (by decide +kernel) (by rw [Try.ntmps42]; simp) ?_; rw [Try.ntmps42]; simp only [frOf]
  (repeat (first | refine awp_seq ?_ | refine awp_yes rfl ?_ | refine awp_no rfl ?_ | refine awp_block ?_ | (refine awp_region fun K hK => ?_) | (refine awp_draw (by kernel_rfl) (by kernel_rfl) fun K hK => ?_) | (refine awp_skip ?_; (first | show AWP _ _ _ _ _ | show loopQ _ _ _ _ _ _ | (simp only [blockQ_n]; first | show AWP _ _ _ _ _ | show loopQ _ _ _ _ _ _))) | (refine awp_exit ?_; (first | show AWP _ _ _ _ _ | show loopQ _ _ _ _ _ _ | (simp only [blockQ_n]; first | show AWP _ _ _ _ _ | show loopQ _ _ _ _ _ _))) | ((first | refine walkS_end (hK _ ?_) | refine walkD_end (hK _ _ (okTrace_spec (by kernel_rfl)) ?_)); clear hK K; (first | show AWP _ _ _ _ _ | show loopQ _ _ _ _ _ _ | (simp only [blockQ_n]; first | show AWP _ _ _ _ _ | show loopQ _ _ _ _ _ _))) | ((first | refine walkS_run1 [] rfl ?_ | refine walkD_run1 [] rfl ?_); simp (maxSteps := 2000000) (disch := omega) only [go_sem, ↓reduceIte, reduceCtorEq, Nat.reduceLT, Nat.reducePow, Nat.reduceLeDiff, Nat.reduceAdd, Nat.reduceMul, Nat.reduceSub, Nat.reduceEqDiff, Nat.reduceBEq, Int.reduceToNat, Int.reduceBEq, Int.reduceBNe]; (repeat (first | refine ⟨by omega, ?_⟩ | refine ⟨True.intro, ?_⟩)))))
  refine awp_loop (concatZI ss g) (fun i => ss.length - i.val) ⟨0, by omega⟩ ?_ (fun s => ?_)
  · unfold concatZI
    refine Weak.list ?_ ?_; (all_goals simp (disch := omega) only [AllF, AllL, le_self, le_top, lle_self, exists_eq_left', Option.some.injEq, go_sem, ↓reduceIte, reduceCtorEq, Nat.reduceLT, Nat.reducePow, Nat.reduceLeDiff, Nat.reduceAdd, Nat.reduceMul, Nat.reduceSub, Nat.reduceEqDiff, Nat.reduceBEq, Int.reduceToNat, Int.reduceBEq, Int.reduceBNe]); (all_goals (repeat' (with_reducible apply And.intro))); (all_goals try (first | exact le_eq rfl | (refine le_int ?_; omega) | (refine le_eq ?_; simp; done)))
  obtain ⟨i, hi⟩ := s
  unfold concatZI
  by_cases hn : i < ss.length
  · have r1 := hg i hn
    have st := sumLZ_succ ss i hn
    have h1 := hle i
    have h2 := hle (i + 1)
    unfold rowSZ at r1
    generalize ss.getD i [] = X at r1 st
    (repeat (first | refine awp_seq ?_ | refine awp_yes rfl ?_ | refine awp_no rfl ?_ | refine awp_block ?_ | (refine awp_region fun K hK => ?_) | (refine awp_draw (by kernel_rfl) (by kernel_rfl) fun K hK => ?_) | (refine awp_skip ?_; (first | show AWP _ _ _ _ _ | show loopQ _ _ _ _ _ _ | (simp only [blockQ_n]; first | show AWP _ _ _ _ _ | show loopQ _ _ _ _ _ _))) | (refine awp_exit ?_; (first | show AWP _ _ _ _ _ | show loopQ _ _ _ _ _ _ | (simp only [blockQ_n]; first | show AWP _ _ _ _ _ | show loopQ _ _ _ _ _ _))) | ((first | refine walkS_end (hK _ ?_) | refine walkD_end (hK _ _ (okTrace_spec (by kernel_rfl)) ?_)); clear hK K; (first | show AWP _ _ _ _ _ | show loopQ _ _ _ _ _ _ | (simp only [blockQ_n]; first | show AWP _ _ _ _ _ | show loopQ _ _ _ _ _ _))) | ((first | refine walkS_run1 [] rfl ?_ | refine walkD_run1 [] rfl ?_); simp (maxSteps := 2000000) (disch := omega) only [go_sem, ↓reduceIte, reduceCtorEq, Nat.reduceLT, Nat.reducePow, Nat.reduceLeDiff, Nat.reduceAdd, Nat.reduceMul, Nat.reduceSub, Nat.reduceEqDiff, Nat.reduceBEq, Int.reduceToNat, Int.reduceBEq, Int.reduceBNe, r1]; (repeat (first | refine ⟨by omega, ?_⟩ | refine ⟨True.intro, ?_⟩)))))
    refine ⟨⟨i + 1, by omega⟩, by simp only []; omega, ?_⟩
    refine Weak.list ?_ ?_; (all_goals simp (disch := omega) only [AllF, AllL, le_self, le_top, lle_self, exists_eq_left', Option.some.injEq, go_sem, ↓reduceIte, reduceCtorEq, Nat.reduceLT, Nat.reducePow, Nat.reduceLeDiff, Nat.reduceAdd, Nat.reduceMul, Nat.reduceSub, Nat.reduceEqDiff, Nat.reduceBEq, Int.reduceToNat, Int.reduceBEq, Int.reduceBNe, r1]); (all_goals (repeat' (with_reducible apply And.intro))); (all_goals try (first | exact le_eq rfl | (refine le_int ?_; omega) | (refine le_eq ?_; simp; done)))
  · have hil : i = ss.length := by omega
    subst hil
    have hsum : sumLZ ss ss.length = ss.flatten.length := by unfold sumLZ; rw [List.take_length, List.length_flatten]
    simp only [hsum]
    generalize hN : ss.flatten.length = n at hl
    by_cases h0 : n = 0
    · subst h0
      (repeat ((fail_if_success (show AWP _ _ (.region 10 _ _) _ _)); first | refine awp_seq ?_ | refine awp_yes rfl ?_ | refine awp_no rfl ?_ | refine awp_block ?_ | (refine awp_region fun K hK => ?_) | (refine awp_draw (by kernel_rfl) (by kernel_rfl) fun K hK => ?_) | (refine awp_skip ?_; (first | show AWP _ _ _ _ _ | show loopQ _ _ _ _ _ _ | (simp only [blockQ_n]; first | show AWP _ _ _ _ _ | show loopQ _ _ _ _ _ _))) | (refine awp_exit ?_; (first | show AWP _ _ _ _ _ | show loopQ _ _ _ _ _ _ | (simp only [blockQ_n]; first | show AWP _ _ _ _ _ | show loopQ _ _ _ _ _ _))) | ((first | refine walkS_end (hK _ ?_) | refine walkD_end (hK _ _ (okTrace_spec (by kernel_rfl)) ?_)); clear hK K; (first | show AWP _ _ _ _ _ | show loopQ _ _ _ _ _ _ | (simp only [blockQ_n]; first | show AWP _ _ _ _ _ | show loopQ _ _ _ _ _ _))) | ((first | refine walkS_call3 rfl rfl rfl ?_ | refine walkD_call3 rfl rfl rfl ?_); simp (maxSteps := 2000000) (disch := omega) only [go_sem, ↓reduceIte, reduceCtorEq, Nat.reduceLT, Nat.reducePow, Nat.reduceLeDiff, Nat.reduceAdd, Nat.reduceMul, Nat.reduceSub, Nat.reduceEqDiff, Nat.reduceBEq, Int.reduceToNat, Int.reduceBEq, Int.reduceBNe]; (first | refine ⟨_, GrowZ0_c, ?_⟩)) | ((first | refine walkS_run1 [] rfl ?_ | refine walkD_run1 [] rfl ?_); simp (maxSteps := 2000000) (disch := omega) only [go_sem, ↓reduceIte, reduceCtorEq, Nat.reduceLT, Nat.reducePow, Nat.reduceLeDiff, Nat.reduceAdd, Nat.reduceMul, Nat.reduceSub, Nat.reduceEqDiff, Nat.reduceBEq, Int.reduceToNat, Int.reduceBEq, Int.reduceBNe]; (repeat (first | refine ⟨by omega, ?_⟩ | refine ⟨True.intro, ?_⟩)))))
      refine awp_grow 6 6 1 3 (rowZ []) rfl (by kernel_rfl) rfl ?_
      (repeat (first | refine awp_seq ?_ | refine awp_yes rfl ?_ | refine awp_no rfl ?_ | refine awp_block ?_ | (refine awp_region fun K hK => ?_) | (refine awp_draw (by kernel_rfl) (by kernel_rfl) fun K hK => ?_) | (refine awp_skip ?_; (first | show AWP _ _ _ _ _ | show loopQ _ _ _ _ _ _ | (simp only [blockQ_n]; first | show AWP _ _ _ _ _ | show loopQ _ _ _ _ _ _))) | (refine awp_exit ?_; (first | show AWP _ _ _ _ _ | show loopQ _ _ _ _ _ _ | (simp only [blockQ_n]; first | show AWP _ _ _ _ _ | show loopQ _ _ _ _ _ _))) | ((first | refine walkS_end (hK _ ?_) | refine walkD_end (hK _ _ (okTrace_spec (by kernel_rfl)) ?_)); clear hK K; (first | show AWP _ _ _ _ _ | show loopQ _ _ _ _ _ _ | (simp only [blockQ_n]; first | show AWP _ _ _ _ _ | show loopQ _ _ _ _ _ _))) | ((first | refine walkS_run1 [] rfl ?_ | refine walkD_run1 [] rfl ?_); simp (maxSteps := 2000000) (disch := omega) only [go_sem, ↓reduceIte, reduceCtorEq, Nat.reduceLT, Nat.reducePow, Nat.reduceLeDiff, Nat.reduceAdd, Nat.reduceMul, Nat.reduceSub, Nat.reduceEqDiff, Nat.reduceBEq, Int.reduceToNat, Int.reduceBEq, Int.reduceBNe]; (repeat (first | refine ⟨by omega, ?_⟩ | refine ⟨True.intro, ?_⟩)))))
      refine awp_loop (concatZJ ss g) (fun s => ss.length - s.val.1) ⟨(0, []), by simp, by simp⟩ ?_ (fun s => ?_)
      · unfold concatZJ
        refine Weak.list ?_ ?_; (all_goals simp (disch := omega) only [AllF, AllL, le_self, le_top, lle_self, exists_eq_left', Option.some.injEq, go_sem, ↓reduceIte, reduceCtorEq, Nat.reduceLT, Nat.reducePow, Nat.reduceLeDiff, Nat.reduceAdd, Nat.reduceMul, Nat.reduceSub, Nat.reduceEqDiff, Nat.reduceBEq, Int.reduceToNat, Int.reduceBEq, Int.reduceBNe]); (all_goals (repeat' (with_reducible apply And.intro))); (all_goals try (first | exact le_eq rfl | (refine le_int ?_; omega) | (refine le_eq ?_; simp; done)))
      obtain ⟨⟨j, out⟩, hj, he⟩ := s
      unfold concatZJ
      simp only [] at hj he
      have hb : out.length ≤ 1099511627776 := by
        have := sumLZ_le ss j
        unfold sumLZ at this
        rw [← List.length_flatten, ← he, hN] at this
        omega
      by_cases hm : j < ss.length
      · have r1 := hg j hm
        have st : (ss.take (j + 1)).flatten = (ss.take j).flatten ++ ss.getD j [] := by
          rw [take_succ_getD ss j [] hm, List.flatten_append]; simp
        have hb2 : (ss.take (j + 1)).flatten.length ≤ 1099511627776 := by
          have := sumLZ_le ss (j + 1)
          unfold sumLZ at this
          rw [← List.length_flatten, hN] at this
          omega
        rw [st, List.length_append, ← he] at hb2
        unfold rowSZ at r1
        generalize ss.getD j [] = X at r1 st hb2
        (repeat (first | refine awp_seq ?_ | refine awp_yes rfl ?_ | refine awp_no rfl ?_ | refine awp_block ?_ | (refine awp_region fun K hK => ?_) | (refine awp_draw (by kernel_rfl) (by kernel_rfl) fun K hK => ?_) | (refine awp_skip ?_; (first | show AWP _ _ _ _ _ | show loopQ _ _ _ _ _ _ | (simp only [blockQ_n]; first | show AWP _ _ _ _ _ | show loopQ _ _ _ _ _ _))) | (refine awp_exit ?_; (first | show AWP _ _ _ _ _ | show loopQ _ _ _ _ _ _ | (simp only [blockQ_n]; first | show AWP _ _ _ _ _ | show loopQ _ _ _ _ _ _))) | ((first | refine walkS_end (hK _ ?_) | refine walkD_end (hK _ _ (okTrace_spec (by kernel_rfl)) ?_)); clear hK K; (first | show AWP _ _ _ _ _ | show loopQ _ _ _ _ _ _ | (simp only [blockQ_n]; first | show AWP _ _ _ _ _ | show loopQ _ _ _ _ _ _))) | ((first | refine walkS_run1 [] rfl ?_ | refine walkD_run1 [] rfl ?_); simp (maxSteps := 2000000) (disch := omega) only [go_sem, ↓reduceIte, reduceCtorEq, Nat.reduceLT, Nat.reducePow, Nat.reduceLeDiff, Nat.reduceAdd, Nat.reduceMul, Nat.reduceSub, Nat.reduceEqDiff, Nat.reduceBEq, Int.reduceToNat, Int.reduceBEq, Int.reduceBNe, r1]; (repeat (first | refine ⟨by omega, ?_⟩ | refine ⟨True.intro, ?_⟩)))))
        refine ⟨⟨(j + 1, out ++ X), by simp only []; omega, by rw [st, ← he]⟩, by simp only []; omega, ?_⟩
        refine Weak.list ?_ ?_; (all_goals simp (disch := omega) only [AllF, AllL, le_self, le_top, lle_self, exists_eq_left', Option.some.injEq, go_sem, ↓reduceIte, reduceCtorEq, Nat.reduceLT, Nat.reducePow, Nat.reduceLeDiff, Nat.reduceAdd, Nat.reduceMul, Nat.reduceSub, Nat.reduceEqDiff, Nat.reduceBEq, Int.reduceToNat, Int.reduceBEq, Int.reduceBNe, r1]); (all_goals (repeat' (with_reducible apply And.intro))); (all_goals try (first | exact le_eq rfl | (refine le_int ?_; omega) | (refine le_eq ?_; simp; done)))
        · exact le_grgr rfl (by simp) (fun k hk => rowZ_cat out X k)
        · exact lle_grow (by simp) rfl
      · have hjl : j = ss.length := by omega
        subst hjl
        rw [List.take_length] at he
        (repeat (first | refine awp_seq ?_ | refine awp_yes rfl ?_ | refine awp_no rfl ?_ | refine awp_block ?_ | (refine awp_region fun K hK => ?_) | (refine awp_draw (by kernel_rfl) (by kernel_rfl) fun K hK => ?_) | (refine awp_skip ?_; (first | show AWP _ _ _ _ _ | show loopQ _ _ _ _ _ _ | (simp only [blockQ_n]; first | show AWP _ _ _ _ _ | show loopQ _ _ _ _ _ _))) | (refine awp_exit ?_; (first | show AWP _ _ _ _ _ | show loopQ _ _ _ _ _ _ | (simp only [blockQ_n]; first | show AWP _ _ _ _ _ | show loopQ _ _ _ _ _ _))) | ((first | refine walkS_end (hK _ ?_) | refine walkD_end (hK _ _ (okTrace_spec (by kernel_rfl)) ?_)); clear hK K; (first | show AWP _ _ _ _ _ | show loopQ _ _ _ _ _ _ | (simp only [blockQ_n]; first | show AWP _ _ _ _ _ | show loopQ _ _ _ _ _ _))) | ((first | refine walkS_run1 [] rfl ?_ | refine walkD_run1 [] rfl ?_); simp (maxSteps := 2000000) (disch := omega) only [go_sem, ↓reduceIte, reduceCtorEq, Nat.reduceLT, Nat.reducePow, Nat.reduceLeDiff, Nat.reduceAdd, Nat.reduceMul, Nat.reduceSub, Nat.reduceEqDiff, Nat.reduceBEq, Int.reduceToNat, Int.reduceBEq, Int.reduceBNe]; (repeat (first | refine ⟨by omega, ?_⟩ | refine ⟨True.intro, ?_⟩)))))
        refine awp_slot 2 _ (.p (.d (.sl 1 out.length (rowZ out)))) rfl (le_gr rfl (fun _ _ => rfl)) ?_
        refine awp_ret ⟨_, ?_, rfl⟩; rw [Try.results42]; simp (disch := omega) only [ResVars, ResVar, ptrLoc, go_sem, ↓reduceIte, reduceCtorEq, Nat.reduceLT, Nat.reducePow, Nat.reduceLeDiff, Nat.reduceAdd, Nat.reduceMul, Nat.reduceSub, Nat.reduceEqDiff, Nat.reduceBEq, Int.reduceToNat, Int.reduceBEq, Int.reduceBNe]
        rw [← hN, ← he]
    · have gr := GrowZ_c n (by omega) hl
      (repeat ((fail_if_success (show AWP _ _ (.region 9 _ _) _ _)); first | refine awp_seq ?_ | refine awp_yes rfl ?_ | refine awp_no rfl ?_ | refine awp_block ?_ | (refine awp_region fun K hK => ?_) | (refine awp_draw (by kernel_rfl) (by kernel_rfl) fun K hK => ?_) | (refine awp_skip ?_; (first | show AWP _ _ _ _ _ | show loopQ _ _ _ _ _ _ | (simp only [blockQ_n]; first | show AWP _ _ _ _ _ | show loopQ _ _ _ _ _ _))) | (refine awp_exit ?_; (first | show AWP _ _ _ _ _ | show loopQ _ _ _ _ _ _ | (simp only [blockQ_n]; first | show AWP _ _ _ _ _ | show loopQ _ _ _ _ _ _))) | ((first | refine walkS_end (hK _ ?_) | refine walkD_end (hK _ _ (okTrace_spec (by kernel_rfl)) ?_)); clear hK K; (first | show AWP _ _ _ _ _ | show loopQ _ _ _ _ _ _ | (simp only [blockQ_n]; first | show AWP _ _ _ _ _ | show loopQ _ _ _ _ _ _))) | ((first | refine walkS_run1 [] rfl ?_ | refine walkD_run1 [] rfl ?_); simp (maxSteps := 2000000) (disch := omega) only [go_sem, ↓reduceIte, reduceCtorEq, Nat.reduceLT, Nat.reducePow, Nat.reduceLeDiff, Nat.reduceAdd, Nat.reduceMul, Nat.reduceSub, Nat.reduceEqDiff, Nat.reduceBEq, Int.reduceToNat, Int.reduceBEq, Int.reduceBNe]; (repeat (first | refine ⟨by omega, ?_⟩ | refine ⟨True.intro, ?_⟩)))))
      refine awp_region fun K hK => ?_
      (first | refine walkS_run [] _ _ ?_ | refine walkD_run [] _ _ _ ?_); simp (maxSteps := 2000000) (disch := omega) only [go_sem, ↓reduceIte, reduceCtorEq, Nat.reduceLT, Nat.reducePow, Nat.reduceLeDiff, Nat.reduceAdd, Nat.reduceMul, Nat.reduceSub, Nat.reduceEqDiff, Nat.reduceBEq, Int.reduceToNat, Int.reduceBEq, Int.reduceBNe]; (repeat refine ⟨by omega, ?_⟩)
      refine walkS_cons _ (step_mcall [(1000, 6)] rfl rfl rfl rfl rfl rfl gr rfl (namesOK_new 6 (by kernel_rfl) rfl rfl)) ?_
      simp (maxSteps := 2000000) (disch := omega) only [go_sem, ↓reduceIte, reduceCtorEq, Nat.reduceLT, Nat.reducePow, Nat.reduceLeDiff, Nat.reduceAdd, Nat.reduceMul, Nat.reduceSub, Nat.reduceEqDiff, Nat.reduceBEq, Int.reduceToNat, Int.reduceBEq, Int.reduceBNe]
      (repeat (first | refine awp_seq ?_ | refine awp_yes rfl ?_ | refine awp_no rfl ?_ | refine awp_block ?_ | (refine awp_region fun K hK => ?_) | (refine awp_draw (by kernel_rfl) (by kernel_rfl) fun K hK => ?_) | (refine awp_skip ?_; (first | show AWP _ _ _ _ _ | show loopQ _ _ _ _ _ _ | (simp only [blockQ_n]; first | show AWP _ _ _ _ _ | show loopQ _ _ _ _ _ _))) | (refine awp_exit ?_; (first | show AWP _ _ _ _ _ | show loopQ _ _ _ _ _ _ | (simp only [blockQ_n]; first | show AWP _ _ _ _ _ | show loopQ _ _ _ _ _ _))) | ((first | refine walkS_end (hK _ ?_) | refine walkD_end (hK _ _ (okTrace_spec (by kernel_rfl)) ?_)); clear hK K; (first | show AWP _ _ _ _ _ | show loopQ _ _ _ _ _ _ | (simp only [blockQ_n]; first | show AWP _ _ _ _ _ | show loopQ _ _ _ _ _ _))) | ((first | refine walkS_run1 [] rfl ?_ | refine walkD_run1 [] rfl ?_); simp (maxSteps := 2000000) (disch := omega) only [go_sem, ↓reduceIte, reduceCtorEq, Nat.reduceLT, Nat.reducePow, Nat.reduceLeDiff, Nat.reduceAdd, Nat.reduceMul, Nat.reduceSub, Nat.reduceEqDiff, Nat.reduceBEq, Int.reduceToNat, Int.reduceBEq, Int.reduceBNe]; (repeat (first | refine ⟨by omega, ?_⟩ | refine ⟨True.intro, ?_⟩)))))
      refine awp_loop (concatZJ ss g) (fun s => ss.length - s.val.1) ⟨(0, []), by simp, by simp⟩ ?_ (fun s => ?_)
      · unfold concatZJ
        refine Weak.list ?_ ?_; (all_goals simp (disch := omega) only [AllF, AllL, le_self, le_top, lle_self, exists_eq_left', Option.some.injEq, go_sem, ↓reduceIte, reduceCtorEq, Nat.reduceLT, Nat.reducePow, Nat.reduceLeDiff, Nat.reduceAdd, Nat.reduceMul, Nat.reduceSub, Nat.reduceEqDiff, Nat.reduceBEq, Int.reduceToNat, Int.reduceBEq, Int.reduceBNe]); (all_goals (repeat' (with_reducible apply And.intro))); (all_goals try (first | exact le_eq rfl | (refine le_int ?_; omega) | (refine le_eq ?_; simp; done)))
      obtain ⟨⟨j, out⟩, hj, he⟩ := s
      unfold concatZJ
      simp only [] at hj he
      have hb : out.length ≤ 1099511627776 := by
        have := sumLZ_le ss j
        unfold sumLZ at this
        rw [← List.length_flatten, ← he, hN] at this
        omega
      by_cases hm : j < ss.length
      · have r1 := hg j hm
        have st : (ss.take (j + 1)).flatten = (ss.take j).flatten ++ ss.getD j [] := by
          rw [take_succ_getD ss j [] hm, List.flatten_append]; simp
        have hb2 : (ss.take (j + 1)).flatten.length ≤ 1099511627776 := by
          have := sumLZ_le ss (j + 1)
          unfold sumLZ at this
          rw [← List.length_flatten, hN] at this
          omega
        rw [st, List.length_append, ← he] at hb2
        unfold rowSZ at r1
        generalize ss.getD j [] = X at r1 st hb2
        (repeat (first | refine awp_seq ?_ | refine awp_yes rfl ?_ | refine awp_no rfl ?_ | refine awp_block ?_ | (refine awp_region fun K hK => ?_) | (refine awp_draw (by kernel_rfl) (by kernel_rfl) fun K hK => ?_) | (refine awp_skip ?_; (first | show AWP _ _ _ _ _ | show loopQ _ _ _ _ _ _ | (simp only [blockQ_n]; first | show AWP _ _ _ _ _ | show loopQ _ _ _ _ _ _))) | (refine awp_exit ?_; (first | show AWP _ _ _ _ _ | show loopQ _ _ _ _ _ _ | (simp only [blockQ_n]; first | show AWP _ _ _ _ _ | show loopQ _ _ _ _ _ _))) | ((first | refine walkS_end (hK _ ?_) | refine walkD_end (hK _ _ (okTrace_spec (by kernel_rfl)) ?_)); clear hK K; (first | show AWP _ _ _ _ _ | show loopQ _ _ _ _ _ _ | (simp only [blockQ_n]; first | show AWP _ _ _ _ _ | show loopQ _ _ _ _ _ _))) | ((first | refine walkS_run1 [] rfl ?_ | refine walkD_run1 [] rfl ?_); simp (maxSteps := 2000000) (disch := omega) only [go_sem, ↓reduceIte, reduceCtorEq, Nat.reduceLT, Nat.reducePow, Nat.reduceLeDiff, Nat.reduceAdd, Nat.reduceMul, Nat.reduceSub, Nat.reduceEqDiff, Nat.reduceBEq, Int.reduceToNat, Int.reduceBEq, Int.reduceBNe, r1]; (repeat (first | refine ⟨by omega, ?_⟩ | refine ⟨True.intro, ?_⟩)))))
        refine ⟨⟨(j + 1, out ++ X), by simp only []; omega, by rw [st, ← he]⟩, by simp only []; omega, ?_⟩
        refine Weak.list ?_ ?_; (all_goals simp (disch := omega) only [AllF, AllL, le_self, le_top, lle_self, exists_eq_left', Option.some.injEq, go_sem, ↓reduceIte, reduceCtorEq, Nat.reduceLT, Nat.reducePow, Nat.reduceLeDiff, Nat.reduceAdd, Nat.reduceMul, Nat.reduceSub, Nat.reduceEqDiff, Nat.reduceBEq, Int.reduceToNat, Int.reduceBEq, Int.reduceBNe, r1]); (all_goals (repeat' (with_reducible apply And.intro))); (all_goals try (first | exact le_eq rfl | (refine le_int ?_; omega) | (refine le_eq ?_; simp; done)))
        · exact le_grgr rfl (by simp) (fun k hk => rowZ_cat out X k)
        · exact lle_grow (by simp) rfl
      · have hjl : j = ss.length := by omega
        subst hjl
        rw [List.take_length] at he
        (repeat (first | refine awp_seq ?_ | refine awp_yes rfl ?_ | refine awp_no rfl ?_ | refine awp_block ?_ | (refine awp_region fun K hK => ?_) | (refine awp_draw (by kernel_rfl) (by kernel_rfl) fun K hK => ?_) | (refine awp_skip ?_; (first | show AWP _ _ _ _ _ | show loopQ _ _ _ _ _ _ | (simp only [blockQ_n]; first | show AWP _ _ _ _ _ | show loopQ _ _ _ _ _ _))) | (refine awp_exit ?_; (first | show AWP _ _ _ _ _ | show loopQ _ _ _ _ _ _ | (simp only [blockQ_n]; first | show AWP _ _ _ _ _ | show loopQ _ _ _ _ _ _))) | ((first | refine walkS_end (hK _ ?_) | refine walkD_end (hK _ _ (okTrace_spec (by kernel_rfl)) ?_)); clear hK K; (first | show AWP _ _ _ _ _ | show loopQ _ _ _ _ _ _ | (simp only [blockQ_n]; first | show AWP _ _ _ _ _ | show loopQ _ _ _ _ _ _))) | ((first | refine walkS_run1 [] rfl ?_ | refine walkD_run1 [] rfl ?_); simp (maxSteps := 2000000) (disch := omega) only [go_sem, ↓reduceIte, reduceCtorEq, Nat.reduceLT, Nat.reducePow, Nat.reduceLeDiff, Nat.reduceAdd, Nat.reduceMul, Nat.reduceSub, Nat.reduceEqDiff, Nat.reduceBEq, Int.reduceToNat, Int.reduceBEq, Int.reduceBNe]; (repeat (first | refine ⟨by omega, ?_⟩ | refine ⟨True.intro, ?_⟩)))))
        refine awp_slot 2 _ (.p (.d (.sl 1 out.length (rowZ out)))) rfl (le_gr rfl (fun _ _ => rfl)) ?_
        refine awp_ret ⟨_, ?_, rfl⟩; rw [Try.results42]; simp (disch := omega) only [ResVars, ResVar, ptrLoc, go_sem, ↓reduceIte, reduceCtorEq, Nat.reduceLT, Nat.reducePow, Nat.reduceLeDiff, Nat.reduceAdd, Nat.reduceMul, Nat.reduceSub, Nat.reduceEqDiff, Nat.reduceBEq, Int.reduceToNat, Int.reduceBEq, Int.reduceBNe]
        rw [← hN, ← he]
end Go.Proofs.Ytokibghllpfeaaa
