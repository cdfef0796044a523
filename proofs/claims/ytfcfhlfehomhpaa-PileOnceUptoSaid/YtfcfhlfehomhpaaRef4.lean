/- The document's package of layer 2: Less. Conditions: none. -/
import Derived.Test.YtfcfhlfehomhpaaRef3
set_option linter.unusedSimpArgs false
set_option linter.unusedVariables false
namespace Go.Proofs.Ytfcfhlfehomhpaa
open Go.Proofs.Ytfcfhlfehomhpaa.AL

theorem catF_put {α : Type} (d : α → List Dat) (z : α) (out : List α) (c : α) (f' : Nat → List Dat) (hf : f' 0 = d c) (i : Nat) (hlt : i < out.length + 1) : catF out.length (fun i => d (out.getD i z)) f' i = d ((out ++ [c]).getD i z) := by
  unfold catF
  by_cases h : i < out.length
  · simp only [if_pos h, List.getD_eq_getElem?_getD, List.getElem?_append_left h]
  · have : i = out.length := by omega
    subst this
    simp [hf]
/-- rows of texts -/
def rowT (l : List Cube) : Nat → List Dat := fun i => [.v (.string (txt (l.getD i ⟨0, 0⟩)))]
theorem one_bit (n j : Nat) (hn : n < 128) (hj : j < 128) : (ones 1 <<< n).getLsbD j = decide (j = n) := by
  rw [BitVec.getLsbD_shiftLeft, show ones 1 = 1#128 from rfl, BitVec.getLsbD_one]
  by_cases h : j = n
  · subst h; simp [hj]
  · by_cases h2 : j < n
    · simp [h, h2]
    · simp [h, h2]; omega
theorem chI_eq {k k' : Cube} {j : Nat} (hc : k.c.getLsbD j = k'.c.getLsbD j) (hv : k.c.getLsbD j = true → k.v.getLsbD j = k'.v.getLsbD j) : chI k j = chI k' j := by
  unfold chI
  rw [← hc]
  split
  · rw [hv ‹_›]
  · rfl
/-- a cube with one bit more -/
def plus (r b : Cube) (n : Nat) : Cube := ⟨r.v ||| (b.v &&& (ones 1 <<< n)), r.c ||| (ones 1 <<< n)⟩
def other (r b : Cube) (n : Nat) : Cube := ⟨(r.v ||| (b.v &&& (ones 1 <<< n))) ^^^ (ones 1 <<< n), r.c ||| (ones 1 <<< n)⟩
theorem plus_c {r b : Cube} {n j : Nat} (hn : n < 128) (hj : j < 128) : (plus r b n).c.getLsbD j = (r.c.getLsbD j || decide (j = n)) := by
  simp only [plus, BitVec.getLsbD_or, one_bit n j hn hj]
theorem plus_v {r b : Cube} {n j : Nat} (hn : n < 128) (hj : j < 128) : (plus r b n).v.getLsbD j = (r.v.getLsbD j || (b.v.getLsbD j && decide (j = n))) := by
  simp only [plus, BitVec.getLsbD_or, BitVec.getLsbD_and, one_bit n j hn hj]
theorem other_c {r b : Cube} {n j : Nat} (hn : n < 128) (hj : j < 128) : (other r b n).c.getLsbD j = (r.c.getLsbD j || decide (j = n)) := by
  simp only [other, BitVec.getLsbD_or, one_bit n j hn hj]
theorem other_v {r b : Cube} {n j : Nat} (hn : n < 128) (hj : j < 128) : (other r b n).v.getLsbD j = ((r.v.getLsbD j || (b.v.getLsbD j && decide (j = n))) ^^ decide (j = n)) := by
  simp only [other, BitVec.getLsbD_xor, BitVec.getLsbD_or, BitVec.getLsbD_and, one_bit n j hn hj]
theorem lessGo_succ (b : Cube) (more : BitVec 128) (n : Nat) (r : Cube) : lessGo b more (n + 1) r = if more.getLsbD n then other r b n :: lessGo b more n (plus r b n) else lessGo b more n r := rfl
/-- one sign of a text turned -/
theorem chI_other {r b : Cube} {n j : Nat} (hn : n < 128) (hj : j < 128) (hv : r.v.getLsbD n = false) : chI (other r b n) j = if j = n then (if b.v.getLsbD n then 48 else 49) else chI r j := by
  by_cases h : j = n
  · subst h
    simp only [chI, other_c hn hj, other_v hn hj, hv]
    cases b.v.getLsbD j <;> simp
  · rw [if_neg h]
    exact chI_eq (by rw [other_c hn hj]; simp [h]) (fun _ => by rw [other_v hn hj]; simp [h])
theorem chI_plus {r b : Cube} {n j : Nat} (hn : n < 128) (hj : j < 128) (hv : r.v.getLsbD n = false) : chI (plus r b n) j = if j = n then (if b.v.getLsbD n then 49 else 48) else chI r j := by
  by_cases h : j = n
  · subst h
    simp only [chI, plus_c hn hj, plus_v hn hj, hv]
    cases b.v.getLsbD j <;> simp
  · rw [if_neg h]
    exact chI_eq (by rw [plus_c hn hj]; simp [h]) (fun _ => by rw [plus_v hn hj]; simp [h])
structure LessU where
  i : Nat
  out : List Cube
  r : Cube
def lessTI (a b : Cube) (L : List Cube) (s : {s : LessU // s.i ≤ 128 ∧ s.out.length ≤ s.i ∧ s.out ++ lessGo b (b.c &&& ~~~a.c) (128 - s.i) s.r = L ∧ ∀ j, j < 128 - s.i → s.r.v.getLsbD j = a.v.getLsbD j}) : ASt :=
  ⟨[(9, .p (.d (.v (.int .i64 (s.val.i : Int))))), (8, .row 23 1 0 128), (7, .gr 21 s.val.out.length 1 s.val.out.length (rowT s.val.out)), (1, .p (.d (.v (.string (txt b))))), (0, .p (.d (.v (.string (txt a)))))],
   [(23, .arr 5 128 fun j => .v (.int .u8 (chI s.val.r (127 - j)))), (21, .grow 9 1 s.val.out.length s.val.out.length)]⟩
set_option maxHeartbeats 1000000 in
theorem LessT_c' (a b : Cube) (ha : a.sound = true) (hb : b.sound = true) (L : List Cube) (hL : lessL a b = L) : ACalls Try.prog 26 [.d (.v (.string (txt a))), .d (.v (.string (txt b)))] (· = [.d (.sl 1 L.length (rowT L))]) := by
  have sz := txt_size a
  have sb := txt_size b
  have mt := MeetT_c a b
  have hmo : meetO a b = (apart a b == 0) := by unfold meetO; rw [ha, hb]; rfl
  unfold lessL at hL
  simp only [ha, hb, Bool.and_self, if_true] at hL
  rw [hmo] at hL
  cases h : (apart a b == 0)
  · rw [h] at hL mt
    simp only [Bool.false_eq_true, if_false] at hL mt
    subst hL
    refine acalls_of_awp Try.func26 rfl (by decide +kernel) (by rw [Try.ntmps26]; simp) ?_; rw [Try.ntmps26]; simp only [frOf]
    (repeat (first | refine awp_seq ?_ | refine awp_yes rfl ?_ | refine awp_no rfl ?_ | refine awp_block ?_ | (refine awp_region fun K hK => ?_) | (refine awp_draw (by kernel_rfl) (by kernel_rfl) fun K hK => ?_) | (refine awp_skip ?_; (first | show AWP _ _ _ _ _ | show loopQ _ _ _ _ _ _)) | (refine awp_exit ?_; (first | show AWP _ _ _ _ _ | show loopQ _ _ _ _ _ _)) | ((first | refine walkS_end (hK _ ?_) | refine walkD_end (hK _ _ (okTrace_spec (by kernel_rfl)) ?_)); clear hK K; (first | show AWP _ _ _ _ _ | show loopQ _ _ _ _ _ _)) | ((first | refine walkS_call3 rfl rfl rfl ?_ | refine walkD_call3 rfl rfl rfl ?_); simp (maxSteps := 2000000) (disch := omega) only [go_sem, ↓reduceIte, reduceCtorEq, Nat.reduceLT, Nat.reducePow, Nat.reduceLeDiff, Nat.reduceAdd, Nat.reduceMul, Nat.reduceSub, Nat.reduceEqDiff, Nat.reduceBEq, Int.reduceToNat, Int.reduceBEq, Int.reduceBNe, ty24, ty26, ty43, zr43, ty22, ty3, ty52, ty4, ty5, ty75, ty9, ty41, hd, cb, sz, sb, h]; (first | refine ⟨_, mt, ?_⟩)) | ((first | refine walkS_run1 [21] rfl ?_ | refine walkD_run1 [21] rfl ?_); simp (maxSteps := 2000000) (disch := omega) only [go_sem, ↓reduceIte, reduceCtorEq, Nat.reduceLT, Nat.reducePow, Nat.reduceLeDiff, Nat.reduceAdd, Nat.reduceMul, Nat.reduceSub, Nat.reduceEqDiff, Nat.reduceBEq, Int.reduceToNat, Int.reduceBEq, Int.reduceBNe, ty24, ty26, ty43, zr43, ty22, ty3, ty52, ty4, ty5, ty75, ty9, ty41, hd, cb, sz, sb, h]; (repeat (first | refine ⟨by omega, ?_⟩ | refine ⟨fun _ _ => rfl, ?_⟩)))))
    refine awp_slot 4 _ _ rfl (le_sl (n' := 1) (f' := rowT [a]) rfl (fun i hlt => ?_)) ?_
    · have : i = 0 := by omega
      subst this; rfl
    refine awp_ret ⟨_, ?_, rfl⟩; rw [Try.results26]; simp (disch := omega) only [ResVars, ResVar, ptrLoc, go_sem, ↓reduceIte, reduceCtorEq, Nat.reduceLT, Nat.reducePow, Nat.reduceLeDiff, Nat.reduceAdd, Nat.reduceMul, Nat.reduceSub, Nat.reduceEqDiff, Nat.reduceBEq, Int.reduceToNat, Int.reduceBEq, Int.reduceBNe, ty24, ty26, ty43, zr43, ty22, ty3, ty52, ty4, ty5, ty75, ty9, ty41, hd, cb, sz, sb, h]
  · rw [h] at hL mt
    simp only [if_true] at hL mt
    refine acalls_of_awp Try.func26 rfl (by decide +kernel) (by rw [Try.ntmps26]; simp) ?_; rw [Try.ntmps26]; simp only [frOf]
    (repeat (first | refine awp_seq ?_ | refine awp_yes rfl ?_ | refine awp_no rfl ?_ | refine awp_block ?_ | (refine awp_region fun K hK => ?_) | (refine awp_draw (by kernel_rfl) (by kernel_rfl) fun K hK => ?_) | (refine awp_skip ?_; (first | show AWP _ _ _ _ _ | show loopQ _ _ _ _ _ _)) | (refine awp_exit ?_; (first | show AWP _ _ _ _ _ | show loopQ _ _ _ _ _ _)) | ((first | refine walkS_end (hK _ ?_) | refine walkD_end (hK _ _ (okTrace_spec (by kernel_rfl)) ?_)); clear hK K; (first | show AWP _ _ _ _ _ | show loopQ _ _ _ _ _ _)) | ((first | refine walkS_call3 rfl rfl rfl ?_ | refine walkD_call3 rfl rfl rfl ?_); simp (maxSteps := 2000000) (disch := omega) only [go_sem, ↓reduceIte, reduceCtorEq, Nat.reduceLT, Nat.reducePow, Nat.reduceLeDiff, Nat.reduceAdd, Nat.reduceMul, Nat.reduceSub, Nat.reduceEqDiff, Nat.reduceBEq, Int.reduceToNat, Int.reduceBEq, Int.reduceBNe, ty24, ty26, ty43, zr43, ty22, ty3, ty52, ty4, ty5, ty75, ty9, ty41, hd, cb, sz, sb, h]; (first | refine ⟨_, mt, ?_⟩)) | ((first | refine walkS_run1 [21] rfl ?_ | refine walkD_run1 [21] rfl ?_); simp (maxSteps := 2000000) (disch := omega) only [go_sem, ↓reduceIte, reduceCtorEq, Nat.reduceLT, Nat.reducePow, Nat.reduceLeDiff, Nat.reduceAdd, Nat.reduceMul, Nat.reduceSub, Nat.reduceEqDiff, Nat.reduceBEq, Int.reduceToNat, Int.reduceBEq, Int.reduceBNe, ty24, ty26, ty43, zr43, ty22, ty3, ty52, ty4, ty5, ty75, ty9, ty41, hd, cb, sz, sb, h]; (repeat (first | refine ⟨by omega, ?_⟩ | refine ⟨fun _ _ => rfl, ?_⟩)))))
    refine awp_loop (lessTI a b L) (fun s => 128 - s.val.i) ⟨⟨0, [], a⟩, by simp, by simp, by rw [List.nil_append]; exact hL, fun j _ => rfl⟩ ?_ (fun s => ?_)
    · unfold lessTI
      refine Weak.list ?_ ?_; (all_goals simp (disch := omega) only [AllF, AllL, le_self, le_top, lle_self, exists_eq_left', Option.some.injEq, go_sem, ↓reduceIte, reduceCtorEq, Nat.reduceLT, Nat.reducePow, Nat.reduceLeDiff, Nat.reduceAdd, Nat.reduceMul, Nat.reduceSub, Nat.reduceEqDiff, Nat.reduceBEq, Int.reduceToNat, Int.reduceBEq, Int.reduceBNe, ty24, ty26, ty43, zr43, ty22, ty3, ty52, ty4, ty5, ty75, ty9, ty41, hd, cb, sz, sb, h]); (all_goals (repeat' (with_reducible apply And.intro))); (all_goals try (first | exact le_eq rfl | (refine le_int ?_; omega) | (refine le_eq ?_; simp; done)))
      · exact le_grgr rfl rfl (fun i hlt => by omega)
      · exact ⟨rfl, rfl, fun j hj => by have := txt_at a j hj; simp only [this]⟩
    obtain ⟨⟨i, out, r⟩, hi, hl, he, hv⟩ := s
    unfold lessTI
    simp only [] at hi hl he hv
    by_cases hn : i < 128
    · have ai := txt_at a i hn
      have bi := txt_at b i hn
      have mb : (b.c &&& ~~~a.c).getLsbD (127 - i) = (b.c.getLsbD (127 - i) && !a.c.getLsbD (127 - i)) := by
        rw [BitVec.getLsbD_and, BitVec.getLsbD_not, decide_eq_true (show 127 - i < 128 from by omega), Bool.true_and]
      rw [show 128 - i = (127 - i) + 1 from by omega, lessGo_succ, mb] at he
      have sn := (sound_iff a).1 ha (127 - i) (by omega)
      have hvn := hv (127 - i) (by omega)
      cases hac : a.c.getLsbD (127 - i) <;> cases hbc : b.c.getLsbD (127 - i)
      rotate_left
      · have hr : r.v.getLsbD (127 - i) = false := by
          rw [hvn]; cases hav : a.v.getLsbD (127 - i)
          · rfl
          · rw [sn hav] at hac; cases hac
        rw [show chI a (127 - i) = 120 from by simp [chI, hac]] at ai
        cases hbv : b.v.getLsbD (127 - i)
        all_goals
          simp only [chI, hbc, hbv, if_true, if_false, Bool.false_eq_true] at bi
          simp only [hac, hbc, Bool.not_false, Bool.and_self, if_true] at he
          (repeat ((fail_if_success (show AWP _ _ (.region 14 _ _) _ _)); first | refine awp_seq ?_ | refine awp_yes rfl ?_ | refine awp_no rfl ?_ | refine awp_block ?_ | (refine awp_region fun K hK => ?_) | (refine awp_draw (by kernel_rfl) (by kernel_rfl) fun K hK => ?_) | (refine awp_skip ?_; (first | show AWP _ _ _ _ _ | show loopQ _ _ _ _ _ _)) | (refine awp_exit ?_; (first | show AWP _ _ _ _ _ | show loopQ _ _ _ _ _ _)) | ((first | refine walkS_end (hK _ ?_) | refine walkD_end (hK _ _ (okTrace_spec (by kernel_rfl)) ?_)); clear hK K; (first | show AWP _ _ _ _ _ | show loopQ _ _ _ _ _ _)) | ((first | refine walkS_run1 [21] rfl ?_ | refine walkD_run1 [21] rfl ?_); simp (maxSteps := 2000000) (disch := omega) only [go_sem, ↓reduceIte, reduceCtorEq, Nat.reduceLT, Nat.reducePow, Nat.reduceLeDiff, Nat.reduceAdd, Nat.reduceMul, Nat.reduceSub, Nat.reduceEqDiff, Nat.reduceBEq, Int.reduceToNat, Int.reduceBEq, Int.reduceBNe, ty24, ty26, ty43, zr43, ty22, ty3, ty52, ty4, ty5, ty75, ty9, ty41, hd, cb, sz, sb, ai, bi]; (repeat (first | refine ⟨by omega, ?_⟩ | refine ⟨fun _ _ => rfl, ?_⟩)))))
          refine awp_arr 23 (fun j => .v (.int .u8 (chI (other r b (127 - i)) (127 - j)))) rfl (fun j hj => ?_) ?_
          · rw [chI_other (by omega) (by omega) hr, hbv]
            by_cases e : j = i
            · subst e; simp
            · simp [e, show ¬ 127 - j = 127 - i from by omega]
          (repeat (first | refine awp_seq ?_ | refine awp_yes rfl ?_ | refine awp_no rfl ?_ | refine awp_block ?_ | (refine awp_region fun K hK => ?_) | (refine awp_draw (by kernel_rfl) (by kernel_rfl) fun K hK => ?_) | (refine awp_skip ?_; (first | show AWP _ _ _ _ _ | show loopQ _ _ _ _ _ _)) | (refine awp_exit ?_; (first | show AWP _ _ _ _ _ | show loopQ _ _ _ _ _ _)) | ((first | refine walkS_end (hK _ ?_) | refine walkD_end (hK _ _ (okTrace_spec (by kernel_rfl)) ?_)); clear hK K; (first | show AWP _ _ _ _ _ | show loopQ _ _ _ _ _ _)) | ((first | refine walkS_run1 [21] rfl ?_ | refine walkD_run1 [21] rfl ?_); simp (maxSteps := 2000000) (disch := omega) only [go_sem, ↓reduceIte, reduceCtorEq, Nat.reduceLT, Nat.reducePow, Nat.reduceLeDiff, Nat.reduceAdd, Nat.reduceMul, Nat.reduceSub, Nat.reduceEqDiff, Nat.reduceBEq, Int.reduceToNat, Int.reduceBEq, Int.reduceBNe, ty24, ty26, ty43, zr43, ty22, ty3, ty52, ty4, ty5, ty75, ty9, ty41, hd, cb, sz, sb, ai, bi]; (repeat (first | refine ⟨by omega, ?_⟩ | refine ⟨fun _ _ => rfl, ?_⟩)))))
          refine ⟨⟨⟨i + 1, out ++ [other r b (127 - i)], plus r b (127 - i)⟩, by simp only []; omega, by simp; omega, ?_, fun j hj => ?_⟩, by simp only []; omega, ?_⟩
          · rw [List.append_assoc, show 128 - (i + 1) = 127 - i from by omega]; exact he
          · have hj' : j < 127 - i := by simp only [] at hj; omega
            have hne : ¬ j = 127 - i := by omega
            simp only []
            rw [plus_v (by omega) (by omega), decide_eq_false hne, Bool.and_false, Bool.or_false]
            exact hv j (by omega)
          refine Weak.list ?_ ?_; (all_goals simp (disch := omega) only [AllF, AllL, le_self, le_top, lle_self, exists_eq_left', Option.some.injEq, go_sem, ↓reduceIte, reduceCtorEq, Nat.reduceLT, Nat.reducePow, Nat.reduceLeDiff, Nat.reduceAdd, Nat.reduceMul, Nat.reduceSub, Nat.reduceEqDiff, Nat.reduceBEq, Int.reduceToNat, Int.reduceBEq, Int.reduceBNe, ty24, ty26, ty43, zr43, ty22, ty3, ty52, ty4, ty5, ty75, ty9, ty41, hd, cb, sz, sb, ai, bi]); (all_goals (repeat' (with_reducible apply And.intro))); (all_goals try (first | exact le_eq rfl | (refine le_int ?_; omega) | (refine le_eq ?_; simp; done)))
          all_goals first
            | exact le_grgr (by simp) (by simp) (fun j hlt => catF_put (fun k => [.v (.string (txt k))]) _ out _ _ rfl j hlt)
            | exact ⟨rfl, rfl, by simp, by simp⟩
            | (refine ⟨rfl, rfl, fun j hj => ?_⟩
               have p1 := chI_plus (r := r) (b := b) (n := 127 - i) (j := 127 - j) (by omega) (by omega) hr
               have p2 := chI_other (r := r) (b := b) (n := 127 - i) (j := 127 - j) (by omega) (by omega) hr
               simp only [p1, p2, hbv]
               by_cases e : j = i
               · subst e; simp
               · simp [e, show ¬ 127 - j = 127 - i from by omega])
      all_goals
        cases hav : a.v.getLsbD (127 - i)
        all_goals
          simp only [chI, hac, hav, hbc, if_true, if_false, Bool.false_eq_true] at ai bi
          simp only [hac, hbc, Bool.not_false, Bool.not_true, Bool.and_self, Bool.and_true, Bool.and_false, if_false, Bool.false_eq_true] at he
          try (have := sn hav; rw [hac] at this; cases this; done)
          try (cases hbv : b.v.getLsbD (127 - i) <;> simp only [hbv, if_true, if_false, Bool.false_eq_true] at bi)
          all_goals
            (repeat (first | refine awp_seq ?_ | refine awp_yes rfl ?_ | refine awp_no rfl ?_ | refine awp_block ?_ | (refine awp_region fun K hK => ?_) | (refine awp_draw (by kernel_rfl) (by kernel_rfl) fun K hK => ?_) | (refine awp_skip ?_; (first | show AWP _ _ _ _ _ | show loopQ _ _ _ _ _ _)) | (refine awp_exit ?_; (first | show AWP _ _ _ _ _ | show loopQ _ _ _ _ _ _)) | ((first | refine walkS_end (hK _ ?_) | refine walkD_end (hK _ _ (okTrace_spec (by kernel_rfl)) ?_)); clear hK K; (first | show AWP _ _ _ _ _ | show loopQ _ _ _ _ _ _)) | ((first | refine walkS_run1 [21] rfl ?_ | refine walkD_run1 [21] rfl ?_); simp (maxSteps := 2000000) (disch := omega) only [go_sem, ↓reduceIte, reduceCtorEq, Nat.reduceLT, Nat.reducePow, Nat.reduceLeDiff, Nat.reduceAdd, Nat.reduceMul, Nat.reduceSub, Nat.reduceEqDiff, Nat.reduceBEq, Int.reduceToNat, Int.reduceBEq, Int.reduceBNe, ty24, ty26, ty43, zr43, ty22, ty3, ty52, ty4, ty5, ty75, ty9, ty41, hd, cb, sz, sb, ai, bi]; (repeat (first | refine ⟨by omega, ?_⟩ | refine ⟨fun _ _ => rfl, ?_⟩)))))
            refine ⟨⟨⟨i + 1, out, r⟩, by simp only []; omega, by simp only []; omega, ?_, fun j hj => hv j (by simp only [] at hj; omega)⟩, by simp only []; omega, ?_⟩
            · rw [show 128 - (i + 1) = 127 - i from by omega]; exact he
            refine Weak.list ?_ ?_; (all_goals simp (disch := omega) only [AllF, AllL, le_self, le_top, lle_self, exists_eq_left', Option.some.injEq, go_sem, ↓reduceIte, reduceCtorEq, Nat.reduceLT, Nat.reducePow, Nat.reduceLeDiff, Nat.reduceAdd, Nat.reduceMul, Nat.reduceSub, Nat.reduceEqDiff, Nat.reduceBEq, Int.reduceToNat, Int.reduceBEq, Int.reduceBNe, ty24, ty26, ty43, zr43, ty22, ty3, ty52, ty4, ty5, ty75, ty9, ty41, hd, cb, sz, sb, ai, bi]); (all_goals (repeat' (with_reducible apply And.intro))); (all_goals try (first | exact le_eq rfl | (refine le_int ?_; omega) | (refine le_eq ?_; simp; done)))
    · have h128 : i = 128 := by omega
      subst h128
      simp only [Nat.sub_self, lessGo, List.append_nil] at he
      (repeat (first | refine awp_seq ?_ | refine awp_yes rfl ?_ | refine awp_no rfl ?_ | refine awp_block ?_ | (refine awp_region fun K hK => ?_) | (refine awp_draw (by kernel_rfl) (by kernel_rfl) fun K hK => ?_) | (refine awp_skip ?_; (first | show AWP _ _ _ _ _ | show loopQ _ _ _ _ _ _)) | (refine awp_exit ?_; (first | show AWP _ _ _ _ _ | show loopQ _ _ _ _ _ _)) | ((first | refine walkS_end (hK _ ?_) | refine walkD_end (hK _ _ (okTrace_spec (by kernel_rfl)) ?_)); clear hK K; (first | show AWP _ _ _ _ _ | show loopQ _ _ _ _ _ _)) | ((first | refine walkS_run1 [21] rfl ?_ | refine walkD_run1 [21] rfl ?_); simp (maxSteps := 2000000) (disch := omega) only [go_sem, ↓reduceIte, reduceCtorEq, Nat.reduceLT, Nat.reducePow, Nat.reduceLeDiff, Nat.reduceAdd, Nat.reduceMul, Nat.reduceSub, Nat.reduceEqDiff, Nat.reduceBEq, Int.reduceToNat, Int.reduceBEq, Int.reduceBNe, ty24, ty26, ty43, zr43, ty22, ty3, ty52, ty4, ty5, ty75, ty9, ty41, hd, cb, sz, sb]; (repeat (first | refine ⟨by omega, ?_⟩ | refine ⟨fun _ _ => rfl, ?_⟩)))))
      refine awp_slot 4 _ (.p (.d (.sl 1 L.length (rowT L)))) rfl ?_ ?_
      · rw [← he]
        exact le_gr rfl (fun _ _ => rfl)
      refine awp_ret ⟨_, ?_, rfl⟩; rw [Try.results26]; simp (disch := omega) only [ResVars, ResVar, ptrLoc, go_sem, ↓reduceIte, reduceCtorEq, Nat.reduceLT, Nat.reducePow, Nat.reduceLeDiff, Nat.reduceAdd, Nat.reduceMul, Nat.reduceSub, Nat.reduceEqDiff, Nat.reduceBEq, Int.reduceToNat, Int.reduceBEq, Int.reduceBNe, ty24, ty26, ty43, zr43, ty22, ty3, ty52, ty4, ty5, ty75, ty9, ty41, hd, cb, sz, sb]
theorem LessT_c (a b : Cube) (ha : a.sound = true) (hb : b.sound = true) : ACalls Try.prog 26 [.d (.v (.string (txt a))), .d (.v (.string (txt b)))] (· = [.d (.sl 1 (lessL a b).length (rowT (lessL a b)))]) := LessT_c' a b ha hb _ rfl
end Go.Proofs.Ytfcfhlfehomhpaa
