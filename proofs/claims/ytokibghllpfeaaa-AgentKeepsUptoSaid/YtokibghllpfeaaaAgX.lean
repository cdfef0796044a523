/- Package agent: Current and Versions change nothing that was there. Conditions: none, but that no row is greater than memory bears. -/
import Derived.Test.YtokibghllpfeaaaAgW
import Derived.Test.YtokibghllpfeaaaMd
set_option linter.unusedSimpArgs false
set_option linter.unusedVariables false
namespace Go.Proofs.Ytokibghllpfeaaa
open Go Go.Proofs.Ytokibghllpfeaaa.AL Go.RowKit Go.Sort Go.Maps Go.Shelf
def isX (u : Value) : AV := .is (· = u)
def agX (u0 u1 u2 : Value) : LV := .cells 72 [isX u0, isX u1, isX u2, .mp 1001]
def agXL (u0 u1 u2 : Value) (o : Obj) : List (Nat × LV) := [(1000, agX u0 u1 u2), (1001, .obj o)]
theorem agX_ok {u0 u1 u2 : Value} {o : Obj} : ∀ l X, AL.look (agXL u0 u1 u2 o) l = some X → XLV X ∧ ∀ k ∈ X.mentions, ∃ Y, AL.look (agXL u0 u1 u2 o) k = some Y := by
  intro l X hX
  simp only [agXL, AL.look] at hX
  split at hX
  · cases hX
    refine ⟨.cells _ _ fun c hc => ?_, fun k hk => ?_⟩
    · simp only [List.mem_cons, List.not_mem_nil, or_false] at hc
      rcases hc with rfl | rfl | rfl | rfl
      · exact .is u0
      · exact .is u1
      · exact .is u2
      · exact .mp 1001
    · have : k = 1001 := by simpa [agX, LV.mentions, AV.mentions, isX] using hk
      subst this
      exact ⟨_, rfl⟩
  · split at hX
    · cases hX
      exact ⟨.obj o, fun k hk => by simp [LV.mentions] at hk⟩
    · cases hX
set_option maxRecDepth 100000 in
theorem Current_x (u0 u1 u2 : Value) (o : Obj) : MCalls Try.prog 15 [.loc 1000 0] (agXL u0 u1 u2 o) (fun rs M => rs = [isX u1] ∧ M = agXL u0 u1 u2 o) := by
  unfold agXL
  refine mcalls_of_awp Try.func15 rfl (by decide +kernel) (by rw [Try.ntmps15]; simp) (fun l X h => by simp only [AL.look] at h; (repeat' split at h); all_goals first | omega | cases h) ?_; rw [Try.ntmps15]; simp only [frA]
  (repeat (first | refine awp_seq ?_ | refine awp_yes rfl ?_ | refine awp_no rfl ?_ | refine awp_block ?_ | (refine awp_region fun K hK => ?_) | (refine awp_draw (by kernel_rfl) (by kernel_rfl) fun K hK => ?_) | (refine awp_skip ?_; (first | show AWP _ _ _ _ _ | show loopQ _ _ _ _ _ _ | (simp only [blockQ_n]; first | show AWP _ _ _ _ _ | show loopQ _ _ _ _ _ _))) | (refine awp_exit ?_; (first | show AWP _ _ _ _ _ | show loopQ _ _ _ _ _ _ | (simp only [blockQ_n]; first | show AWP _ _ _ _ _ | show loopQ _ _ _ _ _ _))) | ((first | refine walkS_end (hK _ ?_) | refine walkD_end (hK _ _ (okTrace_spec (by kernel_rfl)) ?_)); clear hK K; (first | show AWP _ _ _ _ _ | show loopQ _ _ _ _ _ _ | (simp only [blockQ_n]; first | show AWP _ _ _ _ _ | show loopQ _ _ _ _ _ _))) | ((first | refine walkS_run1 [] rfl ?_ | refine walkD_run1 [] rfl ?_); simp (maxSteps := 2000000) (disch := omega) only [go_sem, ↓reduceIte, reduceCtorEq, Nat.reduceLT, Nat.reducePow, Nat.reduceLeDiff, Nat.reduceAdd, Nat.reduceMul, Nat.reduceSub, Nat.reduceEqDiff, Nat.reduceBEq, Int.reduceToNat, Int.reduceBEq, Int.reduceBNe, agXL, agX, isX]; (repeat (first | refine ⟨by omega, ?_⟩ | refine ⟨True.intro, ?_⟩)))))
  refine awp_ret ?_
  refine (retM_list ⟨rfl, rfl⟩ ?_ ?_).1
  · exact ⟨rfl, trivial⟩
  · simp [AL.look, agX, isX]
set_option maxRecDepth 100000 in
theorem Versions_x (u0 u1 u2 : Value) (arr : Array MapEntry) (clock : Nat) (zs : List Int) (hK : KeysIs arr clock zs) (hnd : zs.Nodup) (hwf : ∀ z ∈ zs, inI64 z) (hl : zs.length ≤ 1099511627776) :
    MCalls Try.prog 14 [.loc 1000 0] (agXL u0 u1 u2 (.map arr clock)) (fun rs M => rs = [.p (.d (.sl 1 zs.length (rowZ (srtZ zs))))] ∧ M = agXL u0 u1 u2 (.map arr clock)) := by
  have k1 := Keys_x (.map arr clock)
  have k2 := Sorted_c (.obj (.map arr clock)) zs (hasKeys_obj hK) hnd hwf hl
  have k3 := ClipZ_c zs.length (rowZ (srtZ zs)) (by omega)
  unfold agXL
  refine mcalls_of_awp Try.func14 rfl (by decide +kernel) (by rw [Try.ntmps14]; simp) (fun l X h => by simp only [AL.look] at h; (repeat' split at h); all_goals first | omega | cases h) ?_; rw [Try.ntmps14]; simp only [frA]
  (repeat (first | refine awp_seq ?_ | refine awp_yes rfl ?_ | refine awp_no rfl ?_ | refine awp_block ?_ | (refine awp_region fun K hK => ?_) | (refine awp_draw (by kernel_rfl) (by kernel_rfl) fun K hK => ?_) | (refine awp_skip ?_; (first | show AWP _ _ _ _ _ | show loopQ _ _ _ _ _ _ | (simp only [blockQ_n]; first | show AWP _ _ _ _ _ | show loopQ _ _ _ _ _ _))) | (refine awp_exit ?_; (first | show AWP _ _ _ _ _ | show loopQ _ _ _ _ _ _ | (simp only [blockQ_n]; first | show AWP _ _ _ _ _ | show loopQ _ _ _ _ _ _))) | ((first | refine walkS_end (hK _ ?_) | refine walkD_end (hK _ _ (okTrace_spec (by kernel_rfl)) ?_)); clear hK K; (first | show AWP _ _ _ _ _ | show loopQ _ _ _ _ _ _ | (simp only [blockQ_n]; first | show AWP _ _ _ _ _ | show loopQ _ _ _ _ _ _))) | ((first | refine walkS_run1 [] rfl ?_ | refine walkD_run1 [] rfl ?_); simp (maxSteps := 2000000) (disch := omega) only [go_sem, ↓reduceIte, reduceCtorEq, Nat.reduceLT, Nat.reducePow, Nat.reduceLeDiff, Nat.reduceAdd, Nat.reduceMul, Nat.reduceSub, Nat.reduceEqDiff, Nat.reduceBEq, Int.reduceToNat, Int.reduceBEq, Int.reduceBNe, agXL, agX, isX, keyL]; (repeat (first | refine ⟨by omega, ?_⟩ | refine ⟨True.intro, ?_⟩)))))
  (refine walkS_cons _ (step_mcall [(1001, 1001), (1, 501)] rfl rfl rfl rfl rfl rfl (k1) rfl (namesOK_of (by repeat (first | exact trivial | refine ⟨rfl, ?_⟩)) (by kernel_rfl))) ?_); simp (maxSteps := 2000000) (disch := omega) only [go_sem, ↓reduceIte, reduceCtorEq, Nat.reduceLT, Nat.reducePow, Nat.reduceLeDiff, Nat.reduceAdd, Nat.reduceMul, Nat.reduceSub, Nat.reduceEqDiff, Nat.reduceBEq, Int.reduceToNat, Int.reduceBEq, Int.reduceBNe, agXL, agX, isX, keyL]
  unfold keyL at k2
  (refine walkS_cons _ (step_mcall [(1001, 1001), (1002, 501)] rfl rfl rfl rfl rfl rfl (k2) rfl (namesOK_of (by repeat (first | exact trivial | refine ⟨rfl, ?_⟩)) (by kernel_rfl))) ?_); simp (maxSteps := 2000000) (disch := omega) only [go_sem, ↓reduceIte, reduceCtorEq, Nat.reduceLT, Nat.reducePow, Nat.reduceLeDiff, Nat.reduceAdd, Nat.reduceMul, Nat.reduceSub, Nat.reduceEqDiff, Nat.reduceBEq, Int.reduceToNat, Int.reduceBEq, Int.reduceBNe, agXL, agX, isX, keyL]
  (repeat (first | refine awp_seq ?_ | refine awp_yes rfl ?_ | refine awp_no rfl ?_ | refine awp_block ?_ | (refine awp_region fun K hK => ?_) | (refine awp_draw (by kernel_rfl) (by kernel_rfl) fun K hK => ?_) | (refine awp_skip ?_; (first | show AWP _ _ _ _ _ | show loopQ _ _ _ _ _ _ | (simp only [blockQ_n]; first | show AWP _ _ _ _ _ | show loopQ _ _ _ _ _ _))) | (refine awp_exit ?_; (first | show AWP _ _ _ _ _ | show loopQ _ _ _ _ _ _ | (simp only [blockQ_n]; first | show AWP _ _ _ _ _ | show loopQ _ _ _ _ _ _))) | ((first | refine walkS_end (hK _ ?_) | refine walkD_end (hK _ _ (okTrace_spec (by kernel_rfl)) ?_)); clear hK K; (first | show AWP _ _ _ _ _ | show loopQ _ _ _ _ _ _ | (simp only [blockQ_n]; first | show AWP _ _ _ _ _ | show loopQ _ _ _ _ _ _))) | ((first | refine walkS_call3 rfl rfl rfl ?_ | refine walkD_call3 rfl rfl rfl ?_); simp (maxSteps := 2000000) (disch := omega) only [go_sem, ↓reduceIte, reduceCtorEq, Nat.reduceLT, Nat.reducePow, Nat.reduceLeDiff, Nat.reduceAdd, Nat.reduceMul, Nat.reduceSub, Nat.reduceEqDiff, Nat.reduceBEq, Int.reduceToNat, Int.reduceBEq, Int.reduceBNe, agXL, agX, isX, keyL]; (first | refine ⟨_, k3, ?_⟩)) | ((first | refine walkS_run1 [] rfl ?_ | refine walkD_run1 [] rfl ?_); simp (maxSteps := 2000000) (disch := omega) only [go_sem, ↓reduceIte, reduceCtorEq, Nat.reduceLT, Nat.reducePow, Nat.reduceLeDiff, Nat.reduceAdd, Nat.reduceMul, Nat.reduceSub, Nat.reduceEqDiff, Nat.reduceBEq, Int.reduceToNat, Int.reduceBEq, Int.reduceBNe, agXL, agX, isX, keyL]; (repeat (first | refine ⟨by omega, ?_⟩ | refine ⟨True.intro, ?_⟩)))))
  refine awp_ret ?_
  refine (retM_list ⟨rfl, rfl⟩ ?_ ?_).1
  · exact ⟨rfl, trivial⟩
  · simp [AL.look, agX, isX]
theorem agX_of {a : Ag} {w : World} {h : Gh} (hl : LocsOK (fun _ => True) w h (agL a)) : ∃ u2 arr clock, LocsOK (fun _ => True) w h (agXL (.int .i64 a.n) (.int .i64 a.cur) u2 (.map arr clock)) ∧ KeysIs arr clock (a.es.map (·.1)) := by
  obtain ⟨carr, b1, hh, hs, hg, hcell⟩ := hl.1 1000 _ rfl
  obtain ⟨marr, clock, m1, m2, m3, m4⟩ := hl.1 1001 _ rfl
  have hK := mapIs_keys m4 (zs := a.es.map (·.1)) (by unfold agE; rw [List.map_map, List.map_map]; rfl)
  refine ⟨.int .i64 a.ser, marr, clock, ⟨fun l X hX => ?_, fun l l' X X' b hne h1 h2 hb hb' => ?_⟩, hK⟩
  · simp only [agXL, AL.look] at hX
    split at hX
    · rename_i e; subst e; cases hX
      refine ⟨carr, b1, hh, hs, hg, fun i v x hv hx => ?_⟩
      match i, hx with
      | 0, hx => cases hx; obtain ⟨k1, k2⟩ := hcell 0 v _ hv rfl; exact ⟨relA_v k1, k2⟩
      | 1, hx => cases hx; obtain ⟨k1, k2⟩ := hcell 1 v _ hv rfl; exact ⟨relA_v k1, k2⟩
      | 2, hx => cases hx; obtain ⟨k1, k2⟩ := hcell 2 v _ hv rfl; exact ⟨relA_v k1, k2⟩
      | 3, hx => cases hx; exact hcell 3 v _ hv rfl
      | i + 4, hx => simp at hx
    · split at hX
      · rename_i e; subst e; cases hX
        exact ⟨m1, m2, m3⟩
      · cases hX
  · simp only [agXL, AL.look] at h1 h2
    have two : ∀ {l : Nat} {X : LV}, (if 1000 = l then some (agX (.int .i64 a.n) (.int .i64 a.cur) (.int .i64 a.ser)) else if 1001 = l then some (.obj (.map marr clock)) else none) = some X → inB h l X b → (l = 1000 ∧ inB h 1000 (agC 1000 1001 a) b) ∨ (l = 1001 ∧ inB h 1001 (.map [.i64] (agE a.es)) b) := by
      intro l X hX hb
      split at hX
      · rename_i e; subst e; cases hX; exact .inl ⟨rfl, hb⟩
      · split at hX
        · rename_i e; subst e; cases hX; exact .inr ⟨rfl, hb⟩
        · cases hX
    rcases two h1 hb with ⟨rfl, k1⟩ | ⟨rfl, k1⟩ <;> rcases two h2 hb' with ⟨rfl, k2⟩ | ⟨rfl, k2⟩
    · exact hne rfl
    · exact hl.2 1000 1001 _ _ b (by decide) rfl rfl k1 k2
    · exact hl.2 1001 1000 _ _ b (by decide) rfl rfl k1 k2
    · exact hne rfl
theorem Current_r (a : Ag) : RCalls Try.prog 15 [.loc 1000 0] (agL a) (intP a.cur) := by
  intro w h vs hz hr hl
  obtain ⟨u2, arr, clock, hx, _⟩ := agX_of hl
  have := callRes_exact (Current_x (.int .i64 a.n) (.int .i64 a.cur) u2 (.map arr clock)) agX_ok rfl hz hr hx
  unfold CallRes at *
  have cv : ∀ {v : Value} {w' : World} {g' : Nat → Nat}, RelA w' { h with g := g' } v (isX (.int .i64 a.cur)) → RelA w' { h with g := g' } v (intP a.cur) := fun r => by
    have e : _ = Value.int .i64 a.cur := r
    rw [e]; exact relA_mk rfl
  split at this
  · exact this.mono fun e w' ⟨v, he, g', h1, h2⟩ => ⟨v, he, g', h1, cv h2⟩
  · obtain ⟨g', h1, h2⟩ := this; exact ⟨g', h1, cv h2⟩
  · exact this.elim
theorem Versions_r (a : Ag) (ok : AgOk a) : RCalls Try.prog 14 [.loc 1000 0] (agL a) (.p (.d (.sl 1 (verZ a).length (rowZ (verZ a))))) := by
  intro w h vs hz hr hl
  obtain ⟨u2, arr, clock, hx, hK⟩ := agX_of hl
  have hlen : (verZ a).length = (a.es.map (·.1)).length := by unfold verZ srtZ; simp
  have v1 := Versions_x (.int .i64 a.n) (.int .i64 a.cur) u2 arr clock _ hK ok.nd ok.wf (by simpa using ok.len)
  rw [← hlen] at v1
  exact callRes_exact v1 agX_ok rfl hz hr hx
end Go.Proofs.Ytokibghllpfeaaa
