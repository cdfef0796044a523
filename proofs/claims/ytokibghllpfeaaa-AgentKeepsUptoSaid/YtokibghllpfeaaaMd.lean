/- Calls that read own memory and change nothing that was there; in regions of whatever order too. Conditions: none. -/
import Derived.Test.YtokibghllpfeaaaMc
set_option linter.unusedSimpArgs false
set_option linter.unusedVariables false
namespace Go.Proofs.Ytokibghllpfeaaa.AL
open Go.RowKit
variable {P : Program}
/-- THE CONTRACT of a function that reads own memory L, and changes nothing that was there. -/
def RCalls (P : Program) (f : FuncId) (xs : List AV) (L : List (Nat × LV)) (x : AV) : Prop :=
  ∀ (w : World) (h : Gh) (vs : List Value), GZ w h.g → RelAs w h vs xs → LocsOK (fun _ => True) w h L →
    CallRes P (fun v w' => ∃ g', Ext w h.g w' g' ∧ RelA w' { h with g := g' } v x) ((callFunc f vs.toArray).run P w)
theorem ext_trans {w w' : World} {h : Gh} {g' : Nat → Nat} {B : Nat → Prop} (hz : GZ w h.g) (hB : NewIn B w) (he : Ext w h.g w' g') (own : Nat → Prop) : Trans B w h w' { h with g := g' } own none false :=
  Trans.same he.belowS (fun b hb => ⟨he.below.block b hb, he.gam b hb⟩) hz he.gz hB _
def rdOK (sg : List (Nat × Nat)) (rd : List Nat) (LA : List (Nat × LV)) : List (Nat × LV) → Prop
  | [] => True
  | p :: r => rd.contains (sub sg p.1) = true ∧ look LA (sub sg p.1) = some (p.2.ren (sub sg)) ∧ back sg (sub sg p.1) = some p.1 ∧ rdOK sg rd LA r
theorem rdOK_at {sg : List (Nat × Nat)} {rd : List Nat} {LA : List (Nat × LV)} : ∀ {L : List (Nat × LV)}, rdOK sg rd LA L → ∀ l X, look L l = some X → rd.contains (sub sg l) = true ∧ look LA (sub sg l) = some (X.ren (sub sg)) ∧ back sg (sub sg l) = some l
  | p :: r, h, l, X, hX => by
    simp only [look] at hX
    split at hX
    · rename_i e; subst e; cases hX; exact ⟨h.1, h.2.1, h.2.2.1⟩
    · exact rdOK_at h.2.2.2 l X hX
theorem opR_rcall {o : Oper} {c : Call} {f : Operand} (ho : o.op = .call c) (hc : c.callee = .value f) {x0 x : AV} {g : FuncId} {pre post : List CV} (hx : calleeC x0 = some (g, pre, post)) {zs xs : List AV} (sg : List (Nat × Nat))
    (hargs : pre.map CV.av ++ zs ++ post.map CV.av = xs.map (AV.ren (sub sg))) {L : List (Nat × LV)} (hcall : RCalls P g xs L x) {rd : List Nat} {LA : List (Nat × LV)} (hrd : rdOK sg rd LA L) : OpR P o (x0 :: zs) rd LA (x.ren (sub sg)) := by
  intro B w h a next Q hB hz hr hL hS hn
  have hops : o.op.operands.toList.map a.eval = a.eval f :: c.args.toList.map a.eval := by simp [ho, Op.operands, Call.operands, hc]
  rw [hops] at hr
  have hf := hr.2 0 (a.eval f) x0 rfl rfl
  have hev : RelAs w h (c.args.toList.map a.eval) zs := hr.tail
  obtain ⟨vs, hvs, hrun⟩ := call_runA (P := P) ho hc hx hf hev
  rw [hargs] at hvs
  let hσ := h.ren (sub sg)
  have hvs' : RelAs w hσ vs xs := by
    refine ⟨by have := hvs.1; simpa using this, fun j v y hv hyj => ?_⟩
    exact relA_ren.1 (hvs.2 j v _ hv (by rw [List.getElem?_map, hyj]; rfl))
  have hlocs : LocsOK (fun _ => True) w hσ L := by
    refine ⟨fun l X hX => ?_, fun l l' X X' b hne h1 h2 hb hb' => ?_⟩
    · obtain ⟨k1, k2, _⟩ := rdOK_at hrd l X hX
      exact locOK_O (locOK_ren.1 (hL _ k1 _ k2)) fun _ _ => trivial
    · obtain ⟨k1, k2, k3⟩ := rdOK_at hrd l X h1
      obtain ⟨m1, m2, m3⟩ := rdOK_at hrd l' X' h2
      rw [← inB_ren] at hb hb'
      exact hS _ _ k1 m1 (fun e => hne (by rw [e, m3] at k3; cases k3; rfl)) _ _ b k2 m2 hb hb'
  have key := hcall w hσ vs hz hvs' hlocs
  have fin : ∀ v w', (∃ g', Ext w hσ.g w' g' ∧ RelA w' { hσ with g := g' } v x) → next (a.put o.dst v) w' := by
    rintro v w' ⟨g', he, hR⟩
    exact hn v w' { h with g := g' } (relA_ren.2 hR) (ext_trans hz hB he _)
  unfold Oper.wp
  rw [hrun]
  unfold CallRes at key
  split at key
  · rename_i f' args w1 hrr
    rw [hrr]
    show Calls P f' args w1 _
    refine key.mono fun e w' ⟨v, he, hR⟩ => ?_
    subst he
    exact fin v w' hR
  · rename_i v w1 hrr
    rw [hrr]
    exact fin v w1 key
  · exact key.elim
theorem walkD_rcall {nt : Nat} {ops : Array Oper} {K : ASt → List Done → Prop} {o : Oper} {rest : List Oper} {A : ASt} {tr : List Done} {c : Call} {f : Operand} {g : FuncId} {pre post : List CV} {xs : List AV} {L : List (Nat × LV)} {x : AV}
    (sg : List (Nat × Nat)) (rd : List Nat) (hd : dstOK nt o = true) (hw : wantedA ops o A = some true) (ho : o.op = .call c) (hc : c.callee = .value f) (hx : calleeC (A.eval f) = some (g, pre, post))
    (hargs : pre.map CV.av ++ c.args.toList.map A.eval ++ post.map CV.av = xs.map (AV.ren (sub sg))) (hcall : RCalls P g xs L x) (hrd : rdOK sg rd A.locs L)
    (hk : walkD P nt ops K rest (A.apply o.dst { val := x.ren (sub sg) }) (⟨o, none, { val := x.ren (sub sg) }, rd⟩ :: tr)) : walkD P nt ops K (o :: rest) A tr := by
  refine walkD_rd hd hw ?_ hk
  have hops : o.op.operands.toList.map A.eval = A.eval f :: c.args.toList.map A.eval := by simp [ho, Op.operands, Call.operands, hc]
  rw [hops]
  exact opR_rcall ho hc hx sg hargs hcall hrd
/-- Own memory of which each cell is told to the bit. -/
inductive XAV : AV → Prop
  | is (u : Value) : XAV (.is (· = u))
  | mp (l : Nat) : XAV (.mp l)
theorem XAV.same {x : AV} (hx : XAV x) {w w' : World} {h h' : Gh} (hρ : ∀ l ∈ x.mentions, h'.ρ l = h.ρ l) {v v' : Value} (r : RelA w h v x) (r' : RelA w' h' v' x) : v' = v := by
  cases hx with
  | is u => exact (show v' = u from r').trans (show v = u from r).symm
  | mp l =>
    have e1 : v = .map (some (h.ρ l)) := r
    have e2 : v' = .map (some (h'.ρ l)) := r'
    rw [e1, e2, hρ l (by simp [AV.mentions])]
inductive XLV : LV → Prop
  | cells (e : TypeId) (cs : List AV) (h : ∀ c ∈ cs, XAV c) : XLV (.cells e cs)
  | obj (o : Obj) : XLV (.obj o)
theorem XLV.same {X : LV} (hx : XLV X) {O : Nat → Prop} {w w' : World} {h h' : Gh} {l : Nat} (hρl : h'.ρ l = h.ρ l) (hρ : ∀ k ∈ X.mentions, h'.ρ k = h.ρ k) (r : LocOK O w h l X) (r' : LocOK O w' h' l X) {b : Nat} (hb : inB h l X b) :
    w'.heap[b]? = w.heap[b]? ∧ h'.g b = h.g b := by
  cases hx with
  | cells e cs hcs =>
    obtain ⟨arr, _, h2, h3, h4, h5⟩ := r
    obtain ⟨arr', _, k2, k3, k4, k5⟩ := r'
    simp [inB] at hb
    subst hb
    rw [hρl] at k2 k4
    refine ⟨?_, by rw [h4, k4]⟩
    rw [h2, k2]
    congr 2
    apply Array.ext
    · rw [h3, k3]
    · intro i hi1 hi2
      have hic : i < cs.length := by omega
      have e1 := (h5 i arr[i] cs[i] (by simp [hi2]) (List.getElem?_eq_getElem hic)).1
      have e2 := (k5 i arr'[i] cs[i] (by simp [hi1]) (List.getElem?_eq_getElem hic)).1
      exact (hcs _ (List.getElem_mem hic)).same (fun k hk => hρ k (List.mem_flatMap.2 ⟨_, List.getElem_mem hic, hk⟩)) e1 e2
  | obj o =>
    obtain ⟨_, h2, h4⟩ := r
    obtain ⟨_, k2, k4⟩ := r'
    simp [inB] at hb
    subst hb
    rw [hρl] at k2 k4
    exact ⟨by rw [h2, k2], by rw [h4, k4]⟩
/-- Out of a contract at memory that is told to the bit. -/
theorem callRes_exact {f : FuncId} {xs : List AV} {L : List (Nat × LV)} {x : AV} (hc : MCalls P f xs L (fun r M => r = [x] ∧ M = L)) (hX : ∀ l X, look L l = some X → XLV X ∧ ∀ k ∈ X.mentions, ∃ Y, look L k = some Y) (hm : x.mentions = [])
    {w : World} {h : Gh} {vs : List Value} (hz : GZ w h.g) (hr : RelAs w h vs xs) (hl : LocsOK (fun _ => True) w h L) :
    CallRes P (fun v w' => ∃ g', Ext w h.g w' g' ∧ RelA w' { h with g := g' } v x) ((callFunc f vs.toArray).run P w) := by
  have key := hc w h vs hz hr hl
  have fin : ∀ v w', (∃ h1 r1 L1, (r1 = [x] ∧ L1 = L) ∧ RelRA w' h1 v r1 ∧ LocsOK (fun _ => True) w' h1 L1 ∧ Chg L L1 w h w' h1) → ∃ g', Ext w h.g w' g' ∧ RelA w' { h with g := g' } v x := by
    rintro v w' ⟨h1, r1, L1, ⟨rfl, rfl⟩, hR, hL, hC⟩
    have same : ∀ b, ownB h L1 b → w'.heap[b]? = w.heap[b]? ∧ h1.g b = h.g b := by
      rintro b ⟨l, X, h1', h2⟩
      obtain ⟨k1, k2⟩ := hX l X h1'
      exact k1.same (hC.ρ l X h1') (fun k hk => by obtain ⟨Y, hY⟩ := k2 k hk; exact hC.ρ k Y hY) (hl.1 l X h1') (hL.1 l X h1') h2
    refine ⟨h1.g, ⟨⟨hC.below.os, hC.below.tape, hC.below.output, hC.below.size, fun k hk => ?_⟩, fun b hb => ?_, hC.gz⟩, ?_⟩
    · by_cases ho : ownB h L1 k
      · exact (same k ho).1
      · exact hC.below.block k hk ho
    · by_cases ho : ownB h L1 b
      · exact (same b ho).2
      · exact hC.gam b hb ho
    · exact relA_congr (h := h1) (k := { h with g := h1.g }) rfl (fun l hl => by rw [hm] at hl; cases hl) hR
  unfold CallRes at *
  split at key
  · exact key.mono fun e w' ⟨v, he, hR⟩ => ⟨v, he, fin v w' hR⟩
  · exact fin _ _ key
  · exact key.elim
theorem mcalls_of_rcalls {f : FuncId} {xs : List AV} {L : List (Nat × LV)} {x : AV} (hc : RCalls P f xs L x) : MCalls P f xs L (fun rs M => rs = [x] ∧ M = L) := by
  intro w h vs hz hr hl
  have key := hc w h vs hz hr hl
  have fin : ∀ v w', (∃ g', Ext w h.g w' g' ∧ RelA w' { h with g := g' } v x) → ∃ h1 r1 L1, (r1 = [x] ∧ L1 = L) ∧ RelRA w' h1 v r1 ∧ LocsOK (fun _ => True) w' h1 L1 ∧ Chg L L1 w h w' h1 := by
    rintro v w' ⟨g', he, hR⟩
    have tr := ext_trans (B := fun _ => True) hz (fun _ _ => trivial) he (fun _ => False)
    have hlok : ∀ l X, look L l = some X → LocOK (fun _ => True) w' { h with g := g' } l X ∧ inB { h with g := g' } l X = inB h l X := fun l X hX =>
      LocOK.trans tr (by simp) (fun hf => by cases hf) (fun b _ hno => hno) (hl.1 l X hX)
    refine ⟨{ h with g := g' }, _, _, ⟨rfl, rfl⟩, hR, ⟨fun l X hX => (hlok l X hX).1, fun l l' X X' b hne h1 h2 => ?_⟩, ⟨he.belowS, fun b hlt _ => he.gam b hlt, he.gz, he.keep hz, fun _ _ _ => rfl, fun _ _ _ => .inr ⟨rfl, rfl⟩, fun b ⟨l, X, h1, h2⟩ => .inr ⟨l, X, h1, ?_⟩⟩⟩
    · rw [(hlok l X h1).2, (hlok l' X' h2).2]
      exact hl.2 l l' X X' b hne h1 h2
    · rw [(hlok l X h1).2] at h2; exact h2
  unfold CallRes at *
  split at key
  · exact key.mono fun e w' ⟨v, he, hR⟩ => ⟨v, he, fin v w' hR⟩
  · exact fin _ _ key
  · exact key.elim
end Go.Proofs.Ytokibghllpfeaaa.AL
