/- Part 4 of a proof: lemmas beneath the theorem that the last text bears. Conditions: none. -/
import Derived.Test.YtbamjcnhmmgnlaaKTriePlaysc
set_option maxHeartbeats 64000000
set_option linter.unusedSimpArgs false
set_option linter.unusedVariables false
namespace Go.Proofs.Ytbamjcnhmmgnlaa
open Go Go.Proofs.Ytbamjcnhmmgnlaa.AL Go.RowKit
def updA (A : List Nat → Option Nat) (q : List Nat) (b : Nat) : List Nat → Option Nat := fun x => if x = q then some b else A x
def updV (V : List Nat → Value) (q : List Nat) (v : Value) : List Nat → Value := fun x => if x = q then v else V x
theorem j19 (A : List Nat → Option Nat) (q : List Nat) (b : Nat) : updA A q b q = some b := by simp [updA]
theorem j58 (A : List Nat → Option Nat) {q x : List Nat} (b : Nat) (h : x ≠ q) : updA A q b x = A x := by simp [updA,h]
theorem q20 (V : List Nat → Value) (q : List Nat) (v : Value) : updV V q v q = v := by simp [updV]
theorem q16 (V : List Nat → Value) {q x : List Nat} (v : Value) (h : x ≠ q) : updV V q v x = V x := by simp [updV,h]
theorem q59 {A : List Nat → Option Nat} {q p : List Nat} {b : Nat} (h : hasP A p = true) : hasP (updA A q b) p = true := by
 unfold hasP at *
 unfold updA
 split
 ·simp
 ·exact h
theorem z59 {A : List Nat → Option Nat} {q p : List Nat} {b : Nat} (h : hasP (updA A q b) p = true) : p = q ∨ hasP A p = true := by
 by_cases e : p = q
 ·exact .inl e
 ·right
  unfold hasP at *
  rw [j58 _ _ e] at h
  exact h
theorem x23 {A : List Nat → Option Nat} {p : List Nat} {b : Nat} (h : A p = some b) : kidV A p = .pointer (some ⟨b,0,none⟩) := by unfold kidV;rw [h];rfl
theorem q22 {A : List Nat → Option Nat} {p : List Nat} (h : A p = none) : kidV A p = .pointer none := by unfold kidV;rw [h];rfl
theorem x29 (A : List Nat → Option Nat) (q : List Nat) (b : Nat) : kidV (updA A q b) q = .pointer (some ⟨b,0,none⟩) := x23 (j19 _ _ _)
theorem j14 (A : List Nat → Option Nat) {q x : List Nat} (b : Nat) (h : x ≠ q) : kidV (updA A q b) x = kidV A x := by unfold kidV;rw [j58 _ _ h]
theorem j16 {p q : List Nat} {i j : Nat} (h : q ≠ p ∨ i ≠ j) : q ++ [i] ≠ p ++ [j] := by
 intro e
 have := List.append_inj' e rfl
 rcases h with h | h
 ·exact h this.1
 ·apply h;simpa using this.2
theorem j29 (p : List Nat) (j : Nat) : p ≠ p ++ [j] := fun e => by have := congrArg List.length e;simp at this
theorem z87 : (94 : TypeId) ≠ 3 := by decide
theorem IdsV.keep {M M' : Nat → Option Ent} {v : Value} {l : List Int} (h : IdsV M v l) (hM : ∀ b c f,M b = some ⟨3,1,c,l.length,f⟩ → v = .slice (some ⟨b,0,none⟩) l.length c → M' b = M b) : IdsV M' v l := by
 rcases h with h | ⟨b,c,f,h1,h2,h3,h4⟩
 ·exact .inl h
 ·exact .inr ⟨b,c,f,h1,h2,by rw [hM b c f h3 h1];exact h3,h4⟩
section
variable {I : List Nat → List Int} {M M' : Nat → Option Ent} {A : List Nat → Option Nat} {V : List Nat → Value}
theorem TrM.add (T : TrM I M A V) {p : List Nat} {j b' : Nat} (hp : hasP A p = true) (hn : A (p ++ [j]) = none) (hM : M b' = none) (hlen : p.length < 128)
  (h1 : NodeAt M' (updA A (p ++ [j]) b') (updV V (p ++ [j]) (.slice none 0 0)) (p ++ [j]) b')
  (h2 : ∀ b,A p = some b → NodeAt M' (updA A (p ++ [j]) b') (updV V (p ++ [j]) (.slice none 0 0)) p b)
  (h3 : ∀ c,c ≠ b' → A p ≠ some c → M' c = M c) : TrM I M' (updA A (p ++ [j]) b') (updV V (p ++ [j]) (.slice none 0 0)) := by
 have hnn : hasP A (p ++ [j]) = false := by
  unfold hasP;rw [hn];simp
 have hnew : ∀ q c,A q = some c → c ≠ b' := fun q c hq e => by
  obtain ⟨f,this,_⟩ := T.node q c hq
  rw [e,hM] at this;cases this
 have old : ∀ q c,updA A (p ++ [j]) b' q = some c → (q = p ++ [j] ∧ c = b') ∨ (q ≠ p ++ [j] ∧ A q = some c) := by
  intro q c hq
  unfold updA at hq
  split at hq
  ·cases hq;exact .inl ⟨‹_›,rfl⟩
  ·exact .inr ⟨‹_›,hq⟩
 refine ⟨?_,fun q c hq => ?_,fun q q' c h h' => ?_,fun q k c hq => ?_,fun q c hq => ?_,fun q hq => ?_,fun q q' b n c n' c' hq hq' e e' => ?_,fun q hq => ?_⟩
 ·rw [j58 _ _ (by simp)];exact T.root
 ·rcases old q c hq with ⟨rfl,rfl⟩ | ⟨hne,hq0⟩
  ·exact h1
  ·by_cases hqp : q = p
   ·rw [hqp] at hq0 ⊢;exact h2 c hq0
   ·have hpc : A p ≠ some c := fun e => hqp (T.inj _ _ _ hq0 e)
    obtain ⟨f,n1,n2⟩ := T.node q c hq0
    refine ⟨f,by rw [h3 c (hnew q c hq0) hpc];exact n1,?_⟩
    rw [n2]
    unfold nodeC
    rw [j14 _ _ (j16 (.inl hqp)),j14 _ _ (j16 (.inl hqp)),j14 _ _ (j16 (.inl hqp)),q16 _ _ hne]
 ·rcases old q c h with ⟨rfl,rfl⟩ | ⟨hne,h⟩ <;> rcases old q' c h' with ⟨rfl,e⟩ | ⟨hne',h'⟩
  ·rfl
  ·exact absurd rfl (hnew _ _ h')
  ·exact absurd e (hnew _ _ h)
  ·exact T.inj _ _ _ h h'
 ·rcases old _ c hq with ⟨e,_⟩ | ⟨_,hq⟩
  ·have := (List.append_inj' e rfl).1
   subst this;exact q59 hp
  ·exact q59 (T.pre _ _ _ hq)
 ·rcases old q c hq with ⟨rfl,rfl⟩ | ⟨_,hq⟩
  ·simp;omega
  ·exact T.deep q c hq
 ·rcases z59 hq with rfl | hq
  ·rw [q20,T.gone _ hnn];exact .inl ⟨rfl,rfl⟩
  ·have hne : q ≠ p ++ [j] := fun e => by rw [e,hnn] at hq;cases hq
   rw [q16 _ _ hne]
   refine (T.ids q hq).keep fun b c f hb _ => h3 b (fun e => by rw [e,hM] at hb;cases hb) fun e => ?_
   obtain ⟨f',n1,_⟩ := T.node p b e
   rw [n1] at hb
   simp only [Option.some.injEq,Ent.mk.injEq] at hb
   exact z87 hb.1
 ·by_cases hne : q = p ++ [j]
  ·rw [hne,q20] at e;cases e
  ·by_cases hne' : q' = p ++ [j]
   ·rw [hne',q20] at e';cases e'
   ·rw [q16 _ _ hne] at e
    rw [q16 _ _ hne'] at e'
    refine T.injV _ _ _ _ _ _ _ ?_ ?_ e e'
    ·rcases z59 hq with h | h
     ·exact absurd h hne
     ·exact h
    ·rcases z59 hq' with h | h
     ·exact absurd h hne'
     ·exact h
 ·refine T.gone q ?_
  cases h : hasP A q with
  | false => rfl
  | true => rw [q59 h] at hq;cases hq
def updI (I : List Nat → List Int) (q : List Nat) (l : List Int) : List Nat → List Int := fun x => if x = q then l else I x
theorem z140 (I : List Nat → List Int) (q : List Nat) (l : List Int) : updI I q l q = l := by simp [updI]
theorem x87 (I : List Nat → List Int) {q x : List Nat} (l : List Int) (h : x ≠ q) : updI I q l x = I x := by simp [updI,h]
theorem TrM.set (T : TrM I M A V) {p : List Nat} {v : Value} {l : List Int} (hp : hasP A p = true)
  (hv : IdsV M' v l)
  (h2 : ∀ b,A p = some b → NodeAt M' A (updV V p v) p b)
  (hsep : ∀ b n c,v = .slice (some ⟨b,0,none⟩) n c → (∀ q,A q ≠ some b) ∧ ∀ q n' c',q ≠ p → hasP A q = true → V q ≠ .slice (some ⟨b,0,none⟩) n' c')
  (h3 : ∀ c,(∃ q,q ≠ p ∧ A q = some c) ∨ (∃ q n k,q ≠ p ∧ hasP A q = true ∧ V q = .slice (some ⟨c,0,none⟩) n k) → M' c = M c) : TrM (updI I p l) M' A (updV V p v) := by
 refine ⟨T.root,fun q c hq => ?_,T.inj,T.pre,T.deep,fun q hq => ?_,fun q q' b n c n' c' hq hq' e e' => ?_,fun q hq => ?_⟩
 ·by_cases hqp : q = p
  ·subst hqp;exact h2 c hq
  ·obtain ⟨f,n1,n2⟩ := T.node q c hq
   refine ⟨f,by rw [h3 c (.inl ⟨q,hqp,hq⟩)];exact n1,?_⟩
   rw [n2]
   unfold nodeC
   rw [q16 _ _ hqp]
 ·by_cases hqp : q = p
  ·subst hqp;rw [q20,z140];exact hv
  ·rw [q16 _ _ hqp,x87 _ _ hqp]
   exact (T.ids q hq).keep fun b c f hb hv => h3 b (.inr ⟨q,_,_,hqp,hq,hv⟩)
 ·by_cases hqp : q = p
  ·subst hqp
   by_cases hqp' : q' = q
   ·exact hqp'.symm
   ·rw [q20] at e
    rw [q16 _ _ hqp'] at e'
    exact absurd e' ((hsep b n c e).2 q' n' c' hqp' hq')
  ·by_cases hqp' : q' = p
   ·subst hqp'
    rw [q20] at e'
    rw [q16 _ _ hqp] at e
    exact absurd e ((hsep b n' c' e').2 q n c hqp hq)
   ·rw [q16 _ _ hqp] at e
    rw [q16 _ _ hqp'] at e'
    exact T.injV _ _ _ _ _ _ _ hq hq' e e'
 ·by_cases hqp : q = p
  ·subst hqp;rw [hp] at hq;cases hq
  ·rw [x87 _ _ hqp];exact T.gone q hq
end
def atAV (A : List Nat → Option Nat) (p : List Nat) : AV := match p with
 | [] => .loc 1000 0
 | _ => .p (.d (.v (kidV A p)))
theorem x140 (A : List Nat → Option Nat) : atAV A [] = .loc 1000 0 := rfl
theorem j18 {A : List Nat → Option Nat} {p : List Nat} {b : Nat} (h : A p = some b) (hp : p ≠ []) : atAV A p = .p (.d (.v (.pointer (some ⟨b,0,none⟩)))) := by
 cases p with
 | nil => exact absurd rfl hp
 | cons x p => unfold atAV;rw [x23 h]
end Go.Proofs.Ytbamjcnhmmgnlaa
namespace Go.Proofs.Ytbamjcnhmmgnlaa
open Go Go.Proofs.Ytbamjcnhmmgnlaa.AL Go.RowKit
structure PlS (I : List Nat → List Int) (k : Cube) where
 d : Nat
 p : List Nat
 A : List Nat → Option Nat
 V : List Nat → Value
 M : Nat → Option Ent
 hd : d ≤ 128 - lastC k
 T : TrM I M A V
 hp : hasP A p = true
 e : p = (pathC k).take d
def plI (I : List Nat → List Int) (k : Cube) (es : List (List Int × PV)) (s : PlS I k) : ASt :=
 ⟨[(6,.p (.d (.v (.int .i64 (127 - (s.d : Int)))))),(5,atAV s.A s.p),(3,.p (.d (.bx (cb k)))),(0,.loc 1000 0)],trL s.A s.V s.M es⟩
theorem TrM.leaf {I : List Nat → List Int} {M : Nat → Option Ent} {A : List Nat → Option Nat} {V : List Nat → Value} (T : TrM I M A V) {q : List Nat} (hq : q ≠ []) (hn : A q = none) (i : Nat) : A (q ++ [i]) = none := by
 cases h : A (q ++ [i]) with
 | none => rfl
 |some b =>
  obtain ⟨b',e⟩ := j43 (T.pre q i b h) hq
  rw [hn] at e;cases e
theorem TrM.new {I : List Nat → List Int} {M : Nat → Option Ent} {A : List Nat → Option Nat} {V : List Nat → Value} (T : TrM I M A V) {q : List Nat} (hq : q ≠ []) (hn : A q = none) (b : Nat) :
  nodeC (updA A q b) (updV V q (.slice none 0 0)) q = [.v (.pointer none),.v (.pointer none),.v (.pointer none),.v (.slice none 0 0)] := by
 unfold nodeC
 rw [j14 _ _ (Ne.symm (j29 q 0)),j14 _ _ (Ne.symm (j29 q 1)),j14 _ _ (Ne.symm (j29 q 2)),q22 (T.leaf hq hn 0),q22 (T.leaf hq hn 1),q22 (T.leaf hq hn 2),q20]
set_option maxRecDepth 100000 in
theorem j87 {I : List Nat → List Int} {M : Nat → Option Ent} {A : List Nat → Option Nat} {V : List Nat → Value} (T : TrM I M A V) (es : List (List Int × PV)) (k : Cube) :
  MCalls Try.prog 36 [.loc 1000 0,.p (.agg (cb k))] (trL A V M es)
   (fun rs L => ∃ r : {r : (List Nat → Option Nat) × (List Nat → Value) × (Nat → Option Ent) // TrM I r.2.2 r.1 r.2.1 ∧ hasP r.1 (pathC k) = true},rs = [atAV r.val.1 (pathC k)] ∧ L = trL r.val.1 r.val.2.1 r.val.2.2 es) := by
 have hlast := last_c k
 have hl8 := z129 k
 unfold trL trC
 refine z16 Try.func36 rfl (by decide +kernel) (by rw [Try.ntmps36];simp) (fun l X h => by simp only [AL.look] at h;(repeat' split at h);all_goals first | omega | cases h) ?_;rw [Try.ntmps36];simp only [frA]
 (repeat (first | apply x4 | refine j7 rfl ?_ | refine q8 rfl ?_ | apply j6 | (refine j0 fun K hK => ?_) | (refine j4 fun K hK => ?_) | ((first | apply x6 | apply z7 | ((first | refine j5 (hK _ ?_) | refine z6 (hK _ _ x5 ?_));clear hK K));(first | show AWP _ _ _ _ _ | ((try simp only [x7]);first | show loopQ _ _ _ _ _ _ | show cutQ _ _ _ _ | show AWP _ _ _ _ _))) | ((first | refine z8 [] rfl ?_ | refine x8 [] rfl ?_);simp (disch:=omega) only [go_sem,seval,hd,cb];(repeat (first | refine ⟨by omega,?_⟩ | refine ⟨True.intro,?_⟩)))))
 refine x19 (plI I k es) (fun s => 128 - s.d) ⟨0,[],A,V,M,by omega,T,rfl,rfl⟩ ?_ (fun s => ?_)
 ·unfold plI trL trC
  refine Weak.list ?_ ?_;(all_goals simp (disch:=omega) only [AllF,AllL,q11,z11,j10,exists_eq_left',go_sem,seval,hd,cb]);(all_goals (repeat' (with_reducible apply And.intro)));(all_goals try (first | exact j8 rfl | (refine x11 ?_;omega) | (refine j8 ?_;simp;done)))
 obtain ⟨d,p,A,V,M,hd8,T,hp,hpp⟩ := s
 unfold plI trL trC
 simp only []
 by_cases hlt : d < 128 - lastC k
 ·have hge : decide ((127 : Int) - (d : Int) ≥ (lastC k : Int)) = true := decide_eq_true (by omega)
  have hbr := q83 k (n := 127 - d) (by omega)
  have e127 : ((127 - d : Nat) : Int) = 127 - (d : Int) := by omega
  rw [e127] at hbr
  have hj3 := x56 k (127 - d)
  have htk := j129 k hlt
  have hlp : p.length = d := by rw [hpp,List.length_take,z23];omega
  rw [← hpp] at htk
  generalize brC k (127 - d) = j at *
  have hj : j = 0 ∨ j = 1 ∨ j = 2 := by omega
  rcases Classical.em (p = []) with hp0 | hp0
  ·subst hp0
   rw [x140]
   rw [List.nil_append] at htk
   rcases hj with rfl | rfl | rfl
   ·cases hk : A [0] with
    |none =>
     have q := q22 hk
     (repeat ((fail_if_success (show AWP _ _ (.region 7 _ _) _ _));first | apply x4 | refine j7 rfl ?_ | refine q8 rfl ?_ | apply j6 | (refine j0 fun K hK => ?_) | (refine j4 fun K hK => ?_) | ((first | apply x6 | apply z7 | ((first | refine j5 (hK _ ?_) | refine z6 (hK _ _ x5 ?_));clear hK K));(first | show AWP _ _ _ _ _ | ((try simp only [x7]);first | show loopQ _ _ _ _ _ _ | show cutQ _ _ _ _ | show AWP _ _ _ _ _))) | ((first | refine q10 rfl rfl rfl ?_ | refine z10 rfl rfl rfl ?_);simp (disch:=omega) only [go_sem,seval,hd,cb,hge,q];(first | refine ⟨_,hlast,?_⟩ | refine ⟨_,hbr,?_⟩)) | ((first | refine z8 [30] rfl ?_ | refine x8 [30] rfl ?_);simp (disch:=omega) only [go_sem,seval,hd,cb,hge,q];(repeat (first | refine ⟨by omega,?_⟩ | refine ⟨True.intro,?_⟩)))))
     refine j0 fun K hK => ?_
     iterate 4 ((first | refine j13 [30] rfl rfl ?_ | refine q14 [30] rfl rfl ?_ | refine z13 rfl rfl ?_ | refine x13 rfl rfl ?_);simp (disch:=omega) only [go_sem,seval,hd,cb,hge,q];(repeat (first | refine ⟨by omega,?_⟩ | refine ⟨True.intro,?_⟩)))
     refine x21 (WeakX.packCells _ 30 30 94 [.p (.d (.v (.pointer none))),.p (.d (.v (.pointer none))),.p (.d (.v (.pointer none))),.p (.d (.v (.slice none 0 0)))] [.v (.pointer none),.v (.pointer none),.v (.pointer none),.v (.slice none 0 0)] M rfl rfl rfl (by decide) rfl) ?_
     rintro _ ⟨b1,hb1,rfl⟩
     (repeat (first | apply x4 | refine j7 rfl ?_ | refine q8 rfl ?_ | apply j6 | (refine j0 fun K hK => ?_) | (refine j4 fun K hK => ?_) | ((first | apply x6 | apply z7 | ((first | refine j5 (hK _ ?_) | refine z6 (hK _ _ x5 ?_));clear hK K));(first | show AWP _ _ _ _ _ | ((try simp only [x7]);first | show loopQ _ _ _ _ _ _ | show cutQ _ _ _ _ | show AWP _ _ _ _ _))) | ((first | refine z8 [] rfl ?_ | refine x8 [] rfl ?_);simp (disch:=omega) only [go_sem,seval,hd,cb,hge,q,x14];(repeat (first | refine ⟨by omega,?_⟩ | refine ⟨True.intro,?_⟩)))))
     have T2 := T.add (M' := setM M b1 (some ⟨94,4,1,1,fun _ => [.v (.pointer none),.v (.pointer none),.v (.pointer none),.v (.slice none 0 0)]⟩)) hp hk hb1 (by simp) ⟨_,q13 _ _ _,(T.new (by simp) hk b1).symm⟩ (fun b hb => by rw [T.root] at hb;cases hb) (fun c hc _ => x12 _ _ hc)
     refine ⟨⟨d + 1,[0],updA A [0] b1,updV V [0] (.slice none 0 0),setM M b1 (some ⟨94,4,1,1,fun _ => [.v (.pointer none),.v (.pointer none),.v (.pointer none),.v (.slice none 0 0)]⟩),by omega,T2,j17 (j19 _ _ _),htk.symm⟩,by simp only [];omega,?_⟩
     have c0 := x29 A [0] b1
     have c1 := j14 A (q := [0]) (x := [1]) b1 (by decide)
     have c2 := j14 A (q := [0]) (x := [2]) b1 (by decide)
     have c3 := q16 V (q := [0]) (x := []) (.slice none 0 0) (by decide)
     have c4 := j18 (j19 A [0] b1) (by decide)
     simp only [c0,c1,c2,c3,c4]
     refine Weak.list ?_ ?_;(all_goals simp (disch:=omega) only [AllF,AllL,q11,z11,j10,exists_eq_left',go_sem,seval,hd,cb,hge,q,x14]);(all_goals (repeat' (with_reducible apply And.intro)));(all_goals try (first | exact j8 rfl | (refine x11 ?_;omega) | (refine j8 ?_;simp;done)))
    |some b1 =>
     have q := x23 hk
     (repeat (first | apply x4 | refine j7 rfl ?_ | refine q8 rfl ?_ | apply j6 | (refine j0 fun K hK => ?_) | (refine j4 fun K hK => ?_) | ((first | apply x6 | apply z7 | ((first | refine j5 (hK _ ?_) | refine z6 (hK _ _ x5 ?_));clear hK K));(first | show AWP _ _ _ _ _ | ((try simp only [x7]);first | show loopQ _ _ _ _ _ _ | show cutQ _ _ _ _ | show AWP _ _ _ _ _))) | ((first | refine q10 rfl rfl rfl ?_ | refine z10 rfl rfl rfl ?_);simp (disch:=omega) only [go_sem,seval,hd,cb,hge,q];(first | refine ⟨_,hlast,?_⟩ | refine ⟨_,hbr,?_⟩)) | ((first | refine z8 [] rfl ?_ | refine x8 [] rfl ?_);simp (disch:=omega) only [go_sem,seval,hd,cb,hge,q];(repeat (first | refine ⟨by omega,?_⟩ | refine ⟨True.intro,?_⟩)))))
     refine ⟨⟨d + 1,[0],A,V,M,by omega,T,j17 hk,htk.symm⟩,by simp only [];omega,?_⟩
     have c4 := j18 hk (by decide)
     simp only [q,c4]
     refine Weak.list ?_ ?_;(all_goals simp (disch:=omega) only [AllF,AllL,q11,z11,j10,exists_eq_left',go_sem,seval,hd,cb,hge,q]);(all_goals (repeat' (with_reducible apply And.intro)));(all_goals try (first | exact j8 rfl | (refine x11 ?_;omega) | (refine j8 ?_;simp;done)))
   ·cases hk : A [1] with
    |none =>
     have q := q22 hk
     (repeat ((fail_if_success (show AWP _ _ (.region 7 _ _) _ _));first | apply x4 | refine j7 rfl ?_ | refine q8 rfl ?_ | apply j6 | (refine j0 fun K hK => ?_) | (refine j4 fun K hK => ?_) | ((first | apply x6 | apply z7 | ((first | refine j5 (hK _ ?_) | refine z6 (hK _ _ x5 ?_));clear hK K));(first | show AWP _ _ _ _ _ | ((try simp only [x7]);first | show loopQ _ _ _ _ _ _ | show cutQ _ _ _ _ | show AWP _ _ _ _ _))) | ((first | refine q10 rfl rfl rfl ?_ | refine z10 rfl rfl rfl ?_);simp (disch:=omega) only [go_sem,seval,hd,cb,hge,q];(first | refine ⟨_,hlast,?_⟩ | refine ⟨_,hbr,?_⟩)) | ((first | refine z8 [30] rfl ?_ | refine x8 [30] rfl ?_);simp (disch:=omega) only [go_sem,seval,hd,cb,hge,q];(repeat (first | refine ⟨by omega,?_⟩ | refine ⟨True.intro,?_⟩)))))
     refine j0 fun K hK => ?_
     iterate 4 ((first | refine j13 [30] rfl rfl ?_ | refine q14 [30] rfl rfl ?_ | refine z13 rfl rfl ?_ | refine x13 rfl rfl ?_);simp (disch:=omega) only [go_sem,seval,hd,cb,hge,q];(repeat (first | refine ⟨by omega,?_⟩ | refine ⟨True.intro,?_⟩)))
     refine x21 (WeakX.packCells _ 30 30 94 [.p (.d (.v (.pointer none))),.p (.d (.v (.pointer none))),.p (.d (.v (.pointer none))),.p (.d (.v (.slice none 0 0)))] [.v (.pointer none),.v (.pointer none),.v (.pointer none),.v (.slice none 0 0)] M rfl rfl rfl (by decide) rfl) ?_
     rintro _ ⟨b1,hb1,rfl⟩
     (repeat (first | apply x4 | refine j7 rfl ?_ | refine q8 rfl ?_ | apply j6 | (refine j0 fun K hK => ?_) | (refine j4 fun K hK => ?_) | ((first | apply x6 | apply z7 | ((first | refine j5 (hK _ ?_) | refine z6 (hK _ _ x5 ?_));clear hK K));(first | show AWP _ _ _ _ _ | ((try simp only [x7]);first | show loopQ _ _ _ _ _ _ | show cutQ _ _ _ _ | show AWP _ _ _ _ _))) | ((first | refine z8 [] rfl ?_ | refine x8 [] rfl ?_);simp (disch:=omega) only [go_sem,seval,hd,cb,hge,q,x14];(repeat (first | refine ⟨by omega,?_⟩ | refine ⟨True.intro,?_⟩)))))
     have T2 := T.add (M' := setM M b1 (some ⟨94,4,1,1,fun _ => [.v (.pointer none),.v (.pointer none),.v (.pointer none),.v (.slice none 0 0)]⟩)) hp hk hb1 (by simp) ⟨_,q13 _ _ _,(T.new (by simp) hk b1).symm⟩ (fun b hb => by rw [T.root] at hb;cases hb) (fun c hc _ => x12 _ _ hc)
     refine ⟨⟨d + 1,[1],updA A [1] b1,updV V [1] (.slice none 0 0),setM M b1 (some ⟨94,4,1,1,fun _ => [.v (.pointer none),.v (.pointer none),.v (.pointer none),.v (.slice none 0 0)]⟩),by omega,T2,j17 (j19 _ _ _),htk.symm⟩,by simp only [];omega,?_⟩
     have c0 := x29 A [1] b1
     have c1 := j14 A (q := [1]) (x := [0]) b1 (by decide)
     have c2 := j14 A (q := [1]) (x := [2]) b1 (by decide)
     have c3 := q16 V (q := [1]) (x := []) (.slice none 0 0) (by decide)
     have c4 := j18 (j19 A [1] b1) (by decide)
     simp only [c0,c1,c2,c3,c4]
     refine Weak.list ?_ ?_;(all_goals simp (disch:=omega) only [AllF,AllL,q11,z11,j10,exists_eq_left',go_sem,seval,hd,cb,hge,q,x14]);(all_goals (repeat' (with_reducible apply And.intro)));(all_goals try (first | exact j8 rfl | (refine x11 ?_;omega) | (refine j8 ?_;simp;done)))
    |some b1 =>
     have q := x23 hk
     (repeat (first | apply x4 | refine j7 rfl ?_ | refine q8 rfl ?_ | apply j6 | (refine j0 fun K hK => ?_) | (refine j4 fun K hK => ?_) | ((first | apply x6 | apply z7 | ((first | refine j5 (hK _ ?_) | refine z6 (hK _ _ x5 ?_));clear hK K));(first | show AWP _ _ _ _ _ | ((try simp only [x7]);first | show loopQ _ _ _ _ _ _ | show cutQ _ _ _ _ | show AWP _ _ _ _ _))) | ((first | refine q10 rfl rfl rfl ?_ | refine z10 rfl rfl rfl ?_);simp (disch:=omega) only [go_sem,seval,hd,cb,hge,q];(first | refine ⟨_,hlast,?_⟩ | refine ⟨_,hbr,?_⟩)) | ((first | refine z8 [] rfl ?_ | refine x8 [] rfl ?_);simp (disch:=omega) only [go_sem,seval,hd,cb,hge,q];(repeat (first | refine ⟨by omega,?_⟩ | refine ⟨True.intro,?_⟩)))))
     refine ⟨⟨d + 1,[1],A,V,M,by omega,T,j17 hk,htk.symm⟩,by simp only [];omega,?_⟩
     have c4 := j18 hk (by decide)
     simp only [q,c4]
     refine Weak.list ?_ ?_;(all_goals simp (disch:=omega) only [AllF,AllL,q11,z11,j10,exists_eq_left',go_sem,seval,hd,cb,hge,q]);(all_goals (repeat' (with_reducible apply And.intro)));(all_goals try (first | exact j8 rfl | (refine x11 ?_;omega) | (refine j8 ?_;simp;done)))
   ·cases hk : A [2] with
    |none =>
     have q := q22 hk
     (repeat ((fail_if_success (show AWP _ _ (.region 7 _ _) _ _));first | apply x4 | refine j7 rfl ?_ | refine q8 rfl ?_ | apply j6 | (refine j0 fun K hK => ?_) | (refine j4 fun K hK => ?_) | ((first | apply x6 | apply z7 | ((first | refine j5 (hK _ ?_) | refine z6 (hK _ _ x5 ?_));clear hK K));(first | show AWP _ _ _ _ _ | ((try simp only [x7]);first | show loopQ _ _ _ _ _ _ | show cutQ _ _ _ _ | show AWP _ _ _ _ _))) | ((first | refine q10 rfl rfl rfl ?_ | refine z10 rfl rfl rfl ?_);simp (disch:=omega) only [go_sem,seval,hd,cb,hge,q];(first | refine ⟨_,hlast,?_⟩ | refine ⟨_,hbr,?_⟩)) | ((first | refine z8 [30] rfl ?_ | refine x8 [30] rfl ?_);simp (disch:=omega) only [go_sem,seval,hd,cb,hge,q];(repeat (first | refine ⟨by omega,?_⟩ | refine ⟨True.intro,?_⟩)))))
     refine j0 fun K hK => ?_
     iterate 4 ((first | refine j13 [30] rfl rfl ?_ | refine q14 [30] rfl rfl ?_ | refine z13 rfl rfl ?_ | refine x13 rfl rfl ?_);simp (disch:=omega) only [go_sem,seval,hd,cb,hge,q];(repeat (first | refine ⟨by omega,?_⟩ | refine ⟨True.intro,?_⟩)))
     refine x21 (WeakX.packCells _ 30 30 94 [.p (.d (.v (.pointer none))),.p (.d (.v (.pointer none))),.p (.d (.v (.pointer none))),.p (.d (.v (.slice none 0 0)))] [.v (.pointer none),.v (.pointer none),.v (.pointer none),.v (.slice none 0 0)] M rfl rfl rfl (by decide) rfl) ?_
     rintro _ ⟨b1,hb1,rfl⟩
     (repeat (first | apply x4 | refine j7 rfl ?_ | refine q8 rfl ?_ | apply j6 | (refine j0 fun K hK => ?_) | (refine j4 fun K hK => ?_) | ((first | apply x6 | apply z7 | ((first | refine j5 (hK _ ?_) | refine z6 (hK _ _ x5 ?_));clear hK K));(first | show AWP _ _ _ _ _ | ((try simp only [x7]);first | show loopQ _ _ _ _ _ _ | show cutQ _ _ _ _ | show AWP _ _ _ _ _))) | ((first | refine z8 [] rfl ?_ | refine x8 [] rfl ?_);simp (disch:=omega) only [go_sem,seval,hd,cb,hge,q,x14];(repeat (first | refine ⟨by omega,?_⟩ | refine ⟨True.intro,?_⟩)))))
     have T2 := T.add (M' := setM M b1 (some ⟨94,4,1,1,fun _ => [.v (.pointer none),.v (.pointer none),.v (.pointer none),.v (.slice none 0 0)]⟩)) hp hk hb1 (by simp) ⟨_,q13 _ _ _,(T.new (by simp) hk b1).symm⟩ (fun b hb => by rw [T.root] at hb;cases hb) (fun c hc _ => x12 _ _ hc)
     refine ⟨⟨d + 1,[2],updA A [2] b1,updV V [2] (.slice none 0 0),setM M b1 (some ⟨94,4,1,1,fun _ => [.v (.pointer none),.v (.pointer none),.v (.pointer none),.v (.slice none 0 0)]⟩),by omega,T2,j17 (j19 _ _ _),htk.symm⟩,by simp only [];omega,?_⟩
     have c0 := x29 A [2] b1
     have c1 := j14 A (q := [2]) (x := [0]) b1 (by decide)
     have c2 := j14 A (q := [2]) (x := [1]) b1 (by decide)
     have c3 := q16 V (q := [2]) (x := []) (.slice none 0 0) (by decide)
     have c4 := j18 (j19 A [2] b1) (by decide)
     simp only [c0,c1,c2,c3,c4]
     refine Weak.list ?_ ?_;(all_goals simp (disch:=omega) only [AllF,AllL,q11,z11,j10,exists_eq_left',go_sem,seval,hd,cb,hge,q,x14]);(all_goals (repeat' (with_reducible apply And.intro)));(all_goals try (first | exact j8 rfl | (refine x11 ?_;omega) | (refine j8 ?_;simp;done)))
    |some b1 =>
     have q := x23 hk
     (repeat (first | apply x4 | refine j7 rfl ?_ | refine q8 rfl ?_ | apply j6 | (refine j0 fun K hK => ?_) | (refine j4 fun K hK => ?_) | ((first | apply x6 | apply z7 | ((first | refine j5 (hK _ ?_) | refine z6 (hK _ _ x5 ?_));clear hK K));(first | show AWP _ _ _ _ _ | ((try simp only [x7]);first | show loopQ _ _ _ _ _ _ | show cutQ _ _ _ _ | show AWP _ _ _ _ _))) | ((first | refine q10 rfl rfl rfl ?_ | refine z10 rfl rfl rfl ?_);simp (disch:=omega) only [go_sem,seval,hd,cb,hge,q];(first | refine ⟨_,hlast,?_⟩ | refine ⟨_,hbr,?_⟩)) | ((first | refine z8 [] rfl ?_ | refine x8 [] rfl ?_);simp (disch:=omega) only [go_sem,seval,hd,cb,hge,q];(repeat (first | refine ⟨by omega,?_⟩ | refine ⟨True.intro,?_⟩)))))
     refine ⟨⟨d + 1,[2],A,V,M,by omega,T,j17 hk,htk.symm⟩,by simp only [];omega,?_⟩
     have c4 := j18 hk (by decide)
     simp only [q,c4]
     refine Weak.list ?_ ?_;(all_goals simp (disch:=omega) only [AllF,AllL,q11,z11,j10,exists_eq_left',go_sem,seval,hd,cb,hge,q]);(all_goals (repeat' (with_reducible apply And.intro)));(all_goals try (first | exact j8 rfl | (refine x11 ?_;omega) | (refine j8 ?_;simp;done)))
  ·obtain ⟨b,hb⟩ := j43 hp hp0
   rw [j18 hb hp0]
   obtain ⟨f0,hMb,hf0⟩ := T.node p b hb
   unfold nodeC at hf0
   rcases hj with rfl | rfl | rfl
   ·cases hk : A (p ++ [0]) with
    |none =>
     have q := q22 hk
     rw [q] at hf0
     (repeat ((fail_if_success (show AWP _ _ (.region 7 _ _) _ _));first | apply x4 | refine j7 rfl ?_ | refine q8 rfl ?_ | apply j6 | (refine j0 fun K hK => ?_) | (refine j4 fun K hK => ?_) | ((first | apply x6 | apply z7 | ((first | refine j5 (hK _ ?_) | refine z6 (hK _ _ x5 ?_));clear hK K));(first | show AWP _ _ _ _ _ | ((try simp only [x7]);first | show loopQ _ _ _ _ _ _ | show cutQ _ _ _ _ | show AWP _ _ _ _ _))) | ((first | refine q10 rfl rfl rfl ?_ | refine z10 rfl rfl rfl ?_);simp (disch:=omega) only [go_sem,seval,hd,cb,hge,q,hMb,hf0];(first | refine ⟨_,hlast,?_⟩ | refine ⟨_,hbr,?_⟩)) | ((first | refine z8 [30] rfl ?_ | refine x8 [30] rfl ?_);simp (disch:=omega) only [go_sem,seval,hd,cb,hge,q,hMb,hf0];(repeat (first | refine ⟨by omega,?_⟩ | refine ⟨True.intro,?_⟩)))))
     refine j0 fun K hK => ?_
     iterate 4 ((first | refine j13 [30] rfl rfl ?_ | refine q14 [30] rfl rfl ?_ | refine z13 rfl rfl ?_ | refine x13 rfl rfl ?_);simp (disch:=omega) only [go_sem,seval,hd,cb,hge,q,hMb,hf0];(repeat (first | refine ⟨by omega,?_⟩ | refine ⟨True.intro,?_⟩)))
     refine x21 (WeakX.packCells _ 30 30 94 [.p (.d (.v (.pointer none))),.p (.d (.v (.pointer none))),.p (.d (.v (.pointer none))),.p (.d (.v (.slice none 0 0)))] [.v (.pointer none),.v (.pointer none),.v (.pointer none),.v (.slice none 0 0)] M rfl rfl rfl (by decide) rfl) ?_
     rintro _ ⟨b1,hb1,rfl⟩
     have hne : b ≠ b1 := fun e => by rw [e,hb1] at hMb;cases hMb
     have hs := (x12 M (some ⟨94,4,1,1,fun _ => [.v (.pointer none),.v (.pointer none),.v (.pointer none),.v (.slice none 0 0)]⟩) hne).trans hMb
     have hf1 : putEl f0 0 0 [.v (.pointer (some ⟨b1,0,none⟩))] 0 = [.v (.pointer (some ⟨b1,0,none⟩)),.v (kidV A (p ++ [1])),.v (kidV A (p ++ [2])),.v (V p)] := by
      unfold putEl
      rw [if_pos rfl,hf0];rfl
     (repeat (first | apply x4 | refine j7 rfl ?_ | refine q8 rfl ?_ | apply j6 | (refine j0 fun K hK => ?_) | (refine j4 fun K hK => ?_) | ((first | apply x6 | apply z7 | ((first | refine j5 (hK _ ?_) | refine z6 (hK _ _ x5 ?_));clear hK K));(first | show AWP _ _ _ _ _ | ((try simp only [x7]);first | show loopQ _ _ _ _ _ _ | show cutQ _ _ _ _ | show AWP _ _ _ _ _))) | ((first | refine z8 [] rfl ?_ | refine x8 [] rfl ?_);simp (disch:=omega) only [go_sem,seval,hd,cb,hge,q,x14,hs,q13,hf1,hf0];(repeat (first | refine ⟨by omega,?_⟩ | refine ⟨True.intro,?_⟩)))))
     have hf2 : putEl f0 0 0 [.v (.pointer (some ⟨b1,0,none⟩))] 0 = nodeC (updA A (p ++ [0]) b1) (updV V (p ++ [0]) (.slice none 0 0)) p := by
      rw [hf1]
      unfold nodeC
      rw [x29,j14 A (x := p ++ [1]) b1 (j16 (.inr (by decide))),j14 A (x := p ++ [2]) b1 (j16 (.inr (by decide))),q16 V (.slice none 0 0) (j29 p 0)]
     have T2 := T.add (M' := setM (setM M b1 (some ⟨94,4,1,1,fun _ => [.v (.pointer none),.v (.pointer none),.v (.pointer none),.v (.slice none 0 0)]⟩)) b (some ⟨94,4,1,1,putEl f0 0 0 [.v (.pointer (some ⟨b1,0,none⟩))]⟩)) hp hk hb1 (by omega)
      ⟨_,(x12 _ _ (Ne.symm hne)).trans (q13 _ _ _),(T.new (by simp) hk b1).symm⟩ (fun b' e => by rw [hb] at e;cases e;exact ⟨_,q13 _ _ _,hf2⟩) (fun c hc hc2 => (x12 _ _ (fun e => hc2 (by rw [e];exact hb))).trans (x12 _ _ hc))
     refine ⟨⟨d + 1,p ++ [0],updA A (p ++ [0]) b1,updV V (p ++ [0]) (.slice none 0 0),setM (setM M b1 (some ⟨94,4,1,1,fun _ => [.v (.pointer none),.v (.pointer none),.v (.pointer none),.v (.slice none 0 0)]⟩)) b (some ⟨94,4,1,1,putEl f0 0 0 [.v (.pointer (some ⟨b1,0,none⟩))]⟩),by omega,T2,j17 (j19 _ _ _),htk.symm⟩,by simp only [];omega,?_⟩
     have c0 := j14 A (q := p ++ [0]) (x := [0]) b1 (j16 (p := p) (q := []) (i := 0) (.inl (Ne.symm hp0)))
     have c1 := j14 A (q := p ++ [0]) (x := [1]) b1 (j16 (p := p) (q := []) (i := 1) (.inl (Ne.symm hp0)))
     have c2 := j14 A (q := p ++ [0]) (x := [2]) b1 (j16 (p := p) (q := []) (i := 2) (.inl (Ne.symm hp0)))
     have c3 := q16 V (q := p ++ [0]) (x := []) (.slice none 0 0) (by simp)
     have c4 := j18 (j19 A (p ++ [0]) b1) (by simp)
     simp only [c0,c1,c2,c3,c4]
     refine Weak.list ?_ ?_;(all_goals simp (disch:=omega) only [AllF,AllL,q11,z11,j10,exists_eq_left',go_sem,seval,hd,cb,hge,q,x14,hs,q13,hf1,hf0]);(all_goals (repeat' (with_reducible apply And.intro)));(all_goals try (first | exact j8 rfl | (refine x11 ?_;omega) | (refine j8 ?_;simp;done)))
    |some b1 =>
     have q := x23 hk
     rw [q] at hf0
     (repeat (first | apply x4 | refine j7 rfl ?_ | refine q8 rfl ?_ | apply j6 | (refine j0 fun K hK => ?_) | (refine j4 fun K hK => ?_) | ((first | apply x6 | apply z7 | ((first | refine j5 (hK _ ?_) | refine z6 (hK _ _ x5 ?_));clear hK K));(first | show AWP _ _ _ _ _ | ((try simp only [x7]);first | show loopQ _ _ _ _ _ _ | show cutQ _ _ _ _ | show AWP _ _ _ _ _))) | ((first | refine q10 rfl rfl rfl ?_ | refine z10 rfl rfl rfl ?_);simp (disch:=omega) only [go_sem,seval,hd,cb,hge,q,hMb,hf0];(first | refine ⟨_,hlast,?_⟩ | refine ⟨_,hbr,?_⟩)) | ((first | refine z8 [] rfl ?_ | refine x8 [] rfl ?_);simp (disch:=omega) only [go_sem,seval,hd,cb,hge,q,hMb,hf0];(repeat (first | refine ⟨by omega,?_⟩ | refine ⟨True.intro,?_⟩)))))
     refine ⟨⟨d + 1,p ++ [0],A,V,M,by omega,T,j17 hk,htk.symm⟩,by simp only [];omega,?_⟩
     have c4 := j18 hk (by simp)
     simp only [c4]
     refine Weak.list ?_ ?_;(all_goals simp (disch:=omega) only [AllF,AllL,q11,z11,j10,exists_eq_left',go_sem,seval,hd,cb,hge,q,hMb,hf0]);(all_goals (repeat' (with_reducible apply And.intro)));(all_goals try (first | exact j8 rfl | (refine x11 ?_;omega) | (refine j8 ?_;simp;done)))
   ·cases hk : A (p ++ [1]) with
    |none =>
     have q := q22 hk
     rw [q] at hf0
     (repeat ((fail_if_success (show AWP _ _ (.region 7 _ _) _ _));first | apply x4 | refine j7 rfl ?_ | refine q8 rfl ?_ | apply j6 | (refine j0 fun K hK => ?_) | (refine j4 fun K hK => ?_) | ((first | apply x6 | apply z7 | ((first | refine j5 (hK _ ?_) | refine z6 (hK _ _ x5 ?_));clear hK K));(first | show AWP _ _ _ _ _ | ((try simp only [x7]);first | show loopQ _ _ _ _ _ _ | show cutQ _ _ _ _ | show AWP _ _ _ _ _))) | ((first | refine q10 rfl rfl rfl ?_ | refine z10 rfl rfl rfl ?_);simp (disch:=omega) only [go_sem,seval,hd,cb,hge,q,hMb,hf0];(first | refine ⟨_,hlast,?_⟩ | refine ⟨_,hbr,?_⟩)) | ((first | refine z8 [30] rfl ?_ | refine x8 [30] rfl ?_);simp (disch:=omega) only [go_sem,seval,hd,cb,hge,q,hMb,hf0];(repeat (first | refine ⟨by omega,?_⟩ | refine ⟨True.intro,?_⟩)))))
     refine j0 fun K hK => ?_
     iterate 4 ((first | refine j13 [30] rfl rfl ?_ | refine q14 [30] rfl rfl ?_ | refine z13 rfl rfl ?_ | refine x13 rfl rfl ?_);simp (disch:=omega) only [go_sem,seval,hd,cb,hge,q,hMb,hf0];(repeat (first | refine ⟨by omega,?_⟩ | refine ⟨True.intro,?_⟩)))
     refine x21 (WeakX.packCells _ 30 30 94 [.p (.d (.v (.pointer none))),.p (.d (.v (.pointer none))),.p (.d (.v (.pointer none))),.p (.d (.v (.slice none 0 0)))] [.v (.pointer none),.v (.pointer none),.v (.pointer none),.v (.slice none 0 0)] M rfl rfl rfl (by decide) rfl) ?_
     rintro _ ⟨b1,hb1,rfl⟩
     have hne : b ≠ b1 := fun e => by rw [e,hb1] at hMb;cases hMb
     have hs := (x12 M (some ⟨94,4,1,1,fun _ => [.v (.pointer none),.v (.pointer none),.v (.pointer none),.v (.slice none 0 0)]⟩) hne).trans hMb
     have hf1 : putEl f0 0 1 [.v (.pointer (some ⟨b1,0,none⟩))] 0 = [.v (kidV A (p ++ [0])),.v (.pointer (some ⟨b1,0,none⟩)),.v (kidV A (p ++ [2])),.v (V p)] := by
      unfold putEl
      rw [if_pos rfl,hf0];rfl
     (repeat (first | apply x4 | refine j7 rfl ?_ | refine q8 rfl ?_ | apply j6 | (refine j0 fun K hK => ?_) | (refine j4 fun K hK => ?_) | ((first | apply x6 | apply z7 | ((first | refine j5 (hK _ ?_) | refine z6 (hK _ _ x5 ?_));clear hK K));(first | show AWP _ _ _ _ _ | ((try simp only [x7]);first | show loopQ _ _ _ _ _ _ | show cutQ _ _ _ _ | show AWP _ _ _ _ _))) | ((first | refine z8 [] rfl ?_ | refine x8 [] rfl ?_);simp (disch:=omega) only [go_sem,seval,hd,cb,hge,q,x14,hs,q13,hf1,hf0];(repeat (first | refine ⟨by omega,?_⟩ | refine ⟨True.intro,?_⟩)))))
     have hf2 : putEl f0 0 1 [.v (.pointer (some ⟨b1,0,none⟩))] 0 = nodeC (updA A (p ++ [1]) b1) (updV V (p ++ [1]) (.slice none 0 0)) p := by
      rw [hf1]
      unfold nodeC
      rw [x29,j14 A (x := p ++ [0]) b1 (j16 (.inr (by decide))),j14 A (x := p ++ [2]) b1 (j16 (.inr (by decide))),q16 V (.slice none 0 0) (j29 p 1)]
     have T2 := T.add (M' := setM (setM M b1 (some ⟨94,4,1,1,fun _ => [.v (.pointer none),.v (.pointer none),.v (.pointer none),.v (.slice none 0 0)]⟩)) b (some ⟨94,4,1,1,putEl f0 0 1 [.v (.pointer (some ⟨b1,0,none⟩))]⟩)) hp hk hb1 (by omega)
      ⟨_,(x12 _ _ (Ne.symm hne)).trans (q13 _ _ _),(T.new (by simp) hk b1).symm⟩ (fun b' e => by rw [hb] at e;cases e;exact ⟨_,q13 _ _ _,hf2⟩) (fun c hc hc2 => (x12 _ _ (fun e => hc2 (by rw [e];exact hb))).trans (x12 _ _ hc))
     refine ⟨⟨d + 1,p ++ [1],updA A (p ++ [1]) b1,updV V (p ++ [1]) (.slice none 0 0),setM (setM M b1 (some ⟨94,4,1,1,fun _ => [.v (.pointer none),.v (.pointer none),.v (.pointer none),.v (.slice none 0 0)]⟩)) b (some ⟨94,4,1,1,putEl f0 0 1 [.v (.pointer (some ⟨b1,0,none⟩))]⟩),by omega,T2,j17 (j19 _ _ _),htk.symm⟩,by simp only [];omega,?_⟩
     have c0 := j14 A (q := p ++ [1]) (x := [0]) b1 (j16 (p := p) (q := []) (i := 0) (.inl (Ne.symm hp0)))
     have c1 := j14 A (q := p ++ [1]) (x := [1]) b1 (j16 (p := p) (q := []) (i := 1) (.inl (Ne.symm hp0)))
     have c2 := j14 A (q := p ++ [1]) (x := [2]) b1 (j16 (p := p) (q := []) (i := 2) (.inl (Ne.symm hp0)))
     have c3 := q16 V (q := p ++ [1]) (x := []) (.slice none 0 0) (by simp)
     have c4 := j18 (j19 A (p ++ [1]) b1) (by simp)
     simp only [c0,c1,c2,c3,c4]
     refine Weak.list ?_ ?_;(all_goals simp (disch:=omega) only [AllF,AllL,q11,z11,j10,exists_eq_left',go_sem,seval,hd,cb,hge,q,x14,hs,q13,hf1,hf0]);(all_goals (repeat' (with_reducible apply And.intro)));(all_goals try (first | exact j8 rfl | (refine x11 ?_;omega) | (refine j8 ?_;simp;done)))
    |some b1 =>
     have q := x23 hk
     rw [q] at hf0
     (repeat (first | apply x4 | refine j7 rfl ?_ | refine q8 rfl ?_ | apply j6 | (refine j0 fun K hK => ?_) | (refine j4 fun K hK => ?_) | ((first | apply x6 | apply z7 | ((first | refine j5 (hK _ ?_) | refine z6 (hK _ _ x5 ?_));clear hK K));(first | show AWP _ _ _ _ _ | ((try simp only [x7]);first | show loopQ _ _ _ _ _ _ | show cutQ _ _ _ _ | show AWP _ _ _ _ _))) | ((first | refine q10 rfl rfl rfl ?_ | refine z10 rfl rfl rfl ?_);simp (disch:=omega) only [go_sem,seval,hd,cb,hge,q,hMb,hf0];(first | refine ⟨_,hlast,?_⟩ | refine ⟨_,hbr,?_⟩)) | ((first | refine z8 [] rfl ?_ | refine x8 [] rfl ?_);simp (disch:=omega) only [go_sem,seval,hd,cb,hge,q,hMb,hf0];(repeat (first | refine ⟨by omega,?_⟩ | refine ⟨True.intro,?_⟩)))))
     refine ⟨⟨d + 1,p ++ [1],A,V,M,by omega,T,j17 hk,htk.symm⟩,by simp only [];omega,?_⟩
     have c4 := j18 hk (by simp)
     simp only [c4]
     refine Weak.list ?_ ?_;(all_goals simp (disch:=omega) only [AllF,AllL,q11,z11,j10,exists_eq_left',go_sem,seval,hd,cb,hge,q,hMb,hf0]);(all_goals (repeat' (with_reducible apply And.intro)));(all_goals try (first | exact j8 rfl | (refine x11 ?_;omega) | (refine j8 ?_;simp;done)))
   ·cases hk : A (p ++ [2]) with
    |none =>
     have q := q22 hk
     rw [q] at hf0
     (repeat ((fail_if_success (show AWP _ _ (.region 7 _ _) _ _));first | apply x4 | refine j7 rfl ?_ | refine q8 rfl ?_ | apply j6 | (refine j0 fun K hK => ?_) | (refine j4 fun K hK => ?_) | ((first | apply x6 | apply z7 | ((first | refine j5 (hK _ ?_) | refine z6 (hK _ _ x5 ?_));clear hK K));(first | show AWP _ _ _ _ _ | ((try simp only [x7]);first | show loopQ _ _ _ _ _ _ | show cutQ _ _ _ _ | show AWP _ _ _ _ _))) | ((first | refine q10 rfl rfl rfl ?_ | refine z10 rfl rfl rfl ?_);simp (disch:=omega) only [go_sem,seval,hd,cb,hge,q,hMb,hf0];(first | refine ⟨_,hlast,?_⟩ | refine ⟨_,hbr,?_⟩)) | ((first | refine z8 [30] rfl ?_ | refine x8 [30] rfl ?_);simp (disch:=omega) only [go_sem,seval,hd,cb,hge,q,hMb,hf0];(repeat (first | refine ⟨by omega,?_⟩ | refine ⟨True.intro,?_⟩)))))
     refine j0 fun K hK => ?_
     iterate 4 ((first | refine j13 [30] rfl rfl ?_ | refine q14 [30] rfl rfl ?_ | refine z13 rfl rfl ?_ | refine x13 rfl rfl ?_);simp (disch:=omega) only [go_sem,seval,hd,cb,hge,q,hMb,hf0];(repeat (first | refine ⟨by omega,?_⟩ | refine ⟨True.intro,?_⟩)))
     refine x21 (WeakX.packCells _ 30 30 94 [.p (.d (.v (.pointer none))),.p (.d (.v (.pointer none))),.p (.d (.v (.pointer none))),.p (.d (.v (.slice none 0 0)))] [.v (.pointer none),.v (.pointer none),.v (.pointer none),.v (.slice none 0 0)] M rfl rfl rfl (by decide) rfl) ?_
     rintro _ ⟨b1,hb1,rfl⟩
     have hne : b ≠ b1 := fun e => by rw [e,hb1] at hMb;cases hMb
     have hs := (x12 M (some ⟨94,4,1,1,fun _ => [.v (.pointer none),.v (.pointer none),.v (.pointer none),.v (.slice none 0 0)]⟩) hne).trans hMb
     have hf1 : putEl f0 0 2 [.v (.pointer (some ⟨b1,0,none⟩))] 0 = [.v (kidV A (p ++ [0])),.v (kidV A (p ++ [1])),.v (.pointer (some ⟨b1,0,none⟩)),.v (V p)] := by
      unfold putEl
      rw [if_pos rfl,hf0];rfl
     (repeat (first | apply x4 | refine j7 rfl ?_ | refine q8 rfl ?_ | apply j6 | (refine j0 fun K hK => ?_) | (refine j4 fun K hK => ?_) | ((first | apply x6 | apply z7 | ((first | refine j5 (hK _ ?_) | refine z6 (hK _ _ x5 ?_));clear hK K));(first | show AWP _ _ _ _ _ | ((try simp only [x7]);first | show loopQ _ _ _ _ _ _ | show cutQ _ _ _ _ | show AWP _ _ _ _ _))) | ((first | refine z8 [] rfl ?_ | refine x8 [] rfl ?_);simp (disch:=omega) only [go_sem,seval,hd,cb,hge,q,x14,hs,q13,hf1,hf0];(repeat (first | refine ⟨by omega,?_⟩ | refine ⟨True.intro,?_⟩)))))
     have hf2 : putEl f0 0 2 [.v (.pointer (some ⟨b1,0,none⟩))] 0 = nodeC (updA A (p ++ [2]) b1) (updV V (p ++ [2]) (.slice none 0 0)) p := by
      rw [hf1]
      unfold nodeC
      rw [x29,j14 A (x := p ++ [0]) b1 (j16 (.inr (by decide))),j14 A (x := p ++ [1]) b1 (j16 (.inr (by decide))),q16 V (.slice none 0 0) (j29 p 2)]
     have T2 := T.add (M' := setM (setM M b1 (some ⟨94,4,1,1,fun _ => [.v (.pointer none),.v (.pointer none),.v (.pointer none),.v (.slice none 0 0)]⟩)) b (some ⟨94,4,1,1,putEl f0 0 2 [.v (.pointer (some ⟨b1,0,none⟩))]⟩)) hp hk hb1 (by omega)
      ⟨_,(x12 _ _ (Ne.symm hne)).trans (q13 _ _ _),(T.new (by simp) hk b1).symm⟩ (fun b' e => by rw [hb] at e;cases e;exact ⟨_,q13 _ _ _,hf2⟩) (fun c hc hc2 => (x12 _ _ (fun e => hc2 (by rw [e];exact hb))).trans (x12 _ _ hc))
     refine ⟨⟨d + 1,p ++ [2],updA A (p ++ [2]) b1,updV V (p ++ [2]) (.slice none 0 0),setM (setM M b1 (some ⟨94,4,1,1,fun _ => [.v (.pointer none),.v (.pointer none),.v (.pointer none),.v (.slice none 0 0)]⟩)) b (some ⟨94,4,1,1,putEl f0 0 2 [.v (.pointer (some ⟨b1,0,none⟩))]⟩),by omega,T2,j17 (j19 _ _ _),htk.symm⟩,by simp only [];omega,?_⟩
     have c0 := j14 A (q := p ++ [2]) (x := [0]) b1 (j16 (p := p) (q := []) (i := 0) (.inl (Ne.symm hp0)))
     have c1 := j14 A (q := p ++ [2]) (x := [1]) b1 (j16 (p := p) (q := []) (i := 1) (.inl (Ne.symm hp0)))
     have c2 := j14 A (q := p ++ [2]) (x := [2]) b1 (j16 (p := p) (q := []) (i := 2) (.inl (Ne.symm hp0)))
     have c3 := q16 V (q := p ++ [2]) (x := []) (.slice none 0 0) (by simp)
     have c4 := j18 (j19 A (p ++ [2]) b1) (by simp)
     simp only [c0,c1,c2,c3,c4]
     refine Weak.list ?_ ?_;(all_goals simp (disch:=omega) only [AllF,AllL,q11,z11,j10,exists_eq_left',go_sem,seval,hd,cb,hge,q,x14,hs,q13,hf1,hf0]);(all_goals (repeat' (with_reducible apply And.intro)));(all_goals try (first | exact j8 rfl | (refine x11 ?_;omega) | (refine j8 ?_;simp;done)))
    |some b1 =>
     have q := x23 hk
     rw [q] at hf0
     (repeat (first | apply x4 | refine j7 rfl ?_ | refine q8 rfl ?_ | apply j6 | (refine j0 fun K hK => ?_) | (refine j4 fun K hK => ?_) | ((first | apply x6 | apply z7 | ((first | refine j5 (hK _ ?_) | refine z6 (hK _ _ x5 ?_));clear hK K));(first | show AWP _ _ _ _ _ | ((try simp only [x7]);first | show loopQ _ _ _ _ _ _ | show cutQ _ _ _ _ | show AWP _ _ _ _ _))) | ((first | refine q10 rfl rfl rfl ?_ | refine z10 rfl rfl rfl ?_);simp (disch:=omega) only [go_sem,seval,hd,cb,hge,q,hMb,hf0];(first | refine ⟨_,hlast,?_⟩ | refine ⟨_,hbr,?_⟩)) | ((first | refine z8 [] rfl ?_ | refine x8 [] rfl ?_);simp (disch:=omega) only [go_sem,seval,hd,cb,hge,q,hMb,hf0];(repeat (first | refine ⟨by omega,?_⟩ | refine ⟨True.intro,?_⟩)))))
     refine ⟨⟨d + 1,p ++ [2],A,V,M,by omega,T,j17 hk,htk.symm⟩,by simp only [];omega,?_⟩
     have c4 := j18 hk (by simp)
     simp only [c4]
     refine Weak.list ?_ ?_;(all_goals simp (disch:=omega) only [AllF,AllL,q11,z11,j10,exists_eq_left',go_sem,seval,hd,cb,hge,q,hMb,hf0]);(all_goals (repeat' (with_reducible apply And.intro)));(all_goals try (first | exact j8 rfl | (refine x11 ?_;omega) | (refine j8 ?_;simp;done)))
 ·have hd : d = 128 - lastC k := by omega
  have hge : decide ((127 : Int) - (d : Int) ≥ (lastC k : Int)) = false := decide_eq_false (by omega)
  have hpk : p = pathC k := by rw [hpp,hd,← z23 k,List.take_length]
  (repeat (first | apply x4 | refine j7 rfl ?_ | refine q8 rfl ?_ | apply j6 | (refine j0 fun K hK => ?_) | (refine j4 fun K hK => ?_) | ((first | apply x6 | apply z7 | ((first | refine j5 (hK _ ?_) | refine z6 (hK _ _ x5 ?_));clear hK K));(first | show AWP _ _ _ _ _ | ((try simp only [x7]);first | show loopQ _ _ _ _ _ _ | show cutQ _ _ _ _ | show AWP _ _ _ _ _))) | ((first | refine q10 rfl rfl rfl ?_ | refine z10 rfl rfl rfl ?_);simp (disch:=omega) only [go_sem,seval,hd,cb,hge];(first | refine ⟨_,hlast,?_⟩)) | ((first | refine z8 [] rfl ?_ | refine x8 [] rfl ?_);simp (disch:=omega) only [go_sem,seval,hd,cb,hge];(repeat (first | refine ⟨by omega,?_⟩ | refine ⟨True.intro,?_⟩)))))
  refine j9 ?_
  refine (x16 ⟨⟨(A,V,M),T,by rw [← hpk];exact hp⟩,(by show [atAV A p] = [atAV A (pathC k)];rw [hpk]),rfl⟩ ?_ ?_).1
  ·exact ⟨rfl,trivial⟩
  ·simp [AL.look]
def esI (l : Items) : List (List Int × PV) := l.map fun x => ([x.1],.agg (cb x.2))
def idIn (l : Items) (id : Int) : Bool := l.any fun x => x.1 == id
def getI (l : Items) (id : Int) : Option Cube := (l.find? fun x => x.1 == id).map (·.2)
def delI (l : Items) (id : Int) : Items := l.filter fun x => !(x.1 == id)
theorem z44 {l : Items} {id : Int} (h : idIn l id = false) : findM [id] (esI l) = none ∧ (∀ v,putM [id] v (esI l) = esI l ++ [([id],v)]) := by
 induction l with
 | nil => exact ⟨rfl,fun v => rfl⟩
 |cons x l ih =>
  have hx : x.1 ≠ id ∧ idIn l id = false := by simpa [idIn] using h
  obtain ⟨h1,h2⟩ := ih hx.2
  have ne : ¬ [x.1] = [id] := fun e => hx.1 (by simpa using e)
  refine ⟨?_,fun v => ?_⟩
  ·show (if [x.1] = [id] then _ else findM [id] (esI l)) = none
   rw [if_neg ne,h1]
  ·show (if [x.1] = [id] then _ else _ :: putM [id] v (esI l)) = _
   rw [if_neg ne,h2];rfl
theorem q88 {l : Items} {id : Int} {c : Cube} (h : idIn l id = false) : putM [id] (.agg (cb c)) (esI l) = esI (l ++ [(id,c)]) := by
 rw [(z44 h).2];simp [esI]
theorem x59 {l : Items} {id : Int} {c : Cube} (h : getI l id = some c) : findM [id] (esI l) = some (.agg (cb c)) := by
 induction l with
 | nil => cases h
 |cons x l ih =>
  show (if [x.1] = [id] then some (PV.agg (cb x.2)) else findM [id] (esI l)) = _
  by_cases e : x.1 = id
  ·have hc : x.2 = c := by simpa [getI,e] using h
   rw [if_pos (by rw [e]),hc]
  ·rw [if_neg (by simpa using e)]
   refine ih ?_
   have : (x.1 == id) = false := by simpa using e
   simpa [getI,List.find?_cons,this] using h
def Uniq (l : Items) : Prop := (l.map (·.1)).Nodup
theorem j59 : ∀ {l : Items},Uniq l → ∀ {x y : Int × Cube},x ∈ l → y ∈ l → x.1 = y.1 → x = y
 | [],_,x,y,hx,_,_ => by cases hx
 |z :: l,hu,x,y,hx,hy,e => by
  have hu' : z.1 ∉ l.map (·.1) ∧ Uniq l := by simpa [Uniq] using hu
  rcases List.mem_cons.1 hx with h1 | h1 <;> rcases List.mem_cons.1 hy with h2 | h2
  ·rw [h1,h2]
  ·exact absurd (by rw [← h1,e];exact List.mem_map_of_mem h2) hu'.1
  ·exact absurd (by rw [← h2,← e];exact List.mem_map_of_mem h1) hu'.1
  ·exact j59 hu'.2 h1 h2 e
theorem z88 {l : Items} {id : Int} (hu : Uniq l) : delM [id] (esI l) = esI (delI l id) := by
 induction l with
 | nil => rfl
 |cons x l ih =>
  have hu' : x.1 ∉ l.map (·.1) ∧ Uniq l := by simpa [Uniq] using hu
  show (if [x.1] = [id] then esI l else _ :: delM [id] (esI l)) = _
  by_cases e : x.1 = id
  ·rw [if_pos (by rw [e])]
   have : delI (x :: l) id = l := by
    unfold delI
    rw [List.filter_cons_of_neg (by simp [e]),List.filter_eq_self]
    intro y hy
    have : y.1 ≠ id := fun e' => hu'.1 (by rw [e,← e'];exact List.mem_map_of_mem hy)
    simpa using this
   rw [this]
  ·rw [if_neg (by simpa using e),ih hu'.2]
   unfold delI esI
   rw [List.filter_cons_of_pos (by simpa using e)];rfl
theorem j35 {l : Items} {id : Int} : getI l id = none ↔ idIn l id = false := by
 unfold getI idIn
 rw [Option.map_eq_none_iff,List.find?_eq_none,List.any_eq_false]
theorem x88 {l : Items} {id : Int} {c : Cube} (h : getI l id = some c) : (id,c) ∈ l := by
 unfold getI at h
 obtain ⟨x,hx,rfl⟩ := Option.map_eq_some_iff.1 h
 have := List.find?_some hx
 have hm := List.mem_of_find?_eq_some hx
 rw [beq_iff_eq] at this
 rw [← this];exact hm
theorem j88 (l : Items) (id : Int) (c : Cube) : idsAt (l ++ [(id,c)]) = updI (idsAt l) (pathC c) (idsAt l (pathC c) ++ [id]) := by
 funext p
 unfold idsAt updI
 rw [List.filter_append,List.map_append]
 by_cases e : p = pathC c
 ·subst e;simp
 ·rw [if_neg e]
  have : (pathC c == p) = false := by simpa using fun h => e h.symm
  simp [this]
theorem q89 {l : Items} {id : Int} {c : Cube} (hu : Uniq l) (hc : (id,c) ∈ l) : idsAt (delI l id) = updI (idsAt l) (pathC c) ((idsAt l (pathC c)).filter fun n => !(n == id)) := by
 have key : ∀ x ∈ l,x.1 = id → x.2 = c := by
  intro x hx e
  have : x = (id,c) := j59 hu hx hc e
  rw [this]
 funext p
 unfold idsAt updI delI
 by_cases e : p = pathC c
 ·rw [if_pos e,List.filter_map,List.filter_filter,List.filter_filter,e]
  congr 1
  refine List.filter_congr fun x hx => ?_
  simp [Bool.and_comm]
 ·rw [if_neg e,List.filter_filter]
  congr 1
  refine List.filter_congr fun x hx => ?_
  by_cases hxi : x.1 = id
  ·have := key x hx hxi
   have hp : (pathC x.2 == p) = false := by rw [this];simpa using fun h => e h.symm
   simp [hp]
  ·have : (x.1 == id) = false := by simpa using hxi
   simp [this]
def Freed (M : Nat → Option Ent) (v : Value) (M2 : Nat → Option Ent) : Prop := (v = .slice none 0 0 ∧ M2 = M) ∨ ∃ b n c,v = .slice (some ⟨b,0,none⟩) n c ∧ M2 = setM M b none
section
variable {I : List Nat → List Int} {M M2 M' : Nat → Option Ent} {A : List Nat → Option Nat} {V : List Nat → Value}
theorem TrM.intAt (T : TrM I M A V) {q : List Nat} {b n c : Nat} (hq : hasP A q = true) (hv : V q = .slice (some ⟨b,0,none⟩) n c) : ∃ f,M b = some ⟨3,1,c,n,f⟩ := by
 rcases T.ids q hq with ⟨_,h⟩ | ⟨b',c',f,h1,h2,h3,h4⟩
 ·rw [hv] at h;cases h
 ·rw [hv] at h1;cases h1;exact ⟨f,h3⟩
theorem TrM.nodeInt (T : TrM I M A V) {p : List Nat} {b : Nat} (h : A p = some b) {c n : Nat} {f : Nat → List Dat} (hb : M b = some ⟨3,1,c,n,f⟩) : False := by
 obtain ⟨f',n1,_⟩ := T.node p b h
 rw [n1] at hb
 simp only [Option.some.injEq,Ent.mk.injEq] at hb
 exact z87 hb.1
theorem TrM.row (T : TrM I M A V) {p : List Nat} {l : List Int} {b2 n c2 : Nat} (hp : hasP A p = true) (hF : Freed M (V p) M2) (hb2 : M2 b2 = none) (hv : IdsV M' (.slice (some ⟨b2,0,none⟩) n c2) l)
  (h2 : ∀ b,A p = some b → NodeAt M' A (updV V p (.slice (some ⟨b2,0,none⟩) n c2)) p b) (h3 : ∀ c,c ≠ b2 → A p ≠ some c → M' c = M2 c) :
  TrM (updI I p l) M' A (updV V p (.slice (some ⟨b2,0,none⟩) n c2)) := by
 have hM2 : ∀ c,(∀ b m k,V p = .slice (some ⟨b,0,none⟩) m k → c ≠ b) → M2 c = M c := by
  intro c hc
  rcases hF with ⟨_,rfl⟩ | ⟨b,m,k,e,rfl⟩
  ·rfl
  ·exact x12 _ _ (hc b m k e)
 have nodeP : ∀ q c,A q = some c → ∀ b m k,V p = .slice (some ⟨b,0,none⟩) m k → c ≠ b := by
  intro q c hq b m k e hcb
  obtain ⟨f,hf⟩ := T.intAt hp e
  subst hcb
  exact T.nodeInt hq hf
 have rowP : ∀ q c m' k',q ≠ p → hasP A q = true → V q = .slice (some ⟨c,0,none⟩) m' k' → ∀ b m k,V p = .slice (some ⟨b,0,none⟩) m k → c ≠ b := by
  intro q c m' k' hne hq e b m k e' hcb
  subst hcb
  exact hne (T.injV _ _ _ _ _ _ _ hq hp e e')
 refine T.set hp hv h2 (fun b n' c e => ?_) fun c hc => ?_
 ·have e0 : b = b2 := by cases e;rfl
  subst e0
  refine ⟨fun q hq => ?_,fun q n' c' hne hq e => ?_⟩
  ·obtain ⟨f,n1,_⟩ := T.node q b hq
   rw [hM2 b (nodeP q b hq),n1] at hb2;cases hb2
  ·obtain ⟨f,hf⟩ := T.intAt hq e
   rw [hM2 b (rowP q b _ _ hne hq e),hf] at hb2;cases hb2
 ·rcases hc with ⟨q,hne,hq⟩ | ⟨q,m,k,hne,hq,e⟩
  ·have e1 := hM2 c (nodeP q c hq)
   obtain ⟨f,n1,_⟩ := T.node q c hq
   rw [h3 c (fun e => by subst e;rw [e1,n1] at hb2;cases hb2) (fun e => hne (T.inj _ _ _ hq e)),e1]
  ·have e1 := hM2 c (rowP q c m k hne hq e)
   obtain ⟨f,hf⟩ := T.intAt hq e
   rw [h3 c (fun e => by subst e;rw [e1,hf] at hb2;cases hb2) (fun e => T.nodeInt e hf),e1]
end
end Go.Proofs.Ytbamjcnhmmgnlaa
namespace Go.Proofs.Ytbamjcnhmmgnlaa
open Go Go.Proofs.Ytbamjcnhmmgnlaa.AL Go.RowKit
def noA : List Nat → Option Nat := fun _ => none
def noV : List Nat → Value := fun _ => .slice none 0 0
theorem TrM.empty : TrM (idsAt []) noM noA noV := by
 refine ⟨rfl,fun p b h => (by cases h),fun p q b h => (by cases h),fun p k b h => (by cases h),fun p b h => (by cases h),fun p _ => .inl ⟨rfl,rfl⟩,fun p q b n c n' c' _ _ h => (by cases h),fun p _ => rfl⟩
set_option maxRecDepth 100000 in
theorem z89 : MCalls Try.prog 11 [] [] (fun rs L => rs = [.loc 3 0] ∧ L = [(3,.cells 96 [.p (.d (.v (.pointer none))),.p (.d (.v (.pointer none))),.p (.d (.v (.pointer none))),.p (.d (.v (.slice none 0 0))),.mp 1]),(1,.map [.i64] [])]) := by
 refine z16 Try.func11 rfl (by decide +kernel) (by rw [Try.ntmps11];simp) (fun l X h => by simp only [AL.look] at h;(repeat' split at h);all_goals first | omega | cases h) ?_;rw [Try.ntmps11];simp only [frA]
 (repeat (first | apply x4 | refine j7 rfl ?_ | refine q8 rfl ?_ | apply j6 | (refine j0 fun K hK => ?_) | (refine j4 fun K hK => ?_) | ((first | apply x6 | apply z7 | ((first | refine j5 (hK _ ?_) | refine z6 (hK _ _ x5 ?_));clear hK K));(first | show AWP _ _ _ _ _ | ((try simp only [x7]);first | show loopQ _ _ _ _ _ _ | show cutQ _ _ _ _ | show AWP _ _ _ _ _))) | ((first | refine z8 [1,3] rfl ?_ | refine x8 [1,3] rfl ?_);simp (disch:=omega) only [go_sem,seval,hd,cb];(repeat (first | refine ⟨by omega,?_⟩ | refine ⟨True.intro,?_⟩)))))
 refine j9 ?_
 refine (x16 ⟨rfl,rfl⟩ ?_ ?_).1
 ·exact ⟨rfl,trivial⟩
 ·simp [AL.look]
def addE (l : Items) (id : Int) (c : Cube) : Int := if id < 0 then 1 else if c.sound then (if idIn l id then 8 else 0) else 2
set_option maxRecDepth 100000 in
theorem x89 {l : Items} {M : Nat → Option Ent} {A : List Nat → Option Nat} {V : List Nat → Value} (id : Int) (c : Cube) (h : addE l id c ≠ 0) :
  MCalls Try.prog 13 [.loc 1000 0,.p (.d (.v (.int .i64 id))),.p (.agg (cb c))] (trL A V M (esI l)) (fun rs L => rs = [.p (.d (.v (.int .i64 (addE l id c))))] ∧ L = trL A V M (esI l)) := by
 have hs := x42 c
 unfold addE at *
 unfold trL trC
 by_cases h0 : id < 0
 ·have q0 : decide (id < 0) = true := decide_eq_true h0
  rw [if_pos h0]
  refine z16 Try.func13 rfl (by decide +kernel) (by rw [Try.ntmps13];simp) (fun l X h => by simp only [AL.look] at h;(repeat' split at h);all_goals first | omega | cases h) ?_;rw [Try.ntmps13];simp only [frA]
  (repeat (first | apply x4 | refine j7 rfl ?_ | refine q8 rfl ?_ | apply j6 | (refine j0 fun K hK => ?_) | (refine j4 fun K hK => ?_) | ((first | apply x6 | apply z7 | ((first | refine j5 (hK _ ?_) | refine z6 (hK _ _ x5 ?_));clear hK K));(first | show AWP _ _ _ _ _ | ((try simp only [x7]);first | show loopQ _ _ _ _ _ _ | show cutQ _ _ _ _ | show AWP _ _ _ _ _))) | ((first | refine q10 rfl rfl rfl ?_ | refine z10 rfl rfl rfl ?_);simp (disch:=omega) only [go_sem,seval,hd,cb,q0];(first | refine ⟨_,hs,?_⟩)) | ((first | refine z8 [] rfl ?_ | refine x8 [] rfl ?_);simp (disch:=omega) only [go_sem,seval,hd,cb,q0];(repeat (first | refine ⟨by omega,?_⟩ | refine ⟨True.intro,?_⟩)))))
  refine j9 ?_
  refine (x16 ⟨rfl,rfl⟩ ?_ ?_).1
  ·exact ⟨rfl,trivial⟩
  ·simp [AL.look]
 ·have q0 : decide (id < 0) = false := decide_eq_false h0
  rw [if_neg h0] at h ⊢
  generalize c.sound = s at *
  cases s with
  |false =>
   simp only [Bool.false_eq_true,if_false]
   refine z16 Try.func13 rfl (by decide +kernel) (by rw [Try.ntmps13];simp) (fun l X h => by simp only [AL.look] at h;(repeat' split at h);all_goals first | omega | cases h) ?_;rw [Try.ntmps13];simp only [frA]
   (repeat (first | apply x4 | refine j7 rfl ?_ | refine q8 rfl ?_ | apply j6 | (refine j0 fun K hK => ?_) | (refine j4 fun K hK => ?_) | ((first | apply x6 | apply z7 | ((first | refine j5 (hK _ ?_) | refine z6 (hK _ _ x5 ?_));clear hK K));(first | show AWP _ _ _ _ _ | ((try simp only [x7]);first | show loopQ _ _ _ _ _ _ | show cutQ _ _ _ _ | show AWP _ _ _ _ _))) | ((first | refine q10 rfl rfl rfl ?_ | refine z10 rfl rfl rfl ?_);simp (disch:=omega) only [go_sem,seval,hd,cb,q0];(first | refine ⟨_,hs,?_⟩)) | ((first | refine z8 [] rfl ?_ | refine x8 [] rfl ?_);simp (disch:=omega) only [go_sem,seval,hd,cb,q0];(repeat (first | refine ⟨by omega,?_⟩ | refine ⟨True.intro,?_⟩)))))
   refine j9 ?_
   refine (x16 ⟨rfl,rfl⟩ ?_ ?_).1
   ·exact ⟨rfl,trivial⟩
   ·simp [AL.look]
  |true =>
   cases hi : getI l id with
   |none =>
    rw [j35.1 hi] at h
    simp at h
   |some c' =>
    have hn : idIn l id = true := by
     cases e : idIn l id with
     | true => rfl
     | false => rw [j35.2 e] at hi;cases hi
    rw [hn]
    simp only [if_true]
    have q1 := x59 hi
    refine z16 Try.func13 rfl (by decide +kernel) (by rw [Try.ntmps13];simp) (fun l X h => by simp only [AL.look] at h;(repeat' split at h);all_goals first | omega | cases h) ?_;rw [Try.ntmps13];simp only [frA]
    (repeat (first | apply x4 | refine j7 rfl ?_ | refine q8 rfl ?_ | apply j6 | (refine j0 fun K hK => ?_) | (refine j4 fun K hK => ?_) | ((first | apply x6 | apply z7 | ((first | refine j5 (hK _ ?_) | refine z6 (hK _ _ x5 ?_));clear hK K));(first | show AWP _ _ _ _ _ | ((try simp only [x7]);first | show loopQ _ _ _ _ _ _ | show cutQ _ _ _ _ | show AWP _ _ _ _ _))) | ((first | refine q10 rfl rfl rfl ?_ | refine z10 rfl rfl rfl ?_);simp (disch:=omega) only [go_sem,seval,hd,cb,q0,q1];(first | refine ⟨_,hs,?_⟩)) | ((first | refine z8 [] rfl ?_ | refine x8 [] rfl ?_);simp (disch:=omega) only [go_sem,seval,hd,cb,q0,q1];(repeat (first | refine ⟨by omega,?_⟩ | refine ⟨True.intro,?_⟩)))))
    refine j9 ?_
    refine (x16 ⟨rfl,rfl⟩ ?_ ?_).1
    ·exact ⟨rfl,trivial⟩
    ·simp [AL.look]
theorem x44 (l : Items) (p : List Nat) : (idsAt l p).length ≤ l.length := by
 unfold idsAt;rw [List.length_map];exact List.length_filter_le _ _
theorem j89 {l : Items} {id : Int} {c : Cube} (h : addE l id c = 0) : 0 ≤ id ∧ c.sound = true ∧ idIn l id = false := by
 unfold addE at h
 by_cases h0 : id < 0
 ·rw [if_pos h0] at h;cases h
 ·rw [if_neg h0] at h
  cases hs : c.sound with
  | false => rw [hs] at h;simp at h
  |true =>
   rw [hs] at h
   cases hi : idIn l id with
   | true => rw [hi] at h;simp at h
   | false => exact ⟨by omega,rfl,rfl⟩
set_option maxRecDepth 100000 in
theorem q90 {I : List Nat → List Int} {M : Nat → Option Ent} {A : List Nat → Option Nat} {V : List Nat → Value} (T : TrM I M A V) (es : List (List Int × PV)) (k : Cube) (hk : pathC k = []) :
  MCalls Try.prog 36 [.loc 1000 0,.p (.agg (cb k))] (trL A V M es)
   (fun rs L => ∃ r : {r : (List Nat → Option Nat) × (List Nat → Value) × (Nat → Option Ent) // TrM I r.2.2 r.1 r.2.1},rs = [.loc 1000 0] ∧ L = trL r.val.1 r.val.2.1 r.val.2.2 es) :=
 (j87 T es k).mono fun rs L ⟨r,h1,h2⟩ => ⟨⟨r.val,r.property.1⟩,h1.trans ((show ∀ q,q = [] → [atAV r.val.1 q] = [.loc 1000 0] from fun q e => by subst e;rfl) _ hk),h2⟩
set_option maxRecDepth 100000 in
theorem z90 {I : List Nat → List Int} {M : Nat → Option Ent} {A : List Nat → Option Nat} {V : List Nat → Value} (T : TrM I M A V) (es : List (List Int × PV)) (k : Cube) (hk : pathC k ≠ []) :
  MCalls Try.prog 36 [.loc 1000 0,.p (.agg (cb k))] (trL A V M es)
   (fun rs L => ∃ r : {r : (List Nat → Option Nat) × (List Nat → Value) × (Nat → Option Ent) × Nat // TrM I r.2.2.1 r.1 r.2.1 ∧ r.1 (pathC k) = some r.2.2.2},rs = [.p (.d (.v (.pointer (some ⟨r.val.2.2.2,0,none⟩))))] ∧ L = trL r.val.1 r.val.2.1 r.val.2.2.1 es) :=
 (j87 T es k).mono fun rs L ⟨r,h1,h2⟩ => by
  obtain ⟨b,hb⟩ := j43 r.property.2 hk
  exact ⟨⟨(r.val.1,r.val.2.1,r.val.2.2,b),r.property.1,hb⟩,h1.trans (by rw [j18 hb hk]),h2⟩
theorem j44 {M' : Nat → Option Ent} {b2 c3 n : Nat} {zs : List Int} {id : Int} {f : Nat → List Dat} (hn : zs.length = n) (hle : n + 1 ≤ c3) (hb : M' b2 = some ⟨3,1,c3,n + 1,catF n f fun i => [[Dat.v (.int .i64 id)]].getD i []⟩) (hf : ∀ k,k < n → f k = rowZ zs k) :
  IdsV M' (.slice (some ⟨b2,0,none⟩) (n + 1) c3) (zs ++ [id]) := by
 subst hn
 have e : (zs ++ [id]).length = zs.length + 1 := by simp
 refine .inr ⟨b2,c3,_,by rw [e],by omega,by rw [e];exact hb,fun k hk => ?_⟩
 rw [e] at hk
 have h2 := j131 zs id k hk
 rw [← h2]
 unfold catF
 split
 ·exact hf k ‹_›
 ·rfl
set_option maxRecDepth 100000 in
theorem x90 {l : Items} {M : Nat → Option Ent} {A : List Nat → Option Nat} {V : List Nat → Value} (T : TrM (idsAt l) M A V) (id : Int) (c : Cube) (h : addE l id c = 0) (hl : l.length < 1099511627776) (hp0 : pathC c = []) :
  MCalls Try.prog 13 [.loc 1000 0,.p (.d (.v (.int .i64 id))),.p (.agg (cb c))] (trL A V M (esI l))
   (fun rs L => ∃ r : {r : (List Nat → Option Nat) × (List Nat → Value) × (Nat → Option Ent) // TrM (idsAt (l ++ [(id,c)])) r.2.2 r.1 r.2.1},rs = [.p (.d (.v (.int .i64 0)))] ∧ L = trL r.val.1 r.val.2.1 r.val.2.2 (esI (l ++ [(id,c)]))) := by
 obtain ⟨h0,hcs,hi⟩ := j89 h
 have hs := x42 c
 rw [hcs] at hs
 have q0 : decide (id < 0) = false := decide_eq_false (by omega)
 have q1 := (z44 hi).1
 have q2 := q88 (c := c) hi
 have hp := q90 T (esI (l ++ [(id,c)])) c hp0
 have hI := j88 l id c
 unfold cb at q2
 unfold trL trC at *
 refine z16 Try.func13 rfl (by decide +kernel) (by rw [Try.ntmps13];simp) (fun l X h => by simp only [AL.look] at h;(repeat' split at h);all_goals first | omega | cases h) ?_;rw [Try.ntmps13];simp only [frA]
 (repeat ((fail_if_success (show AWP _ _ (.region 9 _ _) _ _));first | apply x4 | refine j7 rfl ?_ | refine q8 rfl ?_ | apply j6 | (refine j0 fun K hK => ?_) | (refine j4 fun K hK => ?_) | ((first | apply x6 | apply z7 | ((first | refine j5 (hK _ ?_) | refine z6 (hK _ _ x5 ?_));clear hK K));(first | show AWP _ _ _ _ _ | ((try simp only [x7]);first | show loopQ _ _ _ _ _ _ | show cutQ _ _ _ _ | show AWP _ _ _ _ _))) | ((first | refine q10 rfl rfl rfl ?_ | refine z10 rfl rfl rfl ?_);simp (disch:=omega) only [go_sem,seval,hd,cb,q0,q1,q2];(first | refine ⟨_,hs,?_⟩)) | ((first | refine z8 [] rfl ?_ | refine x8 [] rfl ?_);simp (disch:=omega) only [go_sem,seval,hd,cb,q0,q1,q2];(repeat (first | refine ⟨by omega,?_⟩ | refine ⟨True.intro,?_⟩)))))
 refine j0 fun K hK => ?_
 iterate 2 ((first | refine j13 [] rfl rfl ?_ | refine q14 [] rfl rfl ?_ | refine z13 rfl rfl ?_ | refine x13 rfl rfl ?_);simp (disch:=omega) only [go_sem,seval,hd,cb,q0,q1,q2];(repeat (first | refine ⟨by omega,?_⟩ | refine ⟨True.intro,?_⟩)))
 (refine z21 (x20 [(1000,1000),(1001,1001),(1999,1999)] rfl rfl rfl rfl rfl rfl (hp) (fun _ => rfl) (q12 (by repeat (first | exact trivial | refine ⟨rfl,?_⟩)) (by kernel_rfl)) (fun _ => (q12 (by repeat (first | exact trivial | refine ⟨rfl,?_⟩)) (by kernel_rfl)))) ?_);rintro ⟨⟨A1,V1,M1⟩,T1⟩;simp (disch:=omega) only [go_sem,seval,hd,cb,q0,q1,q2]
 simp only [] at T1
 have hp1 := z86 A1
 (repeat ((fail_if_success (show AWP _ _ (.region 10 _ _) _ _));first | apply x4 | refine j7 rfl ?_ | refine q8 rfl ?_ | apply j6 | (refine j0 fun K hK => ?_) | (refine j4 fun K hK => ?_) | ((first | apply x6 | apply z7 | ((first | refine j5 (hK _ ?_) | refine z6 (hK _ _ x5 ?_));clear hK K));(first | show AWP _ _ _ _ _ | ((try simp only [x7]);first | show loopQ _ _ _ _ _ _ | show cutQ _ _ _ _ | show AWP _ _ _ _ _))) | ((first | refine z8 [] rfl ?_ | refine x8 [] rfl ?_);simp (disch:=omega) only [go_sem,seval,hd,cb,q0,q1,q2];(repeat (first | refine ⟨by omega,?_⟩ | refine ⟨True.intro,?_⟩)))))
 generalize esI (l ++ [(id,c)]) = es at *
 rw [hI]
 have hlen := x44 l (pathC c)
 generalize pathC c = p at *
 subst hp0
 rcases T1.ids [] hp1 with ⟨hI0,hV⟩ | ⟨b,c2,f,hV,hle,hb,hf⟩
 ·rw [hI0]
  refine j0 fun K hK => ?_
  iterate 5 ((first | refine j13 [] rfl rfl ?_ | refine q14 [] rfl rfl ?_ | refine z13 rfl rfl ?_ | refine x13 rfl rfl ?_);simp (disch:=omega) only [go_sem,seval,hd,cb,hV];(repeat (first | refine ⟨by omega,?_⟩ | refine ⟨True.intro,?_⟩)))
  refine x41 (Weak.own _ 44 600 1 3 (rowZ []) rfl (by kernel_rfl) rfl) ?_
  have hF : Freed M1 (V1 []) M1 := .inl ⟨hV,rfl⟩
  iterate 3 ((first | refine j13 [] rfl rfl ?_ | refine q14 [] rfl rfl ?_ | refine z13 rfl rfl ?_ | refine x13 rfl rfl ?_);simp (disch:=omega) only [go_sem,seval,hd,cb,hV];(repeat (first | refine ⟨by omega,?_⟩ | refine ⟨True.intro,?_⟩)))
  refine x21 (WeakX.packRow _ 47 600 _ _ _ _ _ _ rfl rfl rfl (by decide)) ?_
  rintro _ ⟨v,M3,hpk,rfl⟩
  rcases hpk with ⟨h0,_⟩ | ⟨b2,c3,hle3,hb2,rfl,rfl⟩
  ·simp at h0
  (repeat (first | apply x4 | refine j7 rfl ?_ | refine q8 rfl ?_ | apply j6 | (refine j0 fun K hK => ?_) | (refine j4 fun K hK => ?_) | ((first | apply x6 | apply z7 | ((first | refine j5 (hK _ ?_) | refine z6 (hK _ _ x5 ?_));clear hK K));(first | show AWP _ _ _ _ _ | ((try simp only [x7]);first | show loopQ _ _ _ _ _ _ | show cutQ _ _ _ _ | show AWP _ _ _ _ _))) | ((first | refine z8 [] rfl ?_ | refine x8 [] rfl ?_);simp (disch:=omega) only [go_sem,seval,hd,cb,hV,x14];(repeat (first | refine ⟨by omega,?_⟩ | refine ⟨True.intro,?_⟩)))))
  have T2 := T1.row (M' := (setM M1 b2 (some ⟨3,1,c3,(0 + 1),catF 0 (rowZ []) fun i => [[Dat.v (.int .i64 id)]].getD i []⟩))) (n := (0 + 1)) (c2 := c3) (l := [] ++ [id]) hp1 hF hb2 (j44 (zs := []) (f := (rowZ [])) rfl (by omega) (q13 _ _ _) (fun k hk => rfl)) (fun b e => by rw [T1.root] at e;cases e) (fun c hc _ => x12 _ _ hc)
  have c0 := q20 V1 [] (.slice (some ⟨b2,0,none⟩) (0 + 1) c3)
  refine j9 ?_
  refine (x16 ⟨⟨(A1,updV V1 [] (.slice (some ⟨b2,0,none⟩) (0 + 1) c3),(setM M1 b2 (some ⟨3,1,c3,(0 + 1),catF 0 (rowZ []) fun i => [[Dat.v (.int .i64 id)]].getD i []⟩))),T2⟩,rfl,rfl⟩ ?_ ?_).1
  ·exact ⟨rfl,trivial⟩
  ·simp only [c0]
   simp [AL.look,x14]
 ·generalize hn : (idsAt l []).length = n at *
  generalize hzs : idsAt l [] = zs at *
  refine j0 fun K hK => ?_
  iterate 5 ((first | refine j13 [] rfl rfl ?_ | refine q14 [] rfl rfl ?_ | refine z13 rfl rfl ?_ | refine x13 rfl rfl ?_);simp (disch:=omega) only [go_sem,seval,hd,cb,hV];(repeat (first | refine ⟨by omega,?_⟩ | refine ⟨True.intro,?_⟩)))
  refine x41 (Weak.focus _ 44 600 b c2 1 n 3 f M1 rfl rfl hb (by kernel_rfl) rfl) ?_
  have hF : Freed M1 (V1 []) (setM M1 b none) := .inr ⟨b,n,c2,hV,rfl⟩
  iterate 3 ((first | refine j13 [] rfl rfl ?_ | refine q14 [] rfl rfl ?_ | refine z13 rfl rfl ?_ | refine x13 rfl rfl ?_);simp (disch:=omega) only [go_sem,seval,hd,cb,hV];(repeat (first | refine ⟨by omega,?_⟩ | refine ⟨True.intro,?_⟩)))
  refine x21 (WeakX.packRow _ 47 600 _ _ _ _ _ _ rfl rfl rfl (by decide)) ?_
  rintro _ ⟨v,M3,hpk,rfl⟩
  rcases hpk with ⟨h0,_⟩ | ⟨b2,c3,hle3,hb2,rfl,rfl⟩
  ·simp at h0
  (repeat (first | apply x4 | refine j7 rfl ?_ | refine q8 rfl ?_ | apply j6 | (refine j0 fun K hK => ?_) | (refine j4 fun K hK => ?_) | ((first | apply x6 | apply z7 | ((first | refine j5 (hK _ ?_) | refine z6 (hK _ _ x5 ?_));clear hK K));(first | show AWP _ _ _ _ _ | ((try simp only [x7]);first | show loopQ _ _ _ _ _ _ | show cutQ _ _ _ _ | show AWP _ _ _ _ _))) | ((first | refine z8 [] rfl ?_ | refine x8 [] rfl ?_);simp (disch:=omega) only [go_sem,seval,hd,cb,hV,x14];(repeat (first | refine ⟨by omega,?_⟩ | refine ⟨True.intro,?_⟩)))))
  have hzn : zs.length = n := hn
  have T2 := T1.row (M' := (setM (setM M1 b none) b2 (some ⟨3,1,c3,(n + 1),catF n f fun i => [[Dat.v (.int .i64 id)]].getD i []⟩))) (n := (n + 1)) (c2 := c3) (l := zs ++ [id]) hp1 hF hb2 (j44 (zs := zs) (f := f) hzn (by omega) (q13 _ _ _) hf) (fun b e => by rw [T1.root] at e;cases e) (fun c hc _ => x12 _ _ hc)
  have c0 := q20 V1 [] (.slice (some ⟨b2,0,none⟩) (n + 1) c3)
  refine j9 ?_
  refine (x16 ⟨⟨(A1,updV V1 [] (.slice (some ⟨b2,0,none⟩) (n + 1) c3),(setM (setM M1 b none) b2 (some ⟨3,1,c3,(n + 1),catF n f fun i => [[Dat.v (.int .i64 id)]].getD i []⟩))),T2⟩,rfl,rfl⟩ ?_ ?_).1
  ·exact ⟨rfl,trivial⟩
  ·simp only [c0]
   simp [AL.look,x14]
set_option maxRecDepth 100000 in
theorem j90 {l : Items} {M : Nat → Option Ent} {A : List Nat → Option Nat} {V : List Nat → Value} (T : TrM (idsAt l) M A V) (id : Int) (c : Cube) (h : addE l id c = 0) (hl : l.length < 1099511627776) (hp0 : pathC c ≠ []) :
  MCalls Try.prog 13 [.loc 1000 0,.p (.d (.v (.int .i64 id))),.p (.agg (cb c))] (trL A V M (esI l))
   (fun rs L => ∃ r : {r : (List Nat → Option Nat) × (List Nat → Value) × (Nat → Option Ent) // TrM (idsAt (l ++ [(id,c)])) r.2.2 r.1 r.2.1},rs = [.p (.d (.v (.int .i64 0)))] ∧ L = trL r.val.1 r.val.2.1 r.val.2.2 (esI (l ++ [(id,c)]))) := by
 obtain ⟨h0,hcs,hi⟩ := j89 h
 have hs := x42 c
 rw [hcs] at hs
 have q0 : decide (id < 0) = false := decide_eq_false (by omega)
 have q1 := (z44 hi).1
 have q2 := q88 (c := c) hi
 have hp := z90 T (esI (l ++ [(id,c)])) c hp0
 have hI := j88 l id c
 unfold cb at q2
 unfold trL trC at *
 refine z16 Try.func13 rfl (by decide +kernel) (by rw [Try.ntmps13];simp) (fun l X h => by simp only [AL.look] at h;(repeat' split at h);all_goals first | omega | cases h) ?_;rw [Try.ntmps13];simp only [frA]
 (repeat ((fail_if_success (show AWP _ _ (.region 9 _ _) _ _));first | apply x4 | refine j7 rfl ?_ | refine q8 rfl ?_ | apply j6 | (refine j0 fun K hK => ?_) | (refine j4 fun K hK => ?_) | ((first | apply x6 | apply z7 | ((first | refine j5 (hK _ ?_) | refine z6 (hK _ _ x5 ?_));clear hK K));(first | show AWP _ _ _ _ _ | ((try simp only [x7]);first | show loopQ _ _ _ _ _ _ | show cutQ _ _ _ _ | show AWP _ _ _ _ _))) | ((first | refine q10 rfl rfl rfl ?_ | refine z10 rfl rfl rfl ?_);simp (disch:=omega) only [go_sem,seval,hd,cb,q0,q1,q2];(first | refine ⟨_,hs,?_⟩)) | ((first | refine z8 [] rfl ?_ | refine x8 [] rfl ?_);simp (disch:=omega) only [go_sem,seval,hd,cb,q0,q1,q2];(repeat (first | refine ⟨by omega,?_⟩ | refine ⟨True.intro,?_⟩)))))
 refine j0 fun K hK => ?_
 iterate 2 ((first | refine j13 [] rfl rfl ?_ | refine q14 [] rfl rfl ?_ | refine z13 rfl rfl ?_ | refine x13 rfl rfl ?_);simp (disch:=omega) only [go_sem,seval,hd,cb,q0,q1,q2];(repeat (first | refine ⟨by omega,?_⟩ | refine ⟨True.intro,?_⟩)))
 (refine z21 (x20 [(1000,1000),(1001,1001),(1999,1999)] rfl rfl rfl rfl rfl rfl (hp) (fun _ => rfl) (q12 (by repeat (first | exact trivial | refine ⟨rfl,?_⟩)) (by kernel_rfl)) (fun _ => (q12 (by repeat (first | exact trivial | refine ⟨rfl,?_⟩)) (by kernel_rfl)))) ?_);rintro ⟨⟨A1,V1,M1,b0⟩,T1,hb0⟩;simp (disch:=omega) only [go_sem,seval,hd,cb,q0,q1,q2]
 simp only [] at T1 hb0
 have hp1 := j17 hb0
 (repeat ((fail_if_success (show AWP _ _ (.region 10 _ _) _ _));first | apply x4 | refine j7 rfl ?_ | refine q8 rfl ?_ | apply j6 | (refine j0 fun K hK => ?_) | (refine j4 fun K hK => ?_) | ((first | apply x6 | apply z7 | ((first | refine j5 (hK _ ?_) | refine z6 (hK _ _ x5 ?_));clear hK K));(first | show AWP _ _ _ _ _ | ((try simp only [x7]);first | show loopQ _ _ _ _ _ _ | show cutQ _ _ _ _ | show AWP _ _ _ _ _))) | ((first | refine z8 [] rfl ?_ | refine x8 [] rfl ?_);simp (disch:=omega) only [go_sem,seval,hd,cb,q0,q1,q2];(repeat (first | refine ⟨by omega,?_⟩ | refine ⟨True.intro,?_⟩)))))
 generalize esI (l ++ [(id,c)]) = es at *
 rw [hI]
 have hlen := x44 l (pathC c)
 generalize pathC c = p at *
 obtain ⟨f0,hMb,hf0⟩ := T1.node p b0 hb0
 unfold nodeC at hf0
 rcases T1.ids p hp1 with ⟨hI0,hV⟩ | ⟨b,c2,f,hV,hle,hb,hf⟩
 ·rw [hI0]
  rw [hV] at hf0
  refine j0 fun K hK => ?_
  iterate 5 ((first | refine j13 [] rfl rfl ?_ | refine q14 [] rfl rfl ?_ | refine z13 rfl rfl ?_ | refine x13 rfl rfl ?_);simp (disch:=omega) only [go_sem,seval,hd,cb,hV,hMb,hf0];(repeat (first | refine ⟨by omega,?_⟩ | refine ⟨True.intro,?_⟩)))
  refine x41 (Weak.own _ 44 600 1 3 (rowZ []) rfl (by kernel_rfl) rfl) ?_
  have hF : Freed M1 (V1 p) M1 := .inl ⟨hV,rfl⟩
  iterate 3 ((first | refine j13 [] rfl rfl ?_ | refine q14 [] rfl rfl ?_ | refine z13 rfl rfl ?_ | refine x13 rfl rfl ?_);simp (disch:=omega) only [go_sem,seval,hd,cb,hV,hMb,hf0];(repeat (first | refine ⟨by omega,?_⟩ | refine ⟨True.intro,?_⟩)))
  refine x21 (WeakX.packRow _ 47 600 _ _ _ _ _ _ rfl rfl rfl (by decide)) ?_
  rintro _ ⟨v,M3,hpk,rfl⟩
  rcases hpk with ⟨h0,_⟩ | ⟨b2,c3,hle3,hb2,rfl,rfl⟩
  ·simp at h0
  have hne2 : b0 ≠ b2 := fun e => by rw [← e,hMb] at hb2;cases hb2
  have hMb3 := fun E => (x12 M1 E hne2).trans hMb
  (repeat (first | apply x4 | refine j7 rfl ?_ | refine q8 rfl ?_ | apply j6 | (refine j0 fun K hK => ?_) | (refine j4 fun K hK => ?_) | ((first | apply x6 | apply z7 | ((first | refine j5 (hK _ ?_) | refine z6 (hK _ _ x5 ?_));clear hK K));(first | show AWP _ _ _ _ _ | ((try simp only [x7]);first | show loopQ _ _ _ _ _ _ | show cutQ _ _ _ _ | show AWP _ _ _ _ _))) | ((first | refine z8 [] rfl ?_ | refine x8 [] rfl ?_);simp (disch:=omega) only [go_sem,seval,hd,cb,hV,x14,hMb3,hf0];(repeat (first | refine ⟨by omega,?_⟩ | refine ⟨True.intro,?_⟩)))))
  have hf2 : putEl f0 0 3 [.v (.slice (some ⟨b2,0,none⟩) (0 + 1) c3)] 0 = nodeC A1 (updV V1 p (.slice (some ⟨b2,0,none⟩) (0 + 1) c3)) p := by
   unfold putEl nodeC
   rw [if_pos rfl,hf0,q20];rfl
  have T2 := T1.row (M' := (setM (setM M1 b2 (some ⟨3,1,c3,(0 + 1),catF 0 (rowZ []) fun i => [[Dat.v (.int .i64 id)]].getD i []⟩)) b0 (some ⟨94,4,1,1,putEl f0 0 3 [.v (.slice (some ⟨b2,0,none⟩) (0 + 1) c3)]⟩))) (n := (0 + 1)) (c2 := c3) (l := [] ++ [id]) hp1 hF hb2 (j44 (zs := []) (f := (rowZ [])) rfl (by omega) ((x12 _ _ (Ne.symm hne2)).trans (q13 _ _ _)) (fun k hk => rfl)) (fun b e => by rw [hb0] at e;cases e;exact ⟨_,q13 _ _ _,hf2⟩) (fun c hc hc2 => (x12 _ _ (fun e => hc2 (by rw [e];exact hb0))).trans (x12 _ _ hc))
  have c0 := q16 V1 (.slice (some ⟨b2,0,none⟩) (0 + 1) c3) (Ne.symm hp0)
  refine j9 ?_
  refine (x16 ⟨⟨(A1,updV V1 p (.slice (some ⟨b2,0,none⟩) (0 + 1) c3),(setM (setM M1 b2 (some ⟨3,1,c3,(0 + 1),catF 0 (rowZ []) fun i => [[Dat.v (.int .i64 id)]].getD i []⟩)) b0 (some ⟨94,4,1,1,putEl f0 0 3 [.v (.slice (some ⟨b2,0,none⟩) (0 + 1) c3)]⟩))),T2⟩,rfl,rfl⟩ ?_ ?_).1
  ·exact ⟨rfl,trivial⟩
  ·simp only [c0]
   simp [AL.look,x14]
 ·generalize hn : (idsAt l p).length = n at *
  generalize hzs : idsAt l p = zs at *
  rw [hV] at hf0
  refine j0 fun K hK => ?_
  iterate 5 ((first | refine j13 [] rfl rfl ?_ | refine q14 [] rfl rfl ?_ | refine z13 rfl rfl ?_ | refine x13 rfl rfl ?_);simp (disch:=omega) only [go_sem,seval,hd,cb,hV,hMb,hf0];(repeat (first | refine ⟨by omega,?_⟩ | refine ⟨True.intro,?_⟩)))
  refine x41 (Weak.focus _ 44 600 b c2 1 n 3 f M1 rfl rfl hb (by kernel_rfl) rfl) ?_
  have hF : Freed M1 (V1 p) (setM M1 b none) := .inr ⟨b,n,c2,hV,rfl⟩
  have hne : b0 ≠ b := fun e => T1.nodeInt hb0 (e ▸ hb)
  have hMb2 := (x12 M1 none hne).trans hMb
  iterate 3 ((first | refine j13 [] rfl rfl ?_ | refine q14 [] rfl rfl ?_ | refine z13 rfl rfl ?_ | refine x13 rfl rfl ?_);simp (disch:=omega) only [go_sem,seval,hd,cb,hV,hMb,hf0];(repeat (first | refine ⟨by omega,?_⟩ | refine ⟨True.intro,?_⟩)))
  refine x21 (WeakX.packRow _ 47 600 _ _ _ _ _ _ rfl rfl rfl (by decide)) ?_
  rintro _ ⟨v,M3,hpk,rfl⟩
  rcases hpk with ⟨h0,_⟩ | ⟨b2,c3,hle3,hb2,rfl,rfl⟩
  ·simp at h0
  have hne2 : b0 ≠ b2 := fun e => by rw [← e,hMb2] at hb2;cases hb2
  have hMb3 := fun E => (x12 (setM M1 b none) E hne2).trans hMb2
  (repeat (first | apply x4 | refine j7 rfl ?_ | refine q8 rfl ?_ | apply j6 | (refine j0 fun K hK => ?_) | (refine j4 fun K hK => ?_) | ((first | apply x6 | apply z7 | ((first | refine j5 (hK _ ?_) | refine z6 (hK _ _ x5 ?_));clear hK K));(first | show AWP _ _ _ _ _ | ((try simp only [x7]);first | show loopQ _ _ _ _ _ _ | show cutQ _ _ _ _ | show AWP _ _ _ _ _))) | ((first | refine z8 [] rfl ?_ | refine x8 [] rfl ?_);simp (disch:=omega) only [go_sem,seval,hd,cb,hV,x14,hMb3,hf0];(repeat (first | refine ⟨by omega,?_⟩ | refine ⟨True.intro,?_⟩)))))
  have hzn : zs.length = n := hn
  have hf2 : putEl f0 0 3 [.v (.slice (some ⟨b2,0,none⟩) (n + 1) c3)] 0 = nodeC A1 (updV V1 p (.slice (some ⟨b2,0,none⟩) (n + 1) c3)) p := by
   unfold putEl nodeC
   rw [if_pos rfl,hf0,q20];rfl
  have T2 := T1.row (M' := (setM (setM (setM M1 b none) b2 (some ⟨3,1,c3,(n + 1),catF n f fun i => [[Dat.v (.int .i64 id)]].getD i []⟩)) b0 (some ⟨94,4,1,1,putEl f0 0 3 [.v (.slice (some ⟨b2,0,none⟩) (n + 1) c3)]⟩))) (n := (n + 1)) (c2 := c3) (l := zs ++ [id]) hp1 hF hb2 (j44 (zs := zs) (f := f) hzn (by omega) ((x12 _ _ (Ne.symm hne2)).trans (q13 _ _ _)) hf) (fun b e => by rw [hb0] at e;cases e;exact ⟨_,q13 _ _ _,hf2⟩) (fun c hc hc2 => (x12 _ _ (fun e => hc2 (by rw [e];exact hb0))).trans (x12 _ _ hc))
  have c0 := q16 V1 (.slice (some ⟨b2,0,none⟩) (n + 1) c3) (Ne.symm hp0)
  refine j9 ?_
  refine (x16 ⟨⟨(A1,updV V1 p (.slice (some ⟨b2,0,none⟩) (n + 1) c3),(setM (setM (setM M1 b none) b2 (some ⟨3,1,c3,(n + 1),catF n f fun i => [[Dat.v (.int .i64 id)]].getD i []⟩)) b0 (some ⟨94,4,1,1,putEl f0 0 3 [.v (.slice (some ⟨b2,0,none⟩) (n + 1) c3)]⟩))),T2⟩,rfl,rfl⟩ ?_ ?_).1
  ·exact ⟨rfl,trivial⟩
  ·simp only [c0]
   simp [AL.look,x14]
theorem q91 (n id : Int) : ACalls Try.prog 45 [.d (.v (.int .i64 n)),.d (.bx [.v (.int .i64 id)])] (· = [.d (.v (.bool (n == id)))]) := by
 refine j12 Try.func45 rfl (by decide +kernel) (by rw [Try.ntmps45];simp) ?_;rw [Try.ntmps45];simp only [frOf]
 (repeat (first | apply x4 | refine j7 rfl ?_ | refine q8 rfl ?_ | apply j6 | (refine j0 fun K hK => ?_) | (refine j4 fun K hK => ?_) | ((first | apply x6 | apply z7 | ((first | refine j5 (hK _ ?_) | refine z6 (hK _ _ x5 ?_));clear hK K));(first | show AWP _ _ _ _ _ | ((try simp only [x7]);first | show loopQ _ _ _ _ _ _ | show cutQ _ _ _ _ | show AWP _ _ _ _ _))) | ((first | refine z8 [] rfl ?_ | refine x8 [] rfl ?_);simp (disch:=omega) only [go_sem,seval];(repeat (first | refine ⟨by omega,?_⟩ | refine ⟨True.intro,?_⟩)))))
 refine j9 ⟨_,?_,rfl⟩;rw [Try.results45];simp (disch:=omega) only [ResVars,ResVar,ptrLoc,go_sem,seval]
def eqF (id : Int) : PV := .fn (.func 45) [] [.d (.bx [.v (.int .i64 id)])]
structure IfS (zs : List Int) (id : Int) where
 i : Nat
 hi : i ≤ zs.idxOf id
def ifI (zs : List Int) (id : Int) (s : IfS zs id) : ASt :=
 ⟨[(8,.p (.d (.v (.int .i64 (s.i : Int))))),(7,.p (.d (.v (.int .i64 (zs.length : Int))))),(1,.p (eqF id)),(0,.p (.d (.sl 1 zs.length (rowZ zs))))],[]⟩
theorem z91 {id : Int} : ∀ (zs : List Int) (i : Nat) (h : i < zs.length),zs[i] = id → zs.idxOf id ≤ i
 | [],i,h,_ => by simp at h
 |x :: l,i,h,e => by
  rw [List.idxOf_cons]
  by_cases hx : x = id
  ·simp [hx]
  ·have : (x == id) = false := by simpa using hx
   rw [this]
   simp only [cond_false]
   cases i with
   | zero => exact absurd (by simpa using e) hx
   |succ i =>
    have := z91 l i (by simpa using h) (by simpa using e)
    omega
theorem setM_id {M : Nat → Option Ent} {b : Nat} {E : Ent} (h : M b = some E) : setM M b (some E) = M := by
 funext k;unfold setM;split
 ·rename_i e;rw [e,h]
 ·rfl
theorem j140 {zs : List Int} {id : Int} (hm : id ∈ zs) {i : Nat} (hi : i ≤ zs.idxOf id) : (zs.getD i 0 == id) = decide (i = zs.idxOf id) := by
 have hlt := List.idxOf_lt_length_of_mem hm
 rw [List.getD_eq_getElem?_getD,List.getElem?_eq_getElem (by omega),Option.getD_some]
 by_cases e : i = zs.idxOf id
 ·subst e
  rw [List.getElem_idxOf hlt];simp
 ·have hne : ¬ zs[i] = id := fun h => by
   have := z91 zs i (by omega) h
   omega
  rw [decide_eq_false e,beq_eq_false_iff_ne];exact hne
set_option maxRecDepth 100000 in
theorem q141 (zs : List Int) (id : Int) (hm : id ∈ zs) (hl : zs.length ≤ 1099511627776) : ACalls Try.prog 78 [.d (.sl 1 zs.length (rowZ zs)),eqF id] (· = [.d (.v (.int .i64 (zs.idxOf id : Int)))]) := by
 have hlt := List.idxOf_lt_length_of_mem hm
 unfold eqF
 refine j12 Try.func78 rfl (by decide +kernel) (by rw [Try.ntmps78];simp) ?_;rw [Try.ntmps78];simp only [frOf]
 (repeat (first | apply x4 | refine j7 rfl ?_ | refine q8 rfl ?_ | apply j6 | (refine j0 fun K hK => ?_) | (refine j4 fun K hK => ?_) | ((first | apply x6 | apply z7 | ((first | refine j5 (hK _ ?_) | refine z6 (hK _ _ x5 ?_));clear hK K));(first | show AWP _ _ _ _ _ | ((try simp only [x7]);first | show loopQ _ _ _ _ _ _ | show cutQ _ _ _ _ | show AWP _ _ _ _ _))) | ((first | refine z8 [] rfl ?_ | refine x8 [] rfl ?_);simp (disch:=omega) only [go_sem,seval];(repeat (first | refine ⟨by omega,?_⟩ | refine ⟨True.intro,?_⟩)))))
 refine x19 (ifI zs id) (fun s => zs.length - s.i) ⟨0,by omega⟩ ?_ (fun s => ?_)
 ·unfold ifI eqF
  refine Weak.list ?_ ?_;(all_goals simp (disch:=omega) only [AllF,AllL,q11,z11,j10,exists_eq_left',go_sem,seval]);(all_goals (repeat' (with_reducible apply And.intro)));(all_goals try (first | exact j8 rfl | (refine x11 ?_;omega) | (refine j8 ?_;simp;done)))
 obtain ⟨i,hi⟩ := s
 unfold ifI eqF
 simp only []
 have r1 := j34 zs i
 have hx := j140 hm hi
 have ke := q91 (zs.getD i 0) id
 rw [hx] at ke
 generalize zs.getD i 0 = x at *
 by_cases e : i = zs.idxOf id
 ·rw [decide_eq_true e] at ke
  rw [← e]
  (repeat (first | apply x4 | refine j7 rfl ?_ | refine q8 rfl ?_ | apply j6 | (refine j0 fun K hK => ?_) | (refine j4 fun K hK => ?_) | ((first | apply x6 | apply z7 | ((first | refine j5 (hK _ ?_) | refine z6 (hK _ _ x5 ?_));clear hK K));(first | show AWP _ _ _ _ _ | ((try simp only [x7]);first | show loopQ _ _ _ _ _ _ | show cutQ _ _ _ _ | show AWP _ _ _ _ _))) | ((first | refine q10 rfl rfl rfl ?_ | refine z10 rfl rfl rfl ?_);simp (disch:=omega) only [go_sem,seval,r1];(first | refine ⟨_,ke,?_⟩)) | ((first | refine z8 [] rfl ?_ | refine x8 [] rfl ?_);simp (disch:=omega) only [go_sem,seval,r1];(repeat (first | refine ⟨by omega,?_⟩ | refine ⟨True.intro,?_⟩)))))
  refine j9 ⟨_,?_,rfl⟩;rw [Try.results78];simp (disch:=omega) only [ResVars,ResVar,ptrLoc,go_sem,seval,r1]
 ·rw [decide_eq_false e] at ke
  (repeat (first | apply x4 | refine j7 rfl ?_ | refine q8 rfl ?_ | apply j6 | (refine j0 fun K hK => ?_) | (refine j4 fun K hK => ?_) | ((first | apply x6 | apply z7 | ((first | refine j5 (hK _ ?_) | refine z6 (hK _ _ x5 ?_));clear hK K));(first | show AWP _ _ _ _ _ | ((try simp only [x7]);first | show loopQ _ _ _ _ _ _ | show cutQ _ _ _ _ | show AWP _ _ _ _ _))) | ((first | refine q10 rfl rfl rfl ?_ | refine z10 rfl rfl rfl ?_);simp (disch:=omega) only [go_sem,seval,r1];(first | refine ⟨_,ke,?_⟩)) | ((first | refine z8 [] rfl ?_ | refine x8 [] rfl ?_);simp (disch:=omega) only [go_sem,seval,r1];(repeat (first | refine ⟨by omega,?_⟩ | refine ⟨True.intro,?_⟩)))))
  refine ⟨⟨i + 1,by omega⟩,by simp only [];omega,?_⟩
  refine Weak.list ?_ ?_;(all_goals simp (disch:=omega) only [AllF,AllL,q11,z11,j10,exists_eq_left',go_sem,seval,r1]);(all_goals (repeat' (with_reducible apply And.intro)));(all_goals try (first | exact j8 rfl | (refine x11 ?_;omega) | (refine j8 ?_;simp;done)))
def movF (zs : List Int) (i j k : Nat) : List Dat := if i ≤ k ∧ k + 1 < j then rowZ zs (k + 1) else rowZ zs k
structure DfS (zs : List Int) (id : Int) (b c : Nat) (M0 : Nat → Option Ent) where
 j : Nat
 f : Nat → List Dat
 hj : zs.idxOf id < j ∧ j ≤ zs.length
 hf : ∀ k,k < zs.length → f k = movF zs (zs.idxOf id) j k
def dfI (zs : List Int) (id : Int) (b c : Nat) (M0 : Nat → Option Ent) (s : DfS zs id b c M0) : ASt :=
 ⟨[(6,.p (.d (.v (.int .i64 (s.j : Int))))),(5,.p (.d (.v (.int .i64 ((s.j : Int) - 1))))),(1,.p (eqF id)),(0,.p (.d (.v (.slice (some ⟨b,0,none⟩) zs.length c))))],[(1999,.raw (setM M0 b (some ⟨3,1,c,zs.length,s.f⟩)))]⟩
theorem z141 {zs : List Int} {id : Int} (hu : zs.Nodup) {j : Nat} (hj : zs.idxOf id < j) (hl : j < zs.length) (hm : id ∈ zs) : (zs.getD j 0 == id) = false := by
 have hlt := List.idxOf_lt_length_of_mem hm
 rw [List.getD_eq_getElem?_getD,List.getElem?_eq_getElem hl,Option.getD_some,beq_eq_false_iff_ne]
 intro e
 have := (List.getElem_inj (i := j) (j := zs.idxOf id) (h₀ := hl) (h₁ := hlt) hu).1 (by rw [e,List.getElem_idxOf hlt])
 omega
set_option maxRecDepth 100000 in
theorem x91 (M : Nat → Option Ent) (b c : Nat) (f : Nat → List Dat) (zs : List Int) (id : Int) (hM : M b = some ⟨3,1,c,zs.length,f⟩) (hf : ∀ k,k < zs.length → f k = rowZ zs k) (hm : id ∈ zs) (hu : zs.Nodup) (hc : zs.length ≤ c) (hl : zs.length ≤ 1099511627776) :
  MCalls Try.prog 44 [.p (.d (.v (.slice (some ⟨b,0,none⟩) zs.length c))),.p (eqF id)] [(1999,.raw M)]
   (fun rs L => ∃ r : {f' : Nat → List Dat // ∀ k,k < zs.length - 1 → f' k = movF zs (zs.idxOf id) zs.length k},rs = [.p (.d (.v (.slice (some ⟨b,0,none⟩) (zs.length - 1) c)))] ∧ L = [(1999,.raw (setM M b (some ⟨3,1,c,zs.length - 1,r.val⟩)))]) := by
 have hlt := List.idxOf_lt_length_of_mem hm
 have hrd : RdD M (.v (.slice (some ⟨b,0,none⟩) zs.length c)) (.sl 1 zs.length (rowZ zs)) := HoldR.rd (.inr ⟨b,c,c,f,rfl,hc,hM,hf⟩)
 have ki := q141 zs id hm hl
 have q : ((zs.idxOf id : Int) == -1) = false := q55 (by omega)
 unfold eqF at ki ⊢
 refine z16 Try.func44 rfl (by decide +kernel) (by rw [Try.ntmps44];simp) (fun l X h => by simp only [AL.look] at h;(repeat' split at h);all_goals first | omega | cases h) ?_;rw [Try.ntmps44];simp only [frA]
 (repeat ((fail_if_success (show AWP _ _ (.region 1 _ _) _ _));first | apply x4 | refine j7 rfl ?_ | refine q8 rfl ?_ | apply j6 | (refine j0 fun K hK => ?_) | (refine j4 fun K hK => ?_) | ((first | apply x6 | apply z7 | ((first | refine j5 (hK _ ?_) | refine z6 (hK _ _ x5 ?_));clear hK K));(first | show AWP _ _ _ _ _ | ((try simp only [x7]);first | show loopQ _ _ _ _ _ _ | show cutQ _ _ _ _ | show AWP _ _ _ _ _))) | ((first | refine z8 [] rfl ?_ | refine x8 [] rfl ?_);simp (disch:=omega) only [go_sem,seval,hM,q];(repeat (first | refine ⟨by omega,?_⟩ | refine ⟨True.intro,?_⟩)))))
 refine j0 fun K hK => ?_
 iterate 2 ((first | refine j13 [] rfl rfl ?_ | refine q14 [] rfl rfl ?_ | refine z13 rfl rfl ?_ | refine x13 rfl rfl ?_);simp (disch:=omega) only [go_sem,seval,hM,q];(repeat (first | refine ⟨by omega,?_⟩ | refine ⟨True.intro,?_⟩)))
 (refine q15 _ (z15 [(1999,1999)] rfl rfl rfl rfl rfl rfl (ACalls.borrow (M := M) (xs := [.d (.v (.slice (some ⟨b,0,none⟩) zs.length c)),eqF id]) ki (.cons (.d hrd) (.cons (.refl _) .nil)) (by intro r hr;simp at hr;subst hr;trivial)) rfl (q12 (by repeat (first | exact trivial | refine ⟨rfl,?_⟩)) (by kernel_rfl))) ?_);simp (disch:=omega) only [go_sem,seval,hM,q]
 (repeat (first | apply x4 | refine j7 rfl ?_ | refine q8 rfl ?_ | apply j6 | (refine j0 fun K hK => ?_) | (refine j4 fun K hK => ?_) | ((first | apply x6 | apply z7 | ((first | refine j5 (hK _ ?_) | refine z6 (hK _ _ x5 ?_));clear hK K));(first | show AWP _ _ _ _ _ | ((try simp only [x7]);first | show loopQ _ _ _ _ _ _ | show cutQ _ _ _ _ | show AWP _ _ _ _ _))) | ((first | refine z8 [] rfl ?_ | refine x8 [] rfl ?_);simp (disch:=omega) only [go_sem,seval,hM,q];(repeat (first | refine ⟨by omega,?_⟩ | refine ⟨True.intro,?_⟩)))))
 refine x19 (dfI zs id b c M) (fun s => zs.length - s.j) ⟨zs.idxOf id + 1,f,by omega,fun k hk => by unfold movF;rw [if_neg (by omega)];exact hf k hk⟩ ?_ (fun s => ?_)
 ·unfold dfI eqF
  simp only []
  rw [setM_id hM]
  refine Weak.list ?_ ?_;(all_goals simp (disch:=omega) only [AllF,AllL,q11,z11,j10,exists_eq_left',go_sem,seval,hM,q]);(all_goals (repeat' (with_reducible apply And.intro)));(all_goals try (first | exact j8 rfl | (refine x11 ?_;omega) | (refine j8 ?_;simp;done)))
 obtain ⟨j,g,hj,hg⟩ := s
 unfold dfI eqF
 simp only [] at hj hg ⊢
 have e1 : ((j : Int) - 1).toNat = j - 1 := by omega
 by_cases hjl : j < zs.length
 ·have r1 : g j = [.v (.int .i64 (zs.getD j 0))] := by
   rw [hg j hjl];unfold movF;rw [if_neg (by omega)];rfl
  have hn := z141 hu hj.1 hjl hm
  have ke := q91 (zs.getD j 0) id
  rw [hn] at ke
  have hg2 : ∀ k,k < zs.length → putEl g (j - 1) 0 [.v (.int .i64 (zs.getD j 0))] k = movF zs (zs.idxOf id) (j + 1) k := by
   intro k hk
   unfold putEl
   by_cases e : k = j - 1
   ·rw [if_pos e]
    have hs : ∃ x,g (j - 1) = [x] := by
     rw [hg (j - 1) (by omega)]
     unfold movF
     split <;> exact ⟨_,rfl⟩
    obtain ⟨x,hx⟩ := hs
    rw [hx]
    unfold movF
    rw [if_pos ⟨by omega,by omega⟩,e,show j - 1 + 1 = j by omega]
    rfl
   ·rw [if_neg e,hg k hk]
    unfold movF
    by_cases h : zs.idxOf id ≤ k ∧ k + 1 < j
    ·rw [if_pos h,if_pos ⟨h.1,by omega⟩]
    ·rw [if_neg h,if_neg (by omega)]
  generalize zs.getD j 0 = x at *
  (repeat (first | apply x4 | refine j7 rfl ?_ | refine q8 rfl ?_ | apply j6 | (refine j0 fun K hK => ?_) | (refine j4 fun K hK => ?_) | ((first | apply x6 | apply z7 | ((first | refine j5 (hK _ ?_) | refine z6 (hK _ _ x5 ?_));clear hK K));(first | show AWP _ _ _ _ _ | ((try simp only [x7]);first | show loopQ _ _ _ _ _ _ | show cutQ _ _ _ _ | show AWP _ _ _ _ _))) | ((first | refine q10 rfl rfl rfl ?_ | refine z10 rfl rfl rfl ?_);simp (disch:=omega) only [go_sem,seval,q13,x35,r1,e1];(first | refine ⟨_,ke,?_⟩)) | ((first | refine z8 [] rfl ?_ | refine x8 [] rfl ?_);simp (disch:=omega) only [go_sem,seval,q13,x35,r1,e1];(repeat (first | refine ⟨by omega,?_⟩ | refine ⟨True.intro,?_⟩)))))
  refine ⟨⟨j + 1,putEl g (j - 1) 0 [.v (.int .i64 x)],⟨by omega,by omega⟩,hg2⟩,by simp only [];omega,?_⟩
  refine Weak.list ?_ ?_;(all_goals simp (disch:=omega) only [AllF,AllL,q11,z11,j10,exists_eq_left',go_sem,seval,q13,x35,r1,e1]);(all_goals (repeat' (with_reducible apply And.intro)));(all_goals try (first | exact j8 rfl | (refine x11 ?_;omega) | (refine j8 ?_;simp;done)))
 ·have ej : j = zs.length := by omega
  subst ej
  have e4 : zs.length - (zs.length - 1) = 1 := by omega
  have e5 : (zs.length - 1) * 1 / 1 = zs.length - 1 := by omega
  have e6 : ((zs.length : Int) - 1) = ((zs.length - 1 : Nat) : Int) := by omega
  (repeat (first | apply x4 | refine j7 rfl ?_ | refine q8 rfl ?_ | apply j6 | (refine j0 fun K hK => ?_) | (refine j4 fun K hK => ?_) | ((first | apply x6 | apply z7 | ((first | refine j5 (hK _ ?_) | refine z6 (hK _ _ x5 ?_));clear hK K));(first | show AWP _ _ _ _ _ | ((try simp only [x7]);first | show loopQ _ _ _ _ _ _ | show cutQ _ _ _ _ | show AWP _ _ _ _ _))) | ((first | refine z8 [] rfl ?_ | refine x8 [] rfl ?_);simp (disch:=omega) only [go_sem,seval,q13,x35,e1,e4,e5];(repeat (first | refine ⟨by omega,?_⟩ | refine ⟨True.intro,?_⟩)))))
  refine x27 (Weak.shrink _ _ b (zs.length - 1) ⟨3,1,c,zs.length,_⟩ rfl (q13 _ _ _) (by simp only [];omega)) ?_
  rw [x35]
  have hg3 : ∀ k,k < zs.length - 1 → (if (zs.length - 1) / 1 ≤ k ∧ k < (zs.length - 1) / 1 + 1 then [Dat.v (.int .i64 0)] else g k) = movF zs (zs.idxOf id) zs.length k := fun k hk => by
   rw [if_neg (by omega)]
   exact hg k (by omega)
  refine j9 ?_
  refine (x16 ⟨⟨fun k => if (zs.length - 1) / 1 ≤ k ∧ k < (zs.length - 1) / 1 + 1 then [.v (.int .i64 0)] else g k,hg3⟩,rfl,rfl⟩ ?_ ?_).1
  ·exact ⟨rfl,trivial⟩
  ·intro p hp;obtain rfl := List.mem_singleton.1 hp;rfl
theorem x141 {zs : List Int} {id : Int} (hm : id ∈ zs) (hu : zs.Nodup) : (zs.filter fun n => !(n == id)).length = zs.length - 1 ∧ ∀ k,k < zs.length - 1 → movF zs (zs.idxOf id) zs.length k = rowZ (zs.filter fun n => !(n == id)) k := by
 have hlt := List.idxOf_lt_length_of_mem hm
 have e : (zs.filter fun n => !(n == id)) = zs.eraseIdx (zs.idxOf id) := by
  have h1 := hu.erase_eq_filter id
  have h2 := List.erase_eq_eraseIdx_of_idxOf (l := zs) (a := id) (i := zs.idxOf id) rfl
  rw [← h2,h1]
  rfl
 rw [e]
 refine ⟨List.length_eraseIdx_of_lt hlt,fun k hk => ?_⟩
 unfold movF rowZ
 rw [List.getD_eq_getElem?_getD,List.getD_eq_getElem?_getD,List.getD_eq_getElem?_getD,List.getElem?_eraseIdx]
 by_cases h : zs.idxOf id ≤ k
 ·rw [if_pos ⟨h,by omega⟩,if_neg (by omega)]
 ·rw [if_neg (by omega),if_pos (by omega)]
theorem TrM.inplace {I : List Nat → List Int} {M M' : Nat → Option Ent} {A : List Nat → Option Nat} {V : List Nat → Value} (T : TrM I M A V) {p : List Nat} {l : List Int} {b n c n' : Nat} (hp : hasP A p = true) (hV : V p = .slice (some ⟨b,0,none⟩) n c)
  (hv : IdsV M' (.slice (some ⟨b,0,none⟩) n' c) l) (h2 : ∀ x,A p = some x → NodeAt M' A (updV V p (.slice (some ⟨b,0,none⟩) n' c)) p x) (h3 : ∀ x,x ≠ b → A p ≠ some x → M' x = M x) :
  TrM (updI I p l) M' A (updV V p (.slice (some ⟨b,0,none⟩) n' c)) := by
 obtain ⟨f,hf⟩ := T.intAt hp hV
 have nd : ∀ q x,A q = some x → x ≠ b := fun q x hq e => by subst e;exact T.nodeInt hq hf
 have rw' : ∀ q x m k,q ≠ p → hasP A q = true → V q = .slice (some ⟨x,0,none⟩) m k → x ≠ b := fun q x m k hne hq e e' => by
  subst e'
  exact hne (T.injV _ _ _ _ _ _ _ hq hp e hV)
 refine T.set hp hv h2 (fun b' n2 c2 e => ?_) fun x hx => ?_
 ·have e0 : b' = b := by cases e;rfl
  subst e0
  exact ⟨fun q hq => nd q _ hq rfl,fun q n3 c3 hne hq e => rw' q _ _ _ hne hq e rfl⟩
 ·rcases hx with ⟨q,hne,hq⟩ | ⟨q,m,k,hne,hq,e⟩
  ·exact h3 x (nd q x hq) fun e => hne (T.inj _ _ _ hq e)
  ·refine h3 x (rw' q x m k hne hq e) fun e' => ?_
   obtain ⟨f',hf'⟩ := T.intAt hq e
   exact T.nodeInt e' hf'
theorem j91 {l : Items} (hu : Uniq l) (p : List Nat) : (idsAt l p).Nodup := by
 unfold idsAt
 exact List.Nodup.sublist (List.Sublist.map _ List.filter_sublist) hu
theorem q60 {l : Items} {id : Int} {c : Cube} (h : (id,c) ∈ l) : id ∈ idsAt l (pathC c) := by
 unfold idsAt
 exact List.mem_map.2 ⟨(id,c),List.mem_filter.2 ⟨h,by simp⟩,rfl⟩
theorem q92 {M' : Nat → Option Ent} {b c : Nat} {zs : List Int} {id : Int} {f : Nat → List Dat} (hm : id ∈ zs) (hu : zs.Nodup) (hc : zs.length ≤ c) (hb : M' b = some ⟨3,1,c,zs.length - 1,f⟩) (hf : ∀ k,k < zs.length - 1 → f k = movF zs (zs.idxOf id) zs.length k) :
  IdsV M' (.slice (some ⟨b,0,none⟩) (zs.length - 1) c) (zs.filter fun n => !(n == id)) := by
 obtain ⟨h1,h2⟩ := x141 hm hu
 exact .inr ⟨b,c,f,by rw [h1],by omega,by rw [h1];exact hb,fun k hk => by rw [h1] at hk;rw [hf k hk,h2 k hk]⟩
set_option maxRecDepth 100000 in
theorem j141 {l : Items} {M : Nat → Option Ent} {A : List Nat → Option Nat} {V : List Nat → Value} (id : Int) (h : getI l id = none) :
  MCalls Try.prog 20 [.loc 1000 0,.p (.d (.v (.int .i64 id)))] (trL A V M (esI l)) (fun rs L => rs = [.p (.d (.v (.bool false)))] ∧ L = trL A V M (esI l)) := by
 have q1 := (z44 (j35.1 h)).1
 unfold trL trC
 refine z16 Try.func20 rfl (by decide +kernel) (by rw [Try.ntmps20];simp) (fun l X h => by simp only [AL.look] at h;(repeat' split at h);all_goals first | omega | cases h) ?_;rw [Try.ntmps20];simp only [frA]
 (repeat (first | apply x4 | refine j7 rfl ?_ | refine q8 rfl ?_ | apply j6 | (refine j0 fun K hK => ?_) | (refine j4 fun K hK => ?_) | ((first | apply x6 | apply z7 | ((first | refine j5 (hK _ ?_) | refine z6 (hK _ _ x5 ?_));clear hK K));(first | show AWP _ _ _ _ _ | ((try simp only [x7]);first | show loopQ _ _ _ _ _ _ | show cutQ _ _ _ _ | show AWP _ _ _ _ _))) | ((first | refine z8 [] rfl ?_ | refine x8 [] rfl ?_);simp (disch:=omega) only [go_sem,seval,hd,cb,q1];(repeat (first | refine ⟨by omega,?_⟩ | refine ⟨True.intro,?_⟩)))))
 refine j9 ?_
 refine (x16 ⟨rfl,rfl⟩ ?_ ?_).1
 ·exact ⟨rfl,trivial⟩
 ·simp [AL.look]
set_option maxRecDepth 100000 in
theorem q142 {l : Items} {M : Nat → Option Ent} {A : List Nat → Option Nat} {V : List Nat → Value} (T : TrM (idsAt l) M A V) (id : Int) (c : Cube) (h : getI l id = some c) (hu : Uniq l) (hl : l.length ≤ 1099511627776) (hp0 : pathC c = []) :
  MCalls Try.prog 20 [.loc 1000 0,.p (.d (.v (.int .i64 id)))] (trL A V M (esI l))
   (fun rs L => ∃ r : {r : (List Nat → Option Nat) × (List Nat → Value) × (Nat → Option Ent) // TrM (idsAt (delI l id)) r.2.2 r.1 r.2.1},rs = [.p (.d (.v (.bool true)))] ∧ L = trL r.val.1 r.val.2.1 r.val.2.2 (esI (delI l id))) := by
 have hmem := x88 h
 have q1 := x59 h
 have q2 := z88 (id := id) hu
 have hp := q90 T (esI (delI l id)) c hp0
 have hI := q89 hu hmem
 have hzm := q60 hmem
 have hzu := j91 hu (pathC c)
 have hlen := x44 l (pathC c)
 unfold cb at q1
 unfold trL trC at *
 refine z16 Try.func20 rfl (by decide +kernel) (by rw [Try.ntmps20];simp) (fun l X h => by simp only [AL.look] at h;(repeat' split at h);all_goals first | omega | cases h) ?_;rw [Try.ntmps20];simp only [frA]
 (repeat ((fail_if_success (show AWP _ _ (.region 7 _ _) _ _));first | apply x4 | refine j7 rfl ?_ | refine q8 rfl ?_ | apply j6 | (refine j0 fun K hK => ?_) | (refine j4 fun K hK => ?_) | ((first | apply x6 | apply z7 | ((first | refine j5 (hK _ ?_) | refine z6 (hK _ _ x5 ?_));clear hK K));(first | show AWP _ _ _ _ _ | ((try simp only [x7]);first | show loopQ _ _ _ _ _ _ | show cutQ _ _ _ _ | show AWP _ _ _ _ _))) | ((first | refine z8 [] rfl ?_ | refine x8 [] rfl ?_);simp (disch:=omega) only [go_sem,seval,hd,cb,q1,q2];(repeat (first | refine ⟨by omega,?_⟩ | refine ⟨True.intro,?_⟩)))))
 refine j0 fun K hK => ?_
 iterate 2 ((first | refine j13 [] rfl rfl ?_ | refine q14 [] rfl rfl ?_ | refine z13 rfl rfl ?_ | refine x13 rfl rfl ?_);simp (disch:=omega) only [go_sem,seval,hd,cb,q1,q2];(repeat (first | refine ⟨by omega,?_⟩ | refine ⟨True.intro,?_⟩)))
 (refine z21 (x20 [(1000,1000),(1001,1001),(1999,1999)] rfl rfl rfl rfl rfl rfl (hp) (fun _ => rfl) (q12 (by repeat (first | exact trivial | refine ⟨rfl,?_⟩)) (by kernel_rfl)) (fun _ => (q12 (by repeat (first | exact trivial | refine ⟨rfl,?_⟩)) (by kernel_rfl)))) ?_);rintro ⟨⟨A1,V1,M1⟩,T1⟩;simp (disch:=omega) only [go_sem,seval,hd,cb,q1,q2]
 simp only [] at T1
 have hp1 := z86 A1
 (repeat ((fail_if_success (show AWP _ _ (.region 8 _ _) _ _));first | apply x4 | refine j7 rfl ?_ | refine q8 rfl ?_ | apply j6 | (refine j0 fun K hK => ?_) | (refine j4 fun K hK => ?_) | ((first | apply x6 | apply z7 | ((first | refine j5 (hK _ ?_) | refine z6 (hK _ _ x5 ?_));clear hK K));(first | show AWP _ _ _ _ _ | ((try simp only [x7]);first | show loopQ _ _ _ _ _ _ | show cutQ _ _ _ _ | show AWP _ _ _ _ _))) | ((first | refine z8 [] rfl ?_ | refine x8 [] rfl ?_);simp (disch:=omega) only [go_sem,seval,hd,cb,q1,q2];(repeat (first | refine ⟨by omega,?_⟩ | refine ⟨True.intro,?_⟩)))))
 generalize esI (delI l id) = es at *
 rw [hI]
 generalize pathC c = p at *
 subst hp0
 have hids := T1.ids [] hp1
 generalize idsAt l [] = zs at *
 rcases hids with ⟨hI0,hV⟩ | ⟨b,c2,f,hV,hle,hb,hf⟩
 ·rw [hI0] at hzm;cases hzm
 have kd := x91 M1 b c2 f zs id hb hf hzm hzu hle (by omega)
 unfold eqF at kd
 refine j0 fun K hK => ?_
 iterate 6 ((first | refine j13 [] rfl rfl ?_ | refine q14 [] rfl rfl ?_ | refine z13 rfl rfl ?_ | refine x13 rfl rfl ?_);simp (disch:=omega) only [go_sem,seval,hd,cb,hV];(repeat (first | refine ⟨by omega,?_⟩ | refine ⟨True.intro,?_⟩)))
 (refine z21 (x20 [(1999,1999)] rfl rfl rfl rfl rfl rfl (kd) (fun _ => rfl) (q12 (by repeat (first | exact trivial | refine ⟨rfl,?_⟩)) (by kernel_rfl)) (fun _ => (q12 (by repeat (first | exact trivial | refine ⟨rfl,?_⟩)) (by kernel_rfl)))) ?_);rintro ⟨f2,hf2⟩;simp (disch:=omega) only [go_sem,seval,hd,cb,hV]
 (repeat (first | apply x4 | refine j7 rfl ?_ | refine q8 rfl ?_ | apply j6 | (refine j0 fun K hK => ?_) | (refine j4 fun K hK => ?_) | ((first | apply x6 | apply z7 | ((first | refine j5 (hK _ ?_) | refine z6 (hK _ _ x5 ?_));clear hK K));(first | show AWP _ _ _ _ _ | ((try simp only [x7]);first | show loopQ _ _ _ _ _ _ | show cutQ _ _ _ _ | show AWP _ _ _ _ _))) | ((first | refine z8 [] rfl ?_ | refine x8 [] rfl ?_);simp (disch:=omega) only [go_sem,seval,hd,cb,hV];(repeat (first | refine ⟨by omega,?_⟩ | refine ⟨True.intro,?_⟩)))))
 have T2 := T1.inplace (M' := (setM M1 b (some ⟨3,1,c2,zs.length - 1,f2⟩))) (n' := zs.length - 1) (l := zs.filter fun n => !(n == id)) hp1 hV (q92 hzm hzu hle (q13 _ _ _) hf2) (fun x e => by rw [T1.root] at e;cases e) (fun x hx _ => x12 _ _ hx)
 have c0 := q20 V1 [] (.slice (some ⟨b,0,none⟩) (zs.length - 1) c2)
 refine j9 ?_
 refine (x16 ⟨⟨(A1,updV V1 [] (.slice (some ⟨b,0,none⟩) (zs.length - 1) c2),(setM M1 b (some ⟨3,1,c2,zs.length - 1,f2⟩))),T2⟩,rfl,rfl⟩ ?_ ?_).1
 ·exact ⟨rfl,trivial⟩
 ·simp only [c0]
  simp [AL.look,x14]
set_option maxRecDepth 100000 in
theorem z142 {l : Items} {M : Nat → Option Ent} {A : List Nat → Option Nat} {V : List Nat → Value} (T : TrM (idsAt l) M A V) (id : Int) (c : Cube) (h : getI l id = some c) (hu : Uniq l) (hl : l.length ≤ 1099511627776) (hp0 : pathC c ≠ []) :
  MCalls Try.prog 20 [.loc 1000 0,.p (.d (.v (.int .i64 id)))] (trL A V M (esI l))
   (fun rs L => ∃ r : {r : (List Nat → Option Nat) × (List Nat → Value) × (Nat → Option Ent) // TrM (idsAt (delI l id)) r.2.2 r.1 r.2.1},rs = [.p (.d (.v (.bool true)))] ∧ L = trL r.val.1 r.val.2.1 r.val.2.2 (esI (delI l id))) := by
 have hmem := x88 h
 have q1 := x59 h
 have q2 := z88 (id := id) hu
 have hp := z90 T (esI (delI l id)) c hp0
 have hI := q89 hu hmem
 have hzm := q60 hmem
 have hzu := j91 hu (pathC c)
 have hlen := x44 l (pathC c)
 unfold cb at q1
 unfold trL trC at *
 refine z16 Try.func20 rfl (by decide +kernel) (by rw [Try.ntmps20];simp) (fun l X h => by simp only [AL.look] at h;(repeat' split at h);all_goals first | omega | cases h) ?_;rw [Try.ntmps20];simp only [frA]
 (repeat ((fail_if_success (show AWP _ _ (.region 7 _ _) _ _));first | apply x4 | refine j7 rfl ?_ | refine q8 rfl ?_ | apply j6 | (refine j0 fun K hK => ?_) | (refine j4 fun K hK => ?_) | ((first | apply x6 | apply z7 | ((first | refine j5 (hK _ ?_) | refine z6 (hK _ _ x5 ?_));clear hK K));(first | show AWP _ _ _ _ _ | ((try simp only [x7]);first | show loopQ _ _ _ _ _ _ | show cutQ _ _ _ _ | show AWP _ _ _ _ _))) | ((first | refine z8 [] rfl ?_ | refine x8 [] rfl ?_);simp (disch:=omega) only [go_sem,seval,hd,cb,q1,q2];(repeat (first | refine ⟨by omega,?_⟩ | refine ⟨True.intro,?_⟩)))))
 refine j0 fun K hK => ?_
 iterate 2 ((first | refine j13 [] rfl rfl ?_ | refine q14 [] rfl rfl ?_ | refine z13 rfl rfl ?_ | refine x13 rfl rfl ?_);simp (disch:=omega) only [go_sem,seval,hd,cb,q1,q2];(repeat (first | refine ⟨by omega,?_⟩ | refine ⟨True.intro,?_⟩)))
 (refine z21 (x20 [(1000,1000),(1001,1001),(1999,1999)] rfl rfl rfl rfl rfl rfl (hp) (fun _ => rfl) (q12 (by repeat (first | exact trivial | refine ⟨rfl,?_⟩)) (by kernel_rfl)) (fun _ => (q12 (by repeat (first | exact trivial | refine ⟨rfl,?_⟩)) (by kernel_rfl)))) ?_);rintro ⟨⟨A1,V1,M1,b0⟩,T1,hb0⟩;simp (disch:=omega) only [go_sem,seval,hd,cb,q1,q2]
 simp only [] at T1 hb0
 have hp1 := j17 hb0
 (repeat ((fail_if_success (show AWP _ _ (.region 8 _ _) _ _));first | apply x4 | refine j7 rfl ?_ | refine q8 rfl ?_ | apply j6 | (refine j0 fun K hK => ?_) | (refine j4 fun K hK => ?_) | ((first | apply x6 | apply z7 | ((first | refine j5 (hK _ ?_) | refine z6 (hK _ _ x5 ?_));clear hK K));(first | show AWP _ _ _ _ _ | ((try simp only [x7]);first | show loopQ _ _ _ _ _ _ | show cutQ _ _ _ _ | show AWP _ _ _ _ _))) | ((first | refine z8 [] rfl ?_ | refine x8 [] rfl ?_);simp (disch:=omega) only [go_sem,seval,hd,cb,q1,q2];(repeat (first | refine ⟨by omega,?_⟩ | refine ⟨True.intro,?_⟩)))))
 generalize esI (delI l id) = es at *
 rw [hI]
 generalize pathC c = p at *
 obtain ⟨f0,hMb,hf0⟩ := T1.node p b0 hb0
 unfold nodeC at hf0
 have hids := T1.ids p hp1
 generalize idsAt l p = zs at *
 rcases hids with ⟨hI0,hV⟩ | ⟨b,c2,f,hV,hle,hb,hf⟩
 ·rw [hI0] at hzm;cases hzm
 rw [hV] at hf0
 have kd := x91 M1 b c2 f zs id hb hf hzm hzu hle (by omega)
 unfold eqF at kd
 refine j0 fun K hK => ?_
 iterate 6 ((first | refine j13 [] rfl rfl ?_ | refine q14 [] rfl rfl ?_ | refine z13 rfl rfl ?_ | refine x13 rfl rfl ?_);simp (disch:=omega) only [go_sem,seval,hd,cb,hV,hMb,hf0];(repeat (first | refine ⟨by omega,?_⟩ | refine ⟨True.intro,?_⟩)))
 (refine z21 (x20 [(1999,1999)] rfl rfl rfl rfl rfl rfl (kd) (fun _ => rfl) (q12 (by repeat (first | exact trivial | refine ⟨rfl,?_⟩)) (by kernel_rfl)) (fun _ => (q12 (by repeat (first | exact trivial | refine ⟨rfl,?_⟩)) (by kernel_rfl)))) ?_);rintro ⟨f2,hf2⟩;simp (disch:=omega) only [go_sem,seval,hd,cb,hV,hMb,hf0]
 have hne : b0 ≠ b := fun e => T1.nodeInt hb0 (e ▸ hb)
 have hMb2 := fun E => (x12 M1 E hne).trans hMb
 (repeat (first | apply x4 | refine j7 rfl ?_ | refine q8 rfl ?_ | apply j6 | (refine j0 fun K hK => ?_) | (refine j4 fun K hK => ?_) | ((first | apply x6 | apply z7 | ((first | refine j5 (hK _ ?_) | refine z6 (hK _ _ x5 ?_));clear hK K));(first | show AWP _ _ _ _ _ | ((try simp only [x7]);first | show loopQ _ _ _ _ _ _ | show cutQ _ _ _ _ | show AWP _ _ _ _ _))) | ((first | refine z8 [] rfl ?_ | refine x8 [] rfl ?_);simp (disch:=omega) only [go_sem,seval,hd,cb,hV,hMb2,hf0];(repeat (first | refine ⟨by omega,?_⟩ | refine ⟨True.intro,?_⟩)))))
 have hf3 : putEl f0 0 3 [.v (.slice (some ⟨b,0,none⟩) (zs.length - 1) c2)] 0 = nodeC A1 (updV V1 p (.slice (some ⟨b,0,none⟩) (zs.length - 1) c2)) p := by
  unfold putEl nodeC
  rw [if_pos rfl,hf0,q20];rfl
 have T2 := T1.inplace (M' := (setM (setM M1 b (some ⟨3,1,c2,zs.length - 1,f2⟩)) b0 (some ⟨94,4,1,1,putEl f0 0 3 [.v (.slice (some ⟨b,0,none⟩) (zs.length - 1) c2)]⟩))) (n' := zs.length - 1) (l := zs.filter fun n => !(n == id)) hp1 hV (q92 hzm hzu hle ((x12 _ _ (Ne.symm hne)).trans (q13 _ _ _)) hf2) (fun x e => by rw [hb0] at e;cases e;exact ⟨_,q13 _ _ _,hf3⟩) (fun x hx hx2 => (x12 _ _ (fun e => hx2 (by rw [e];exact hb0))).trans (x12 _ _ hx))
 have c0 := q16 V1 (.slice (some ⟨b,0,none⟩) (zs.length - 1) c2) (Ne.symm hp0)
 refine j9 ?_
 refine (x16 ⟨⟨(A1,updV V1 p (.slice (some ⟨b,0,none⟩) (zs.length - 1) c2),(setM (setM M1 b (some ⟨3,1,c2,zs.length - 1,f2⟩)) b0 (some ⟨94,4,1,1,putEl f0 0 3 [.v (.slice (some ⟨b,0,none⟩) (zs.length - 1) c2)]⟩))),T2⟩,rfl,rfl⟩ ?_ ?_).1
 ·exact ⟨rfl,trivial⟩
 ·simp only [c0]
  simp [AL.look,x14]
def isV (u : Value) : AV := .is (· = u)
def trX (u0 u1 u2 u3 : Value) (o : Obj) : List (Nat × LV) := [(1000,.cells 96 [isV u0,isV u1,isV u2,isV u3,.mp 1001]),(1001,.obj o)]
set_option maxRecDepth 100000 in
theorem Len_x (u0 u1 u2 u3 : Value) (arr : Array MapEntry) (clock : Nat) : MCalls Try.prog 22 [.loc 1000 0] (trX u0 u1 u2 u3 (.map arr clock)) (fun rs L => rs = [.p (.d (.v (.int .i64 (arr.size : Int))))] ∧ L = trX u0 u1 u2 u3 (.map arr clock)) := by
 unfold trX
 refine z16 Try.func22 rfl (by decide +kernel) (by rw [Try.ntmps22];simp) (fun l X h => by simp only [AL.look] at h;(repeat' split at h);all_goals first | omega | cases h) ?_;rw [Try.ntmps22];simp only [frA]
 (repeat (first | apply x4 | refine j7 rfl ?_ | refine q8 rfl ?_ | apply j6 | (refine j0 fun K hK => ?_) | (refine j4 fun K hK => ?_) | ((first | apply x6 | apply z7 | ((first | refine j5 (hK _ ?_) | refine z6 (hK _ _ x5 ?_));clear hK K));(first | show AWP _ _ _ _ _ | ((try simp only [x7]);first | show loopQ _ _ _ _ _ _ | show cutQ _ _ _ _ | show AWP _ _ _ _ _))) | ((first | refine z8 [] rfl ?_ | refine x8 [] rfl ?_);simp (disch:=omega) only [go_sem,seval,hd,cb,trX,isV];(repeat (first | refine ⟨by omega,?_⟩ | refine ⟨True.intro,?_⟩)))))
 refine j9 ?_
 refine (x16 ⟨rfl,rfl⟩ ?_ ?_).1
 ·exact ⟨rfl,trivial⟩
 ·simp [AL.look,isV]
set_option maxRecDepth 100000 in
theorem LenX_c (A : List Nat → Option Nat) (V : List Nat → Value) (M : Nat → Option Ent) (es : List (List Int × PV)) : RCalls Try.prog 22 [.loc 1000 0] (trL A V M es) (.p (.d (.v (.int .i64 (es.length : Int))))) := by
 intro w h vs hz hr hl
 obtain ⟨l0,l1,l9⟩ := x86 (A := A) (V := V) (M := M) (es := es)
 obtain ⟨arr,c1,c2,c3,c4,c5⟩ := hl.1 1000 _ l0
 obtain ⟨marr,clock,m1,m2,m3,m4⟩ := hl.1 1001 _ l1
 have hsz : marr.size = es.length := m4.size
 have hL2 : LocsOK (fun _ => True) w h (trX (kidV A [0]) (kidV A [1]) (kidV A [2]) (V []) (.map marr clock)) := by
  refine ⟨fun l X hX => ?_,fun l l' X X' b hne e1 e2 hb hb' => ?_⟩
  ·simp only [trX,AL.look] at hX
   split at hX
   ·rename_i e;subst e;cases hX
    refine ⟨arr,trivial,c2,by rw [c3];rfl,c4,fun i v x hv hx => ?_⟩
    have key : ∀ (u : Value),(trC A V)[i]? = some (.p (.d (.v u))) → RelA w h v (isV u) ∧ v.oneCell' = true := by
     intro u hu
     obtain ⟨r1,r2⟩ := c5 i v _ hv hu
     exact ⟨j11 r1,r2⟩
    match i,hx with
    | 0,hx => cases hx;exact key _ rfl
    | 1,hx => cases hx;exact key _ rfl
    | 2,hx => cases hx;exact key _ rfl
    | 3,hx => cases hx;exact key _ rfl
    | 4,hx => cases hx;exact c5 4 v _ hv rfl
    | i + 5,hx => simp at hx
   ·split at hX
    ·rename_i e;subst e;cases hX
     exact ⟨trivial,m2,m3⟩
    ·cases hX
  ·have back : ∀ k Y,AL.look (trX (kidV A [0]) (kidV A [1]) (kidV A [2]) (V []) (.map marr clock)) k = some Y → ∃ Z,AL.look (trL A V M es) k = some Z ∧ (∀ b,inB h k Y b → inB h k Z b) := by
    intro k Y hY
    simp only [trX,AL.look] at hY
    split at hY
    ·rename_i e;subst e;cases hY;exact ⟨_,l0,fun b hb => hb⟩
    ·split at hY
     ·rename_i e;subst e;cases hY;exact ⟨_,l1,fun b hb => hb⟩
     ·cases hY
   obtain ⟨Z,z1,z2⟩ := back l X e1
   obtain ⟨Z',z3,z4⟩ := back l' X' e2
   exact hl.2 l l' Z Z' b hne z1 z3 (z2 b hb) (z4 b hb')
 have k := z133 (Len_x (kidV A [0]) (kidV A [1]) (kidV A [2]) (V []) marr clock) (fun l X hX => by
  simp only [trX,AL.look] at hX
  split at hX
  ·cases hX
   refine ⟨.cells _ _ fun c hc => ?_,fun k hk => ?_⟩
   ·simp only [List.mem_cons,List.not_mem_nil,or_false] at hc
    rcases hc with rfl | rfl | rfl | rfl | rfl <;> first | exact .is _ | exact .mp _
   ·have : k = 1001 := by simpa [LV.mentions,AV.mentions,isV] using hk
    subst this
    exact ⟨_,rfl⟩
  ·split at hX
   ·cases hX
    exact ⟨.obj _,fun k hk => by simp [LV.mentions] at hk⟩
   ·cases hX) rfl hz hr hL2
 rw [hsz] at k
 exact k
section
variable {M : Nat → Option Ent} {A : List Nat → Option Nat} {V : List Nat → Value}
theorem TrM.up {I : List Nat → List Int} (T : TrM I M A V) (p : List Nat) : ∀ (n : Nat) (r : List Nat),r.length = n → hasP A (p ++ r) = true → hasP A p = true
 |0,r,hr,h => by
  have : r = [] := List.eq_nil_of_length_eq_zero hr
  subst this
  rwa [List.append_nil] at h
 |n + 1,r,hr,h => by
  have hne : r ≠ [] := fun e => by subst e;simp at hr
  have er := (List.dropLast_concat_getLast hne).symm
  rw [er,← List.append_assoc] at h
  obtain ⟨b,hb⟩ := j43 h (by simp)
  exact T.up p n r.dropLast (by simp;omega) (T.pre _ _ _ hb)
theorem z92 {l : Items} (T : TrM (idsAt l) M A V) (c : Cube) : ∀ f p,gathT (hasP A) (idsAt l) c f p = gath l c f p := by
 have none : ∀ f p,hasP A p = false → gath l c f p = [] := by
  intro f p hp
  refine x131 l c f p fun x hx r e => ?_
  have h1 : hasP A (p ++ r) = false := by
   cases h : hasP A (p ++ r) with
   | false => rfl
   | true => rw [T.up p _ r rfl h] at hp;cases hp
  have h2 := T.gone _ h1
  rw [← e] at h2
  have h3 : x.1 ∈ idsAt l (pathC x.2) := q60 (c := x.2) (by simpa using hx)
  rw [h2] at h3;cases h3
 intro f
 induction f with
 |zero =>
  intro p
  unfold gathT gath
  cases hp : hasP A p with
  | true => rfl
  | false => rw [T.gone p hp];rfl
 |succ f ih =>
  intro p
  cases hp : hasP A p with
  |true =>
   rw [z84 _ _ _ _ _ hp]
   unfold gath
   congr 2
   funext k
   exact ih _
  | false => rw [x84 _ _ _ _ _ hp,none _ _ hp]
def fndZ (l : Items) (c : Cube) : List Int := srtZ (foundU l c)
theorem z60 {a b : List Int} (h : a.Perm b) : srtZ a = srtZ b := by
 unfold srtZ
 have tr : ∀ (x y z : Int),decide (x ≤ y) = true → decide (y ≤ z) = true → decide (x ≤ z) = true := fun x y z h1 h2 => by
  simp only [decide_eq_true_eq] at *;omega
 have tot : ∀ (x y : Int),(decide (x ≤ y) || decide (y ≤ x)) = true := fun x y => by
  rw [Bool.or_eq_true,decide_eq_true_eq,decide_eq_true_eq];omega
 refine List.Perm.eq_of_pairwise (le := fun x y => decide (x ≤ y) = true) (fun x y _ _ h1 h2 => ?_) (List.pairwise_mergeSort tr tot a) (List.pairwise_mergeSort tr tot b) (((List.mergeSort_perm a _).trans h).trans (List.mergeSort_perm b _).symm)
 simp only [decide_eq_true_eq] at h1 h2;omega
def AllSnd (l : Items) : Prop := ∀ x ∈ l,x.2.sound = true
theorem x92 : srtZ [] = [] := List.eq_nil_of_length_eq_zero (by unfold srtZ;simp)
theorem j92 {l : Items} (T : TrM (idsAt l) M A V) (hs : AllSnd l) (c : Cube) : ovZ (hasP A) (idsAt l) c = fndZ l c := by
 unfold ovZ fndZ
 cases hc : c.sound with
 |true =>
  rw [if_pos rfl,z92 T]
  exact z60 (q131 hc hs)
 |false =>
  rw [j82 hc]
  simp [x92]
theorem q93 {l : Items} (T : TrM (idsAt l) M A V) (c : Cube) : (gathT (hasP A) (idsAt l) c 128 []).length ≤ l.length := by
 rw [z92 T,(j42 l c 128 []).length_eq,List.length_map]
 exact List.length_filter_le _ _
end
section
variable {l : Items} {M : Nat → Option Ent} {A : List Nat → Option Nat} {V : List Nat → Value}
set_option maxRecDepth 100000 in
theorem z93 (T : TrM (idsAt l) M A V) (hs : AllSnd l) (hl : l.length ≤ 1099511627776) (c : Cube) :
  RCalls Try.prog 15 [.loc 1000 0,.p (.agg (cb c))] (trL A V M (esI l)) (.p (.d (.sl 1 (fndZ l c).length (rowZ (fndZ l c))))) := by
 have := j139 T (esI l) c (by have := q93 T c;omega)
 rw [j92 T hs] at this
 exact this
set_option maxRecDepth 100000 in
theorem x60 (T : TrM (idsAt l) M A V) (hs : AllSnd l) (hl : l.length ≤ 1099511627776) (h : BitVec 128) :
  RCalls Try.prog 16 [.loc 1000 0,.p (.agg (hd h))] (trL A V M (esI l)) (.p (.d (.sl 1 (fndZ l (headC h)).length (rowZ (fndZ l (headC h)))))) := by
 have := q140 T (esI l) h (by have := q93 T (headC h);omega)
 rw [j92 T hs] at this
 exact this
end
set_option maxRecDepth 100000 in
theorem x93 (A : List Nat → Option Nat) (V : List Nat → Value) (M : Nat → Option Ent) (l : Items) : RCalls Try.prog 22 [.loc 1000 0] (trL A V M (esI l)) (.p (.d (.v (.int .i64 (l.length : Int))))) := by
 have := LenX_c A V M (esI l)
 have e : (esI l).length = l.length := by unfold esI;simp
 rw [e] at this
 exact this
end Go.Proofs.Ytbamjcnhmmgnlaa
namespace Go.Proofs.Ytbamjcnhmmgnlaa
open Go Go.Proofs.Ytbamjcnhmmgnlaa.AL Go.RowKit
def awC : Cube := ⟨4,12⟩
def awZ : Cube := ⟨0,0⟩
theorem j60 : cb awC = [.v (.int .u64 0),.v (.int .u64 4),.v (.int .u64 0),.v (.int .u64 12)] := by
 have h1 : hi (4 : BitVec 128) = 0 := by decide
 have h2 : lo (4 : BitVec 128) = 4 := by decide
 have h3 : hi (12 : BitVec 128) = 0 := by decide
 have h4 : lo (12 : BitVec 128) = 12 := by decide
 unfold cb awC
 simp only [h1,h2,h3,h4]
theorem cb_awZ : cb awZ = [.v (.int .u64 0),.v (.int .u64 0),.v (.int .u64 0),.v (.int .u64 0)] := by
 unfold cb awZ
 simp only [x28,j28]
theorem hd_7 : hd 7 = [.v (.int .u64 0),.v (.int .u64 7)] := by
 have h1 : hi (7 : BitVec 128) = 0 := by decide
 have h2 : lo (7 : BitVec 128) = 7 := by decide
 unfold hd;simp only [h1,h2]
theorem hd_8 : hd 8 = [.v (.int .u64 0),.v (.int .u64 8)] := by
 have h1 : hi (8 : BitVec 128) = 0 := by decide
 have h2 : lo (8 : BitVec 128) = 8 := by decide
 unfold hd;simp only [h1,h2]
def awL : Items := [(5,awC),(3,awZ)]
theorem j93 : srtZ [5,3] = [3,5] := by
 have h := z60 (a := [5,3]) (b := [3,5]) (by decide)
 rw [h]
 unfold srtZ
 exact List.mergeSort_of_pairwise (by simp)
theorem srt_one (x : Int) : srtZ [x] = [x] := by
 unfold srtZ
 exact List.mergeSort_of_pairwise (by simp)
theorem fnd_7 : fndZ awL (headC 7) = [3,5] := by
 have : foundU awL (headC 7) = [5,3] := by decide +kernel
 unfold fndZ;rw [this,j93]
theorem fnd_8 : fndZ awL (headC 8) = [3] := by
 have : foundU awL (headC 8) = [3] := by decide +kernel
 unfold fndZ;rw [this,srt_one]
theorem fnd_C : fndZ awL awC = [3,5] := by
 have : foundU awL awC = [5,3] := by decide +kernel
 unfold fndZ;rw [this,j93]
theorem x142 : pathC awC ≠ [] := by
 have : (pathC awC).length = 126 := by rw [z23];decide +kernel
 intro e;rw [e] at this;cases this
theorem j142 : pathC awZ = [] := by
 have : (pathC awZ).length = 0 := by rw [z23];decide +kernel
 exact List.eq_nil_of_length_eq_zero this
theorem q61 : AllSnd awL := by
 intro x hx
 simp only [awL,List.mem_cons,List.not_mem_nil,or_false] at hx
 rcases hx with rfl | rfl <;> decide
set_option maxRecDepth 100000 in
theorem q143 : ACalls Try.prog 12 [] (· = [.d (.v (.bool true))]) := by
 have k0 := z89
 have k1 := j90 TrM.empty 5 awC (by decide) (by simp) x142
 rw [j60] at k1
 unfold trL trC at k1
 refine j12 Try.func12 rfl (by decide +kernel) (by rw [Try.ntmps12];simp) ?_;rw [Try.ntmps12];simp only [frOf]
 (repeat ((fail_if_success (show AWP _ _ (.region 1 _ _) _ _));first | apply x4 | refine j7 rfl ?_ | refine q8 rfl ?_ | apply j6 | (refine j0 fun K hK => ?_) | (refine j4 fun K hK => ?_) | ((first | apply x6 | apply z7 | ((first | refine j5 (hK _ ?_) | refine z6 (hK _ _ x5 ?_));clear hK K));(first | show AWP _ _ _ _ _ | ((try simp only [x7]);first | show loopQ _ _ _ _ _ _ | show cutQ _ _ _ _ | show AWP _ _ _ _ _))) | ((first | refine z8 [] rfl ?_ | refine x8 [] rfl ?_);simp (disch:=omega) only [go_sem,seval,hd,cb];(repeat (first | refine ⟨by omega,?_⟩ | refine ⟨True.intro,?_⟩)))))
 refine j0 fun K hK => ?_
 (refine q15 _ (z15 [(3,503),(1,501)] rfl rfl rfl rfl rfl rfl (k0) rfl (q12 (by repeat (first | exact trivial | refine ⟨rfl,?_⟩)) (by kernel_rfl))) ?_);simp (disch:=omega) only [go_sem,seval,hd,cb]
 (repeat ((fail_if_success (show AWP _ _ (.region 3 _ _) _ _));first | apply x4 | refine j7 rfl ?_ | refine q8 rfl ?_ | apply j6 | (refine j0 fun K hK => ?_) | (refine j4 fun K hK => ?_) | ((first | apply x6 | apply z7 | ((first | refine j5 (hK _ ?_) | refine z6 (hK _ _ x5 ?_));clear hK K));(first | show AWP _ _ _ _ _ | ((try simp only [x7]);first | show loopQ _ _ _ _ _ _ | show cutQ _ _ _ _ | show AWP _ _ _ _ _))) | ((first | refine z8 [] rfl ?_ | refine x8 [] rfl ?_);simp (disch:=omega) only [go_sem,seval,hd,cb];(repeat (first | refine ⟨by omega,?_⟩ | refine ⟨True.intro,?_⟩)))))
 refine z83 rfl ?_
 refine j0 fun K hK => ?_
 iterate 5 ((first | refine j13 [] rfl rfl ?_ | refine q14 [] rfl rfl ?_ | refine z13 rfl rfl ?_ | refine x13 rfl rfl ?_);simp (disch:=omega) only [go_sem,seval,hd,cb];(repeat (first | refine ⟨by omega,?_⟩ | refine ⟨True.intro,?_⟩)))
 (refine z21 (x20 [(1000,503),(1001,501),(1999,1999)] rfl rfl rfl rfl rfl rfl (k1) (fun _ => rfl) (q12 (by repeat (first | exact trivial | refine ⟨rfl,?_⟩)) (by kernel_rfl)) (fun _ => (q12 (by repeat (first | exact trivial | refine ⟨rfl,?_⟩)) (by kernel_rfl)))) ?_);rintro ⟨⟨A1,V1,M1⟩,T1⟩;simp (disch:=omega) only [go_sem,seval,hd,cb]
 simp only [] at T1
 have k2 := x90 T1 3 awZ (by decide +kernel) (by simp) j142
 rw [cb_awZ] at k2
 unfold trL trC at k2
 iterate 5 ((first | refine j13 [] rfl rfl ?_ | refine q14 [] rfl rfl ?_ | refine z13 rfl rfl ?_ | refine x13 rfl rfl ?_);simp (disch:=omega) only [go_sem,seval,hd,cb];(repeat (first | refine ⟨by omega,?_⟩ | refine ⟨True.intro,?_⟩)))
 (refine z21 (x20 [(1000,503),(1001,501),(1999,1999)] rfl rfl rfl rfl rfl rfl (k2) (fun _ => rfl) (q12 (by repeat (first | exact trivial | refine ⟨rfl,?_⟩)) (by kernel_rfl)) (fun _ => (q12 (by repeat (first | exact trivial | refine ⟨rfl,?_⟩)) (by kernel_rfl)))) ?_);rintro ⟨⟨A2,V2,M2⟩,T2⟩;simp (disch:=omega) only [go_sem,seval,hd,cb]
 have T2 : TrM (idsAt awL) M2 A2 V2 := T2
 have k3 := x89 (l := awL) (M := M2) (A := A2) (V := V2) 5 awC (by decide +kernel)
 rw [show addE awL 5 awC = 8 from by decide +kernel,j60] at k3
 unfold trL trC at k3
 iterate 5 ((first | refine j13 [] rfl rfl ?_ | refine q14 [] rfl rfl ?_ | refine z13 rfl rfl ?_ | refine x13 rfl rfl ?_);simp (disch:=omega) only [go_sem,seval,hd,cb];(repeat (first | refine ⟨by omega,?_⟩ | refine ⟨True.intro,?_⟩)))
 (refine q15 _ (z15 [(1000,503),(1001,501),(1999,1999)] rfl rfl rfl rfl rfl rfl (k3) rfl (q12 (by repeat (first | exact trivial | refine ⟨rfl,?_⟩)) (by kernel_rfl))) ?_);simp (disch:=omega) only [go_sem,seval,hd,cb]
 (repeat ((fail_if_success (show AWP _ _ (.region 5 _ _) _ _));first | apply x4 | refine j7 rfl ?_ | refine q8 rfl ?_ | apply j6 | (refine j0 fun K hK => ?_) | (refine j4 fun K hK => ?_) | ((first | apply x6 | apply z7 | ((first | refine j5 (hK _ ?_) | refine z6 (hK _ _ x5 ?_));clear hK K));(first | show AWP _ _ _ _ _ | ((try simp only [x7]);first | show loopQ _ _ _ _ _ _ | show cutQ _ _ _ _ | show AWP _ _ _ _ _))) | ((first | refine z8 [] rfl ?_ | refine x8 [] rfl ?_);simp (disch:=omega) only [go_sem,seval,hd,cb];(repeat (first | refine ⟨by omega,?_⟩ | refine ⟨True.intro,?_⟩)))))
 have k4 := q26 (x60 T2 q61 (by decide) 7)
 have k5 := q26 (x60 T2 q61 (by decide) 8)
 have k6 := q26 (z93 T2 q61 (by decide) awC)
 have k7 := q26 (x93 A2 V2 M2 awL)
 rw [fnd_7,hd_7] at k4
 rw [fnd_8,hd_8] at k5
 rw [fnd_C,j60] at k6
 rw [show ((awL.length : Nat) : Int) = 2 from rfl] at k7
 unfold trL trC at k4 k5 k6 k7
 have r0 : rowZ [3,5] 0 = [.v (.int .i64 3)] := rfl
 have r1 : rowZ [3,5] 1 = [.v (.int .i64 5)] := rfl
 refine j0 fun K hK => ?_
 iterate 2 ((first | refine j13 [] rfl rfl ?_ | refine q14 [] rfl rfl ?_ | refine z13 rfl rfl ?_ | refine x13 rfl rfl ?_);simp (disch:=omega) only [go_sem,seval,hd,cb,r0,r1];(repeat (first | refine ⟨by omega,?_⟩ | refine ⟨True.intro,?_⟩)))
 (refine q15 _ (z15 [(1000,503),(1001,501),(1999,1999)] rfl rfl rfl rfl rfl rfl (k4) rfl (q12 (by repeat (first | exact trivial | refine ⟨rfl,?_⟩)) (by kernel_rfl))) ?_);simp (disch:=omega) only [go_sem,seval,hd,cb,r0,r1]
 iterate 2 ((first | refine j13 [] rfl rfl ?_ | refine q14 [] rfl rfl ?_ | refine z13 rfl rfl ?_ | refine x13 rfl rfl ?_);simp (disch:=omega) only [go_sem,seval,hd,cb,r0,r1];(repeat (first | refine ⟨by omega,?_⟩ | refine ⟨True.intro,?_⟩)))
 (refine q15 _ (z15 [(1000,503),(1001,501),(1999,1999)] rfl rfl rfl rfl rfl rfl (k5) rfl (q12 (by repeat (first | exact trivial | refine ⟨rfl,?_⟩)) (by kernel_rfl))) ?_);simp (disch:=omega) only [go_sem,seval,hd,cb,r0,r1]
 (repeat ((fail_if_success (show AWP _ _ (.region 6 _ _) _ _));first | apply x4 | refine j7 rfl ?_ | refine q8 rfl ?_ | apply j6 | (refine j0 fun K hK => ?_) | (refine j4 fun K hK => ?_) | ((first | apply x6 | apply z7 | ((first | refine j5 (hK _ ?_) | refine z6 (hK _ _ x5 ?_));clear hK K));(first | show AWP _ _ _ _ _ | ((try simp only [x7]);first | show loopQ _ _ _ _ _ _ | show cutQ _ _ _ _ | show AWP _ _ _ _ _))) | ((first | refine z8 [] rfl ?_ | refine x8 [] rfl ?_);simp (disch:=omega) only [go_sem,seval,hd,cb,r0,r1];(repeat (first | refine ⟨by omega,?_⟩ | refine ⟨True.intro,?_⟩)))))
 refine j0 fun K hK => ?_
 iterate 22 ((first | refine j13 [] rfl rfl ?_ | refine q14 [] rfl rfl ?_ | refine z13 rfl rfl ?_ | refine x13 rfl rfl ?_);simp (disch:=omega) only [go_sem,seval,hd,cb,r0,r1];(repeat (first | refine ⟨by omega,?_⟩ | refine ⟨True.intro,?_⟩)))
 (refine q15 _ (z15 [(1000,503),(1001,501),(1999,1999)] rfl rfl rfl rfl rfl rfl (k7) rfl (q12 (by repeat (first | exact trivial | refine ⟨rfl,?_⟩)) (by kernel_rfl))) ?_);simp (disch:=omega) only [go_sem,seval,hd,cb,r0,r1]
 iterate 5 ((first | refine j13 [] rfl rfl ?_ | refine q14 [] rfl rfl ?_ | refine z13 rfl rfl ?_ | refine x13 rfl rfl ?_);simp (disch:=omega) only [go_sem,seval,hd,cb,r0,r1];(repeat (first | refine ⟨by omega,?_⟩ | refine ⟨True.intro,?_⟩)))
 (refine q15 _ (z15 [(1000,503),(1001,501),(1999,1999)] rfl rfl rfl rfl rfl rfl (k6) rfl (q12 (by repeat (first | exact trivial | refine ⟨rfl,?_⟩)) (by kernel_rfl))) ?_);simp (disch:=omega) only [go_sem,seval,hd,cb,r0,r1]
 (repeat (first | apply x4 | refine j7 rfl ?_ | refine q8 rfl ?_ | apply j6 | (refine j0 fun K hK => ?_) | (refine j4 fun K hK => ?_) | ((first | apply x6 | apply z7 | ((first | refine j5 (hK _ ?_) | refine z6 (hK _ _ x5 ?_));clear hK K));(first | show AWP _ _ _ _ _ | ((try simp only [x7]);first | show loopQ _ _ _ _ _ _ | show cutQ _ _ _ _ | show AWP _ _ _ _ _))) | ((first | refine z8 [] rfl ?_ | refine x8 [] rfl ?_);simp (disch:=omega) only [go_sem,seval,hd,cb,r0,r1];(repeat (first | refine ⟨by omega,?_⟩ | refine ⟨True.intro,?_⟩)))))
 refine j9 ⟨_,?_,rfl⟩;rw [Try.results12];simp (disch:=omega) only [ResVars,ResVar,ptrLoc,go_sem,seval,hd,cb,r0,r1]
def rowIt (l : Items) : Nat → List Dat := fun i => [.v (.int .i64 (l.getD i (0,⟨0,0⟩)).1),.v (.string (txt (l.getD i (0,⟨0,0⟩)).2))]
theorem q94 (l : Items) (i : Nat) : rowIt l i = [.v (.int .i64 (l.getD i (0,⟨0,0⟩)).1),.v (.string (txt (l.getD i (0,⟨0,0⟩)).2))] := rfl
def posGo (z : Int) : List Int → Nat → Nat → Nat
 | [],_,a => a
 | y :: r,k,a => posGo z r (k + 1) (if y < z then k + 1 else a)
def posZ (z : Int) (l : List Int) : Nat := posGo z l 0 0
def insZ (z : Int) (l : List Int) : List Int := l.take (posZ z l) ++ z :: l.drop (posZ z l)
def metGo (k : Cube) : Items → List Int → List Int
 | [],out => out
 | x :: r,out => metGo k r (if apart x.2 k == 0 then insZ x.1 out else out)
def metZ (k : Cube) (l : Items) : List Int := metGo k l []
theorem z94 (z : Int) : ∀ (l : List Int) (k a : Nat),a ≤ k → posGo z l k a ≤ k + l.length
 | [],k,a,h => by simpa [posGo] using h
 |y :: r,k,a,h => by
  unfold posGo
  have := z94 z r (k + 1) (if y < z then k + 1 else a) (by split <;> omega)
  simp;omega
theorem z61 (z : Int) (l : List Int) : posZ z l ≤ l.length := by have := z94 z l 0 0 (Nat.le_refl _);simpa [posZ] using this
theorem z143 (z : Int) (l : List Int) : (insZ z l).length = l.length + 1 := by
 have := z61 z l
 unfold insZ;simp;omega
theorem ins_row (z : Int) (l : List Int) (i : Nat) (hi : i < l.length + 1) : catF (posZ z l + 1) (catF (posZ z l) (rowZ l) fun i => [[Dat.v (.int .i64 z)]].getD i []) (fun i => rowZ l (posZ z l + i)) i = rowZ (insZ z l) i := by
 have hp := z61 z l
 unfold insZ
 generalize posZ z l = a at *
 unfold catF rowZ
 simp only [List.getD_eq_getElem?_getD]
 by_cases h1 : i < a
 ·rw [if_pos (by omega),if_pos h1,List.getElem?_append_left (by simp;omega),List.getElem?_take_of_lt h1]
 ·by_cases h2 : i = a
  ·subst h2
   rw [if_pos (by omega),if_neg (by omega),List.getElem?_append_right (by simp;omega)]
   simp [List.length_take,Nat.min_eq_left hp]
  ·rw [if_neg (by omega),List.getElem?_append_right (by simp;omega)]
   simp only [List.length_take,Nat.min_eq_left hp]
   have e : i - a = (i - (a + 1)) + 1 := by omega
   rw [e,List.getElem?_cons_succ,List.getElem?_drop]
theorem x143 (l : Items) (i : Nat) (h : i < l.length) : l.drop i = l.getD i (0,⟨0,0⟩) :: l.drop (i + 1) := by
 rw [List.drop_eq_getElem_cons h,List.getD_eq_getElem?_getD,List.getElem?_eq_getElem h];rfl
theorem x61 (l : List Int) (i : Nat) (h : i < l.length) : l.drop i = l.getD i 0 :: l.drop (i + 1) := by
 rw [List.drop_eq_getElem_cons h,List.getD_eq_getElem?_getD,List.getElem?_eq_getElem h];rfl
structure MtS (l : Items) (k : Cube) (R : List Int) where
 i : Nat
 out : List Int
 hi : i ≤ l.length
 ho : out.length ≤ i
 h : metGo k (l.drop i) out = R
def mtI (l : Items) (k : Cube) (R : List Int) (s : MtS l k R) : ASt :=
 ⟨[(6,.p (.d (.v (.int .i64 (s.i : Int))))),(5,.p (.d (.sl 1 s.out.length (rowZ s.out)))),(1,.p (.d (.v (.string (txt k))))),(0,.p (.d (.sl 2 l.length (rowIt l))))],[]⟩
structure MpS (z : Int) (out : List Int) where
 k : Nat
 a : Nat
 hk : k ≤ out.length
 ha : a ≤ k
 h : posGo z (out.drop k) k a = posZ z out
def mpI (l : Items) (kc : Cube) (i : Nat) (z : Int) (out : List Int) (s : MpS z out) : ASt :=
 ⟨[(10,.p (.d (.v (.int .i64 (s.k : Int))))),(9,.p (.d (.v (.int .i64 (s.a : Int))))),(6,.p (.d (.v (.int .i64 (i : Int))))),(5,.p (.d (.sl 1 out.length (rowZ out)))),(1,.p (.d (.v (.string (txt kc))))),(0,.p (.d (.sl 2 l.length (rowIt l))))],[]⟩
set_option maxRecDepth 100000 in
theorem x94 (l : Items) (k : Cube) (hl : l.length ≤ 1099511627776) : ACalls Try.prog 21 [.d (.sl 2 l.length (rowIt l)),.d (.v (.string (txt k)))] (· = [.d (.sl 1 (metZ k l).length (rowZ (metZ k l)))]) := by
 obtain ⟨R,hR⟩ : ∃ R,metZ k l = R := ⟨_,rfl⟩
 rw [hR]
 unfold metZ at hR
 refine j12 Try.func21 rfl (by decide +kernel) (by rw [Try.ntmps21];simp) ?_;rw [Try.ntmps21];simp only [frOf]
 (repeat (first | apply x4 | refine j7 rfl ?_ | refine q8 rfl ?_ | apply j6 | (refine j0 fun K hK => ?_) | (refine j4 fun K hK => ?_) | ((first | apply x6 | apply z7 | ((first | refine j5 (hK _ ?_) | refine z6 (hK _ _ x5 ?_));clear hK K));(first | show AWP _ _ _ _ _ | ((try simp only [x7]);first | show loopQ _ _ _ _ _ _ | show cutQ _ _ _ _ | show AWP _ _ _ _ _))) | ((first | refine z8 [] rfl ?_ | refine x8 [] rfl ?_);simp (disch:=omega) only [go_sem,seval,hd,cb];(repeat (first | refine ⟨by omega,?_⟩ | refine ⟨True.intro,?_⟩)))))
 refine x19 (mtI l k R) (fun s => l.length - s.i) ⟨0,[],by omega,by simp,hR⟩ ?_ (fun s => ?_)
 ·unfold mtI
  refine Weak.list ?_ ?_;(all_goals simp (disch:=omega) only [AllF,AllL,q11,z11,j10,exists_eq_left',go_sem,seval,hd,cb]);(all_goals (repeat' (with_reducible apply And.intro)));(all_goals try (first | exact j8 rfl | (refine x11 ?_;omega) | (refine j8 ?_;simp;done)))
  ·exact j41 rfl (fun i hi => by omega)
 obtain ⟨i,out,hi,ho,h⟩ := s
 unfold mtI
 simp only [] at hi ho h ⊢
 by_cases hlt : i < l.length
 ·have r1 := q94 l i
  rw [x143 l i hlt] at h
  have tm := MeetT_c (l.getD i (0,⟨0,0⟩)).2 k
  unfold metGo at h
  generalize l.getD i (0,⟨0,0⟩) = x at r1 h tm
  obtain ⟨z,c⟩ := x
  simp only [] at r1 h tm
  generalize (apart c k == 0) = b at h tm
  cases b with
  |false =>
   simp only [Bool.false_eq_true,if_false] at h tm
   (repeat (first | apply x4 | refine j7 rfl ?_ | refine q8 rfl ?_ | apply j6 | (refine j0 fun K hK => ?_) | (refine j4 fun K hK => ?_) | ((first | apply x6 | apply z7 | ((first | refine j5 (hK _ ?_) | refine z6 (hK _ _ x5 ?_));clear hK K));(first | show AWP _ _ _ _ _ | ((try simp only [x7]);first | show loopQ _ _ _ _ _ _ | show cutQ _ _ _ _ | show AWP _ _ _ _ _))) | ((first | refine q10 rfl rfl rfl ?_ | refine z10 rfl rfl rfl ?_);simp (disch:=omega) only [go_sem,seval,hd,cb,r1];(first | refine ⟨_,tm,?_⟩)) | ((first | refine z8 [] rfl ?_ | refine x8 [] rfl ?_);simp (disch:=omega) only [go_sem,seval,hd,cb,r1];(repeat (first | refine ⟨by omega,?_⟩ | refine ⟨True.intro,?_⟩)))))
   refine ⟨⟨i + 1,out,by omega,by omega,h⟩,by simp only [];omega,?_⟩
   refine Weak.list ?_ ?_;(all_goals simp (disch:=omega) only [AllF,AllL,q11,z11,j10,exists_eq_left',go_sem,seval,hd,cb,r1]);(all_goals (repeat' (with_reducible apply And.intro)));(all_goals try (first | exact j8 rfl | (refine x11 ?_;omega) | (refine j8 ?_;simp;done)))
  |true =>
   simp only [if_true] at h tm
   (repeat (first | apply x4 | refine j7 rfl ?_ | refine q8 rfl ?_ | apply j6 | (refine j0 fun K hK => ?_) | (refine j4 fun K hK => ?_) | ((first | apply x6 | apply z7 | ((first | refine j5 (hK _ ?_) | refine z6 (hK _ _ x5 ?_));clear hK K));(first | show AWP _ _ _ _ _ | ((try simp only [x7]);first | show loopQ _ _ _ _ _ _ | show cutQ _ _ _ _ | show AWP _ _ _ _ _))) | ((first | refine q10 rfl rfl rfl ?_ | refine z10 rfl rfl rfl ?_);simp (disch:=omega) only [go_sem,seval,hd,cb,r1];(first | refine ⟨_,tm,?_⟩)) | ((first | refine z8 [] rfl ?_ | refine x8 [] rfl ?_);simp (disch:=omega) only [go_sem,seval,hd,cb,r1];(repeat (first | refine ⟨by omega,?_⟩ | refine ⟨True.intro,?_⟩)))))
   have hpz := z61 z out
   have hil := z143 z out
   have hir := ins_row z out
   obtain ⟨P,hP⟩ : ∃ P,posZ z out = P := ⟨_,rfl⟩
   refine x19 (mpI l k i z out) (fun s => out.length - s.k) ⟨0,0,by omega,by omega,rfl⟩ ?_ (fun s => ?_)
   ·unfold mpI
    refine Weak.list ?_ ?_;(all_goals simp (disch:=omega) only [AllF,AllL,q11,z11,j10,exists_eq_left',go_sem,seval,hd,cb,r1]);(all_goals (repeat' (with_reducible apply And.intro)));(all_goals try (first | exact j8 rfl | (refine x11 ?_;omega) | (refine j8 ?_;simp;done)))
   obtain ⟨q,a,hq,ha,hh⟩ := s
   unfold mpI
   simp only [] at hq ha hh ⊢
   by_cases hql : q < out.length
   ·have r2 := j34 out q
    rw [x61 out q hql] at hh
    unfold posGo at hh
    generalize out.getD q 0 = y at r2 hh
    by_cases hy : y < z
    ·rw [if_pos hy] at hh
     have q1 : decide (y < z) = true := decide_eq_true hy
     (repeat (first | apply x4 | refine j7 rfl ?_ | refine q8 rfl ?_ | apply j6 | (refine j0 fun K hK => ?_) | (refine j4 fun K hK => ?_) | ((first | apply x6 | apply z7 | ((first | refine j5 (hK _ ?_) | refine z6 (hK _ _ x5 ?_));clear hK K));(first | show AWP _ _ _ _ _ | ((try simp only [x7]);first | show loopQ _ _ _ _ _ _ | show cutQ _ _ _ _ | show AWP _ _ _ _ _))) | ((first | refine z8 [] rfl ?_ | refine x8 [] rfl ?_);simp (disch:=omega) only [go_sem,seval,hd,cb,r1,r2,q1];(repeat (first | refine ⟨by omega,?_⟩ | refine ⟨True.intro,?_⟩)))))
     refine ⟨⟨q + 1,q + 1,by omega,by omega,hh⟩,by simp only [];omega,?_⟩
     refine Weak.list ?_ ?_;(all_goals simp (disch:=omega) only [AllF,AllL,q11,z11,j10,exists_eq_left',go_sem,seval,hd,cb,r1,r2,q1]);(all_goals (repeat' (with_reducible apply And.intro)));(all_goals try (first | exact j8 rfl | (refine x11 ?_;omega) | (refine j8 ?_;simp;done)))
    ·rw [if_neg hy] at hh
     have q1 : decide (y < z) = false := decide_eq_false hy
     (repeat (first | apply x4 | refine j7 rfl ?_ | refine q8 rfl ?_ | apply j6 | (refine j0 fun K hK => ?_) | (refine j4 fun K hK => ?_) | ((first | apply x6 | apply z7 | ((first | refine j5 (hK _ ?_) | refine z6 (hK _ _ x5 ?_));clear hK K));(first | show AWP _ _ _ _ _ | ((try simp only [x7]);first | show loopQ _ _ _ _ _ _ | show cutQ _ _ _ _ | show AWP _ _ _ _ _))) | ((first | refine z8 [] rfl ?_ | refine x8 [] rfl ?_);simp (disch:=omega) only [go_sem,seval,hd,cb,r1,r2,q1];(repeat (first | refine ⟨by omega,?_⟩ | refine ⟨True.intro,?_⟩)))))
     refine ⟨⟨q + 1,a,by omega,by omega,hh⟩,by simp only [];omega,?_⟩
     refine Weak.list ?_ ?_;(all_goals simp (disch:=omega) only [AllF,AllL,q11,z11,j10,exists_eq_left',go_sem,seval,hd,cb,r1,r2,q1]);(all_goals (repeat' (with_reducible apply And.intro)));(all_goals try (first | exact j8 rfl | (refine x11 ?_;omega) | (refine j8 ?_;simp;done)))
   ·have eq : q = out.length := by omega
    subst eq
    rw [List.drop_length] at hh
    unfold posGo at hh
    rw [hP] at hh hpz hir
    subst hh
    (repeat (first | apply x4 | refine j7 rfl ?_ | refine q8 rfl ?_ | apply j6 | (refine j0 fun K hK => ?_) | (refine j4 fun K hK => ?_) | ((first | apply x6 | apply z7 | ((first | refine j5 (hK _ ?_) | refine z6 (hK _ _ x5 ?_));clear hK K));(first | show AWP _ _ _ _ _ | ((try simp only [x7]);first | show loopQ _ _ _ _ _ _ | show cutQ _ _ _ _ | show AWP _ _ _ _ _))) | ((first | refine z8 [48] rfl ?_ | refine x8 [48] rfl ?_);simp (disch:=omega) only [go_sem,seval,hd,cb,r1];(repeat (first | refine ⟨by omega,?_⟩ | refine ⟨True.intro,?_⟩)))))
    refine ⟨⟨i + 1,insZ z out,by omega,by omega,h⟩,by simp only [];omega,?_⟩
    refine Weak.list ?_ ?_;(all_goals simp (disch:=omega) only [AllF,AllL,q11,z11,j10,exists_eq_left',go_sem,seval,hd,cb,r1]);(all_goals (repeat' (with_reducible apply And.intro)));(all_goals try (first | exact j8 rfl | (refine x11 ?_;omega) | (refine j8 ?_;simp;done)))
    ·refine le_gr (by omega) (fun i hi => ?_)
     rw [← hir i (by omega),Nat.sub_zero]
     unfold catF
     simp only [Nat.sub_zero,Nat.not_lt_zero,if_false]
 ·have : i = l.length := by omega
  subst this
  rw [List.drop_length] at h
  unfold metGo at h
  subst h
  (repeat (first | apply x4 | refine j7 rfl ?_ | refine q8 rfl ?_ | apply j6 | (refine j0 fun K hK => ?_) | (refine j4 fun K hK => ?_) | ((first | apply x6 | apply z7 | ((first | refine j5 (hK _ ?_) | refine z6 (hK _ _ x5 ?_));clear hK K));(first | show AWP _ _ _ _ _ | ((try simp only [x7]);first | show loopQ _ _ _ _ _ _ | show cutQ _ _ _ _ | show AWP _ _ _ _ _))) | ((first | refine z8 [] rfl ?_ | refine x8 [] rfl ?_);simp (disch:=omega) only [go_sem,seval,hd,cb];(repeat (first | refine ⟨by omega,?_⟩ | refine ⟨True.intro,?_⟩)))))
  refine j9 ⟨_,?_,rfl⟩;rw [Try.results21];simp (disch:=omega) only [ResVars,ResVar,ptrLoc,go_sem,seval,hd,cb]
theorem j94 (z : Int) : ∀ (l : List Int) (k a : Nat),(posGo z l k a = a ∧ ∀ y ∈ l,z ≤ y) ∨ (∃ u y v,l = u ++ y :: v ∧ y < z ∧ (∀ x ∈ v,z ≤ x) ∧ posGo z l k a = k + u.length + 1)
 | [],k,a => .inl ⟨rfl,fun y hy => by cases hy⟩
 |y :: r,k,a => by
  unfold posGo
  rcases j94 z r (k + 1) (if y < z then k + 1 else a) with ⟨h1,h2⟩ | ⟨u,y',v,h1,h2,h3,h4⟩
  ·by_cases hy : y < z
   ·rw [if_pos hy] at h1 ⊢
    exact .inr ⟨[],y,r,rfl,hy,h2,by rw [h1];simp⟩
   ·rw [if_neg hy] at h1 ⊢
    refine .inl ⟨h1,fun x hx => ?_⟩
    rcases List.mem_cons.1 hx with rfl | hx
    ·omega
    ·exact h2 x hx
  ·exact .inr ⟨y :: u,y',v,by rw [h1];rfl,h2,h3,by rw [h4];simp;omega⟩
def Srt (l : List Int) : Prop := l.Pairwise (· ≤ ·)
theorem j143 {z : Int} {l : List Int} (h : Srt l) : Srt (insZ z l) := by
 unfold Srt at *
 unfold insZ posZ
 rcases j94 z l 0 0 with ⟨h1,h2⟩ | ⟨u,y,v,h1,h2,h3,h4⟩
 ·rw [h1]
  simp only [List.take_zero,List.drop_zero,List.nil_append]
  exact List.pairwise_cons.2 ⟨h2,h⟩
 ·rw [h4]
  subst h1
  have e1 : (u ++ y :: v).take (0 + u.length + 1) = u ++ [y] := by
   rw [Nat.zero_add,List.take_append,List.take_of_length_le (by omega)];simp
  have e2 : (u ++ y :: v).drop (0 + u.length + 1) = v := by
   rw [Nat.zero_add,List.drop_append];simp
  rw [e1,e2]
  obtain ⟨hu,hyv,huv⟩ := List.pairwise_append.1 h
  obtain ⟨hy,hv⟩ := List.pairwise_cons.1 hyv
  refine List.pairwise_append.2 ⟨List.pairwise_append.2 ⟨hu,List.pairwise_singleton _ _,fun a ha b hb => ?_⟩,List.pairwise_cons.2 ⟨h3,hv⟩,fun a ha b hb => ?_⟩
  ·simp at hb;subst hb;exact huv a ha _ (by simp)
  ·have hay : a ≤ y := by
    rcases List.mem_append.1 ha with ha | ha
    ·exact huv a ha _ (by simp)
    ·simp at ha;omega
   rcases List.mem_cons.1 hb with rfl | hb
   ·omega
   ·have := h3 b hb;omega
theorem q144 (z : Int) (l : List Int) : (insZ z l).Perm (z :: l) := by
 unfold insZ
 refine List.perm_middle.trans ?_
 rw [List.take_append_drop]
theorem q95 (k : Cube) : ∀ (l : Items) (out : List Int),Srt out → Srt (metGo k l out)
 | [],out,h => h
 |x :: r,out,h => by
  unfold metGo
  refine q95 k r _ ?_
  split
  ·exact j143 h
  ·exact h
theorem j61 (k : Cube) : ∀ (l : Items) (out : List Int),(metGo k l out).Perm (out ++ (l.filter fun x => apart x.2 k == 0).map (·.1))
 | [],out => by simp [metGo]
 |x :: r,out => by
  unfold metGo
  refine (j61 k r _).trans ?_
  cases hb : (apart x.2 k == 0) with
  |true =>
   simp only [if_true,List.filter_cons,hb,List.map_cons]
   refine ((q144 x.1 out).append_right _).trans ?_
   exact List.perm_middle.symm
  |false =>
   simp only [Bool.false_eq_true,if_false,List.filter_cons,hb]
   exact List.Perm.refl _
theorem q45 {k : Cube} {l : Items} (hl : AllSnd l) (hk : k.sound = true) : metZ k l = fndZ l k := by
 unfold metZ fndZ foundU
 have e : (l.filter fun x => meetO x.2 k) = l.filter fun x => apart x.2 k == 0 := by
  refine List.filter_congr fun x hx => ?_
  unfold meetO
  rw [hl x hx,hk];simp
 rw [e]
 have h1 := j61 k l []
 rw [List.nil_append] at h1
 rw [← z60 h1]
 have hs := q95 k l [] List.Pairwise.nil
 unfold srtZ
 exact (List.mergeSort_of_pairwise (hs.imp fun h => by simpa using h)).symm
theorem z95 (k : Cube) (l : Items) : (metZ k l).length ≤ l.length := by
 unfold metZ
 rw [(j61 k l []).length_eq]
 simp
 exact List.length_filter_le _ _
def ixI (l : Items) (id : Int) : Nat := l.findIdx fun x => x.1 == id
theorem q62 {l : Items} {id : Int} (h : idIn l id = true) : ixI l id < l.length := by
 unfold ixI
 rw [List.findIdx_lt_length]
 unfold idIn at h
 obtain ⟨x,h1,h2⟩ := List.any_eq_true.1 h
 exact ⟨x,h1,h2⟩
theorem x95 {l : Items} {id : Int} (h : idIn l id = false) : ixI l id = l.length := by
 unfold ixI
 rw [List.findIdx_eq_length]
 unfold idIn at h
 intro x hx
 have := List.any_eq_false.1 h x hx
 simpa using this
theorem ixI_at {l : Items} {id : Int} (hu : Uniq l) {k : Nat} (hk : k < l.length) : ((l.getD k (0,⟨0,0⟩)).1 == id) = decide (k = ixI l id) := by
 rw [List.getD_eq_getElem?_getD,List.getElem?_eq_getElem hk,Option.getD_some]
 by_cases e : k = ixI l id
 ·rw [decide_eq_true e]
  subst e
  exact List.findIdx_getElem (p := fun x : Int × Cube => x.1 == id) (xs := l) (w := hk)
 ·rw [decide_eq_false e]
  cases hb : (l[k].1 == id) with
  | false => rfl
  |true =>
   exfalso
   have hin : idIn l id = true := List.any_eq_true.2 ⟨l[k],List.getElem_mem hk,hb⟩
   have hlt := q62 hin
   have h2 : (l[ixI l id].1 == id) = true := List.findIdx_getElem (p := fun x : Int × Cube => x.1 == id) (xs := l) (w := hlt)
   rw [beq_iff_eq] at hb h2
   have hinj := j59 hu (List.getElem_mem hk) (List.getElem_mem hlt) (by rw [hb,h2])
   have hn : l.Nodup := by
    have : (l.map (·.1)).Nodup := hu
    exact (List.pairwise_map.1 this).imp fun h e => h (by rw [e])
   exact e ((List.getElem_inj (h₀ := hk) (h₁ := hlt) hn).1 hinj)
theorem z144 {l : Items} {id : Int} (hu : Uniq l) (h : idIn l id = true) : l.take (ixI l id) ++ l.drop (ixI l id + 1) = delI l id := by
 induction l with
 | nil => simp [idIn] at h
 |cons x l ih =>
  have hu' : x.1 ∉ l.map (·.1) ∧ Uniq l := by simpa [Uniq] using hu
  by_cases e : x.1 = id
  ·have hx : (x.1 == id) = true := by simpa using e
   have e0 : ixI (x :: l) id = 0 := by unfold ixI;rw [List.findIdx_cons,hx];rfl
   rw [e0]
   have : delI (x :: l) id = l := by
    unfold delI
    rw [List.filter_cons_of_neg (by simp [e]),List.filter_eq_self]
    intro y hy
    have : y.1 ≠ id := fun e' => hu'.1 (by rw [e,← e'];exact List.mem_map_of_mem hy)
    simpa using this
   rw [this];simp
  ·have hx : (x.1 == id) = false := by simpa using e
   have hin : idIn l id = true := by simpa [idIn,hx] using h
   have e1 : ixI (x :: l) id = ixI l id + 1 := by unfold ixI;rw [List.findIdx_cons,hx];rfl
   rw [e1]
   have hd : delI (x :: l) id = x :: delI l id := by
    unfold delI
    rw [List.filter_cons_of_pos (by simpa using e)]
   rw [hd,← ih hu'.2 hin];simp
theorem x144 {l : Items} (hu : Uniq l) (id : Int) : Uniq (delI l id) := by
 unfold Uniq delI at *
 exact List.Nodup.sublist (List.Sublist.map _ List.filter_sublist) hu
theorem snd_del {l : Items} (hs : AllSnd l) (id : Int) : AllSnd (delI l id) := fun x hx => hs x (List.mem_filter.1 hx).1
theorem j144 {l : Items} (hu : Uniq l) {id : Int} (h : idIn l id = false) (c : Cube) : Uniq (l ++ [(id,c)]) := by
 unfold Uniq at *
 rw [List.map_append,List.nodup_append]
 refine ⟨hu,by simp,fun a ha b hb => ?_⟩
 simp at hb
 subst hb
 intro e
 subst e
 obtain ⟨x,hx,e⟩ := List.mem_map.1 ha
 have := List.any_eq_false.1 h x hx
 simp [e] at this
theorem snd_add {l : Items} (hs : AllSnd l) (id : Int) {c : Cube} (hc : c.sound = true) : AllSnd (l ++ [(id,c)]) := by
 intro x hx
 rcases List.mem_append.1 hx with hx | hx
 ·exact hs x hx
 ·simp at hx;subst hx;exact hc
end Go.Proofs.Ytbamjcnhmmgnlaa
namespace Go.Proofs.Ytbamjcnhmmgnlaa.AL
open Go.RowKit
theorem Weak.regrow (A : ASt) (t l l2 gen sz n : Nat) (e : TypeId) (f : Nat → List Dat) (ht : look A.fr t = some (.gr l gen sz n f)) (hl : look A.locs l = some (.grow e sz n gen)) (hu : unusedB A l2 = true) (hno : look A.locs l2 = none) :
  Weak A ⟨(t,.gr l2 gen sz n f) :: A.fr,(l2,.grow e sz n gen) :: dropL l A.locs⟩ := by
 intro w0 g0 nt h a w r
 obtain ⟨c1,c2,c3,c4⟩ := r.locs l _ hl
 obtain ⟨q1,q2,q3⟩ := r.fr t _ ht
 have hv := q3 c1
 let h' : Gh := { h with κ := fun k => if k = l2 then h.κ l else h.κ k,μ := fun k => if k = l2 then gen else h.μ k }
 have un := q23 hu
 have tr : Trans w0.O w h w h' (fun _ => False) (some l2) true := by
  refine ⟨BelowS.refl _ _,fun b _ _ => ⟨rfl,rfl⟩,⟨fun b => Nat.le_refl _,fun b o _ => rfl⟩,r.gz,fun b _ => rfl,fun _ _ => rfl,fun k hk => ?_,fun k _ hf => by cases hf⟩
  have : k ≠ l2 := fun e => hk (by rw [e])
  simp [h',this]
 have nk : h'.κ l2 = h.κ l := by simp [h']
 have nm : h'.μ l2 = gen := by simp [h']
 have oldk : ∀ k L,k ≠ l2 → look A.locs k = some L → LocOK w0.O w h' k L ∧ inB h' k L = inB h k L := fun k L hne hk =>
  LocOK.trans tr (fun e => hne (by cases e;rfl)) (fun _ l' hl' hm => by cases hl';exact un.2.1 k L hk hm) (fun b _ => by simp) (r.locs k L hk)
 have old : ∀ k L,look ((l2,LV.grow e sz n gen) :: dropL l A.locs) k = some L → (k = l2 ∧ L = .grow e sz n gen) ∨ (k ≠ l2 ∧ k ≠ l ∧ look A.locs k = some L) := by
  intro k L hk
  simp only [look] at hk
  split at hk
  ·rename_i e;cases hk;exact .inl ⟨e.symm,rfl⟩
  ·rename_i e1
   obtain ⟨k1,k2⟩ := q35 hk
   exact .inr ⟨fun e => e1 e.symm,k1,k2⟩
 have hin2 : ∀ b',inB h' l2 (.grow e sz n gen) b' → inB h l (.grow e sz n gen) b' := by
  intro b' hb'
  simp only [inB,nk] at hb' ⊢
  exact hb'
 refine ⟨h',r.size,r.defers,fun u y hy => ?_,fun k L hk => ?_,fun k k' L L' b' hkk hk hk' hb1 hb2 => ?_,r.ext,fun k hk => ?_⟩
 ·simp only [look] at hy
  split at hy
  ·rename_i e;subst e;cases hy
   exact ⟨q1,by rw [nm];exact Nat.le_refl _,fun _ => by rw [nk];exact hv⟩
  ·exact RelA.trans tr (fun _ l' hl' hm => by cases hl';exact un.1 u y hy hm) (r.fr u y hy)
 ·rcases old k L hk with ⟨rfl,rfl⟩ | ⟨n1,n2,h3⟩
  ·refine ⟨nm,?_,?_,?_⟩
   ·rw [nk];exact c2
   ·rw [nk];exact c3
   ·rw [nk];exact c4
  ·exact (oldk k L n1 h3).1
 ·rcases old k L hk with ⟨rfl,rfl⟩ | ⟨n1,n2,h3⟩ <;> rcases old k' L' hk' with ⟨e',rfl⟩ | ⟨n1',n2',h3'⟩
  ·exact hkk e'.symm
  ·rw [(oldk k' L' n1' h3').2] at hb2
   exact r.sep l k' _ L' b' (fun e => n2' e.symm) hl h3' (hin2 b' hb1) hb2
  ·subst e'
   rw [(oldk k L n1 h3).2] at hb1
   exact r.sep l k _ L b' (fun e => n2 e.symm) hl h3 (hin2 b' hb2) hb1
  ·rw [(oldk k L n1 h3).2] at hb1
   rw [(oldk k' L' n1' h3').2] at hb2
   exact r.sep k k' L L' b' hkk h3 h3' hb1 hb2
 ·have : k ≠ l2 := by have := un.2.2;omega
  simp only [h',if_neg this]
  exact r.pin k hk
end Go.Proofs.Ytbamjcnhmmgnlaa.AL
namespace Go.Proofs.Ytbamjcnhmmgnlaa
open Go Go.Proofs.Ytbamjcnhmmgnlaa.AL Go.RowKit
def intsI (a b : List Int) (s : {i : Nat // i ≤ a.length ∧ (a.drop i == b.drop i) = (a == b)}) : ASt :=
 ⟨[(5,.p (.d (.v (.int .i64 (s.val : Int))))),(1,.p (.d (.sl 1 a.length (rowZ b)))),(0,.p (.d (.sl 1 a.length (rowZ a))))],[]⟩
theorem z62 (a b : List Int) (ha : a.length ≤ 1099511627776) (hb : b.length ≤ 1099511627776) : ACalls Try.prog 23 [.d (.sl 1 a.length (rowZ a)),.d (.sl 1 b.length (rowZ b))] (· = [.d (.v (.bool (a == b)))]) := by
 by_cases hn : a.length = b.length
 ·rw [← hn]
  generalize hR : (a == b) = R
  have q0 : ((a.length : Int) != (a.length : Int)) = false := bne_self_eq_false _
  refine j12 Try.func23 rfl (by decide +kernel) (by rw [Try.ntmps23];simp) ?_;rw [Try.ntmps23];simp only [frOf]
  (repeat (first | apply x4 | refine j7 rfl ?_ | refine q8 rfl ?_ | apply j6 | (refine j0 fun K hK => ?_) | (refine j4 fun K hK => ?_) | ((first | apply x6 | apply z7 | ((first | refine j5 (hK _ ?_) | refine z6 (hK _ _ x5 ?_));clear hK K));(first | show AWP _ _ _ _ _ | ((try simp only [x7]);first | show loopQ _ _ _ _ _ _ | show cutQ _ _ _ _ | show AWP _ _ _ _ _))) | ((first | refine z8 [] rfl ?_ | refine x8 [] rfl ?_);simp (disch:=omega) only [go_sem,seval,hd,cb,q0];(repeat (first | refine ⟨by omega,?_⟩ | refine ⟨True.intro,?_⟩)))))
  refine x19 (intsI a b) (fun s => a.length - s.val) ⟨0,Nat.zero_le _,by rw [List.drop_zero,List.drop_zero]⟩ ?_ (fun s => ?_)
  ·unfold intsI
   refine Weak.list ?_ ?_;(all_goals simp (disch:=omega) only [AllF,AllL,q11,z11,j10,exists_eq_left',go_sem,seval,hd,cb]);(all_goals (repeat' (with_reducible apply And.intro)));(all_goals try (first | exact j8 rfl | (refine x11 ?_;omega) | (refine j8 ?_;simp;done)))
  obtain ⟨i,h1,h2⟩ := s
  unfold intsI
  simp only [] at h1 h2 ⊢
  rw [hR] at h2
  by_cases h : i < a.length
  ·have h3 : i < b.length := by omega
   rw [x61 a i h,x61 b i h3] at h2
   have r1 := j34 a i
   have r2 := j34 b i
   generalize a.getD i 0 = x at h2 r1
   generalize b.getD i 0 = y at h2 r2
   by_cases hxy : x = y
   ·subst hxy
    have q : (x != x) = false := bne_self_eq_false x
    have h4 : (a.drop (i + 1) == b.drop (i + 1)) = (a == b) := by
     rw [hR,← h2];simp
    (repeat (first | apply x4 | refine j7 rfl ?_ | refine q8 rfl ?_ | apply j6 | (refine j0 fun K hK => ?_) | (refine j4 fun K hK => ?_) | ((first | apply x6 | apply z7 | ((first | refine j5 (hK _ ?_) | refine z6 (hK _ _ x5 ?_));clear hK K));(first | show AWP _ _ _ _ _ | ((try simp only [x7]);first | show loopQ _ _ _ _ _ _ | show cutQ _ _ _ _ | show AWP _ _ _ _ _))) | ((first | refine z8 [] rfl ?_ | refine x8 [] rfl ?_);simp (disch:=omega) only [go_sem,seval,hd,cb,r1,r2,q];(repeat (first | refine ⟨by omega,?_⟩ | refine ⟨True.intro,?_⟩)))))
    refine ⟨⟨i + 1,by omega,h4⟩,by simp only [];omega,?_⟩
    refine Weak.list ?_ ?_;(all_goals simp (disch:=omega) only [AllF,AllL,q11,z11,j10,exists_eq_left',go_sem,seval,hd,cb,r1,r2,q]);(all_goals (repeat' (with_reducible apply And.intro)));(all_goals try (first | exact j8 rfl | (refine x11 ?_;omega) | (refine j8 ?_;simp;done)))
   ·have q : (x != y) = true := by simpa using hxy
    have h4 : R = false := by rw [← h2];simp [hxy]
    rw [h4]
    (repeat (first | apply x4 | refine j7 rfl ?_ | refine q8 rfl ?_ | apply j6 | (refine j0 fun K hK => ?_) | (refine j4 fun K hK => ?_) | ((first | apply x6 | apply z7 | ((first | refine j5 (hK _ ?_) | refine z6 (hK _ _ x5 ?_));clear hK K));(first | show AWP _ _ _ _ _ | ((try simp only [x7]);first | show loopQ _ _ _ _ _ _ | show cutQ _ _ _ _ | show AWP _ _ _ _ _))) | ((first | refine z8 [] rfl ?_ | refine x8 [] rfl ?_);simp (disch:=omega) only [go_sem,seval,hd,cb,r1,r2,q];(repeat (first | refine ⟨by omega,?_⟩ | refine ⟨True.intro,?_⟩)))))
    refine j9 ⟨_,?_,rfl⟩;rw [Try.results23];simp (disch:=omega) only [ResVars,ResVar,ptrLoc,go_sem,seval,hd,cb,r1,r2,q]
  ·have h4 : R = true := by
    rw [← h2,List.drop_eq_nil_of_le (by omega),List.drop_eq_nil_of_le (by omega)];rfl
   rw [h4]
   (repeat (first | apply x4 | refine j7 rfl ?_ | refine q8 rfl ?_ | apply j6 | (refine j0 fun K hK => ?_) | (refine j4 fun K hK => ?_) | ((first | apply x6 | apply z7 | ((first | refine j5 (hK _ ?_) | refine z6 (hK _ _ x5 ?_));clear hK K));(first | show AWP _ _ _ _ _ | ((try simp only [x7]);first | show loopQ _ _ _ _ _ _ | show cutQ _ _ _ _ | show AWP _ _ _ _ _))) | ((first | refine z8 [] rfl ?_ | refine x8 [] rfl ?_);simp (disch:=omega) only [go_sem,seval,hd,cb];(repeat (first | refine ⟨by omega,?_⟩ | refine ⟨True.intro,?_⟩)))))
   refine j9 ⟨_,?_,rfl⟩;rw [Try.results23];simp (disch:=omega) only [ResVars,ResVar,ptrLoc,go_sem,seval,hd,cb]
 ·have h4 : (a == b) = false := by
   rw [Bool.eq_false_iff]
   intro h;exact hn (by rw [eq_of_beq h])
  have q : ((a.length : Int) != (b.length : Int)) = true := by simpa using (by omega : ¬ (a.length : Int) = (b.length : Int))
  rw [h4]
  refine j12 Try.func23 rfl (by decide +kernel) (by rw [Try.ntmps23];simp) ?_;rw [Try.ntmps23];simp only [frOf]
  (repeat (first | apply x4 | refine j7 rfl ?_ | refine q8 rfl ?_ | apply j6 | (refine j0 fun K hK => ?_) | (refine j4 fun K hK => ?_) | ((first | apply x6 | apply z7 | ((first | refine j5 (hK _ ?_) | refine z6 (hK _ _ x5 ?_));clear hK K));(first | show AWP _ _ _ _ _ | ((try simp only [x7]);first | show loopQ _ _ _ _ _ _ | show cutQ _ _ _ _ | show AWP _ _ _ _ _))) | ((first | refine z8 [] rfl ?_ | refine x8 [] rfl ?_);simp (disch:=omega) only [go_sem,seval,hd,cb,q];(repeat (first | refine ⟨by omega,?_⟩ | refine ⟨True.intro,?_⟩)))))
  refine j9 ⟨_,?_,rfl⟩;rw [Try.results23];simp (disch:=omega) only [ResVars,ResVar,ptrLoc,go_sem,seval,hd,cb,q]
structure Stp where
 wh : Int
 id : Int
 c : Cube
def stpD (s : Stp) : List Dat := [.v (.int .i64 s.wh),.v (.int .i64 s.id),.v (.int .u64 (hi s.c.v)),.v (.int .u64 (lo s.c.v)),.v (.int .u64 (hi s.c.c)),.v (.int .u64 (lo s.c.c))]
def stp0 : Stp := ⟨0,0,⟨0,0⟩⟩
def rowSt (l : List Stp) : Nat → List Dat := fun i => stpD (l.getD i stp0)
theorem q145 (l : List Stp) (i : Nat) : rowSt l i = stpD (l.getD i stp0) := rfl
theorem head_cb (h : BitVec 128) : cb (headC h) = [.v (.int .u64 (hi h)),.v (.int .u64 (lo h)),.v (.int .u64 18446744073709551615),.v (.int .u64 18446744073709551615)] := by
 have h1 : hi (ones 128 <<< 0) = 18446744073709551615 := by decide +kernel
 have h2 : lo (ones 128 <<< 0) = 18446744073709551615 := by decide +kernel
 have h3 : (ones 128 <<< 0 : BitVec 128) = BitVec.allOnes 128 := by decide +kernel
 unfold cb headC mkC
 simp only [h1,h2]
 rw [h3,BitVec.and_allOnes]
theorem x62 (h : BitVec 128) : (headC h).sound = true := by
 have h3 : (ones 128 <<< 0 : BitVec 128) = BitVec.allOnes 128 := by decide +kernel
 unfold headC mkC Cube.sound
 rw [h3]
 simp
theorem z145 (l : Items) (id : Int) (c : Cube) (i : Nat) (hi : i < l.length + 1) : catF l.length (rowIt l) (fun i => [[Dat.v (.int .i64 id),.v (.string (txt c))]].getD i []) i = rowIt (l ++ [(id,c)]) i := by
 unfold catF rowIt
 simp only [List.getD_eq_getElem?_getD]
 split
 ·rw [List.getElem?_append_left (by assumption)]
 ·have : i = l.length := by omega
  subst this
  simp
theorem x145 (l : Items) (a i : Nat) (ha : a < l.length) (hi : i < l.length - 1) : catF a (rowIt l) (fun i => rowIt l (a + 1 + i)) i = rowIt (l.take a ++ l.drop (a + 1)) i := by
 unfold catF rowIt
 simp only [List.getD_eq_getElem?_getD]
 split
 ·rw [List.getElem?_append_left (by simp;omega),List.getElem?_take_of_lt (by assumption)]
 ·rw [List.getElem?_append_right (by simp;omega),List.getElem?_drop]
  simp only [List.length_take,Nat.min_eq_left (by omega : a ≤ l.length)]
structure PyS (st : List Stp) where
 i : Nat
 l : Items
 gen : Nat
 A : List Nat → Option Nat
 V : List Nat → Value
 M : Nat → Option Ent
 hi : i ≤ st.length
 hl : l.length ≤ i
 T : TrM (idsAt l) M A V
 hu : Uniq l
 hs : AllSnd l
def pyL (A : List Nat → Option Nat) (V : List Nat → Value) (M : Nat → Option Ent) (l : Items) (gen : Nat) : List (Nat × LV) :=
 [(28,.grow 47 2 l.length gen),(503,.cells 96 [.p (.d (.v (kidV A [0]))),.p (.d (.v (kidV A [1]))),.p (.d (.v (kidV A [2]))),.p (.d (.v (V []))),.mp 501]),(501,.map [.i64] (esI l)),(1999,.raw M)]
def pyF (st : List Stp) (h : BitVec 128) (c : Cube) (i : Nat) (l : Items) (gen : Nat) : List (Nat × AV) :=
 [(13,.p (.d (.v (.int .i64 (i : Int))))),(12,.p (.d (.v (.bool c.sound)))),(11,.p (.d (.v (.string (if c.sound then txt c else ⟨#[]⟩))))),(9,.p (.d (.v (.string (txt (headC h)))))),(8,.gr 28 gen 2 l.length (rowIt l)),(7,.loc 503 0),
  (5,.p (.d (.bx (cb c)))),(4,.p (.d (.bx (hd h)))),(0,.p (.d (.sl 6 st.length (rowSt st))))]
def pyI (st : List Stp) (h : BitVec 128) (c : Cube) (s : PyS st) : ASt := ⟨pyF st h c s.i s.l s.gen,pyL s.A s.V s.M s.l s.gen⟩
structure PzS (i : Nat) where
 l : Items
 gen : Nat
 A : List Nat → Option Nat
 V : List Nat → Value
 M : Nat → Option Ent
 hl : l.length ≤ i + 1
 T : TrM (idsAt l) M A V
 hu : Uniq l
 hs : AllSnd l
structure PxS (l : Items) (id : Int) where
 k : Nat
 hk : k ≤ l.length
def atZ (l : Items) (id : Int) (k : Nat) : Int := if ixI l id < k then (ixI l id : Int) else -1
def pxI (st : List Stp) (h : BitVec 128) (c : Cube) (i : Nat) (l : Items) (gen : Nat) (A : List Nat → Option Nat) (V : List Nat → Value) (M : Nat → Option Ent) (x : Stp) (s : PxS l x.id) : ASt :=
 ⟨(16,.p (.d (.v (.int .i64 (s.k : Int))))) :: (15,.p (.d (.v (.int .i64 (atZ l x.id s.k))))) :: (14,.loc 14 0) :: pyF st h c i l gen,
  (14,.cells 45 ((stpD x).map fun d => .p (.d d))) :: pyL A V M l gen⟩
set_option maxRecDepth 100000 in
theorem j145 (st : List Stp) (h : BitVec 128) (c : Cube) (hst : st.length ≤ 1099511627776) : ACalls Try.prog 4 [.d (.sl 6 st.length (rowSt st)),.agg (hd h),.agg (cb c)] (· = [.d (.v (.bool true))]) := by
 have k0 := z89
 have ka := q143
 have kt := x55 (headC h)
 rw [x62 h,head_cb h] at kt
 simp only [if_true] at kt
 have kc := x55 c
 refine j12 Try.func4 rfl (by decide +kernel) (by rw [Try.ntmps4];simp) ?_;rw [Try.ntmps4];simp only [frOf]
 (repeat ((fail_if_success (show AWP _ _ (.region 1 _ _) _ _));first | apply x4 | refine j7 rfl ?_ | refine q8 rfl ?_ | apply j6 | (refine j0 fun K hK => ?_) | (refine j4 fun K hK => ?_) | ((first | apply x6 | apply z7 | ((first | refine j5 (hK _ ?_) | refine z6 (hK _ _ x5 ?_));clear hK K));(first | show AWP _ _ _ _ _ | ((try simp only [x7]);first | show loopQ _ _ _ _ _ _ | show cutQ _ _ _ _ | show AWP _ _ _ _ _))) | ((first | refine z8 [28] rfl ?_ | refine x8 [28] rfl ?_);simp (disch:=omega) only [go_sem,seval,hd,cb,stpD];(repeat (first | refine ⟨by omega,?_⟩ | refine ⟨True.intro,?_⟩)))))
 refine j0 fun K hK => ?_
 (refine q15 _ (z15 [(3,503),(1,501)] rfl rfl rfl rfl rfl rfl (k0) rfl (q12 (by repeat (first | exact trivial | refine ⟨rfl,?_⟩)) (by kernel_rfl))) ?_);simp (disch:=omega) only [go_sem,seval,hd,cb,stpD]
 (repeat (first | apply x4 | refine j7 rfl ?_ | refine q8 rfl ?_ | apply j6 | (refine j0 fun K hK => ?_) | (refine j4 fun K hK => ?_) | ((first | apply x6 | apply z7 | ((first | refine j5 (hK _ ?_) | refine z6 (hK _ _ x5 ?_));clear hK K));(first | show AWP _ _ _ _ _ | ((try simp only [x7]);first | show loopQ _ _ _ _ _ _ | show cutQ _ _ _ _ | show AWP _ _ _ _ _))) | ((first | refine q10 rfl rfl rfl ?_ | refine z10 rfl rfl rfl ?_);simp (disch:=omega) only [go_sem,seval,hd,cb,stpD];(first | refine ⟨_,ka,?_⟩ | refine ⟨_,kt,?_⟩ | refine ⟨_,kc,?_⟩)) | ((first | refine z8 [28] rfl ?_ | refine x8 [28] rfl ?_);simp (disch:=omega) only [go_sem,seval,hd,cb,stpD];(repeat (first | refine ⟨by omega,?_⟩ | refine ⟨True.intro,?_⟩)))))
 refine z83 rfl ?_
 refine x19 (pyI st h c) (fun s => st.length - s.i) ⟨0,[],0,noA,noV,noM,by omega,by simp,TrM.empty,List.Pairwise.nil,fun x hx => by cases hx⟩ ?_ (fun s => ?_)
 ·unfold pyI pyF pyL
  simp only [show kidV noA [0] = .pointer none from rfl,show kidV noA [1] = .pointer none from rfl,show kidV noA [2] = .pointer none from rfl,show noV [] = .slice none 0 0 from rfl,show esI [] = [] from rfl]
  refine Weak.list ?_ ?_;(all_goals simp (disch:=omega) only [AllF,AllL,q11,z11,j10,exists_eq_left',go_sem,seval,hd,cb,stpD]);(all_goals (repeat' (with_reducible apply And.intro)));(all_goals try (first | exact j8 rfl | (refine x11 ?_;omega) | (refine j8 ?_;simp;done)))
  ·exact x51 rfl rfl (fun k hk => by omega)
 obtain ⟨i,l,gen,A,V,M,hi,hl,T,hu,hs⟩ := s
 unfold pyI
 simp only [] at hi hl ⊢
 by_cases hlt : i < st.length ∧ i < 40
 ·have r1 := q145 st i
  generalize st.getD i stp0 = x at r1
  have q40 : decide ((i : Int) < 40) = true := decide_eq_true (by omega)
  have qn : decide ((i : Int) < (st.length : Int)) = true := decide_eq_true (by omega)
  unfold stpD at r1
  unfold pyF pyL
  (repeat (first | apply x4 | refine j7 rfl ?_ | refine q8 rfl ?_ | apply j6 | (refine j0 fun K hK => ?_) | (refine j4 fun K hK => ?_) | ((first | apply x6 | apply z7 | ((first | refine j5 (hK _ ?_) | refine z6 (hK _ _ x5 ?_));clear hK K));(first | show AWP _ _ _ _ _ | ((try simp only [x7]);first | show loopQ _ _ _ _ _ _ | show cutQ _ _ _ _ | show AWP _ _ _ _ _))) | ((first | refine z8 [14] rfl ?_ | refine x8 [14] rfl ?_);simp (disch:=omega) only [go_sem,seval,hd,cb,r1,q40,qn];(repeat (first | refine ⟨by omega,?_⟩ | refine ⟨True.intro,?_⟩)))))
  refine x19 (pxI st h c i l gen A V M x) (fun s => l.length - s.k) ⟨0,by omega⟩ ?_ (fun s => ?_)
  ·unfold pxI pyF pyL stpD atZ
   simp only [Nat.not_lt_zero,if_false,List.map_cons,List.map_nil]
   refine Weak.list ?_ ?_;(all_goals simp (disch:=omega) only [AllF,AllL,q11,z11,j10,exists_eq_left',go_sem,seval,hd,cb,r1,q40,qn]);(all_goals (repeat' (with_reducible apply And.intro)));(all_goals try (first | exact j8 rfl | (refine x11 ?_;omega) | (refine j8 ?_;simp;done)))
  obtain ⟨k,hk⟩ := s
  unfold pxI pyF pyL stpD
  simp only [List.map_cons,List.map_nil]
  by_cases hkl : k < l.length
  ·have r2 := q94 l k
   have hx := ixI_at (id := x.id) hu hkl
   generalize l.getD k (0,⟨0,0⟩) = y at r2 hx
   by_cases e : k = ixI l x.id
   ·rw [decide_eq_true e] at hx
    have ea : atZ l x.id (k + 1) = (k : Int) := by unfold atZ;rw [if_pos (by omega),← e]
    (repeat (first | apply x4 | refine j7 rfl ?_ | refine q8 rfl ?_ | apply j6 | (refine j0 fun K hK => ?_) | (refine j4 fun K hK => ?_) | ((first | apply x6 | apply z7 | ((first | refine j5 (hK _ ?_) | refine z6 (hK _ _ x5 ?_));clear hK K));(first | show AWP _ _ _ _ _ | ((try simp only [x7]);first | show loopQ _ _ _ _ _ _ | show cutQ _ _ _ _ | show AWP _ _ _ _ _))) | ((first | refine z8 [14] rfl ?_ | refine x8 [14] rfl ?_);simp (disch:=omega) only [go_sem,seval,hd,cb,r2,hx];(repeat (first | refine ⟨by omega,?_⟩ | refine ⟨True.intro,?_⟩)))))
    refine ⟨⟨k + 1,by omega⟩,by simp only [];omega,?_⟩
    simp only [ea]
    refine Weak.list ?_ ?_;(all_goals simp (disch:=omega) only [AllF,AllL,q11,z11,j10,exists_eq_left',go_sem,seval,hd,cb,r2,hx]);(all_goals (repeat' (with_reducible apply And.intro)));(all_goals try (first | exact j8 rfl | (refine x11 ?_;omega) | (refine j8 ?_;simp;done)))
   ·rw [decide_eq_false e] at hx
    have ea : atZ l x.id (k + 1) = atZ l x.id k := by
     unfold atZ
     by_cases h1 : ixI l x.id < k
     ·rw [if_pos h1,if_pos (by omega)]
     ·rw [if_neg h1,if_neg (by omega)]
    (repeat (first | apply x4 | refine j7 rfl ?_ | refine q8 rfl ?_ | apply j6 | (refine j0 fun K hK => ?_) | (refine j4 fun K hK => ?_) | ((first | apply x6 | apply z7 | ((first | refine j5 (hK _ ?_) | refine z6 (hK _ _ x5 ?_));clear hK K));(first | show AWP _ _ _ _ _ | ((try simp only [x7]);first | show loopQ _ _ _ _ _ _ | show cutQ _ _ _ _ | show AWP _ _ _ _ _))) | ((first | refine z8 [14] rfl ?_ | refine x8 [14] rfl ?_);simp (disch:=omega) only [go_sem,seval,hd,cb,r2,hx];(repeat (first | refine ⟨by omega,?_⟩ | refine ⟨True.intro,?_⟩)))))
    refine ⟨⟨k + 1,by omega⟩,by simp only [];omega,?_⟩
    simp only [ea]
    refine Weak.list ?_ ?_;(all_goals simp (disch:=omega) only [AllF,AllL,q11,z11,j10,exists_eq_left',go_sem,seval,hd,cb,r2,hx]);(all_goals (repeat' (with_reducible apply And.intro)));(all_goals try (first | exact j8 rfl | (refine x11 ?_;omega) | (refine j8 ?_;simp;done)))
  ·have ek : k = l.length := by omega
   subst ek
   (repeat ((fail_if_success (show AWP _ _ (.region 17 _ _) _ _));first | apply x4 | refine j7 rfl ?_ | refine q8 rfl ?_ | apply j6 | (refine j0 fun K hK => ?_) | (refine j4 fun K hK => ?_) | ((first | apply x6 | apply z7 | ((first | refine j5 (hK _ ?_) | refine z6 (hK _ _ x5 ?_));clear hK K));(first | show AWP _ _ _ _ _ | ((try simp only [x7]);first | show loopQ _ _ _ _ _ _ | show cutQ _ _ _ _ | show AWP _ _ _ _ _))) | ((first | refine z8 [14] rfl ?_ | refine x8 [14] rfl ?_);simp (disch:=omega) only [go_sem,seval,hd,cb,r1,q40,qn];(repeat (first | refine ⟨by omega,?_⟩ | refine ⟨True.intro,?_⟩)))))
   refine awp_mid (fun s : PzS i => ⟨pyF st h c i s.l s.gen,pyL s.A s.V s.M s.l s.gen⟩) ?_ (fun s => ?_)
   ·have kx := x55 x.c
    unfold cb at kx
    unfold pyF pyL
    have AB : ∀ e : Int,addE l x.id x.c = e → e ≠ 0 → MCalls Try.prog 13 [.loc 1000 0,.p (.d (.v (.int .i64 x.id))),.p (.agg (cb x.c))] (trL A V M (esI l)) (fun rs L => rs = [.p (.d (.v (.int .i64 e)))] ∧ L = trL A V M (esI l)) := fun e he hne => by
     have := x89 (l := l) (M := M) (A := A) (V := V) x.id x.c (by rw [he];exact hne)
     rw [he] at this
     exact this
    unfold trL trC cb at AB
    by_cases hw0 : x.wh = 0
    ·have w0 : (x.wh == 0) = true := by rw [hw0];rfl
     by_cases hi0 : x.id < 0
     ·have w1 : decide (x.id < 0) = true := decide_eq_true hi0
      have kb := AB 1 (by unfold addE;rw [if_pos hi0]) (by decide)
      (repeat (first | apply x4 | refine j7 rfl ?_ | refine q8 rfl ?_ | apply j6 | (refine j0 fun K hK => ?_) | (refine j4 fun K hK => ?_) | ((first | apply x6 | apply z7 | ((first | refine j5 (hK _ ?_) | refine z6 (hK _ _ x5 ?_));clear hK K));(first | show AWP _ _ _ _ _ | ((try simp only [x7]);first | show loopQ _ _ _ _ _ _ | show cutQ _ _ _ _ | show AWP _ _ _ _ _))) | ((first | refine q10 rfl rfl rfl ?_ | refine z10 rfl rfl rfl ?_);simp (disch:=omega) only [go_sem,seval,hd,cb,r1,w0,w1];(first | refine ⟨_,kx,?_⟩)) | ((first | refine z8 [] rfl ?_ | refine x8 [] rfl ?_);simp (disch:=omega) only [go_sem,seval,hd,cb,r1,w0,w1];(repeat (first | refine ⟨by omega,?_⟩ | refine ⟨True.intro,?_⟩)))))
      (refine q15 _ (z15 [(1000,503),(1001,501),(1999,1999)] rfl rfl rfl rfl rfl rfl (kb) rfl (q12 (by repeat (first | exact trivial | refine ⟨rfl,?_⟩)) (by kernel_rfl))) ?_);simp (disch:=omega) only [go_sem,seval,hd,cb,r1,w0,w1]
      (repeat (first | apply x4 | refine j7 rfl ?_ | refine q8 rfl ?_ | apply j6 | (refine j0 fun K hK => ?_) | (refine j4 fun K hK => ?_) | ((first | apply x6 | apply z7 | ((first | refine j5 (hK _ ?_) | refine z6 (hK _ _ x5 ?_));clear hK K));(first | show AWP _ _ _ _ _ | ((try simp only [x7]);first | show loopQ _ _ _ _ _ _ | show cutQ _ _ _ _ | show AWP _ _ _ _ _))) | ((first | refine z8 [] rfl ?_ | refine x8 [] rfl ?_);simp (disch:=omega) only [go_sem,seval,hd,cb,r1,w0,w1];(repeat (first | refine ⟨by omega,?_⟩ | refine ⟨True.intro,?_⟩)))))
      (show cutQ _ _ .normal _);refine j25 (⟨l,gen,A,V,M,by omega,T,hu,hs⟩) ?_
      refine Weak.list ?_ ?_;(all_goals simp (disch:=omega) only [AllF,AllL,q11,z11,j10,exists_eq_left',go_sem,seval,hd,cb,r1,w0,w1]);(all_goals (repeat' (with_reducible apply And.intro)));(all_goals try (first | exact j8 rfl | (refine x11 ?_;omega) | (refine j8 ?_;simp;done)))
     ·have w1 : decide (x.id < 0) = false := decide_eq_false hi0
      cases hxs : x.c.sound with
      |false =>
       rw [hxs] at kx
       have kb := AB 2 (by unfold addE;rw [if_neg hi0,hxs];rfl) (by decide)
       simp only [Bool.false_eq_true,if_false] at kx
       (repeat (first | apply x4 | refine j7 rfl ?_ | refine q8 rfl ?_ | apply j6 | (refine j0 fun K hK => ?_) | (refine j4 fun K hK => ?_) | ((first | apply x6 | apply z7 | ((first | refine j5 (hK _ ?_) | refine z6 (hK _ _ x5 ?_));clear hK K));(first | show AWP _ _ _ _ _ | ((try simp only [x7]);first | show loopQ _ _ _ _ _ _ | show cutQ _ _ _ _ | show AWP _ _ _ _ _))) | ((first | refine q10 rfl rfl rfl ?_ | refine z10 rfl rfl rfl ?_);simp (disch:=omega) only [go_sem,seval,hd,cb,r1,w0,w1];(first | refine ⟨_,kx,?_⟩)) | ((first | refine z8 [] rfl ?_ | refine x8 [] rfl ?_);simp (disch:=omega) only [go_sem,seval,hd,cb,r1,w0,w1];(repeat (first | refine ⟨by omega,?_⟩ | refine ⟨True.intro,?_⟩)))))
       (refine q15 _ (z15 [(1000,503),(1001,501),(1999,1999)] rfl rfl rfl rfl rfl rfl (kb) rfl (q12 (by repeat (first | exact trivial | refine ⟨rfl,?_⟩)) (by kernel_rfl))) ?_);simp (disch:=omega) only [go_sem,seval,hd,cb,r1,w0,w1]
       (repeat (first | apply x4 | refine j7 rfl ?_ | refine q8 rfl ?_ | apply j6 | (refine j0 fun K hK => ?_) | (refine j4 fun K hK => ?_) | ((first | apply x6 | apply z7 | ((first | refine j5 (hK _ ?_) | refine z6 (hK _ _ x5 ?_));clear hK K));(first | show AWP _ _ _ _ _ | ((try simp only [x7]);first | show loopQ _ _ _ _ _ _ | show cutQ _ _ _ _ | show AWP _ _ _ _ _))) | ((first | refine z8 [] rfl ?_ | refine x8 [] rfl ?_);simp (disch:=omega) only [go_sem,seval,hd,cb,r1,w0,w1];(repeat (first | refine ⟨by omega,?_⟩ | refine ⟨True.intro,?_⟩)))))
       (show cutQ _ _ .normal _);refine j25 (⟨l,gen,A,V,M,by omega,T,hu,hs⟩) ?_
       refine Weak.list ?_ ?_;(all_goals simp (disch:=omega) only [AllF,AllL,q11,z11,j10,exists_eq_left',go_sem,seval,hd,cb,r1,w0,w1]);(all_goals (repeat' (with_reducible apply And.intro)));(all_goals try (first | exact j8 rfl | (refine x11 ?_;omega) | (refine j8 ?_;simp;done)))
      |true =>
       rw [hxs] at kx
       simp only [if_true] at kx
       cases hin : idIn l x.id with
       |true =>
        have kb := AB 8 (by unfold addE;rw [if_neg hi0,hxs,hin];rfl) (by decide)
        have ha : atZ l x.id l.length = (ixI l x.id : Int) := by unfold atZ;rw [if_pos (q62 hin)]
        have w2 : decide (atZ l x.id l.length ≥ 0) = true := decide_eq_true (by omega)
        (repeat (first | apply x4 | refine j7 rfl ?_ | refine q8 rfl ?_ | apply j6 | (refine j0 fun K hK => ?_) | (refine j4 fun K hK => ?_) | ((first | apply x6 | apply z7 | ((first | refine j5 (hK _ ?_) | refine z6 (hK _ _ x5 ?_));clear hK K));(first | show AWP _ _ _ _ _ | ((try simp only [x7]);first | show loopQ _ _ _ _ _ _ | show cutQ _ _ _ _ | show AWP _ _ _ _ _))) | ((first | refine q10 rfl rfl rfl ?_ | refine z10 rfl rfl rfl ?_);simp (disch:=omega) only [go_sem,seval,hd,cb,r1,w0,w1,w2];(first | refine ⟨_,kx,?_⟩)) | ((first | refine z8 [] rfl ?_ | refine x8 [] rfl ?_);simp (disch:=omega) only [go_sem,seval,hd,cb,r1,w0,w1,w2];(repeat (first | refine ⟨by omega,?_⟩ | refine ⟨True.intro,?_⟩)))))
        (refine q15 _ (z15 [(1000,503),(1001,501),(1999,1999)] rfl rfl rfl rfl rfl rfl (kb) rfl (q12 (by repeat (first | exact trivial | refine ⟨rfl,?_⟩)) (by kernel_rfl))) ?_);simp (disch:=omega) only [go_sem,seval,hd,cb,r1,w0,w1,w2]
        (repeat (first | apply x4 | refine j7 rfl ?_ | refine q8 rfl ?_ | apply j6 | (refine j0 fun K hK => ?_) | (refine j4 fun K hK => ?_) | ((first | apply x6 | apply z7 | ((first | refine j5 (hK _ ?_) | refine z6 (hK _ _ x5 ?_));clear hK K));(first | show AWP _ _ _ _ _ | ((try simp only [x7]);first | show loopQ _ _ _ _ _ _ | show cutQ _ _ _ _ | show AWP _ _ _ _ _))) | ((first | refine z8 [] rfl ?_ | refine x8 [] rfl ?_);simp (disch:=omega) only [go_sem,seval,hd,cb,r1,w0,w1,w2];(repeat (first | refine ⟨by omega,?_⟩ | refine ⟨True.intro,?_⟩)))))
        (show cutQ _ _ .normal _);refine j25 (⟨l,gen,A,V,M,by omega,T,hu,hs⟩) ?_
        refine Weak.list ?_ ?_;(all_goals simp (disch:=omega) only [AllF,AllL,q11,z11,j10,exists_eq_left',go_sem,seval,hd,cb,r1,w0,w1,w2]);(all_goals (repeat' (with_reducible apply And.intro)));(all_goals try (first | exact j8 rfl | (refine x11 ?_;omega) | (refine j8 ?_;simp;done)))
       |false =>
        have ha : atZ l x.id l.length = -1 := by unfold atZ;rw [if_neg (by rw [x95 hin];omega)]
        have w2 : decide (atZ l x.id l.length ≥ 0) = false := decide_eq_false (by omega)
        have he : addE l x.id x.c = 0 := by unfold addE;rw [if_neg hi0,hxs,hin];rfl
        have el : (l ++ [(x.id,x.c)]).length = l.length + 1 := by simp
        have ks : MCalls Try.prog 13 [.loc 1000 0,.p (.d (.v (.int .i64 x.id))),.p (.agg (cb x.c))] (trL A V M (esI l))
          (fun rs L => ∃ r : {r : (List Nat → Option Nat) × (List Nat → Value) × (Nat → Option Ent) // TrM (idsAt (l ++ [(x.id,x.c)])) r.2.2 r.1 r.2.1},rs = [.p (.d (.v (.int .i64 0)))] ∧ L = trL r.val.1 r.val.2.1 r.val.2.2 (esI (l ++ [(x.id,x.c)]))) := by
         by_cases hp0 : pathC x.c = []
         ·exact x90 T x.id x.c he (by omega) hp0
         ·exact j90 T x.id x.c he (by omega) hp0
        unfold trL trC cb at ks
        (repeat (first | apply x4 | refine j7 rfl ?_ | refine q8 rfl ?_ | apply j6 | (refine j0 fun K hK => ?_) | (refine j4 fun K hK => ?_) | ((first | apply x6 | apply z7 | ((first | refine j5 (hK _ ?_) | refine z6 (hK _ _ x5 ?_));clear hK K));(first | show AWP _ _ _ _ _ | ((try simp only [x7]);first | show loopQ _ _ _ _ _ _ | show cutQ _ _ _ _ | show AWP _ _ _ _ _))) | ((first | refine q10 rfl rfl rfl ?_ | refine z10 rfl rfl rfl ?_);simp (disch:=omega) only [go_sem,seval,hd,cb,r1,w0,w1,w2];(first | refine ⟨_,kx,?_⟩)) | ((first | refine z8 [] rfl ?_ | refine x8 [] rfl ?_);simp (disch:=omega) only [go_sem,seval,hd,cb,r1,w0,w1,w2];(repeat (first | refine ⟨by omega,?_⟩ | refine ⟨True.intro,?_⟩)))))
        (refine z21 (x20 [(1000,503),(1001,501),(1999,1999)] rfl rfl rfl rfl rfl rfl (ks) (fun _ => rfl) (q12 (by repeat (first | exact trivial | refine ⟨rfl,?_⟩)) (by kernel_rfl)) (fun _ => (q12 (by repeat (first | exact trivial | refine ⟨rfl,?_⟩)) (by kernel_rfl)))) ?_);rintro ⟨⟨A1,V1,M1⟩,T1⟩;simp (disch:=omega) only [go_sem,seval,hd,cb,r1,w0,w1,w2]
        (repeat (first | apply x4 | refine j7 rfl ?_ | refine q8 rfl ?_ | apply j6 | (refine j0 fun K hK => ?_) | (refine j4 fun K hK => ?_) | ((first | apply x6 | apply z7 | ((first | refine j5 (hK _ ?_) | refine z6 (hK _ _ x5 ?_));clear hK K));(first | show AWP _ _ _ _ _ | ((try simp only [x7]);first | show loopQ _ _ _ _ _ _ | show cutQ _ _ _ _ | show AWP _ _ _ _ _))) | ((first | refine z8 [] rfl ?_ | refine x8 [] rfl ?_);simp (disch:=omega) only [go_sem,seval,hd,cb,r1,w0,w1,w2];(repeat (first | refine ⟨by omega,?_⟩ | refine ⟨True.intro,?_⟩)))))
        (show cutQ _ _ .normal _);refine j25 (⟨l ++ [(x.id,x.c)],gen + 1,A1,V1,M1,by rw [el];omega,T1,j144 hu hin x.c,snd_add hs x.id hxs⟩) ?_
        simp only [el]
        refine Weak.list ?_ ?_;(all_goals simp (disch:=omega) only [AllF,AllL,q11,z11,j10,exists_eq_left',go_sem,seval,hd,cb,r1,w0,w1,w2]);(all_goals (repeat' (with_reducible apply And.intro)));(all_goals try (first | exact j8 rfl | (refine x11 ?_;omega) | (refine j8 ?_;simp;done)))
        ·exact x51 rfl rfl (fun k hk => z145 l x.id x.c k (by omega))
    ·have w0 : (x.wh == 0) = false := q55 hw0
     by_cases hw1 : x.wh = 1
     ·have w1 : (x.wh == 1) = true := by rw [hw1];rfl
      cases hg : getI l x.id with
      |none =>
       have hin := j35.1 hg
       have ha : atZ l x.id l.length = -1 := by unfold atZ;rw [if_neg (by rw [x95 hin];omega)]
       have w2 : decide (atZ l x.id l.length ≥ 0) = false := decide_eq_false (by omega)
       have kr := j141 (l := l) (M := M) (A := A) (V := V) x.id hg
       unfold trL trC at kr
       (repeat (first | apply x4 | refine j7 rfl ?_ | refine q8 rfl ?_ | apply j6 | (refine j0 fun K hK => ?_) | (refine j4 fun K hK => ?_) | ((first | apply x6 | apply z7 | ((first | refine j5 (hK _ ?_) | refine z6 (hK _ _ x5 ?_));clear hK K));(first | show AWP _ _ _ _ _ | ((try simp only [x7]);first | show loopQ _ _ _ _ _ _ | show cutQ _ _ _ _ | show AWP _ _ _ _ _))) | ((first | refine z8 [] rfl ?_ | refine x8 [] rfl ?_);simp (disch:=omega) only [go_sem,seval,hd,cb,r1,w0,w1,w2];(repeat (first | refine ⟨by omega,?_⟩ | refine ⟨True.intro,?_⟩)))))
       (refine q15 _ (z15 [(1000,503),(1001,501),(1999,1999)] rfl rfl rfl rfl rfl rfl (kr) rfl (q12 (by repeat (first | exact trivial | refine ⟨rfl,?_⟩)) (by kernel_rfl))) ?_);simp (disch:=omega) only [go_sem,seval,hd,cb,r1,w0,w1,w2]
       (repeat (first | apply x4 | refine j7 rfl ?_ | refine q8 rfl ?_ | apply j6 | (refine j0 fun K hK => ?_) | (refine j4 fun K hK => ?_) | ((first | apply x6 | apply z7 | ((first | refine j5 (hK _ ?_) | refine z6 (hK _ _ x5 ?_));clear hK K));(first | show AWP _ _ _ _ _ | ((try simp only [x7]);first | show loopQ _ _ _ _ _ _ | show cutQ _ _ _ _ | show AWP _ _ _ _ _))) | ((first | refine z8 [] rfl ?_ | refine x8 [] rfl ?_);simp (disch:=omega) only [go_sem,seval,hd,cb,r1,w0,w1,w2];(repeat (first | refine ⟨by omega,?_⟩ | refine ⟨True.intro,?_⟩)))))
       (show cutQ _ _ .normal _);refine j25 (⟨l,gen,A,V,M,by omega,T,hu,hs⟩) ?_
       refine Weak.list ?_ ?_;(all_goals simp (disch:=omega) only [AllF,AllL,q11,z11,j10,exists_eq_left',go_sem,seval,hd,cb,r1,w0,w1,w2]);(all_goals (repeat' (with_reducible apply And.intro)));(all_goals try (first | exact j8 rfl | (refine x11 ?_;omega) | (refine j8 ?_;simp;done)))
      |some c' =>
       have hin : idIn l x.id = true := by
        cases e : idIn l x.id with
        | true => rfl
        | false => rw [j35.2 e] at hg;cases hg
       have hlt2 := q62 hin
       have ha : atZ l x.id l.length = (ixI l x.id : Int) := by unfold atZ;rw [if_pos hlt2]
       have w2 : decide ((ixI l x.id : Int) ≥ 0) = true := decide_eq_true (by omega)
       have hcut := z144 hu hin
       have el : (delI l x.id).length = l.length - 1 := by rw [← hcut];simp;omega
       have hrow := x145 l (ixI l x.id)
       rw [hcut] at hrow
       have ks : MCalls Try.prog 20 [.loc 1000 0,.p (.d (.v (.int .i64 x.id)))] (trL A V M (esI l))
         (fun rs L => ∃ r : {r : (List Nat → Option Nat) × (List Nat → Value) × (Nat → Option Ent) // TrM (idsAt (delI l x.id)) r.2.2 r.1 r.2.1},rs = [.p (.d (.v (.bool true)))] ∧ L = trL r.val.1 r.val.2.1 r.val.2.2 (esI (delI l x.id))) := by
        by_cases hp0 : pathC c' = []
        ·exact q142 T x.id c' hg hu (by omega) hp0
        ·exact z142 T x.id c' hg hu (by omega) hp0
       unfold trL trC at ks
       simp only [ha]
       have e1 : ((ixI l x.id : Int) + 1).toNat = ixI l x.id + 1 := by omega
       (repeat (first | apply x4 | refine j7 rfl ?_ | refine q8 rfl ?_ | apply j6 | (refine j0 fun K hK => ?_) | (refine j4 fun K hK => ?_) | ((first | apply x6 | apply z7 | ((first | refine j5 (hK _ ?_) | refine z6 (hK _ _ x5 ?_));clear hK K));(first | show AWP _ _ _ _ _ | ((try simp only [x7]);first | show loopQ _ _ _ _ _ _ | show cutQ _ _ _ _ | show AWP _ _ _ _ _))) | ((first | refine z8 [116] rfl ?_ | refine x8 [116] rfl ?_);simp (disch:=omega) only [go_sem,seval,hd,cb,r1,w0,w1,w2,e1,x14];(repeat (first | refine ⟨by omega,?_⟩ | refine ⟨True.intro,?_⟩)))))
       (refine z21 (x20 [(1000,503),(1001,501),(1999,1999)] rfl rfl rfl rfl rfl rfl (ks) (fun _ => rfl) (q12 (by repeat (first | exact trivial | refine ⟨rfl,?_⟩)) (by kernel_rfl)) (fun _ => (q12 (by repeat (first | exact trivial | refine ⟨rfl,?_⟩)) (by kernel_rfl)))) ?_);rintro ⟨⟨A1,V1,M1⟩,T1⟩;simp (disch:=omega) only [go_sem,seval,hd,cb,r1,w0,w1,w2,e1,x14]
       (repeat (first | apply x4 | refine j7 rfl ?_ | refine q8 rfl ?_ | apply j6 | (refine j0 fun K hK => ?_) | (refine j4 fun K hK => ?_) | ((first | apply x6 | apply z7 | ((first | refine j5 (hK _ ?_) | refine z6 (hK _ _ x5 ?_));clear hK K));(first | show AWP _ _ _ _ _ | ((try simp only [x7]);first | show loopQ _ _ _ _ _ _ | show cutQ _ _ _ _ | show AWP _ _ _ _ _))) | ((first | refine z8 [116] rfl ?_ | refine x8 [116] rfl ?_);simp (disch:=omega) only [go_sem,seval,hd,cb,r1,w0,w1,w2,e1,x14];(repeat (first | refine ⟨by omega,?_⟩ | refine ⟨True.intro,?_⟩)))))
       (show cutQ _ _ .normal _);refine j25 (⟨delI l x.id,2,A1,V1,M1,by rw [el];omega,T1,x144 hu x.id,snd_del hs x.id⟩) ?_
       refine Weak.trans (Weak.of_look (A' := ⟨AL.keep [13,12,11,9,8,7,5,4,0] _,AL.keep [116,503,501,1999] _⟩) (fun t x hx => z41 _ _ t x hx) (fun l L hL => z41 _ _ l L hL)) ?_
       simp only [AL.keep,AL.look,↓reduceIte,Nat.reduceEqDiff,reduceCtorEq]
       refine Weak.trans (Weak.regrow _ 8 116 28 2 2 _ 47 _ rfl rfl (by kernel_rfl) rfl) ?_
       simp only [el]
       refine Weak.list ?_ ?_;(all_goals simp (disch:=omega) only [AllF,AllL,q11,z11,j10,exists_eq_left',go_sem,seval,hd,cb,r1,w0,w1,w2,e1,x14]);(all_goals (repeat' (with_reducible apply And.intro)));(all_goals try (first | exact j8 rfl | (refine x11 ?_;omega) | (refine j8 ?_;simp;done)))
       ·refine x51 rfl (by omega) (fun k hk => ?_)
        rw [← hrow k hlt2 (by omega),Nat.sub_zero]
        unfold catF
        simp only [Nat.sub_zero,Nat.not_lt_zero,if_false]
       ·exact j120 (by omega) rfl
     ·have w1 : (x.wh == 1) = false := q55 hw1
      (repeat (first | apply x4 | refine j7 rfl ?_ | refine q8 rfl ?_ | apply j6 | (refine j0 fun K hK => ?_) | (refine j4 fun K hK => ?_) | ((first | apply x6 | apply z7 | ((first | refine j5 (hK _ ?_) | refine z6 (hK _ _ x5 ?_));clear hK K));(first | show AWP _ _ _ _ _ | ((try simp only [x7]);first | show loopQ _ _ _ _ _ _ | show cutQ _ _ _ _ | show AWP _ _ _ _ _))) | ((first | refine z8 [] rfl ?_ | refine x8 [] rfl ?_);simp (disch:=omega) only [go_sem,seval,hd,cb,r1,w0,w1];(repeat (first | refine ⟨by omega,?_⟩ | refine ⟨True.intro,?_⟩)))))
      (show cutQ _ _ .normal _);refine j25 (⟨l,gen,A,V,M,by omega,T,hu,hs⟩) ?_
      refine Weak.list ?_ ?_;(all_goals simp (disch:=omega) only [AllF,AllL,q11,z11,j10,exists_eq_left',go_sem,seval,hd,cb,r1,w0,w1]);(all_goals (repeat' (with_reducible apply And.intro)));(all_goals try (first | exact j8 rfl | (refine x11 ?_;omega) | (refine j8 ?_;simp;done)))
   ·obtain ⟨l2,gen2,A2,V2,M2,hl2,T2,hu2,hs2⟩ := s
    simp only [] at hl2 ⊢
    have kL := q26 (x93 A2 V2 M2 l2)
    have kM := q26 (x60 T2 hs2 (by omega) h)
    have kO := q26 (z93 T2 hs2 (by omega) c)
    have m1 := x94 l2 (headC h) (by omega)
    rw [q45 hs2 (x62 h)] at m1
    have b1 : (fndZ l2 (headC h)).length ≤ 1099511627776 := by rw [← q45 hs2 (x62 h)];have := z95 (headC h) l2;omega
    have i1 := z62 (fndZ l2 (headC h)) (fndZ l2 (headC h)) b1 b1
    rw [beq_self_eq_true] at i1
    have q0 : ((l2.length : Int) != (l2.length : Int)) = false := bne_self_eq_false _
    unfold trL trC at kL kM kO
    unfold pyF pyL hd cb
    unfold hd at kM
    unfold cb at kO
    generalize fndZ l2 (headC h) = z1 at *
    cases hc : c.sound with
    |true =>
     have m2 := x94 l2 c (by omega)
     rw [q45 hs2 hc] at m2
     have b2 : (fndZ l2 c).length ≤ 1099511627776 := by rw [← q45 hs2 hc];have := z95 c l2;omega
     have i2 := z62 (fndZ l2 c) (fndZ l2 c) b2 b2
     rw [beq_self_eq_true] at i2
     generalize fndZ l2 c = z2 at *
     simp only [if_true]
     (repeat ((fail_if_success (show AWP _ _ (.region 38 _ _) _ _));first | apply x4 | refine j7 rfl ?_ | refine q8 rfl ?_ | apply j6 | (refine j0 fun K hK => ?_) | (refine j4 fun K hK => ?_) | ((first | apply x6 | apply z7 | ((first | refine j5 (hK _ ?_) | refine z6 (hK _ _ x5 ?_));clear hK K));(first | show AWP _ _ _ _ _ | ((try simp only [x7]);first | show loopQ _ _ _ _ _ _ | show cutQ _ _ _ _ | show AWP _ _ _ _ _))) | ((first | refine q10 rfl rfl rfl ?_ | refine z10 rfl rfl rfl ?_);simp (disch:=omega) only [go_sem,seval,hd,cb,q0];(first | refine ⟨_,m2,?_⟩)) | ((first | refine z8 [] rfl ?_ | refine x8 [] rfl ?_);simp (disch:=omega) only [go_sem,seval,hd,cb,q0];(repeat (first | refine ⟨by omega,?_⟩ | refine ⟨True.intro,?_⟩)))))
     refine j0 fun K hK => ?_
     iterate 1 ((first | refine j13 [] rfl rfl ?_ | refine q14 [] rfl rfl ?_ | refine z13 rfl rfl ?_ | refine x13 rfl rfl ?_);simp (disch:=omega) only [go_sem,seval,hd,cb,q0];(repeat (first | refine ⟨by omega,?_⟩ | refine ⟨True.intro,?_⟩)))
     (refine q15 _ (z15 [(1000,503),(1001,501),(1999,1999)] rfl rfl rfl rfl rfl rfl (kL) rfl (q12 (by repeat (first | exact trivial | refine ⟨rfl,?_⟩)) (by kernel_rfl))) ?_);simp (disch:=omega) only [go_sem,seval,hd,cb,q0]
     iterate 6 ((first | refine j13 [] rfl rfl ?_ | refine q14 [] rfl rfl ?_ | refine z13 rfl rfl ?_ | refine x13 rfl rfl ?_);simp (disch:=omega) only [go_sem,seval,hd,cb,q0];(repeat (first | refine ⟨by omega,?_⟩ | refine ⟨True.intro,?_⟩)))
     (refine q15 _ (z15 [(1000,503),(1001,501),(1999,1999)] rfl rfl rfl rfl rfl rfl (kM) rfl (q12 (by repeat (first | exact trivial | refine ⟨rfl,?_⟩)) (by kernel_rfl))) ?_);simp (disch:=omega) only [go_sem,seval,hd,cb,q0]
     (repeat (first | apply x4 | refine j7 rfl ?_ | refine q8 rfl ?_ | apply j6 | (refine j0 fun K hK => ?_) | (refine j4 fun K hK => ?_) | ((first | apply x6 | apply z7 | ((first | refine j5 (hK _ ?_) | refine z6 (hK _ _ x5 ?_));clear hK K));(first | show AWP _ _ _ _ _ | ((try simp only [x7]);first | show loopQ _ _ _ _ _ _ | show cutQ _ _ _ _ | show AWP _ _ _ _ _))) | ((first | refine q10 rfl rfl rfl ?_ | refine z10 rfl rfl rfl ?_);simp (disch:=omega) only [go_sem,seval,hd,cb,q0];(first | refine ⟨_,m1,?_⟩ | refine ⟨_,i1,?_⟩)) | ((first | refine z8 [] rfl ?_ | refine x8 [] rfl ?_);simp (disch:=omega) only [go_sem,seval,hd,cb,q0];(repeat (first | refine ⟨by omega,?_⟩ | refine ⟨True.intro,?_⟩)))))
     (refine q15 _ (z15 [(1000,503),(1001,501),(1999,1999)] rfl rfl rfl rfl rfl rfl (kO) rfl (q12 (by repeat (first | exact trivial | refine ⟨rfl,?_⟩)) (by kernel_rfl))) ?_);simp (disch:=omega) only [go_sem,seval,hd,cb,q0]
     (repeat (first | apply x4 | refine j7 rfl ?_ | refine q8 rfl ?_ | apply j6 | (refine j0 fun K hK => ?_) | (refine j4 fun K hK => ?_) | ((first | apply x6 | apply z7 | ((first | refine j5 (hK _ ?_) | refine z6 (hK _ _ x5 ?_));clear hK K));(first | show AWP _ _ _ _ _ | ((try simp only [x7]);first | show loopQ _ _ _ _ _ _ | show cutQ _ _ _ _ | show AWP _ _ _ _ _))) | ((first | refine q10 rfl rfl rfl ?_ | refine z10 rfl rfl rfl ?_);simp (disch:=omega) only [go_sem,seval,hd,cb,q0];(first | refine ⟨_,i2,?_⟩)) | ((first | refine z8 [] rfl ?_ | refine x8 [] rfl ?_);simp (disch:=omega) only [go_sem,seval,hd,cb,q0];(repeat (first | refine ⟨by omega,?_⟩ | refine ⟨True.intro,?_⟩)))))
     refine ⟨⟨i + 1,l2,gen2,A2,V2,M2,by omega,by omega,T2,hu2,hs2⟩,by simp only [];omega,?_⟩
     simp only [hc,if_true]
     refine Weak.list ?_ ?_;(all_goals simp (disch:=omega) only [AllF,AllL,q11,z11,j10,exists_eq_left',go_sem,seval,hd,cb,q0]);(all_goals (repeat' (with_reducible apply And.intro)));(all_goals try (first | exact j8 rfl | (refine x11 ?_;omega) | (refine j8 ?_;simp;done)))
    |false =>
     have e2 : fndZ l2 c = [] := by unfold fndZ;rw [j82 hc,x92]
     rw [e2] at kO
     have i2 := z62 [] [] (by simp) (by simp)
     rw [beq_self_eq_true] at i2
     simp only [Bool.false_eq_true,if_false]
     (repeat ((fail_if_success (show AWP _ _ (.region 36 _ _) _ _));first | apply x4 | refine j7 rfl ?_ | refine q8 rfl ?_ | apply j6 | (refine j0 fun K hK => ?_) | (refine j4 fun K hK => ?_) | ((first | apply x6 | apply z7 | ((first | refine j5 (hK _ ?_) | refine z6 (hK _ _ x5 ?_));clear hK K));(first | show AWP _ _ _ _ _ | ((try simp only [x7]);first | show loopQ _ _ _ _ _ _ | show cutQ _ _ _ _ | show AWP _ _ _ _ _))) | ((first | refine z8 [] rfl ?_ | refine x8 [] rfl ?_);simp (disch:=omega) only [go_sem,seval,hd,cb,q0];(repeat (first | refine ⟨by omega,?_⟩ | refine ⟨True.intro,?_⟩)))))
     refine j33 20 _ (.p (.d (.sl 1 0 (rowZ [])))) rfl (j41 rfl (fun i hi => by omega)) ?_
     (repeat ((fail_if_success (show AWP _ _ (.region 38 _ _) _ _));first | apply x4 | refine j7 rfl ?_ | refine q8 rfl ?_ | apply j6 | (refine j0 fun K hK => ?_) | (refine j4 fun K hK => ?_) | ((first | apply x6 | apply z7 | ((first | refine j5 (hK _ ?_) | refine z6 (hK _ _ x5 ?_));clear hK K));(first | show AWP _ _ _ _ _ | ((try simp only [x7]);first | show loopQ _ _ _ _ _ _ | show cutQ _ _ _ _ | show AWP _ _ _ _ _))) | ((first | refine z8 [] rfl ?_ | refine x8 [] rfl ?_);simp (disch:=omega) only [go_sem,seval,hd,cb,q0];(repeat (first | refine ⟨by omega,?_⟩ | refine ⟨True.intro,?_⟩)))))
     refine j0 fun K hK => ?_
     iterate 1 ((first | refine j13 [] rfl rfl ?_ | refine q14 [] rfl rfl ?_ | refine z13 rfl rfl ?_ | refine x13 rfl rfl ?_);simp (disch:=omega) only [go_sem,seval,hd,cb,q0];(repeat (first | refine ⟨by omega,?_⟩ | refine ⟨True.intro,?_⟩)))
     (refine q15 _ (z15 [(1000,503),(1001,501),(1999,1999)] rfl rfl rfl rfl rfl rfl (kL) rfl (q12 (by repeat (first | exact trivial | refine ⟨rfl,?_⟩)) (by kernel_rfl))) ?_);simp (disch:=omega) only [go_sem,seval,hd,cb,q0]
     iterate 6 ((first | refine j13 [] rfl rfl ?_ | refine q14 [] rfl rfl ?_ | refine z13 rfl rfl ?_ | refine x13 rfl rfl ?_);simp (disch:=omega) only [go_sem,seval,hd,cb,q0];(repeat (first | refine ⟨by omega,?_⟩ | refine ⟨True.intro,?_⟩)))
     (refine q15 _ (z15 [(1000,503),(1001,501),(1999,1999)] rfl rfl rfl rfl rfl rfl (kM) rfl (q12 (by repeat (first | exact trivial | refine ⟨rfl,?_⟩)) (by kernel_rfl))) ?_);simp (disch:=omega) only [go_sem,seval,hd,cb,q0]
     (repeat (first | apply x4 | refine j7 rfl ?_ | refine q8 rfl ?_ | apply j6 | (refine j0 fun K hK => ?_) | (refine j4 fun K hK => ?_) | ((first | apply x6 | apply z7 | ((first | refine j5 (hK _ ?_) | refine z6 (hK _ _ x5 ?_));clear hK K));(first | show AWP _ _ _ _ _ | ((try simp only [x7]);first | show loopQ _ _ _ _ _ _ | show cutQ _ _ _ _ | show AWP _ _ _ _ _))) | ((first | refine q10 rfl rfl rfl ?_ | refine z10 rfl rfl rfl ?_);simp (disch:=omega) only [go_sem,seval,hd,cb,q0];(first | refine ⟨_,m1,?_⟩ | refine ⟨_,i1,?_⟩)) | ((first | refine z8 [] rfl ?_ | refine x8 [] rfl ?_);simp (disch:=omega) only [go_sem,seval,hd,cb,q0];(repeat (first | refine ⟨by omega,?_⟩ | refine ⟨True.intro,?_⟩)))))
     (refine q15 _ (z15 [(1000,503),(1001,501),(1999,1999)] rfl rfl rfl rfl rfl rfl (kO) rfl (q12 (by repeat (first | exact trivial | refine ⟨rfl,?_⟩)) (by kernel_rfl))) ?_);simp (disch:=omega) only [go_sem,seval,hd,cb,q0]
     (repeat (first | apply x4 | refine j7 rfl ?_ | refine q8 rfl ?_ | apply j6 | (refine j0 fun K hK => ?_) | (refine j4 fun K hK => ?_) | ((first | apply x6 | apply z7 | ((first | refine j5 (hK _ ?_) | refine z6 (hK _ _ x5 ?_));clear hK K));(first | show AWP _ _ _ _ _ | ((try simp only [x7]);first | show loopQ _ _ _ _ _ _ | show cutQ _ _ _ _ | show AWP _ _ _ _ _))) | ((first | refine q10 rfl rfl rfl ?_ | refine z10 rfl rfl rfl ?_);simp (disch:=omega) only [go_sem,seval,hd,cb,q0];(first | refine ⟨_,i2,?_⟩)) | ((first | refine z8 [] rfl ?_ | refine x8 [] rfl ?_);simp (disch:=omega) only [go_sem,seval,hd,cb,q0];(repeat (first | refine ⟨by omega,?_⟩ | refine ⟨True.intro,?_⟩)))))
     refine ⟨⟨i + 1,l2,gen2,A2,V2,M2,by omega,by omega,T2,hu2,hs2⟩,by simp only [];omega,?_⟩
     simp only [hc,Bool.false_eq_true,if_false]
     refine Weak.list ?_ ?_;(all_goals simp (disch:=omega) only [AllF,AllL,q11,z11,j10,exists_eq_left',go_sem,seval,hd,cb,q0]);(all_goals (repeat' (with_reducible apply And.intro)));(all_goals try (first | exact j8 rfl | (refine x11 ?_;omega) | (refine j8 ?_;simp;done)))
 ·by_cases hn : i < st.length
  ·have q40 : decide ((i : Int) < 40) = false := decide_eq_false (by omega)
   have qn : decide ((i : Int) < (st.length : Int)) = true := decide_eq_true (by omega)
   unfold pyF pyL
   (repeat (first | apply x4 | refine j7 rfl ?_ | refine q8 rfl ?_ | apply j6 | (refine j0 fun K hK => ?_) | (refine j4 fun K hK => ?_) | ((first | apply x6 | apply z7 | ((first | refine j5 (hK _ ?_) | refine z6 (hK _ _ x5 ?_));clear hK K));(first | show AWP _ _ _ _ _ | ((try simp only [x7]);first | show loopQ _ _ _ _ _ _ | show cutQ _ _ _ _ | show AWP _ _ _ _ _))) | ((first | refine z8 [] rfl ?_ | refine x8 [] rfl ?_);simp (disch:=omega) only [go_sem,seval,hd,cb,q40,qn];(repeat (first | refine ⟨by omega,?_⟩ | refine ⟨True.intro,?_⟩)))))
   refine j9 ⟨_,?_,rfl⟩;rw [Try.results4];simp (disch:=omega) only [ResVars,ResVar,ptrLoc,go_sem,seval,hd,cb,q40,qn]
  ·have qn : decide ((i : Int) < (st.length : Int)) = false := decide_eq_false (by omega)
   unfold pyF pyL
   (repeat (first | apply x4 | refine j7 rfl ?_ | refine q8 rfl ?_ | apply j6 | (refine j0 fun K hK => ?_) | (refine j4 fun K hK => ?_) | ((first | apply x6 | apply z7 | ((first | refine j5 (hK _ ?_) | refine z6 (hK _ _ x5 ?_));clear hK K));(first | show AWP _ _ _ _ _ | ((try simp only [x7]);first | show loopQ _ _ _ _ _ _ | show cutQ _ _ _ _ | show AWP _ _ _ _ _))) | ((first | refine z8 [] rfl ?_ | refine x8 [] rfl ?_);simp (disch:=omega) only [go_sem,seval,hd,cb,qn];(repeat (first | refine ⟨by omega,?_⟩ | refine ⟨True.intro,?_⟩)))))
   refine j9 ⟨_,?_,rfl⟩;rw [Try.results4];simp (disch:=omega) only [ResVars,ResVar,ptrLoc,go_sem,seval,hd,cb,qn]
end Go.Proofs.Ytbamjcnhmmgnlaa
namespace Go.Proofs.Ytbamjcnhmmgnlaa
open Go.Proofs.Ytbamjcnhmmgnlaa.AL
def stepSh : Sh := .pair (.int .i64) (.pair (.int .i64) (.pair cubeSh .unit))
theorem is_step {N : Nat} {ds : List Dat} (h : Is N stepSh ds) : ∃ s : Stp,ds = stpD s ∧ True := by
 obtain ⟨_,_,rfl,⟨a,rfl,wa⟩,_,_,rfl,⟨b,rfl,wb⟩,_,_,rfl,hc,rfl⟩ := h
 obtain ⟨x,rfl⟩ := is_cb hc
 exact ⟨⟨a,b,x⟩,rfl,trivial⟩
theorem q146 {N : Nat} {ds : List Dat} (h : Is N (.slice stepSh) ds) : ∃ l : List Stp,ds = [.sl 6 l.length (rowSt l)] ∧ l.length ≤ N := by
 obtain ⟨l,h1,h2,_⟩ := is_list stpD stp0 stepSh (by simp only [stpD,stp0,x28,j28];rfl) (fun ds hd => is_step hd) h
 exact ⟨l,h1,h2⟩
end Go.Proofs.Ytbamjcnhmmgnlaa
