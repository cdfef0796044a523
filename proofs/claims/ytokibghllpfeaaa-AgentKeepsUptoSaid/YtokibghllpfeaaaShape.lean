/- From a row's hypotheses to the logic's words, for any parameters of plain data, and back. Conditions: none. -/
import Derived.Test.YtokibghllpfeaaaAm
import Derived.Test.YtokibghllpfeaaaRows
import Derived.ProofKit
import Derived.OpenShut
import Derived.JoinedCond
import Derived.Carry
import Derived.Lib.SmallJoins
set_option linter.unusedSimpArgs false
set_option linter.unusedVariables false
namespace Go.Proofs.Ytokibghllpfeaaa.AL
open Go.ChangeShapes Go.WideShapes Go.ChangeAt Go.RowKit

/-- Shapes of plain data. -/
inductive Sh where
  | int (k : IntKind)
  | bool
  | string
  | slice (s : Sh)
  | unit
  | pair (a b : Sh)
def Sh.size : Sh → Nat
  | .unit => 0
  | .pair a b => a.size + b.size
  | _ => 1
/-- the data that stand behind a slice's end -/
def zeroSh : Sh → List Dat
  | .int k => [.v (.int k 0)]
  | .bool => [.v (.bool false)]
  | .string => [.v (.string ⟨#[]⟩)]
  | .slice s => [.sl s.size 0 fun _ => zeroSh s]
  | .unit => []
  | .pair a b => zeroSh a ++ zeroSh b
/-- Data of a shape; no slice and no string in it is longer than N. -/
def Is (N : Nat) : Sh → List Dat → Prop
  | .int k, ds => ∃ n, ds = [.v (.int k n)] ∧ (Lit.int k n).wf = true
  | .bool, ds => ∃ b, ds = [.v (.bool b)]
  | .string, ds => ∃ s : ByteArray, ds = [.v (.string s)] ∧ s.size ≤ N
  | .slice s, ds => ∃ n f, ds = [.sl s.size n f] ∧ n ≤ N ∧ (∀ i, i < n → Is N s (f i)) ∧ ∀ i, n ≤ i → f i = zeroSh s
  | .unit, ds => ds = []
  | .pair a b, ds => ∃ x y, ds = x ++ y ∧ Is N a x ∧ Is N b y
theorem Is.len {N : Nat} : ∀ {s : Sh} {ds : List Dat}, Is N s ds → ds.length = s.size
  | .int k, ds, ⟨n, h, _⟩ => by subst h; rfl
  | .bool, ds, ⟨n, h⟩ => by subst h; rfl
  | .string, ds, ⟨n, h, _⟩ => by subst h; rfl
  | .slice s, ds, ⟨n, f, h, _⟩ => by subst h; rfl
  | .unit, ds, h => by simp only [Is] at h; subst h; rfl
  | .pair a b, ds, ⟨x, y, h, hx, hy⟩ => by subst h; simp only [List.length_append, hx.len, hy.len, Sh.size]

def repSh (s : Sh) : Nat → Sh
  | 0 => .unit
  | n + 1 => .pair s (repSh s n)
def shFs (P : Program) (g : TypeId → Option Sh) : Nat → List Field → Option (Sh × Nat)
  | off, [] => some (.unit, off)
  | off, f :: r => match g f.type with
    | some s => match decide (f.offset = off ∧ s.size = P.cellsOf f.type), shFs P g (off + s.size) r with
      | true, some (z, e) => some (.pair s z, e)
      | _, _ => none
    | none => none
def shOf (P : Program) : Nat → TypeId → Option Sh
  | 0, _ => none
  | m + 1, t => match P.underlying t with
    | some .bool => some .bool
    | some (.int k) => some (.int k)
    | some .string => some .string
    | some (.slice e) => match shOf P m e with
      | some s => match decide (s.size = P.cellsOf e ∧ 0 < s.size) with
        | true => some (.slice s)
        | false => none
      | none => none
    | some (.struct fs) => match shFs P (shOf P m) 0 fs.toList with
      | some (s, e) => match decide (e = P.cellsOf t) with
        | true => some s
        | false => none
      | none => none
    | some (.array n e) => match shOf P m e with
      | some s => match decide (s.size = P.cellsOf e ∧ n * s.size = P.cellsOf t) with
        | true => some (repSh s n)
        | false => none
      | none => none
    | _ => none

/-- All that is there is never written again. -/
def gall (w : World) : Nat → Nat := fun b => match w.heap[b]? with
  | some (.cells c _ _) => c.size
  | _ => 0
theorem gall_gz (w : World) : GZ w (gall w) := fun b hb => by
  unfold gall
  rw [Array.getElem?_eq_none hb]
theorem gall_lt {w : World} {a : Addr} {v : Value} (h : w.cell? a = some v) : a.spot = none ∧ a.off < gall w a.block := by
  unfold World.cell? at h
  unfold gall
  split at h
  · rename_i c e f hb
    rw [hb]
    split at h
    · cases h
    · rename_i hs
      refine ⟨by simpa using hs, ?_⟩
      exact (Array.getElem?_eq_some_iff.1 h).1
  · cases h
theorem relC_append {w : World} {g : Nat → Nat} {vs us : List Value} {xs ys : List Dat} (h : RelC w g vs xs) (k : RelC w g us ys) : RelC w g (vs ++ us) (xs ++ ys) := by
  refine ⟨by simp [h.1, k.1], fun j u d hu hd => ?_⟩
  by_cases hj : j < vs.length
  · rw [List.getElem?_append_left hj] at hu
    rw [List.getElem?_append_left (h.1 ▸ hj)] at hd
    exact h.2 j u d hu hd
  · rw [List.getElem?_append_right (by omega)] at hu
    rw [List.getElem?_append_right (by have := h.1; omega), ← h.1] at hd
    exact k.2 _ u d hu hd
theorem relC_one {w : World} {g : Nat → Nat} {v : Value} {x : Dat} (h : RelD w g v x) : RelC w g [v] [x] :=
  ⟨rfl, fun j u d hu hd => by
    cases j with
    | zero => simp at hu hd; subst hu; subst hd; exact h
    | succ j => simp at hu⟩
section
variable {H : Type} {enc : TypeId × Value → H} {P : Program} {w : World} {base : Nat} {spare : Nat → Bool} {held : Bool} {N : Nat}
/-- What a bound on data's size must say. -/
structure Bounded (N : Nat) (S : DataW H → Prop) : Prop where
  agg : ∀ l, S (.agg l) → ∀ x ∈ l, S x
  slice : ∀ l r, S (.slice l r) → l.length ≤ maxLen → l.length ≤ N ∧ ∀ x ∈ l, S x
  str : ∀ l : List UInt8, S (.lit (.string l)) → l.length ≤ maxLen → l.length ≤ N
theorem mapM_some_get {α β : Type} {f : α → Option β} : ∀ {l : List α} {ys : List β}, l.mapM f = some ys → ys.length = l.length ∧ ∀ (i : Nat) a, l[i]? = some a → ∃ y, ys[i]? = some y ∧ f a = some y := by
  intro l
  induction l with
  | nil => intro ys h; simp at h; subst h; exact ⟨rfl, fun i a h => by simp at h⟩
  | cons a l ih =>
    intro ys h
    simp only [List.mapM_cons, Option.bind_eq_bind, Option.bind_eq_some_iff, Option.pure_def, Option.some.injEq] at h
    obtain ⟨y, hy, zs, hz, rfl⟩ := h
    obtain ⟨i1, i2⟩ := ih hz
    refine ⟨by simp [i1], fun i b hb => ?_⟩
    cases i with
    | zero => simp at hb; subst hb; exact ⟨y, rfl, hy⟩
    | succ i => simpa using i2 i b (by simpa using hb)
theorem cells?_get {w : World} {base : Nat} {a : Addr} {n : Nat} {cs : List Value} (h : w.cells? base a n = some cs) : cs.length = n ∧ ∀ j, j < n → ∃ v, cs[j]? = some v ∧ w.cell? (a.add j) = some v := by
  unfold World.cells? at h
  split at h
  · obtain ⟨h1, h2⟩ := mapM_some_get h
    refine ⟨by simpa using h1, fun j hj => ?_⟩
    obtain ⟨v, k1, k2⟩ := h2 j j (List.getElem?_range hj)
    exact ⟨v, k1, k2⟩
  · cases h
theorem trod_fs {S : DataW H → Prop} {m fuel : Nat} {cs : List Value} (ih : ∀ t s, shOf P m t = some s → ∀ cs d ps, DataW.trod enc P w base spare held fuel t cs = some (d, ps) → S d → ∃ ds, Is N s ds ∧ RelC w (gall w) cs ds) :
    ∀ (fl : List Field) (off : Nat) (z : Sh) (e : Nat) (xs : List (DataW H × List MemPlace)), shFs P (shOf P m) off fl = some (z, e) → xs.length = fl.length →
      (∀ (i : Nat) f y, fl[i]? = some f → xs[i]? = some y → DataW.trod enc P w base spare held fuel f.type ((cs.drop f.offset).take (P.cellsOf f.type)) = some y) → (∀ y ∈ xs, S y.1) →
      ∃ ds, Is N z ds ∧ RelC w (gall w) ((cs.drop off).take (e - off)) ds ∧ off ≤ e ∧ e = off + z.size
  | [], off, z, e, xs, h, hl, hx, hS => by
    simp only [shFs, Option.some.injEq, Prod.mk.injEq] at h
    obtain ⟨rfl, rfl⟩ := h
    exact ⟨[], rfl, by rw [Nat.sub_self, List.take_zero]; exact ⟨rfl, fun j u d hu => by simp at hu⟩, Nat.le_refl _, rfl⟩
  | f :: r, off, z, e, xs, h, hl, hx, hS => by
    simp only [shFs] at h
    split at h
    · rename_i s hs
      split at h
      · rename_i z' e' hd hr
        cases h
        obtain ⟨d1, d2⟩ := of_decide_eq_true hd
        match xs, hl with
        | y :: ys, hl =>
          have h0 := hx 0 f y rfl rfl
          obtain ⟨ds0, q1, q2⟩ := ih f.type s hs _ _ _ h0 (hS y (by simp))
          obtain ⟨ds1, k1, k2, k3, k4⟩ := trod_fs ih r (off + s.size) z' e ys hr (by simpa using hl) (fun i f' y' h1 h2 => hx (i + 1) f' y' (by simpa using h1) (by simpa using h2)) (fun y' hy' => hS y' (by simp [hy']))
          refine ⟨ds0 ++ ds1, ⟨ds0, ds1, rfl, q1, k1⟩, ?_, by omega, by simp only [Sh.size]; omega⟩
          have hq := relC_append q2 k2
          rw [d1, ← d2] at hq
          have e2 : (cs.drop off).take (e - off) = (cs.drop off).take s.size ++ (cs.drop (off + s.size)).take (e - (off + s.size)) := by
            rw [show e - off = s.size + (e - (off + s.size)) from by omega, List.take_add, List.drop_drop]
          rw [e2]; exact hq
      · cases h
    · cases h
theorem trod_rep {S : DataW H → Prop} {fuel : Nat} {e : TypeId} {cs : List Value} {s : Sh} (ih : ∀ cs d ps, DataW.trod enc P w base spare held fuel e cs = some (d, ps) → S d → ∃ ds, Is N s ds ∧ RelC w (gall w) cs ds) :
    ∀ (n k : Nat) (xs : List (DataW H × List MemPlace)), (∀ i, i < n → ∃ y ∈ xs, DataW.trod enc P w base spare held fuel e ((cs.drop ((k + i) * s.size)).take s.size) = some y) → (∀ y ∈ xs, S y.1) →
      ∃ ds, Is N (repSh s n) ds ∧ RelC w (gall w) ((cs.drop (k * s.size)).take (n * s.size)) ds
  | 0, k, xs, hx, hS => ⟨[], rfl, by rw [Nat.zero_mul, List.take_zero]; exact ⟨rfl, fun j u d hu => by simp at hu⟩⟩
  | n + 1, k, xs, hx, hS => by
    obtain ⟨y, hy, h0⟩ := hx 0 (by omega)
    obtain ⟨ds0, q1, q2⟩ := ih _ _ _ h0 (hS y hy)
    obtain ⟨ds1, k1, k2⟩ := trod_rep ih n (k + 1) xs (fun i hi => by rw [show k + 1 + i = k + (i + 1) from by omega]; exact hx (i + 1) (by omega)) hS
    refine ⟨ds0 ++ ds1, ⟨ds0, ds1, rfl, q1, k1⟩, ?_⟩
    have hq := relC_append q2 k2
    rw [Nat.add_zero] at hq
    rw [show (n + 1) * s.size = s.size + n * s.size from by rw [Nat.add_mul, Nat.one_mul]; omega, List.take_add, List.drop_drop, show k * s.size + s.size = (k + 1) * s.size from by rw [Nat.add_mul, Nat.one_mul]]
    exact hq
theorem trod_sh {S : DataW H → Prop} (hB : Bounded N S) : ∀ (m : Nat) (t : TypeId) (s : Sh), shOf P m t = some s → ∀ (fuel : Nat) (cs : List Value) d ps, DataW.trod enc P w base spare held fuel t cs = some (d, ps) → S d →
    ∃ ds, Is N s ds ∧ RelC w (gall w) cs ds := by
  intro m
  induction m with
  | zero => intro t s h; cases h
  | succ m ih =>
    intro t s h fuel cs d ps ht hS
    simp only [shOf] at h
    split at h
    · rename_i hu; cases h
      obtain ⟨b, rfl, -⟩ := DataW.trod_bool hu ht
      exact ⟨[.v (.bool b)], ⟨b, rfl⟩, relC_one (.v _ rfl)⟩
    · rename_i k hu; cases h
      obtain ⟨n, rfl, -, hw⟩ := DataW.trod_int hu ht
      exact ⟨[.v (.int k n)], ⟨n, rfl, hw⟩, relC_one (.v _ rfl)⟩
    · rename_i hu; cases h
      obtain ⟨b, rfl, hx, hw⟩ := DataW.trod_string hu ht
      cases hx
      exact ⟨[.v (.string b)], ⟨b, rfl, by have := hB.str _ hS (by simpa using hw); simpa using this⟩, relC_one (.v _ rfl)⟩
    · rename_i e hu
      split at h
      · rename_i s' hs'
        split at h
        · rename_i hd
          cases h
          obtain ⟨d1, d2⟩ := of_decide_eq_true hd
          rcases DataW.trod_slice hu ht with ⟨rfl, hx⟩ | ⟨a, len, cap, elems, rest, n, _, rfl, hx, hb, hl, hm, hlen, hel, hsp, hns⟩
          · cases hx
            exact ⟨[.sl s'.size 0 fun _ => zeroSh s'], ⟨0, _, rfl, by omega, fun i hi => by omega, fun _ _ => rfl⟩, relC_one (.sl0 _ _ _ _)⟩
          · cases hx
            obtain ⟨b1, b2⟩ := hB.slice _ _ hS (by simp only [List.length_map]; omega)
            have key : ∀ i, i < len → ∃ ds, Is N s' ds ∧ ∃ cs, w.cells? base (a.add (i * P.cellsOf e)) (P.cellsOf e) = some cs ∧ RelC w (gall w) cs ds := by
              intro i hi
              have h1 := hel i hi
              have h2 : i < elems.length := by omega
              rw [List.getElem?_eq_getElem h2] at h1
              rw [Option.bind_eq_some_iff] at h1
              obtain ⟨cs, c1, c2⟩ := h1
              obtain ⟨ds, g1, g2⟩ := ih e s' hs' _ _ _ _ c2 (b2 _ (by simp only [List.mem_map]; exact ⟨_, List.getElem_mem h2, rfl⟩))
              exact ⟨ds, g1, cs, c1, g2⟩
            by_cases h0 : len = 0
            · subst h0
              exact ⟨[.sl s'.size 0 fun _ => zeroSh s'], ⟨0, _, rfl, by omega, fun i hi => by omega, fun _ _ => rfl⟩, relC_one (.sl0 _ _ _ _)⟩
            · obtain ⟨ab, ao, asp⟩ := a
              have hsp0 : asp = none := by
                obtain ⟨ds, _, cs, c1, _⟩ := key 0 (by omega)
                obtain ⟨_, c3⟩ := cells?_get c1
                obtain ⟨v, _, c4⟩ := c3 0 (by omega)
                simpa [Addr.add] using (gall_lt c4).1
              subst hsp0
              have hcell : ∀ i j, i < len → j < s'.size → ∃ v, w.cell? ⟨ab, ao + i * s'.size + j, none⟩ = some v := by
                intro i j hi hj
                obtain ⟨ds, _, cs, c1, _⟩ := key i hi
                obtain ⟨_, c3⟩ := cells?_get c1
                obtain ⟨v, _, c4⟩ := c3 j (by omega)
                rw [addr_add, addr_add, ← d1] at c4
                exact ⟨v, c4⟩
              let f : Nat → List Dat := fun i => if hi : i < len then Classical.choose (key i hi) else zeroSh s'
              have hf : ∀ i (hi : i < len), Is N s' (f i) ∧ ∃ cs, w.cells? base ((⟨ab, ao, none⟩ : Addr).add (i * P.cellsOf e)) (P.cellsOf e) = some cs ∧ RelC w (gall w) cs (f i) := by
                intro i hi
                simp only [f, dif_pos hi]
                exact Classical.choose_spec (key i hi)
              refine ⟨[.sl s'.size len f], ⟨len, f, rfl, by simpa [hlen] using b1, fun i hi => (hf i hi).1, fun i hi => by simp only [f, dif_neg (show ¬ i < len from by omega)]⟩, relC_one ?_⟩
              refine .sl ab ao len cap s'.size f (fun i j => (w.cell? ⟨ab, ao + i * s'.size + j, none⟩).getD undef) hl (fun i hi => (hf i hi).1.len) (fun i j hi hj => ?_) ?_ (fun i j x hi hx => ?_)
              · obtain ⟨v, hv⟩ := hcell i j hi hj
                rw [hv]; rfl
              · obtain ⟨v, hv⟩ := hcell (len - 1) (s'.size - 1) (by omega) (by omega)
                have hg := (gall_lt hv).2
                simp only at hg
                have e2 : len * s'.size = (len - 1) * s'.size + s'.size := by
                  rw [show len = (len - 1) + 1 from by omega, Nat.add_mul, Nat.one_mul, Nat.add_sub_cancel]
                omega
              · obtain ⟨hi1, cs, c1, c2⟩ := hf i hi
                obtain ⟨c3, c4⟩ := cells?_get c1
                have hj : j < s'.size := by have := (List.getElem?_eq_some_iff.1 hx).1; rw [hi1.len] at this; exact this
                obtain ⟨v, v1, v2⟩ := c4 j (by omega)
                rw [addr_add, addr_add, ← d1] at v2
                simp only [v2, Option.getD_some]
                exact c2.2 j v x v1 hx
        · cases h
      · cases h
    · rename_i fs hu
      split at h
      · rename_i s' e hs'
        split at h
        · rename_i hd
          cases h
          have d1 := of_decide_eq_true hd
          obtain ⟨xs, n, _, hx, hl, hlen, hf⟩ := DataW.trod_struct hu ht
          cases hx
          obtain ⟨ds, g1, g2, g3, g4⟩ := trod_fs (cs := cs) (fun t s hs cs d ps hh hS' => ih t s hs n cs d ps hh hS') fs.toList 0 s e xs hs' (by simpa using hlen)
            (fun i f y h1 h2 => by rw [← h2]; exact hf i f (by simpa using h1)) (fun y hy => hB.agg _ hS _ (by simp only [List.mem_map]; exact ⟨y, hy, rfl⟩))
          refine ⟨ds, g1, ?_⟩
          rw [List.drop_zero, Nat.sub_zero, List.take_of_length_le (by omega)] at g2
          exact g2
        · cases h
      · cases h
    · rename_i n e hu
      split at h
      · rename_i s' hs'
        split at h
        · rename_i hd
          cases h
          obtain ⟨d1, d2⟩ := of_decide_eq_true hd
          obtain ⟨xs, k, _, hx, hl, hlen, hf⟩ := DataW.trod_array hu ht
          cases hx
          obtain ⟨ds, g1, g2⟩ := trod_rep (N := N) (S := S) (w := w) (cs := cs) (s := s') (fun cs d ps hh hS' => ih e s' hs' k cs d ps hh hS') n 0 xs
            (fun i hi => by
              have hi' : i < xs.length := by omega
              refine ⟨xs[i], List.getElem_mem hi', ?_⟩
              rw [Nat.zero_add, d1, hf i hi, List.getElem?_eq_getElem hi'])
            (fun y hy => hB.agg _ hS _ (by simp only [List.mem_map]; exact ⟨y, hy, rfl⟩))
          refine ⟨ds, g1, ?_⟩
          rw [Nat.zero_mul, List.drop_zero, List.take_of_length_le (by omega)] at g2
          exact g2
        · cases h
      · cases h
    · cases h
end
/-- A slice's data as a list. -/
theorem is_list {α : Type} {N : Nat} {Q : α → Prop} (enc : α → List Dat) (z : α) (s : Sh) (hz : enc z = zeroSh s) (h : ∀ ds, Is N s ds → ∃ a, ds = enc a ∧ Q a) {ds : List Dat} (hd : Is N (.slice s) ds) :
    ∃ l : List α, ds = [.sl s.size l.length fun i => enc (l.getD i z)] ∧ l.length ≤ N ∧ ∀ a ∈ l, Q a := by
  obtain ⟨n, f, rfl, hn, h1, h2⟩ := hd
  have h3 : ∀ i, ∃ a, (i < n → f i = enc a ∧ Q a) := fun i => by
    by_cases hi : i < n
    · obtain ⟨a, ha⟩ := h _ (h1 i hi); exact ⟨a, fun _ => ha⟩
    · exact ⟨z, fun hh => absurd hh hi⟩
  obtain ⟨c, hc⟩ := Classical.axiomOfChoice h3
  refine ⟨(List.range n).map c, ?_, by simpa using hn, fun a ha => ?_⟩
  · have : f = fun i => enc (((List.range n).map c).getD i z) := by
      funext i
      by_cases hi : i < n
      · rw [(hc i hi).1, List.getD_eq_getElem?_getD, List.getElem?_map, List.getElem?_range hi]; rfl
      · rw [h2 i (by omega), ← hz, List.getD_eq_getElem?_getD, List.getElem?_eq_none (by simp; omega)]; rfl
    rw [this]; simp
  · simp only [List.mem_map, List.mem_range] at ha
    obtain ⟨i, hi, rfl⟩ := ha
    exact (hc i hi).2
theorem is_int {N : Nat} {k : IntKind} {ds : List Dat} (h : Is N (.int k) ds) : ∃ n, ds = [.v (.int k n)] ∧ (Lit.int k n).wf = true := h
theorem wf_i64 {n : Int} (h : (Lit.int .i64 n).wf = true) : -9223372036854775808 ≤ n ∧ n < 9223372036854775808 := by
  simp [Lit.wf, IntKind.min, IntKind.max, IntKind.signed, IntKind.bits] at h
  omega
theorem wf_u64 {n : Int} (h : (Lit.int .u64 n).wf = true) : 0 ≤ n ∧ n < 18446744073709551616 := by
  simp [Lit.wf, IntKind.min, IntKind.max, IntKind.signed, IntKind.bits] at h
  omega
end Go.Proofs.Ytokibghllpfeaaa.AL
