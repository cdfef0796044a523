/- THE ROW OF TriePlays, PROVED, in its second form. Conditions: none. -/
import Derived.Test.YtbamjcnhmmgnlaaKTriePlaysd
set_option linter.unusedSimpArgs false
set_option linter.unusedVariables false
namespace Go.Proofs.Ytbamjcnhmmgnlaa
open Go.Proofs.Ytbamjcnhmmgnlaa.AL Go.ChangeShapes Go.WideShapes Go.ChangeAt Go.RowKit
set_option maxRecDepth 100000 in
theorem triePlays_law (xs : List (List Dat)) (h : IsAll 1048576 [(false, (.slice stepSh)), (true, headSh), (true, cubeSh)] xs) : ACalls Try.prog 4 (pvs [(false, (.slice stepSh)), (true, headSh), (true, cubeSh)] xs) (· = [.d (.v (.bool true))]) := by
    obtain ⟨x1, xs, rfl, h1, h⟩ := j52 h
    obtain ⟨x2, xs, rfl, h2, h⟩ := j52 h
    obtain ⟨x3, xs, rfl, h3, h⟩ := j52 h
    obtain rfl := x124 h
    obtain ⟨a1, rfl, w1⟩ := q146 h1
    obtain ⟨a2, rfl⟩ := is_hd h2
    obtain ⟨a3, rfl⟩ := is_cb h3
    exact j145 a1 a2 a3 (by omega)
set_option maxRecDepth 100000 in
theorem triePlays_lifted (os : Os) (started : os.Started) (H : Type) (enc : TypeId × Value → H) (F : Stop.Interp) :
    ReturnsInHanded {} Try.checked os 4 .any ((Rows.OpenSpec.upto Rows.triePlaysSpec).pre6 enc Try.prog Try.f4 Rows.triePlaysUptoRow.domain false) (((Rows.OpenSpec.upto Rows.triePlaysSpec).at F).post enc Try.prog Try.f4 false true false false) := by
  refine returnsInHanded_of_cond (C := Try.checked) (s := Rows.OpenSpec.upto Rows.triePlaysSpec) (k := Rows.uptoSmall) rfl q124 started (by kernel_rfl) Try.func4
    (OpenSpec.witness (enc := enc) (C := Try.checked) (s := Rows.OpenSpec.upto Rows.triePlaysSpec) (k := Rows.uptoSmall) rfl false ⟨#[], #[.slice none 0 0, .agg #[.int .u64 0, .int .u64 0], .agg #[.int .u64 0, .int .u64 0, .int .u64 0, .int .u64 0]], []⟩ 8 (by kernel_rfl) (by kernel_rfl) (by kernel_rfl)
      (x := ([.nil, .agg [.lit (.int .u64 0), .lit (.int .u64 0)], .agg [.agg [.lit (.int .u64 0), .lit (.int .u64 0)], .agg [.lit (.int .u64 0), .lit (.int .u64 0)]]], [], [])) (by kernel_rfl) rfl (by kernel_rfl)) ?_
  intro W base args ds gs before hval hW _ hk _
  have hg : gs = [] := by
    obtain ⟨p, q, hA, hV, _⟩ := hW
    exact (trodVars_none hV).1
  subst hg
  exact j125 (S := fun d => Rows.uptoBulk d ≤ 1048576) (tb := 4) z126 Try.func4 (by kernel_rfl) (by kernel_rfl) (by kernel_rfl) (by kernel_rfl) (by kernel_rfl) Try.underlying4 rfl (by kernel_rfl) (by intro ds h; rw [Try.params4] at h; match ds, h with | [_, _, _], _ => rfl) triePlays_law W base args ds [] before hval hW (x126 hk)
theorem triePlays_holds : Rows.TriePlaysUptoSaid :=
  OpenClaim.holds_of_cond 4 Try.f4 rfl rfl rfl rfl rfl rfl rfl ⟨rfl, rfl, rfl, rfl, rfl⟩ rfl rfl rfl rfl rfl (by kernel_rfl) Try.func4 (by kernel_rfl)
    (of_decide_eq_true (by kernel_rfl)) (by unfold Func.isWrapper; first | (rw [if_pos (by decide +kernel)]; kernel_rfl) | (rw [if_neg (by decide +kernel)]; exact ⟨rfl, rfl⟩))
    (fun os started H enc _ F => triePlays_lifted os started H enc F)
#print axioms triePlays_holds
end Go.Proofs.Ytbamjcnhmmgnlaa
