/- THE ROW OF TrieNone, PROVED. Conditions: none. -/
import Derived.Test.YtbamjcnhmmgnlaaKTrieNoned
set_option linter.unusedSimpArgs false
set_option linter.unusedVariables false
namespace Go.Proofs.Ytbamjcnhmmgnlaa
open Go.Proofs.Ytbamjcnhmmgnlaa.AL Go.ChangeShapes Go.WideShapes Go.ChangeAt Go.RowKit
set_option maxRecDepth 100000 in
theorem trieNone_law (xs : List (List Dat)) (h : IsAll maxLen [(false, (.int .i64)), (true, cubeSh), (true, headSh)] xs) : ACalls Try.prog 5 (pvs [(false, (.int .i64)), (true, cubeSh), (true, headSh)] xs) (· = [.d (.v (.bool true))]) := by
    obtain ⟨x1, xs, rfl, h1, h⟩ := j48 h
    obtain ⟨x2, xs, rfl, h2, h⟩ := j48 h
    obtain ⟨x3, xs, rfl, h3, h⟩ := j48 h
    obtain rfl := z108 h
    obtain ⟨a1, rfl, w1⟩ := is_int h1
    obtain ⟨a2, rfl⟩ := is_cb h2
    obtain ⟨a3, rfl⟩ := is_hd h3
    exact z127 a1 a2 a3
set_option maxRecDepth 100000 in
theorem trieNone_lifted (os : Os) (started : os.Started) (H : Type) (enc : TypeId × Value → H) :
    ReturnsInHanded {} Try.checked os 5 .any (Rows.trieNoneSpec.pre6 enc Try.prog Try.f5 Rows.trieNoneRow.domain false) (Rows.trieNoneSpec.post enc Try.prog Try.f5 false true false false) := by
  refine returnsInHanded_of_change (C := Try.checked) j107 started (by kernel_rfl) Try.func5
    (ChangeSpec.witness6 (enc := enc) (C := Try.checked) false ⟨#[], #[.int .i64 0, .agg #[.int .u64 0, .int .u64 0, .int .u64 0, .int .u64 0], .agg #[.int .u64 0, .int .u64 0]], []⟩ 8 (by kernel_rfl) (by kernel_rfl) (by kernel_rfl) (by kernel_rfl)) ?_
  intro W base args ds gs before hval hW _ _
  have hg : gs = [] := by
    obtain ⟨p, q, hA, hV, _⟩ := hW
    exact (trodVars_none hV).1
  subst hg
  exact x109 (S := fun _ => True) (tb := 4) j109 Try.func5 (by kernel_rfl) (by kernel_rfl) (by kernel_rfl) (by kernel_rfl) (by kernel_rfl) Try.underlying4 rfl (by kernel_rfl) (by intro ds h; rw [Try.params5] at h; match ds, h with | [_, _, _], _ => rfl) trieNone_law W base args ds [] before hval hW (fun _ _ => trivial)
theorem trieNone_holds : Rows.TrieNoneSaid :=
  OpenClaim.holds_of_wide 5 Try.f5 rfl rfl rfl rfl rfl rfl rfl ⟨rfl, rfl, rfl, rfl, rfl⟩ rfl rfl rfl rfl rfl (by kernel_rfl) Try.func5 (by kernel_rfl)
    (of_decide_eq_true (by kernel_rfl)) (by unfold Func.isWrapper; first | (rw [if_pos (by decide +kernel)]; kernel_rfl) | (rw [if_neg (by decide +kernel)]; exact ⟨rfl, rfl⟩))
    (fun os started H enc _ => trieNone_lifted os started H enc)
#print axioms trieNone_holds
end Go.Proofs.Ytbamjcnhmmgnlaa
