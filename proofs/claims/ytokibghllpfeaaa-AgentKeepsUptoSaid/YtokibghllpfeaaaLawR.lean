/- The rows' own part, on: rules and ports as plain data. Conditions: none. -/
import Derived.Test.YtokibghllpfeaaaLaw
import Derived.Test.YtokibghllpfeaaaRule
set_option linter.unusedSimpArgs false
set_option linter.unusedVariables false
namespace Go.Proofs.Ytokibghllpfeaaa
open Go.Proofs.Ytokibghllpfeaaa.AL
def ruleSh : Sh := .pair (.int .i64) (.pair cubeSh (.pair (.pair (.int .i64) (.pair (.int .i64) (.pair (.int .i64) (.pair cubeSh .unit)))) .unit))
def portSh : Sh := .pair (.int .i64) (.pair (.int .i64) (.pair (.int .i64) (.pair (.int .i64) (.pair (.int .i64) .unit))))
def in64 (n : Int) : Prop := -9223372036854775808 ≤ n ∧ n < 9223372036854775808
def Rule.ok (r : Rule) : Prop := in64 r.pr ∧ in64 r.kd ∧ in64 r.pt ∧ in64 r.tb
def Port.ok (p : Port) : Prop := in64 p.kd ∧ in64 p.tn ∧ in64 p.pe ∧ in64 p.at' ∧ in64 p.co
theorem is_rule {N : Nat} {ds : List Dat} (h : Is N ruleSh ds) : ∃ r : Rule, ds = ruleD r ∧ r.ok := by
  obtain ⟨_, _, rfl, ⟨a, rfl, wa⟩, _, _, rfl, hb, _, _, rfl, ⟨_, _, rfl, ⟨c, rfl, wc⟩, _, _, rfl, ⟨d, rfl, wd⟩, _, _, rfl, ⟨e, rfl, we⟩, _, _, rfl, hf, rfl⟩, rfl⟩ := h
  obtain ⟨x, rfl⟩ := is_cb hb
  obtain ⟨y, rfl⟩ := is_cb hf
  exact ⟨⟨a, x, c, d, e, y⟩, rfl, wf_i64 wa, wf_i64 wc, wf_i64 wd, wf_i64 we⟩
theorem is_port {N : Nat} {ds : List Dat} (h : Is N portSh ds) : ∃ p : Port, ds = portD p ∧ p.ok := by
  obtain ⟨_, _, rfl, ⟨a, rfl, wa⟩, _, _, rfl, ⟨b, rfl, wb⟩, _, _, rfl, ⟨c, rfl, wc⟩, _, _, rfl, ⟨d, rfl, wd⟩, _, _, rfl, ⟨e, rfl, we⟩, rfl⟩ := h
  exact ⟨⟨a, b, c, d, e⟩, rfl, wf_i64 wa, wf_i64 wb, wf_i64 wc, wf_i64 wd, wf_i64 we⟩
theorem is_rules' {N : Nat} {ds : List Dat} (h : Is N (.slice ruleSh) ds) : ∃ l : List Rule, ds = [.sl 12 l.length (rowR l)] ∧ l.length ≤ N ∧ ∀ r ∈ l, r.ok :=
  is_list ruleD r0 ruleSh (by simp only [ruleD, r0, hi_zero, lo_zero]; rfl) (fun ds hd => is_rule hd) h
theorem is_ports' {N : Nat} {ds : List Dat} (h : Is N (.slice portSh) ds) : ∃ l : List Port, ds = [.sl 5 l.length (rowP l)] ∧ l.length ≤ N ∧ ∀ r ∈ l, r.ok :=
  is_list portD p0 portSh rfl (fun ds hd => is_port hd) h
theorem is_rules {N : Nat} {ds : List Dat} (h : Is N (.slice ruleSh) ds) : ∃ l : List Rule, ds = [.sl 12 l.length (rowR l)] ∧ l.length ≤ N := by
  obtain ⟨l, h1, h2, _⟩ := is_rules' h; exact ⟨l, h1, h2⟩
theorem is_ports {N : Nat} {ds : List Dat} (h : Is N (.slice portSh) ds) : ∃ l : List Port, ds = [.sl 5 l.length (rowP l)] ∧ l.length ≤ N := by
  obtain ⟨l, h1, h2, _⟩ := is_ports' h; exact ⟨l, h1, h2⟩
end Go.Proofs.Ytokibghllpfeaaa
