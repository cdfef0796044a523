/- The rows' own part, on: spots, policies, configs as plain data. Conditions: none. -/
import Derived.Test.YtgfnpkpbebihgaaLawR
import Derived.Test.YtgfnpkpbebihgaaConf2
set_option linter.unusedSimpArgs false
set_option linter.unusedVariables false
namespace Go.Proofs.Ytgfnpkpbebihgaa
open Go.Proofs.Ytgfnpkpbebihgaa.AL
def spotSh : Sh := .pair (.int .i64) (.pair (.int .i64) .unit)
def pairSh : Sh := .pair (.int .i64) (.pair (.int .i64) .unit)
def waySh : Sh := .pair (.int .i64) (.pair (.int .i64) (.pair (.int .i64) .unit))
def topoSh : Sh := .pair (.slice (.slice portSh)) .unit
def policySh : Sh := .pair (.int .i64) (.pair (.slice pairSh) (.pair (.slice waySh) .unit))
def tabsSh : Sh := .slice (.slice ruleSh)
def configSh : Sh := .pair topoSh (.pair policySh (.pair (.slice tabsSh) .unit))
theorem is_spot {N : Nat} {ds : List Dat} (h : Is N spotSh ds) : ∃ s : Spot, ds = spotD s ∧ in64 s.sw ∧ in64 s.po := by
  obtain ⟨_, _, rfl, ⟨a, rfl, wa⟩, _, _, rfl, ⟨b, rfl, wb⟩, rfl⟩ := h
  exact ⟨⟨a, b⟩, rfl, wf_i64 wa, wf_i64 wb⟩
theorem is_pair {N : Nat} {ds : List Dat} (h : Is N pairSh ds) : ∃ p : Int × Int, ds = pairD p ∧ in64 p.1 ∧ in64 p.2 := by
  obtain ⟨_, _, rfl, ⟨a, rfl, wa⟩, _, _, rfl, ⟨b, rfl, wb⟩, rfl⟩ := h
  exact ⟨⟨a, b⟩, rfl, wf_i64 wa, wf_i64 wb⟩
theorem is_way {N : Nat} {ds : List Dat} (h : Is N waySh ds) : ∃ w : Way, ds = wayD w ∧ in64 w.fr := by
  obtain ⟨_, _, rfl, ⟨a, rfl, wa⟩, _, _, rfl, ⟨b, rfl, wb⟩, _, _, rfl, ⟨c, rfl, wc⟩, rfl⟩ := h
  exact ⟨⟨a, b, c⟩, rfl, wf_i64 wa⟩
theorem is_portss {N : Nat} {ds : List Dat} (h : Is N (.slice (.slice portSh)) ds) : ∃ l : List (List Port), ds = [.sl 1 l.length (rowPP l)] ∧ l.length ≤ N ∧ ∀ r ∈ l, r.length ≤ N :=
  is_list (fun r : List Port => [Dat.sl 5 r.length (rowP r)]) [] (.slice portSh) rfl (fun ds hd => is_ports hd) h
theorem is_tabs {N : Nat} {ds : List Dat} (h : Is N tabsSh ds) : ∃ l : List (List Rule), ds = [.sl 1 l.length (rowRR l)] ∧ l.length ≤ N ∧ ∀ r ∈ l, r.length ≤ N :=
  is_list (fun r : List Rule => [Dat.sl 12 r.length (rowR r)]) [] (.slice ruleSh) (by
    have : rowR [] = fun _ => zeroSh ruleSh := by
      funext i
      show ruleD r0 = _
      simp only [ruleD, r0, hi_zero, lo_zero]; rfl
    show [Dat.sl 12 0 (rowR [])] = _
    rw [this]; rfl) (fun ds hd => is_rules hd) h
theorem is_tabss {N : Nat} {ds : List Dat} (h : Is N (.slice tabsSh) ds) : ∃ l : List (List (List Rule)), ds = [.sl 1 l.length (rowTT l)] ∧ l.length ≤ N ∧ ∀ t ∈ l, t.length ≤ N ∧ ∀ r ∈ t, r.length ≤ N :=
  is_list (Q := fun t : List (List Rule) => t.length ≤ N ∧ ∀ r ∈ t, r.length ≤ N) (fun t : List (List Rule) => [Dat.sl 1 t.length (rowRR t)]) [] tabsSh (by
    have h0 : rowR [] = fun _ => zeroSh ruleSh := by
      funext i
      show ruleD r0 = _
      simp only [ruleD, r0, hi_zero, lo_zero]; rfl
    have : rowRR [] = fun _ => zeroSh (.slice ruleSh) := by
      funext i
      show [Dat.sl 12 0 (rowR [])] = _
      rw [h0]; rfl
    show [Dat.sl 1 0 (rowRR [])] = _
    rw [this]; rfl) (fun ds hd => is_tabs hd) h
theorem is_pairs {N : Nat} {ds : List Dat} (h : Is N (.slice pairSh) ds) : ∃ l : List (Int × Int), ds = [.sl 2 l.length (rowA l)] ∧ l.length ≤ N := by
  obtain ⟨l, h1, h2, _⟩ := is_list (Q := fun _ => True) pairD (0, 0) pairSh rfl (fun ds hd => by obtain ⟨p, h1, _⟩ := is_pair hd; exact ⟨p, h1, trivial⟩) h
  exact ⟨l, h1, h2⟩
theorem is_ways {N : Nat} {ds : List Dat} (h : Is N (.slice waySh) ds) : ∃ l : List Way, ds = [.sl 3 l.length (rowW l)] ∧ l.length ≤ N := by
  obtain ⟨l, h1, h2, _⟩ := is_list (Q := fun _ => True) wayD w0 waySh rfl (fun ds hd => by obtain ⟨p, h1, _⟩ := is_way hd; exact ⟨p, h1, trivial⟩) h
  exact ⟨l, h1, h2⟩
theorem is_policy {ds : List Dat} (h : Is 1048576 policySh ds) : ∃ p : Policy, ds = policyD p ∧ p.small ∧ in64 p.tn := by
  obtain ⟨_, _, rfl, ⟨a, rfl, wa⟩, _, _, rfl, hb, _, _, rfl, hc, rfl⟩ := h
  obtain ⟨ps, rfl, h1⟩ := is_pairs hb
  obtain ⟨ws, rfl, h2⟩ := is_ways hc
  exact ⟨⟨a, ps, ws⟩, rfl, ⟨by simp only []; omega, by simp only []; omega⟩, wf_i64 wa⟩
theorem is_config {ds : List Dat} (h : Is 1048576 configSh ds) : ∃ c : Config, ds = configD c ∧ c.small := by
  obtain ⟨_, _, rfl, ⟨_, _, rfl, ha, rfl⟩, _, _, rfl, hb, _, _, rfl, hc, rfl⟩ := h
  obtain ⟨tp, rfl, t1, t2⟩ := is_portss ha
  obtain ⟨po, rfl, p1, _⟩ := is_policy hb
  obtain ⟨tb, rfl, b1, b2⟩ := is_tabss hc
  exact ⟨⟨tp, po, tb⟩, rfl, ⟨⟨t1, t2⟩, p1, b1, b2⟩⟩
end Go.Proofs.Ytgfnpkpbebihgaa
