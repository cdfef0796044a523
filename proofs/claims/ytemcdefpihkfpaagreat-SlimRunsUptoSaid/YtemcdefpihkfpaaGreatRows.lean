/-
  No cell of these rows narrows 'for every input' (looked for: loops, veiled, ifaces, maps, wideKeys, modest, calm, conditions, laid).
  DERIVED. THE GIVEN ROWS OF THIS SEAT. 7 by the template 'for every input the law returns true; each argument reads behind the call as it read before'; 0 by the template 'total and deterministic' (their statements: YtemcdefpihkfpaaGreatTotals.lean).
  GIVEN WITH THE SEED: the statements are not yours to turn. If you find one false, say at which input.
  Laid BY PROGRAM, IN A SANDBOX (cutbox-rows.mjs): the forced cells as the released guide's own fill.sh prints them over the translation 20c0452393ec0a1d… (all of the seat's roots in one cut). By AI agents, Wed Nov 11 2026. No macro, syntax, notation, axiom, sorry.
-/
import Derived.Test.YtemcdefpihkfpaaGreatChecked
import GoSem.Claim
import GoSem.ClaimJoined
import GoSem.ClaimMapViews
import Derived.JoinedTies
import Derived.KernelRfl
namespace Go.Proofs.YtemcdefpihkfpaaGreat
/- THE CELL 'sum', in the pinned program and in every row, IS THE sha256 OF THE DUMP (.gsa) THAT YtemcdefpihkfpaaGreatProg.lean LOADS. Nothing in Lean hashes anything: it is a label: what it is worth is what the hold of that sum in a sandbox is worth. -/
noncomputable def Tryz.pinned : Pinned := { name := "ytemcdefpihkfpaagreat", sum := "20c0452393ec0a1dd47959774051994ef8fc0d1746a4bc4e6a7be1647dbae622", checked := Tryz.checked }
namespace Rows
def none {H : Type} : Left H := { results := [], args := [] }

/-- 'customhouselaw11.AtomsSplit': WHATEVER THE INPUT: true; the input reads as it did. -/
def atomsSplitSpec : ChangeSpec := { name := "atomsSplit", fn := fun _ => fun
  | [d1, d2] => { results := [.lit (.bool true)], args := [d1, d2] }
  | _ => none }
def atomsSplitRow : OpenClaim := { program := "ytemcdefpihkfpaagreat", sum := "20c0452393ec0a1dd47959774051994ef8fc0d1746a4bc4e6a7be1647dbae622", func := "customhouse/customhouselaw11.AtomsSplit", spec := "atomsSplit", inPlace := ["math/bits.Sub64"], unfollowed := true, recurses := true, apart := false }
def AtomsSplitSaid : Prop := atomsSplitRow.holds Tryz.pinned (OpenSpec.ofChange atomsSplitSpec)

/-- ITS FALSE NEIGHBOUR: 'it returns false'. Refute it at one input. -/
def atomsSplitWrong : ChangeSpec := { name := "atomsSplit", fn := fun _ => fun
  | [d1, d2] => { results := [.lit (.bool false)], args := [d1, d2] }
  | _ => none }
def AtomsSplitWrongFalsely : Prop := atomsSplitRow.holds Tryz.pinned (OpenSpec.ofChange atomsSplitWrong)

/-- 'customhouselaw11.AtomsExact': WHATEVER THE INPUT: true; the input reads as it did. -/
def atomsExactSpec : ChangeSpec := { name := "atomsExact", fn := fun _ => fun
  | [d] => { results := [.lit (.bool true)], args := [d] }
  | _ => none }
def atomsExactRow : OpenClaim := { program := "ytemcdefpihkfpaagreat", sum := "20c0452393ec0a1dd47959774051994ef8fc0d1746a4bc4e6a7be1647dbae622", func := "customhouse/customhouselaw11.AtomsExact", spec := "atomsExact", inPlace := ["math/bits.Sub64"], unfollowed := true, recurses := true, apart := false }
def AtomsExactSaid : Prop := atomsExactRow.holds Tryz.pinned (OpenSpec.ofChange atomsExactSpec)

/-- ITS FALSE NEIGHBOUR: 'it returns false'. Refute it at one input. -/
def atomsExactWrong : ChangeSpec := { name := "atomsExact", fn := fun _ => fun
  | [d] => { results := [.lit (.bool false)], args := [d] }
  | _ => none }
def AtomsExactWrongFalsely : Prop := atomsExactRow.holds Tryz.pinned (OpenSpec.ofChange atomsExactWrong)

/-- 'customhouselaw11.AtomsTurn': WHATEVER THE INPUT: true; the input reads as it did. -/
def atomsTurnSpec : ChangeSpec := { name := "atomsTurn", fn := fun _ => fun
  | [d1, d2, d3, d4] => { results := [.lit (.bool true)], args := [d1, d2, d3, d4] }
  | _ => none }
def atomsTurnRow : OpenClaim := { program := "ytemcdefpihkfpaagreat", sum := "20c0452393ec0a1dd47959774051994ef8fc0d1746a4bc4e6a7be1647dbae622", func := "customhouse/customhouselaw11.AtomsTurn", spec := "atomsTurn", inPlace := ["math/bits.Sub64"], unfollowed := true, recurses := true, apart := false }
def AtomsTurnSaid : Prop := atomsTurnRow.holds Tryz.pinned (OpenSpec.ofChange atomsTurnSpec)

/-- ITS FALSE NEIGHBOUR: 'it returns false'. Refute it at one input. -/
def atomsTurnWrong : ChangeSpec := { name := "atomsTurn", fn := fun _ => fun
  | [d1, d2, d3, d4] => { results := [.lit (.bool false)], args := [d1, d2, d3, d4] }
  | _ => none }
def AtomsTurnWrongFalsely : Prop := atomsTurnRow.holds Tryz.pinned (OpenSpec.ofChange atomsTurnWrong)

/-- 'customhouselaw29.SlimSpare': WHATEVER THE INPUT: true; the input reads as it did. -/
def slimSpareSpec : ChangeSpec := { name := "slimSpare", fn := fun _ => fun
  | [d1, d2] => { results := [.lit (.bool true)], args := [d1, d2] }
  | _ => none }
def slimSpareRow : OpenClaim := { program := "ytemcdefpihkfpaagreat", sum := "20c0452393ec0a1dd47959774051994ef8fc0d1746a4bc4e6a7be1647dbae622", func := "customhouse/customhouselaw29.SlimSpare", spec := "slimSpare", inPlace := ["math/bits.Sub64"], unfollowed := true, recurses := true, apart := false }
def SlimSpareSaid : Prop := slimSpareRow.holds Tryz.pinned (OpenSpec.ofChange slimSpareSpec)

/-- ITS FALSE NEIGHBOUR: 'it returns false'. Refute it at one input. -/
def slimSpareWrong : ChangeSpec := { name := "slimSpare", fn := fun _ => fun
  | [d1, d2] => { results := [.lit (.bool false)], args := [d1, d2] }
  | _ => none }
def SlimSpareWrongFalsely : Prop := slimSpareRow.holds Tryz.pinned (OpenSpec.ofChange slimSpareWrong)

/-- 'customhouselaw29.SlimTables': WHATEVER THE INPUT: true; the input reads as it did. -/
def slimTablesSpec : ChangeSpec := { name := "slimTables", fn := fun _ => fun
  | [d] => { results := [.lit (.bool true)], args := [d] }
  | _ => none }
def slimTablesRow : OpenClaim := { program := "ytemcdefpihkfpaagreat", sum := "20c0452393ec0a1dd47959774051994ef8fc0d1746a4bc4e6a7be1647dbae622", func := "customhouse/customhouselaw29.SlimTables", spec := "slimTables", inPlace := ["math/bits.Sub64"], unfollowed := true, recurses := true, apart := false }
def SlimTablesSaid : Prop := slimTablesRow.holds Tryz.pinned (OpenSpec.ofChange slimTablesSpec)

/-- ITS FALSE NEIGHBOUR: 'it returns false'. Refute it at one input. -/
def slimTablesWrong : ChangeSpec := { name := "slimTables", fn := fun _ => fun
  | [d] => { results := [.lit (.bool false)], args := [d] }
  | _ => none }
def SlimTablesWrongFalsely : Prop := slimTablesRow.holds Tryz.pinned (OpenSpec.ofChange slimTablesWrong)

/-- 'customhouselaw29.SlimAlike': WHATEVER THE INPUT: true; the input reads as it did. -/
def slimAlikeSpec : ChangeSpec := { name := "slimAlike", fn := fun _ => fun
  | [d1, d2] => { results := [.lit (.bool true)], args := [d1, d2] }
  | _ => none }
def slimAlikeRow : OpenClaim := { program := "ytemcdefpihkfpaagreat", sum := "20c0452393ec0a1dd47959774051994ef8fc0d1746a4bc4e6a7be1647dbae622", func := "customhouse/customhouselaw29.SlimAlike", spec := "slimAlike", inPlace := ["math/bits.Sub64"], unfollowed := true, recurses := true, apart := false }
def SlimAlikeSaid : Prop := slimAlikeRow.holds Tryz.pinned (OpenSpec.ofChange slimAlikeSpec)

/-- ITS FALSE NEIGHBOUR: 'it returns false'. Refute it at one input. -/
def slimAlikeWrong : ChangeSpec := { name := "slimAlike", fn := fun _ => fun
  | [d1, d2] => { results := [.lit (.bool false)], args := [d1, d2] }
  | _ => none }
def SlimAlikeWrongFalsely : Prop := slimAlikeRow.holds Tryz.pinned (OpenSpec.ofChange slimAlikeWrong)

/-- 'customhouselaw29.SlimRuns': WHATEVER THE INPUT: true; the input reads as it did. -/
def slimRunsSpec : ChangeSpec := { name := "slimRuns", fn := fun _ => fun
  | [d1, d2, d3, d4] => { results := [.lit (.bool true)], args := [d1, d2, d3, d4] }
  | _ => none }
def slimRunsRow : OpenClaim := { program := "ytemcdefpihkfpaagreat", sum := "20c0452393ec0a1dd47959774051994ef8fc0d1746a4bc4e6a7be1647dbae622", func := "customhouse/customhouselaw29.SlimRuns", spec := "slimRuns", inPlace := ["math/bits.Sub64"], unfollowed := true, recurses := true, apart := false }
def SlimRunsSaid : Prop := slimRunsRow.holds Tryz.pinned (OpenSpec.ofChange slimRunsSpec)

/-- ITS FALSE NEIGHBOUR: 'it returns false'. Refute it at one input. -/
def slimRunsWrong : ChangeSpec := { name := "slimRuns", fn := fun _ => fun
  | [d1, d2, d3, d4] => { results := [.lit (.bool false)], args := [d1, d2, d3, d4] }
  | _ => none }
def SlimRunsWrongFalsely : Prop := slimRunsRow.holds Tryz.pinned (OpenSpec.ofChange slimRunsWrong)

/- THE SECOND FORM. 'bulk': how many values and letters a reading holds, each counted each time it is reached (what is shared counts as often as it is met; a slice's spare places count too). A statement '..UptoSaid' is the law's where the arguments, and the package variables that the reading takes, are together of bulk at most 1048576: NARROWER than '..Said'. Prove '..Said' where nothing that the law and all that it calls make is longer than what came in: it says more and counts as full. Else prove '..UptoSaid'. A law counts once. -/
mutual
def uptoBulk {H : Type} : DataW H → Nat
  | .lit (.string bytes) => bytes.length + 1
  | .lit _ => 1
  | .nil => 1
  | .ptr d => uptoBulk d + 1
  | .slice elems spare => uptoBulkAll elems + uptoBulkAll spare + 1
  | .agg parts => uptoBulkAll parts + 1
  | .iface _ d => uptoBulk d + 1
  | .map entries => uptoBulkEntries entries + 1
  | .held _ => 1
def uptoBulkAll {H : Type} : List (DataW H) → Nat
  | [] => 0
  | d :: r => uptoBulk d + uptoBulkAll r
def uptoBulkEntries {H : Type} : List (Lit × DataW H) → Nat
  | [] => 0
  | x :: r => uptoBulkEntry x + uptoBulkEntries r
def uptoBulkEntry {H : Type} : Lit × DataW H → Nat
  | (.string bytes, d) => bytes.length + uptoBulk d + 1
  | (_, d) => uptoBulk d + 1
 end
def uptoSmall : (H : Type) → List (DataW H) → Bool := fun _ ds => decide (uptoBulkAll ds ≤ 1048576)
def OpenSpec.upto (s : _root_.Go.ChangeSpec) : _root_.Go.OpenSpec := { _root_.Go.OpenSpec.ofChange s with cond := some uptoSmall }

/-- 'customhouselaw11.AtomsSplit', WHERE WHAT IT READS IS OF BULK AT MOST 1048576: true; the input reads as it did. -/
def atomsSplitUptoRow : OpenClaim := { program := "ytemcdefpihkfpaagreat", sum := "20c0452393ec0a1dd47959774051994ef8fc0d1746a4bc4e6a7be1647dbae622", func := "customhouse/customhouselaw11.AtomsSplit", spec := "atomsSplit", inPlace := ["math/bits.Sub64"], unfollowed := true, recurses := true, apart := false, narrowed := true }
def AtomsSplitUptoSaid : Prop := atomsSplitUptoRow.holds Tryz.pinned (OpenSpec.upto atomsSplitSpec)

/-- 'customhouselaw11.AtomsExact', WHERE WHAT IT READS IS OF BULK AT MOST 1048576: true; the input reads as it did. -/
def atomsExactUptoRow : OpenClaim := { program := "ytemcdefpihkfpaagreat", sum := "20c0452393ec0a1dd47959774051994ef8fc0d1746a4bc4e6a7be1647dbae622", func := "customhouse/customhouselaw11.AtomsExact", spec := "atomsExact", inPlace := ["math/bits.Sub64"], unfollowed := true, recurses := true, apart := false, narrowed := true }
def AtomsExactUptoSaid : Prop := atomsExactUptoRow.holds Tryz.pinned (OpenSpec.upto atomsExactSpec)

/-- 'customhouselaw11.AtomsTurn', WHERE WHAT IT READS IS OF BULK AT MOST 1048576: true; the input reads as it did. -/
def atomsTurnUptoRow : OpenClaim := { program := "ytemcdefpihkfpaagreat", sum := "20c0452393ec0a1dd47959774051994ef8fc0d1746a4bc4e6a7be1647dbae622", func := "customhouse/customhouselaw11.AtomsTurn", spec := "atomsTurn", inPlace := ["math/bits.Sub64"], unfollowed := true, recurses := true, apart := false, narrowed := true }
def AtomsTurnUptoSaid : Prop := atomsTurnUptoRow.holds Tryz.pinned (OpenSpec.upto atomsTurnSpec)

/-- 'customhouselaw29.SlimSpare', WHERE WHAT IT READS IS OF BULK AT MOST 1048576: true; the input reads as it did. -/
def slimSpareUptoRow : OpenClaim := { program := "ytemcdefpihkfpaagreat", sum := "20c0452393ec0a1dd47959774051994ef8fc0d1746a4bc4e6a7be1647dbae622", func := "customhouse/customhouselaw29.SlimSpare", spec := "slimSpare", inPlace := ["math/bits.Sub64"], unfollowed := true, recurses := true, apart := false, narrowed := true }
def SlimSpareUptoSaid : Prop := slimSpareUptoRow.holds Tryz.pinned (OpenSpec.upto slimSpareSpec)

/-- 'customhouselaw29.SlimTables', WHERE WHAT IT READS IS OF BULK AT MOST 1048576: true; the input reads as it did. -/
def slimTablesUptoRow : OpenClaim := { program := "ytemcdefpihkfpaagreat", sum := "20c0452393ec0a1dd47959774051994ef8fc0d1746a4bc4e6a7be1647dbae622", func := "customhouse/customhouselaw29.SlimTables", spec := "slimTables", inPlace := ["math/bits.Sub64"], unfollowed := true, recurses := true, apart := false, narrowed := true }
def SlimTablesUptoSaid : Prop := slimTablesUptoRow.holds Tryz.pinned (OpenSpec.upto slimTablesSpec)

/-- 'customhouselaw29.SlimAlike', WHERE WHAT IT READS IS OF BULK AT MOST 1048576: true; the input reads as it did. -/
def slimAlikeUptoRow : OpenClaim := { program := "ytemcdefpihkfpaagreat", sum := "20c0452393ec0a1dd47959774051994ef8fc0d1746a4bc4e6a7be1647dbae622", func := "customhouse/customhouselaw29.SlimAlike", spec := "slimAlike", inPlace := ["math/bits.Sub64"], unfollowed := true, recurses := true, apart := false, narrowed := true }
def SlimAlikeUptoSaid : Prop := slimAlikeUptoRow.holds Tryz.pinned (OpenSpec.upto slimAlikeSpec)

/-- 'customhouselaw29.SlimRuns', WHERE WHAT IT READS IS OF BULK AT MOST 1048576: true; the input reads as it did. -/
def slimRunsUptoRow : OpenClaim := { program := "ytemcdefpihkfpaagreat", sum := "20c0452393ec0a1dd47959774051994ef8fc0d1746a4bc4e6a7be1647dbae622", func := "customhouse/customhouselaw29.SlimRuns", spec := "slimRuns", inPlace := ["math/bits.Sub64"], unfollowed := true, recurses := true, apart := false, narrowed := true }
def SlimRunsUptoSaid : Prop := slimRunsUptoRow.holds Tryz.pinned (OpenSpec.upto slimRunsSpec)

end Rows
end Go.Proofs.YtemcdefpihkfpaaGreat
