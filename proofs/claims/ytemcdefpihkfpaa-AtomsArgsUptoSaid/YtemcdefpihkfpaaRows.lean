/-
  No cell of these rows narrows 'for every input' (looked for: loops, veiled, ifaces, maps, wideKeys, modest, calm, conditions, laid).
  DERIVED. THE GIVEN ROWS OF THIS SEAT. 3 by the template 'for every input the law returns true; each argument reads behind the call as it read before'; 0 by the template 'total and deterministic' (their statements: YtemcdefpihkfpaaTotals.lean).
  GIVEN WITH THE SEED: the statements are not yours to turn. If you find one false, say at which input.
  Laid BY PROGRAM, IN A SANDBOX (cutbox-rows.mjs): the forced cells as the released guide's own fill.sh prints them over the translation a0f907a202d53299… (all of the seat's roots in one cut). By AI agents, Wed Nov 11 2026. No macro, syntax, notation, axiom, sorry.
-/
import Derived.Test.YtemcdefpihkfpaaChecked
import GoSem.Claim
import GoSem.ClaimJoined
import GoSem.ClaimMapViews
import Derived.JoinedTies
import Derived.KernelRfl
namespace Go.Proofs.Ytemcdefpihkfpaa
/- THE CELL 'sum', in the pinned program and in every row, IS THE sha256 OF THE DUMP (.gsa) THAT YtemcdefpihkfpaaProg.lean LOADS. Nothing in Lean hashes anything: it is a label: what it is worth is what the hold of that sum in a sandbox is worth. -/
noncomputable def Try.pinned : Pinned := { name := "ytemcdefpihkfpaa", sum := "a0f907a202d532996113255cf077f7cd05da7191b7e305c5817c30e881a887c9", checked := Try.checked }
namespace Rows
def none {H : Type} : Left H := { results := [], args := [] }

/-- 'customhouselaw11.AtomsOrder': WHATEVER THE INPUT: true; the input reads as it did. -/
def atomsOrderSpec : ChangeSpec := { name := "atomsOrder", fn := fun _ => fun
  | [d1, d2, d3] => { results := [.lit (.bool true)], args := [d1, d2, d3] }
  | _ => none }
def atomsOrderRow : OpenClaim := { program := "ytemcdefpihkfpaa", sum := "a0f907a202d532996113255cf077f7cd05da7191b7e305c5817c30e881a887c9", func := "customhouse/customhouselaw11.AtomsOrder", spec := "atomsOrder", inPlace := ["math/bits.Sub64"], unfollowed := true, recurses := true, apart := false }
def AtomsOrderSaid : Prop := atomsOrderRow.holds Try.pinned (OpenSpec.ofChange atomsOrderSpec)

/-- ITS FALSE NEIGHBOUR: 'it returns false'. Refute it at one input. -/
def atomsOrderWrong : ChangeSpec := { name := "atomsOrder", fn := fun _ => fun
  | [d1, d2, d3] => { results := [.lit (.bool false)], args := [d1, d2, d3] }
  | _ => none }
def AtomsOrderWrongFalsely : Prop := atomsOrderRow.holds Try.pinned (OpenSpec.ofChange atomsOrderWrong)

/-- 'customhouselaw11.AtomsBack': WHATEVER THE INPUT: true; the input reads as it did. -/
def atomsBackSpec : ChangeSpec := { name := "atomsBack", fn := fun _ => fun
  | [d1, d2, d3, d4] => { results := [.lit (.bool true)], args := [d1, d2, d3, d4] }
  | _ => none }
def atomsBackRow : OpenClaim := { program := "ytemcdefpihkfpaa", sum := "a0f907a202d532996113255cf077f7cd05da7191b7e305c5817c30e881a887c9", func := "customhouse/customhouselaw11.AtomsBack", spec := "atomsBack", inPlace := ["math/bits.Sub64"], unfollowed := true, recurses := true, apart := false }
def AtomsBackSaid : Prop := atomsBackRow.holds Try.pinned (OpenSpec.ofChange atomsBackSpec)

/-- ITS FALSE NEIGHBOUR: 'it returns false'. Refute it at one input. -/
def atomsBackWrong : ChangeSpec := { name := "atomsBack", fn := fun _ => fun
  | [d1, d2, d3, d4] => { results := [.lit (.bool false)], args := [d1, d2, d3, d4] }
  | _ => none }
def AtomsBackWrongFalsely : Prop := atomsBackRow.holds Try.pinned (OpenSpec.ofChange atomsBackWrong)

/-- 'customhouselaw11.AtomsArgs': WHATEVER THE INPUT: true; the input reads as it did. -/
def atomsArgsSpec : ChangeSpec := { name := "atomsArgs", fn := fun _ => fun
  | [d1, d2, d3] => { results := [.lit (.bool true)], args := [d1, d2, d3] }
  | _ => none }
def atomsArgsRow : OpenClaim := { program := "ytemcdefpihkfpaa", sum := "a0f907a202d532996113255cf077f7cd05da7191b7e305c5817c30e881a887c9", func := "customhouse/customhouselaw11.AtomsArgs", spec := "atomsArgs", inPlace := ["math/bits.Sub64"], unfollowed := true, recurses := true, apart := false }
def AtomsArgsSaid : Prop := atomsArgsRow.holds Try.pinned (OpenSpec.ofChange atomsArgsSpec)

/-- ITS FALSE NEIGHBOUR: 'it returns false'. Refute it at one input. -/
def atomsArgsWrong : ChangeSpec := { name := "atomsArgs", fn := fun _ => fun
  | [d1, d2, d3] => { results := [.lit (.bool false)], args := [d1, d2, d3] }
  | _ => none }
def AtomsArgsWrongFalsely : Prop := atomsArgsRow.holds Try.pinned (OpenSpec.ofChange atomsArgsWrong)

/- THE SECOND FORM. 'bulk': how many values and letters a reading holds, each counted each time it is reached (what is shared counts as often as it is met; a slice's spare places count too). A statement '..UptoSaid' is the law's where the arguments, and the package variables that the reading takes, are together of bulk at most 1048576: NARROWER than '..Said'. Prove '..Said' where nothing that the law and all that it calls make is longer than what came in: it says more and counts as full. Else prove '..UptoSaid'. A law counts once. -/
mutual
def uptoBulk {H : Type} : DataW H → Nat
  | .lit (.string bytes) => bytes.length + 1
  | .lit _ => 1
  | .nil => 1
  | .ptr d => uptoBulk d + 1
  | .slice elems spare => uptoBulkAll elems + uptoBulkAll spare + 1
  | .agg parts => uptoBulkAll parts + 1
  | .iface _ d => uptoBulk d + 1
  | .map entries => uptoBulkEntries entries + 1
  | .held _ => 1
def uptoBulkAll {H : Type} : List (DataW H) → Nat
  | [] => 0
  | d :: r => uptoBulk d + uptoBulkAll r
def uptoBulkEntries {H : Type} : List (Lit × DataW H) → Nat
  | [] => 0
  | x :: r => uptoBulkEntry x + uptoBulkEntries r
def uptoBulkEntry {H : Type} : Lit × DataW H → Nat
  | (.string bytes, d) => bytes.length + uptoBulk d + 1
  | (_, d) => uptoBulk d + 1
 end
def uptoSmall : (H : Type) → List (DataW H) → Bool := fun _ ds => decide (uptoBulkAll ds ≤ 1048576)
def OpenSpec.upto (s : _root_.Go.ChangeSpec) : _root_.Go.OpenSpec := { _root_.Go.OpenSpec.ofChange s with cond := some uptoSmall }

/-- 'customhouselaw11.AtomsOrder', WHERE WHAT IT READS IS OF BULK AT MOST 1048576: true; the input reads as it did. -/
def atomsOrderUptoRow : OpenClaim := { program := "ytemcdefpihkfpaa", sum := "a0f907a202d532996113255cf077f7cd05da7191b7e305c5817c30e881a887c9", func := "customhouse/customhouselaw11.AtomsOrder", spec := "atomsOrder", inPlace := ["math/bits.Sub64"], unfollowed := true, recurses := true, apart := false, narrowed := true }
def AtomsOrderUptoSaid : Prop := atomsOrderUptoRow.holds Try.pinned (OpenSpec.upto atomsOrderSpec)

/-- 'customhouselaw11.AtomsBack', WHERE WHAT IT READS IS OF BULK AT MOST 1048576: true; the input reads as it did. -/
def atomsBackUptoRow : OpenClaim := { program := "ytemcdefpihkfpaa", sum := "a0f907a202d532996113255cf077f7cd05da7191b7e305c5817c30e881a887c9", func := "customhouse/customhouselaw11.AtomsBack", spec := "atomsBack", inPlace := ["math/bits.Sub64"], unfollowed := true, recurses := true, apart := false, narrowed := true }
def AtomsBackUptoSaid : Prop := atomsBackUptoRow.holds Try.pinned (OpenSpec.upto atomsBackSpec)

/-- 'customhouselaw11.AtomsArgs', WHERE WHAT IT READS IS OF BULK AT MOST 1048576: true; the input reads as it did. -/
def atomsArgsUptoRow : OpenClaim := { program := "ytemcdefpihkfpaa", sum := "a0f907a202d532996113255cf077f7cd05da7191b7e305c5817c30e881a887c9", func := "customhouse/customhouselaw11.AtomsArgs", spec := "atomsArgs", inPlace := ["math/bits.Sub64"], unfollowed := true, recurses := true, apart := false, narrowed := true }
def AtomsArgsUptoSaid : Prop := atomsArgsUptoRow.holds Try.pinned (OpenSpec.upto atomsArgsSpec)

end Rows
end Go.Proofs.Ytemcdefpihkfpaa
