/-
  No cell of these rows narrows 'for every input' (looked for: loops, veiled, ifaces, maps, wideKeys, modest, calm, conditions, laid).
  DERIVED. THE GIVEN ROWS OF THIS SEAT. 12 by the template 'for every input the law returns true; each argument reads behind the call as it read before'; 0 by the template 'total and deterministic' (their statements: YtfcfhlfehomhpaaTotals.lean).
  GIVEN WITH THE SEED: the statements are not yours to turn. If you find one false, say at which input.
  Laid BY PROGRAM, IN A SANDBOX (cutbox-rows.mjs): the forced cells as the released guide's own fill.sh prints them over the translation 996f7c34097ed9f7… (all of the seat's roots in one cut). By AI agents, Wed Nov 11 2026. No macro, syntax, notation, axiom, sorry.
-/
import Derived.Test.YtfcfhlfehomhpaaChecked
import GoSem.Claim
import GoSem.ClaimJoined
import GoSem.ClaimMapViews
import Derived.JoinedTies
import Derived.KernelRfl
namespace Go.Proofs.Ytfcfhlfehomhpaa
/- THE CELL 'sum', in the pinned program and in every row, IS THE sha256 OF THE DUMP (.gsa) THAT YtfcfhlfehomhpaaProg.lean LOADS. Nothing in Lean hashes anything: it is a label: what it is worth is what the hold of that sum in a sandbox is worth. -/
noncomputable def Try.pinned : Pinned := { name := "ytfcfhlfehomhpaa", sum := "996f7c34097ed9f7503d11ccfe712d8763b80e55bec5e52639dd4035e18b8ecc", checked := Try.checked }
namespace Rows
def none {H : Type} : Left H := { results := [], args := [] }

/-- 'customhouselaw02.CubeHas': WHATEVER THE INPUT: true; the input reads as it did. -/
def cubeHasSpec : ChangeSpec := { name := "cubeHas", fn := fun _ => fun
  | [d1, d2] => { results := [.lit (.bool true)], args := [d1, d2] }
  | _ => none }
def cubeHasRow : OpenClaim := { program := "ytfcfhlfehomhpaa", sum := "996f7c34097ed9f7503d11ccfe712d8763b80e55bec5e52639dd4035e18b8ecc", func := "customhouse/customhouselaw02.CubeHas", spec := "cubeHas", inPlace := ["math/bits.Sub64"], unfollowed := true, recurses := true, apart := false }
def CubeHasSaid : Prop := cubeHasRow.holds Try.pinned (OpenSpec.ofChange cubeHasSpec)

/-- ITS FALSE NEIGHBOUR: 'it returns false'. Refute it at one input. -/
def cubeHasWrong : ChangeSpec := { name := "cubeHas", fn := fun _ => fun
  | [d1, d2] => { results := [.lit (.bool false)], args := [d1, d2] }
  | _ => none }
def CubeHasWrongFalsely : Prop := cubeHasRow.holds Try.pinned (OpenSpec.ofChange cubeHasWrong)

/-- 'customhouselaw02.CubeMeets': WHATEVER THE INPUT: true; the input reads as it did. -/
def cubeMeetsSpec : ChangeSpec := { name := "cubeMeets", fn := fun _ => fun
  | [d1, d2] => { results := [.lit (.bool true)], args := [d1, d2] }
  | _ => none }
def cubeMeetsRow : OpenClaim := { program := "ytfcfhlfehomhpaa", sum := "996f7c34097ed9f7503d11ccfe712d8763b80e55bec5e52639dd4035e18b8ecc", func := "customhouse/customhouselaw02.CubeMeets", spec := "cubeMeets", inPlace := ["math/bits.Sub64"], unfollowed := true, recurses := true, apart := false }
def CubeMeetsSaid : Prop := cubeMeetsRow.holds Try.pinned (OpenSpec.ofChange cubeMeetsSpec)

/-- ITS FALSE NEIGHBOUR: 'it returns false'. Refute it at one input. -/
def cubeMeetsWrong : ChangeSpec := { name := "cubeMeets", fn := fun _ => fun
  | [d1, d2] => { results := [.lit (.bool false)], args := [d1, d2] }
  | _ => none }
def CubeMeetsWrongFalsely : Prop := cubeMeetsRow.holds Try.pinned (OpenSpec.ofChange cubeMeetsWrong)

/-- 'customhouselaw02.CubeLess': WHATEVER THE INPUT: true; the input reads as it did. -/
def cubeLessSpec : ChangeSpec := { name := "cubeLess", fn := fun _ => fun
  | [d1, d2] => { results := [.lit (.bool true)], args := [d1, d2] }
  | _ => none }
def cubeLessRow : OpenClaim := { program := "ytfcfhlfehomhpaa", sum := "996f7c34097ed9f7503d11ccfe712d8763b80e55bec5e52639dd4035e18b8ecc", func := "customhouse/customhouselaw02.CubeLess", spec := "cubeLess", inPlace := ["math/bits.Sub64"], unfollowed := true, recurses := true, apart := false }
def CubeLessSaid : Prop := cubeLessRow.holds Try.pinned (OpenSpec.ofChange cubeLessSpec)

/-- ITS FALSE NEIGHBOUR: 'it returns false'. Refute it at one input. -/
def cubeLessWrong : ChangeSpec := { name := "cubeLess", fn := fun _ => fun
  | [d1, d2] => { results := [.lit (.bool false)], args := [d1, d2] }
  | _ => none }
def CubeLessWrongFalsely : Prop := cubeLessRow.holds Try.pinned (OpenSpec.ofChange cubeLessWrong)

/-- 'customhouselaw02.CubeFields': WHATEVER THE INPUT: true; the input reads as it did. -/
def cubeFieldsSpec : ChangeSpec := { name := "cubeFields", fn := fun _ => fun
  | [d1, d2, d3, d4, d5, d6] => { results := [.lit (.bool true)], args := [d1, d2, d3, d4, d5, d6] }
  | _ => none }
def cubeFieldsRow : OpenClaim := { program := "ytfcfhlfehomhpaa", sum := "996f7c34097ed9f7503d11ccfe712d8763b80e55bec5e52639dd4035e18b8ecc", func := "customhouse/customhouselaw02.CubeFields", spec := "cubeFields", inPlace := ["math/bits.Sub64"], unfollowed := true, recurses := true, apart := false }
def CubeFieldsSaid : Prop := cubeFieldsRow.holds Try.pinned (OpenSpec.ofChange cubeFieldsSpec)

/-- ITS FALSE NEIGHBOUR: 'it returns false'. Refute it at one input. -/
def cubeFieldsWrong : ChangeSpec := { name := "cubeFields", fn := fun _ => fun
  | [d1, d2, d3, d4, d5, d6] => { results := [.lit (.bool false)], args := [d1, d2, d3, d4, d5, d6] }
  | _ => none }
def CubeFieldsWrongFalsely : Prop := cubeFieldsRow.holds Try.pinned (OpenSpec.ofChange cubeFieldsWrong)

/-- 'customhouselaw02.CubeParts': WHATEVER THE INPUT: true; the input reads as it did. -/
def cubePartsSpec : ChangeSpec := { name := "cubeParts", fn := fun _ => fun
  | [d1, d2, d3] => { results := [.lit (.bool true)], args := [d1, d2, d3] }
  | _ => none }
def cubePartsRow : OpenClaim := { program := "ytfcfhlfehomhpaa", sum := "996f7c34097ed9f7503d11ccfe712d8763b80e55bec5e52639dd4035e18b8ecc", func := "customhouse/customhouselaw02.CubeParts", spec := "cubeParts", inPlace := ["math/bits.Sub64"], unfollowed := true, recurses := true, apart := false }
def CubePartsSaid : Prop := cubePartsRow.holds Try.pinned (OpenSpec.ofChange cubePartsSpec)

/-- ITS FALSE NEIGHBOUR: 'it returns false'. Refute it at one input. -/
def cubePartsWrong : ChangeSpec := { name := "cubeParts", fn := fun _ => fun
  | [d1, d2, d3] => { results := [.lit (.bool false)], args := [d1, d2, d3] }
  | _ => none }
def CubePartsWrongFalsely : Prop := cubePartsRow.holds Try.pinned (OpenSpec.ofChange cubePartsWrong)

/-- 'customhouselaw02.CubeTwice': WHATEVER THE INPUT: true; the input reads as it did. -/
def cubeTwiceSpec : ChangeSpec := { name := "cubeTwice", fn := fun _ => fun
  | [d1, d2, d3, d4] => { results := [.lit (.bool true)], args := [d1, d2, d3, d4] }
  | _ => none }
def cubeTwiceRow : OpenClaim := { program := "ytfcfhlfehomhpaa", sum := "996f7c34097ed9f7503d11ccfe712d8763b80e55bec5e52639dd4035e18b8ecc", func := "customhouse/customhouselaw02.CubeTwice", spec := "cubeTwice", inPlace := ["math/bits.Sub64"], unfollowed := true, recurses := true, apart := false }
def CubeTwiceSaid : Prop := cubeTwiceRow.holds Try.pinned (OpenSpec.ofChange cubeTwiceSpec)

/-- ITS FALSE NEIGHBOUR: 'it returns false'. Refute it at one input. -/
def cubeTwiceWrong : ChangeSpec := { name := "cubeTwice", fn := fun _ => fun
  | [d1, d2, d3, d4] => { results := [.lit (.bool false)], args := [d1, d2, d3, d4] }
  | _ => none }
def CubeTwiceWrongFalsely : Prop := cubeTwiceRow.holds Try.pinned (OpenSpec.ofChange cubeTwiceWrong)

/-- 'customhouselaw02.CubeSets': WHATEVER THE INPUT: true; the input reads as it did. -/
def cubeSetsSpec : ChangeSpec := { name := "cubeSets", fn := fun _ => fun
  | [d1, d2, d3] => { results := [.lit (.bool true)], args := [d1, d2, d3] }
  | _ => none }
def cubeSetsRow : OpenClaim := { program := "ytfcfhlfehomhpaa", sum := "996f7c34097ed9f7503d11ccfe712d8763b80e55bec5e52639dd4035e18b8ecc", func := "customhouse/customhouselaw02.CubeSets", spec := "cubeSets", inPlace := ["math/bits.Sub64"], unfollowed := true, recurses := true, apart := false }
def CubeSetsSaid : Prop := cubeSetsRow.holds Try.pinned (OpenSpec.ofChange cubeSetsSpec)

/-- ITS FALSE NEIGHBOUR: 'it returns false'. Refute it at one input. -/
def cubeSetsWrong : ChangeSpec := { name := "cubeSets", fn := fun _ => fun
  | [d1, d2, d3] => { results := [.lit (.bool false)], args := [d1, d2, d3] }
  | _ => none }
def CubeSetsWrongFalsely : Prop := cubeSetsRow.holds Try.pinned (OpenSpec.ofChange cubeSetsWrong)

/-- 'customhouselaw03.PileHas': WHATEVER THE INPUT: true; the input reads as it did. -/
def pileHasSpec : ChangeSpec := { name := "pileHas", fn := fun _ => fun
  | [d1, d2] => { results := [.lit (.bool true)], args := [d1, d2] }
  | _ => none }
def pileHasRow : OpenClaim := { program := "ytfcfhlfehomhpaa", sum := "996f7c34097ed9f7503d11ccfe712d8763b80e55bec5e52639dd4035e18b8ecc", func := "customhouse/customhouselaw03.PileHas", spec := "pileHas", inPlace := ["math/bits.Sub64"], unfollowed := true, recurses := true, apart := false }
def PileHasSaid : Prop := pileHasRow.holds Try.pinned (OpenSpec.ofChange pileHasSpec)

/-- ITS FALSE NEIGHBOUR: 'it returns false'. Refute it at one input. -/
def pileHasWrong : ChangeSpec := { name := "pileHas", fn := fun _ => fun
  | [d1, d2] => { results := [.lit (.bool false)], args := [d1, d2] }
  | _ => none }
def PileHasWrongFalsely : Prop := pileHasRow.holds Try.pinned (OpenSpec.ofChange pileHasWrong)

/-- 'customhouselaw03.PileLean': WHATEVER THE INPUT: true; the input reads as it did. -/
def pileLeanSpec : ChangeSpec := { name := "pileLean", fn := fun _ => fun
  | [d] => { results := [.lit (.bool true)], args := [d] }
  | _ => none }
def pileLeanRow : OpenClaim := { program := "ytfcfhlfehomhpaa", sum := "996f7c34097ed9f7503d11ccfe712d8763b80e55bec5e52639dd4035e18b8ecc", func := "customhouse/customhouselaw03.PileLean", spec := "pileLean", inPlace := ["math/bits.Sub64"], unfollowed := true, recurses := true, apart := false }
def PileLeanSaid : Prop := pileLeanRow.holds Try.pinned (OpenSpec.ofChange pileLeanSpec)

/-- ITS FALSE NEIGHBOUR: 'it returns false'. Refute it at one input. -/
def pileLeanWrong : ChangeSpec := { name := "pileLean", fn := fun _ => fun
  | [d] => { results := [.lit (.bool false)], args := [d] }
  | _ => none }
def PileLeanWrongFalsely : Prop := pileLeanRow.holds Try.pinned (OpenSpec.ofChange pileLeanWrong)

/-- 'customhouselaw03.PileOnce': WHATEVER THE INPUT: true; the input reads as it did. -/
def pileOnceSpec : ChangeSpec := { name := "pileOnce", fn := fun _ => fun
  | [d1, d2] => { results := [.lit (.bool true)], args := [d1, d2] }
  | _ => none }
def pileOnceRow : OpenClaim := { program := "ytfcfhlfehomhpaa", sum := "996f7c34097ed9f7503d11ccfe712d8763b80e55bec5e52639dd4035e18b8ecc", func := "customhouse/customhouselaw03.PileOnce", spec := "pileOnce", inPlace := ["math/bits.Sub64"], unfollowed := true, recurses := true, apart := false }
def PileOnceSaid : Prop := pileOnceRow.holds Try.pinned (OpenSpec.ofChange pileOnceSpec)

/-- ITS FALSE NEIGHBOUR: 'it returns false'. Refute it at one input. -/
def pileOnceWrong : ChangeSpec := { name := "pileOnce", fn := fun _ => fun
  | [d1, d2] => { results := [.lit (.bool false)], args := [d1, d2] }
  | _ => none }
def PileOnceWrongFalsely : Prop := pileOnceRow.holds Try.pinned (OpenSpec.ofChange pileOnceWrong)

/-- 'customhouselaw03.PileJoins': WHATEVER THE INPUT: true; the input reads as it did. -/
def pileJoinsSpec : ChangeSpec := { name := "pileJoins", fn := fun _ => fun
  | [d1, d2] => { results := [.lit (.bool true)], args := [d1, d2] }
  | _ => none }
def pileJoinsRow : OpenClaim := { program := "ytfcfhlfehomhpaa", sum := "996f7c34097ed9f7503d11ccfe712d8763b80e55bec5e52639dd4035e18b8ecc", func := "customhouse/customhouselaw03.PileJoins", spec := "pileJoins", inPlace := ["math/bits.Sub64"], unfollowed := true, recurses := true, apart := false }
def PileJoinsSaid : Prop := pileJoinsRow.holds Try.pinned (OpenSpec.ofChange pileJoinsSpec)

/-- ITS FALSE NEIGHBOUR: 'it returns false'. Refute it at one input. -/
def pileJoinsWrong : ChangeSpec := { name := "pileJoins", fn := fun _ => fun
  | [d1, d2] => { results := [.lit (.bool false)], args := [d1, d2] }
  | _ => none }
def PileJoinsWrongFalsely : Prop := pileJoinsRow.holds Try.pinned (OpenSpec.ofChange pileJoinsWrong)

/-- 'customhouselaw03.PileParts': WHATEVER THE INPUT: true; the input reads as it did. -/
def pilePartsSpec : ChangeSpec := { name := "pileParts", fn := fun _ => fun
  | [d1, d2, d3] => { results := [.lit (.bool true)], args := [d1, d2, d3] }
  | _ => none }
def pilePartsRow : OpenClaim := { program := "ytfcfhlfehomhpaa", sum := "996f7c34097ed9f7503d11ccfe712d8763b80e55bec5e52639dd4035e18b8ecc", func := "customhouse/customhouselaw03.PileParts", spec := "pileParts", inPlace := ["math/bits.Sub64"], unfollowed := true, recurses := true, apart := false }
def PilePartsSaid : Prop := pilePartsRow.holds Try.pinned (OpenSpec.ofChange pilePartsSpec)

/-- ITS FALSE NEIGHBOUR: 'it returns false'. Refute it at one input. -/
def pilePartsWrong : ChangeSpec := { name := "pileParts", fn := fun _ => fun
  | [d1, d2, d3] => { results := [.lit (.bool false)], args := [d1, d2, d3] }
  | _ => none }
def PilePartsWrongFalsely : Prop := pilePartsRow.holds Try.pinned (OpenSpec.ofChange pilePartsWrong)

/- THE SECOND FORM. 'bulk': how many values and letters a reading holds, each counted each time it is reached (what is shared counts as often as it is met; a slice's spare places count too). A statement '..UptoSaid' is the law's where the arguments, and the package variables that the reading takes, are together of bulk at most 1048576: NARROWER than '..Said'. Prove '..Said' where nothing that the law and all that it calls make is longer than what came in: it says more and counts as full. Else prove '..UptoSaid'. A law counts once. -/
mutual
def uptoBulk {H : Type} : DataW H → Nat
  | .lit (.string bytes) => bytes.length + 1
  | .lit _ => 1
  | .nil => 1
  | .ptr d => uptoBulk d + 1
  | .slice elems spare => uptoBulkAll elems + uptoBulkAll spare + 1
  | .agg parts => uptoBulkAll parts + 1
  | .iface _ d => uptoBulk d + 1
  | .map entries => uptoBulkEntries entries + 1
  | .held _ => 1
def uptoBulkAll {H : Type} : List (DataW H) → Nat
  | [] => 0
  | d :: r => uptoBulk d + uptoBulkAll r
def uptoBulkEntries {H : Type} : List (Lit × DataW H) → Nat
  | [] => 0
  | x :: r => uptoBulkEntry x + uptoBulkEntries r
def uptoBulkEntry {H : Type} : Lit × DataW H → Nat
  | (.string bytes, d) => bytes.length + uptoBulk d + 1
  | (_, d) => uptoBulk d + 1
 end
def uptoSmall : (H : Type) → List (DataW H) → Bool := fun _ ds => decide (uptoBulkAll ds ≤ 1048576)
def OpenSpec.upto (s : _root_.Go.ChangeSpec) : _root_.Go.OpenSpec := { _root_.Go.OpenSpec.ofChange s with cond := some uptoSmall }

/-- 'customhouselaw02.CubeHas', WHERE WHAT IT READS IS OF BULK AT MOST 1048576: true; the input reads as it did. -/
def cubeHasUptoRow : OpenClaim := { program := "ytfcfhlfehomhpaa", sum := "996f7c34097ed9f7503d11ccfe712d8763b80e55bec5e52639dd4035e18b8ecc", func := "customhouse/customhouselaw02.CubeHas", spec := "cubeHas", inPlace := ["math/bits.Sub64"], unfollowed := true, recurses := true, apart := false, narrowed := true }
def CubeHasUptoSaid : Prop := cubeHasUptoRow.holds Try.pinned (OpenSpec.upto cubeHasSpec)

/-- 'customhouselaw02.CubeMeets', WHERE WHAT IT READS IS OF BULK AT MOST 1048576: true; the input reads as it did. -/
def cubeMeetsUptoRow : OpenClaim := { program := "ytfcfhlfehomhpaa", sum := "996f7c34097ed9f7503d11ccfe712d8763b80e55bec5e52639dd4035e18b8ecc", func := "customhouse/customhouselaw02.CubeMeets", spec := "cubeMeets", inPlace := ["math/bits.Sub64"], unfollowed := true, recurses := true, apart := false, narrowed := true }
def CubeMeetsUptoSaid : Prop := cubeMeetsUptoRow.holds Try.pinned (OpenSpec.upto cubeMeetsSpec)

/-- 'customhouselaw02.CubeLess', WHERE WHAT IT READS IS OF BULK AT MOST 1048576: true; the input reads as it did. -/
def cubeLessUptoRow : OpenClaim := { program := "ytfcfhlfehomhpaa", sum := "996f7c34097ed9f7503d11ccfe712d8763b80e55bec5e52639dd4035e18b8ecc", func := "customhouse/customhouselaw02.CubeLess", spec := "cubeLess", inPlace := ["math/bits.Sub64"], unfollowed := true, recurses := true, apart := false, narrowed := true }
def CubeLessUptoSaid : Prop := cubeLessUptoRow.holds Try.pinned (OpenSpec.upto cubeLessSpec)

/-- 'customhouselaw02.CubeFields', WHERE WHAT IT READS IS OF BULK AT MOST 1048576: true; the input reads as it did. -/
def cubeFieldsUptoRow : OpenClaim := { program := "ytfcfhlfehomhpaa", sum := "996f7c34097ed9f7503d11ccfe712d8763b80e55bec5e52639dd4035e18b8ecc", func := "customhouse/customhouselaw02.CubeFields", spec := "cubeFields", inPlace := ["math/bits.Sub64"], unfollowed := true, recurses := true, apart := false, narrowed := true }
def CubeFieldsUptoSaid : Prop := cubeFieldsUptoRow.holds Try.pinned (OpenSpec.upto cubeFieldsSpec)

/-- 'customhouselaw02.CubeParts', WHERE WHAT IT READS IS OF BULK AT MOST 1048576: true; the input reads as it did. -/
def cubePartsUptoRow : OpenClaim := { program := "ytfcfhlfehomhpaa", sum := "996f7c34097ed9f7503d11ccfe712d8763b80e55bec5e52639dd4035e18b8ecc", func := "customhouse/customhouselaw02.CubeParts", spec := "cubeParts", inPlace := ["math/bits.Sub64"], unfollowed := true, recurses := true, apart := false, narrowed := true }
def CubePartsUptoSaid : Prop := cubePartsUptoRow.holds Try.pinned (OpenSpec.upto cubePartsSpec)

/-- 'customhouselaw02.CubeTwice', WHERE WHAT IT READS IS OF BULK AT MOST 1048576: true; the input reads as it did. -/
def cubeTwiceUptoRow : OpenClaim := { program := "ytfcfhlfehomhpaa", sum := "996f7c34097ed9f7503d11ccfe712d8763b80e55bec5e52639dd4035e18b8ecc", func := "customhouse/customhouselaw02.CubeTwice", spec := "cubeTwice", inPlace := ["math/bits.Sub64"], unfollowed := true, recurses := true, apart := false, narrowed := true }
def CubeTwiceUptoSaid : Prop := cubeTwiceUptoRow.holds Try.pinned (OpenSpec.upto cubeTwiceSpec)

/-- 'customhouselaw02.CubeSets', WHERE WHAT IT READS IS OF BULK AT MOST 1048576: true; the input reads as it did. -/
def cubeSetsUptoRow : OpenClaim := { program := "ytfcfhlfehomhpaa", sum := "996f7c34097ed9f7503d11ccfe712d8763b80e55bec5e52639dd4035e18b8ecc", func := "customhouse/customhouselaw02.CubeSets", spec := "cubeSets", inPlace := ["math/bits.Sub64"], unfollowed := true, recurses := true, apart := false, narrowed := true }
def CubeSetsUptoSaid : Prop := cubeSetsUptoRow.holds Try.pinned (OpenSpec.upto cubeSetsSpec)

/-- 'customhouselaw03.PileHas', WHERE WHAT IT READS IS OF BULK AT MOST 1048576: true; the input reads as it did. -/
def pileHasUptoRow : OpenClaim := { program := "ytfcfhlfehomhpaa", sum := "996f7c34097ed9f7503d11ccfe712d8763b80e55bec5e52639dd4035e18b8ecc", func := "customhouse/customhouselaw03.PileHas", spec := "pileHas", inPlace := ["math/bits.Sub64"], unfollowed := true, recurses := true, apart := false, narrowed := true }
def PileHasUptoSaid : Prop := pileHasUptoRow.holds Try.pinned (OpenSpec.upto pileHasSpec)

/-- 'customhouselaw03.PileLean', WHERE WHAT IT READS IS OF BULK AT MOST 1048576: true; the input reads as it did. -/
def pileLeanUptoRow : OpenClaim := { program := "ytfcfhlfehomhpaa", sum := "996f7c34097ed9f7503d11ccfe712d8763b80e55bec5e52639dd4035e18b8ecc", func := "customhouse/customhouselaw03.PileLean", spec := "pileLean", inPlace := ["math/bits.Sub64"], unfollowed := true, recurses := true, apart := false, narrowed := true }
def PileLeanUptoSaid : Prop := pileLeanUptoRow.holds Try.pinned (OpenSpec.upto pileLeanSpec)

/-- 'customhouselaw03.PileOnce', WHERE WHAT IT READS IS OF BULK AT MOST 1048576: true; the input reads as it did. -/
def pileOnceUptoRow : OpenClaim := { program := "ytfcfhlfehomhpaa", sum := "996f7c34097ed9f7503d11ccfe712d8763b80e55bec5e52639dd4035e18b8ecc", func := "customhouse/customhouselaw03.PileOnce", spec := "pileOnce", inPlace := ["math/bits.Sub64"], unfollowed := true, recurses := true, apart := false, narrowed := true }
def PileOnceUptoSaid : Prop := pileOnceUptoRow.holds Try.pinned (OpenSpec.upto pileOnceSpec)

/-- 'customhouselaw03.PileJoins', WHERE WHAT IT READS IS OF BULK AT MOST 1048576: true; the input reads as it did. -/
def pileJoinsUptoRow : OpenClaim := { program := "ytfcfhlfehomhpaa", sum := "996f7c34097ed9f7503d11ccfe712d8763b80e55bec5e52639dd4035e18b8ecc", func := "customhouse/customhouselaw03.PileJoins", spec := "pileJoins", inPlace := ["math/bits.Sub64"], unfollowed := true, recurses := true, apart := false, narrowed := true }
def PileJoinsUptoSaid : Prop := pileJoinsUptoRow.holds Try.pinned (OpenSpec.upto pileJoinsSpec)

/-- 'customhouselaw03.PileParts', WHERE WHAT IT READS IS OF BULK AT MOST 1048576: true; the input reads as it did. -/
def pilePartsUptoRow : OpenClaim := { program := "ytfcfhlfehomhpaa", sum := "996f7c34097ed9f7503d11ccfe712d8763b80e55bec5e52639dd4035e18b8ecc", func := "customhouse/customhouselaw03.PileParts", spec := "pileParts", inPlace := ["math/bits.Sub64"], unfollowed := true, recurses := true, apart := false, narrowed := true }
def PilePartsUptoSaid : Prop := pilePartsUptoRow.holds Try.pinned (OpenSpec.upto pilePartsSpec)

end Rows
end Go.Proofs.Ytfcfhlfehomhpaa
