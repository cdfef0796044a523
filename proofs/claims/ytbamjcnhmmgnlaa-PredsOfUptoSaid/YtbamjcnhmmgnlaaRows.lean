/-
  No cell of these rows narrows 'for every input' (looked for: loops, veiled, ifaces, maps, wideKeys, modest, calm, conditions, laid).
  DERIVED. THE GIVEN ROWS OF THIS SEAT. 8 by the template 'for every input the law returns true; each argument reads behind the call as it read before'; 0 by the template 'total and deterministic' (their statements: YtbamjcnhmmgnlaaTotals.lean).
  GIVEN WITH THE SEED: the statements are not yours to turn. If you find one false, say at which input.
  Laid BY PROGRAM, IN A SANDBOX (cutbox-rows.mjs): the forced cells as the released guide's own fill.sh prints them over the translation c40fca81ff716350… (all of the seat's roots in one cut). By AI agents, Wed Nov 11 2026. No macro, syntax, notation, axiom, sorry.
-/
import Derived.Test.YtbamjcnhmmgnlaaChecked
import GoSem.Claim
import GoSem.ClaimJoined
import GoSem.ClaimMapViews
import Derived.JoinedTies
import Derived.KernelRfl
namespace Go.Proofs.Ytbamjcnhmmgnlaa
/- THE CELL 'sum', in the pinned program and in every row, IS THE sha256 OF THE DUMP (.gsa) THAT YtbamjcnhmmgnlaaProg.lean LOADS. Nothing in Lean hashes anything: it is a label: what it is worth is what the hold of that sum in a sandbox is worth. -/
noncomputable def Try.pinned : Pinned := { name := "ytbamjcnhmmgnlaa", sum := "c40fca81ff71635093c7eca7fbe0eb74443509072d8b1e605b7f0c378369c09a", checked := Try.checked }
namespace Rows
def none {H : Type} : Left H := { results := [], args := [] }

/-- 'customhouselaw12.TrieWithin': WHATEVER THE INPUT: true; the input reads as it did. -/
def trieWithinSpec : ChangeSpec := { name := "trieWithin", fn := fun _ => fun
  | [d1, d2, d3, d4] => { results := [.lit (.bool true)], args := [d1, d2, d3, d4] }
  | _ => none }
def trieWithinRow : OpenClaim := { program := "ytbamjcnhmmgnlaa", sum := "c40fca81ff71635093c7eca7fbe0eb74443509072d8b1e605b7f0c378369c09a", func := "customhouse/customhouselaw12.TrieWithin", spec := "trieWithin", inPlace := ["math/bits.Sub64"], unfollowed := true, recurses := true, plainKeys := false, apart := false }
def TrieWithinSaid : Prop := trieWithinRow.holds Try.pinned (OpenSpec.ofChange trieWithinSpec)

/-- ITS FALSE NEIGHBOUR: 'it returns false'. Refute it at one input. -/
def trieWithinWrong : ChangeSpec := { name := "trieWithin", fn := fun _ => fun
  | [d1, d2, d3, d4] => { results := [.lit (.bool false)], args := [d1, d2, d3, d4] }
  | _ => none }
def TrieWithinWrongFalsely : Prop := trieWithinRow.holds Try.pinned (OpenSpec.ofChange trieWithinWrong)

/-- 'customhouselaw12.TriePlays': WHATEVER THE INPUT: true; the input reads as it did. -/
def triePlaysSpec : ChangeSpec := { name := "triePlays", fn := fun _ => fun
  | [d1, d2, d3] => { results := [.lit (.bool true)], args := [d1, d2, d3] }
  | _ => none }
def triePlaysRow : OpenClaim := { program := "ytbamjcnhmmgnlaa", sum := "c40fca81ff71635093c7eca7fbe0eb74443509072d8b1e605b7f0c378369c09a", func := "customhouse/customhouselaw12.TriePlays", spec := "triePlays", inPlace := ["math/bits.Sub64"], unfollowed := true, recurses := true, plainKeys := false, apart := false }
def TriePlaysSaid : Prop := triePlaysRow.holds Try.pinned (OpenSpec.ofChange triePlaysSpec)

/-- ITS FALSE NEIGHBOUR: 'it returns false'. Refute it at one input. -/
def triePlaysWrong : ChangeSpec := { name := "triePlays", fn := fun _ => fun
  | [d1, d2, d3] => { results := [.lit (.bool false)], args := [d1, d2, d3] }
  | _ => none }
def TriePlaysWrongFalsely : Prop := triePlaysRow.holds Try.pinned (OpenSpec.ofChange triePlaysWrong)

/-- 'customhouselaw12.TrieNone': WHATEVER THE INPUT: true; the input reads as it did. -/
def trieNoneSpec : ChangeSpec := { name := "trieNone", fn := fun _ => fun
  | [d1, d2, d3] => { results := [.lit (.bool true)], args := [d1, d2, d3] }
  | _ => none }
def trieNoneRow : OpenClaim := { program := "ytbamjcnhmmgnlaa", sum := "c40fca81ff71635093c7eca7fbe0eb74443509072d8b1e605b7f0c378369c09a", func := "customhouse/customhouselaw12.TrieNone", spec := "trieNone", inPlace := ["math/bits.Sub64"], unfollowed := true, recurses := true, plainKeys := false, apart := false }
def TrieNoneSaid : Prop := trieNoneRow.holds Try.pinned (OpenSpec.ofChange trieNoneSpec)

/-- ITS FALSE NEIGHBOUR: 'it returns false'. Refute it at one input. -/
def trieNoneWrong : ChangeSpec := { name := "trieNone", fn := fun _ => fun
  | [d1, d2, d3] => { results := [.lit (.bool false)], args := [d1, d2, d3] }
  | _ => none }
def TrieNoneWrongFalsely : Prop := trieNoneRow.holds Try.pinned (OpenSpec.ofChange trieNoneWrong)

/-- 'customhouselaw12.TrieOrder': WHATEVER THE INPUT: true; the input reads as it did. -/
def trieOrderSpec : ChangeSpec := { name := "trieOrder", fn := fun _ => fun
  | [d1, d2, d3, d4] => { results := [.lit (.bool true)], args := [d1, d2, d3, d4] }
  | _ => none }
def trieOrderRow : OpenClaim := { program := "ytbamjcnhmmgnlaa", sum := "c40fca81ff71635093c7eca7fbe0eb74443509072d8b1e605b7f0c378369c09a", func := "customhouse/customhouselaw12.TrieOrder", spec := "trieOrder", inPlace := ["math/bits.Sub64"], unfollowed := true, recurses := true, plainKeys := false, apart := false }
def TrieOrderSaid : Prop := trieOrderRow.holds Try.pinned (OpenSpec.ofChange trieOrderSpec)

/-- ITS FALSE NEIGHBOUR: 'it returns false'. Refute it at one input. -/
def trieOrderWrong : ChangeSpec := { name := "trieOrder", fn := fun _ => fun
  | [d1, d2, d3, d4] => { results := [.lit (.bool false)], args := [d1, d2, d3, d4] }
  | _ => none }
def TrieOrderWrongFalsely : Prop := trieOrderRow.holds Try.pinned (OpenSpec.ofChange trieOrderWrong)

/-- 'customhouselaw13.PredsSets': WHATEVER THE INPUT: true; the input reads as it did. -/
def predsSetsSpec : ChangeSpec := { name := "predsSets", fn := fun _ => fun
  | [d1, d2] => { results := [.lit (.bool true)], args := [d1, d2] }
  | _ => none }
def predsSetsRow : OpenClaim := { program := "ytbamjcnhmmgnlaa", sum := "c40fca81ff71635093c7eca7fbe0eb74443509072d8b1e605b7f0c378369c09a", func := "customhouse/customhouselaw13.PredsSets", spec := "predsSets", inPlace := ["math/bits.Sub64"], unfollowed := true, recurses := true, plainKeys := false, apart := false }
def PredsSetsSaid : Prop := predsSetsRow.holds Try.pinned (OpenSpec.ofChange predsSetsSpec)

/-- ITS FALSE NEIGHBOUR: 'it returns false'. Refute it at one input. -/
def predsSetsWrong : ChangeSpec := { name := "predsSets", fn := fun _ => fun
  | [d1, d2] => { results := [.lit (.bool false)], args := [d1, d2] }
  | _ => none }
def PredsSetsWrongFalsely : Prop := predsSetsRow.holds Try.pinned (OpenSpec.ofChange predsSetsWrong)

/-- 'customhouselaw13.PredsOf': WHATEVER THE INPUT: true; the input reads as it did. -/
def predsOfSpec : ChangeSpec := { name := "predsOf", fn := fun _ => fun
  | [d1, d2] => { results := [.lit (.bool true)], args := [d1, d2] }
  | _ => none }
def predsOfRow : OpenClaim := { program := "ytbamjcnhmmgnlaa", sum := "c40fca81ff71635093c7eca7fbe0eb74443509072d8b1e605b7f0c378369c09a", func := "customhouse/customhouselaw13.PredsOf", spec := "predsOf", inPlace := ["math/bits.Sub64"], unfollowed := true, recurses := true, plainKeys := false, apart := false }
def PredsOfSaid : Prop := predsOfRow.holds Try.pinned (OpenSpec.ofChange predsOfSpec)

/-- ITS FALSE NEIGHBOUR: 'it returns false'. Refute it at one input. -/
def predsOfWrong : ChangeSpec := { name := "predsOf", fn := fun _ => fun
  | [d1, d2] => { results := [.lit (.bool false)], args := [d1, d2] }
  | _ => none }
def PredsOfWrongFalsely : Prop := predsOfRow.holds Try.pinned (OpenSpec.ofChange predsOfWrong)

/-- 'customhouselaw13.PredsAlike': WHATEVER THE INPUT: true; the input reads as it did. -/
def predsAlikeSpec : ChangeSpec := { name := "predsAlike", fn := fun _ => fun
  | [d1, d2, d3, d4, d5] => { results := [.lit (.bool true)], args := [d1, d2, d3, d4, d5] }
  | _ => none }
def predsAlikeRow : OpenClaim := { program := "ytbamjcnhmmgnlaa", sum := "c40fca81ff71635093c7eca7fbe0eb74443509072d8b1e605b7f0c378369c09a", func := "customhouse/customhouselaw13.PredsAlike", spec := "predsAlike", inPlace := ["math/bits.Sub64"], unfollowed := true, recurses := true, plainKeys := false, apart := false }
def PredsAlikeSaid : Prop := predsAlikeRow.holds Try.pinned (OpenSpec.ofChange predsAlikeSpec)

/-- ITS FALSE NEIGHBOUR: 'it returns false'. Refute it at one input. -/
def predsAlikeWrong : ChangeSpec := { name := "predsAlike", fn := fun _ => fun
  | [d1, d2, d3, d4, d5] => { results := [.lit (.bool false)], args := [d1, d2, d3, d4, d5] }
  | _ => none }
def PredsAlikeWrongFalsely : Prop := predsAlikeRow.holds Try.pinned (OpenSpec.ofChange predsAlikeWrong)

/-- 'customhouselaw13.PredsClosed': WHATEVER THE INPUT: true; the input reads as it did. -/
def predsClosedSpec : ChangeSpec := { name := "predsClosed", fn := fun _ => fun
  | [d1, d2] => { results := [.lit (.bool true)], args := [d1, d2] }
  | _ => none }
def predsClosedRow : OpenClaim := { program := "ytbamjcnhmmgnlaa", sum := "c40fca81ff71635093c7eca7fbe0eb74443509072d8b1e605b7f0c378369c09a", func := "customhouse/customhouselaw13.PredsClosed", spec := "predsClosed", inPlace := ["math/bits.Sub64"], unfollowed := true, recurses := true, plainKeys := false, apart := false }
def PredsClosedSaid : Prop := predsClosedRow.holds Try.pinned (OpenSpec.ofChange predsClosedSpec)

/-- ITS FALSE NEIGHBOUR: 'it returns false'. Refute it at one input. -/
def predsClosedWrong : ChangeSpec := { name := "predsClosed", fn := fun _ => fun
  | [d1, d2] => { results := [.lit (.bool false)], args := [d1, d2] }
  | _ => none }
def PredsClosedWrongFalsely : Prop := predsClosedRow.holds Try.pinned (OpenSpec.ofChange predsClosedWrong)

/- THE SECOND FORM. 'bulk': how many values and letters a reading holds, each counted each time it is reached (what is shared counts as often as it is met; a slice's spare places count too). A statement '..UptoSaid' is the law's where the arguments, and the package variables that the reading takes, are together of bulk at most 1048576: NARROWER than '..Said'. Prove '..Said' where nothing that the law and all that it calls make is longer than what came in: it says more and counts as full. Else prove '..UptoSaid'. A law counts once. -/
mutual
def uptoBulk {H : Type} : DataW H → Nat
  | .lit (.string bytes) => bytes.length + 1
  | .lit _ => 1
  | .nil => 1
  | .ptr d => uptoBulk d + 1
  | .slice elems spare => uptoBulkAll elems + uptoBulkAll spare + 1
  | .agg parts => uptoBulkAll parts + 1
  | .iface _ d => uptoBulk d + 1
  | .map entries => uptoBulkEntries entries + 1
  | .held _ => 1
def uptoBulkAll {H : Type} : List (DataW H) → Nat
  | [] => 0
  | d :: r => uptoBulk d + uptoBulkAll r
def uptoBulkEntries {H : Type} : List (Lit × DataW H) → Nat
  | [] => 0
  | x :: r => uptoBulkEntry x + uptoBulkEntries r
def uptoBulkEntry {H : Type} : Lit × DataW H → Nat
  | (.string bytes, d) => bytes.length + uptoBulk d + 1
  | (_, d) => uptoBulk d + 1
 end
def uptoSmall : (H : Type) → List (DataW H) → Bool := fun _ ds => decide (uptoBulkAll ds ≤ 1048576)
def OpenSpec.upto (s : _root_.Go.ChangeSpec) : _root_.Go.OpenSpec := { _root_.Go.OpenSpec.ofChange s with cond := some uptoSmall }

/-- 'customhouselaw12.TrieWithin', WHERE WHAT IT READS IS OF BULK AT MOST 1048576: true; the input reads as it did. -/
def trieWithinUptoRow : OpenClaim := { program := "ytbamjcnhmmgnlaa", sum := "c40fca81ff71635093c7eca7fbe0eb74443509072d8b1e605b7f0c378369c09a", func := "customhouse/customhouselaw12.TrieWithin", spec := "trieWithin", inPlace := ["math/bits.Sub64"], unfollowed := true, recurses := true, plainKeys := false, apart := false, narrowed := true }
def TrieWithinUptoSaid : Prop := trieWithinUptoRow.holds Try.pinned (OpenSpec.upto trieWithinSpec)

/-- 'customhouselaw12.TriePlays', WHERE WHAT IT READS IS OF BULK AT MOST 1048576: true; the input reads as it did. -/
def triePlaysUptoRow : OpenClaim := { program := "ytbamjcnhmmgnlaa", sum := "c40fca81ff71635093c7eca7fbe0eb74443509072d8b1e605b7f0c378369c09a", func := "customhouse/customhouselaw12.TriePlays", spec := "triePlays", inPlace := ["math/bits.Sub64"], unfollowed := true, recurses := true, plainKeys := false, apart := false, narrowed := true }
def TriePlaysUptoSaid : Prop := triePlaysUptoRow.holds Try.pinned (OpenSpec.upto triePlaysSpec)

/-- 'customhouselaw12.TrieNone', WHERE WHAT IT READS IS OF BULK AT MOST 1048576: true; the input reads as it did. -/
def trieNoneUptoRow : OpenClaim := { program := "ytbamjcnhmmgnlaa", sum := "c40fca81ff71635093c7eca7fbe0eb74443509072d8b1e605b7f0c378369c09a", func := "customhouse/customhouselaw12.TrieNone", spec := "trieNone", inPlace := ["math/bits.Sub64"], unfollowed := true, recurses := true, plainKeys := false, apart := false, narrowed := true }
def TrieNoneUptoSaid : Prop := trieNoneUptoRow.holds Try.pinned (OpenSpec.upto trieNoneSpec)

/-- 'customhouselaw12.TrieOrder', WHERE WHAT IT READS IS OF BULK AT MOST 1048576: true; the input reads as it did. -/
def trieOrderUptoRow : OpenClaim := { program := "ytbamjcnhmmgnlaa", sum := "c40fca81ff71635093c7eca7fbe0eb74443509072d8b1e605b7f0c378369c09a", func := "customhouse/customhouselaw12.TrieOrder", spec := "trieOrder", inPlace := ["math/bits.Sub64"], unfollowed := true, recurses := true, plainKeys := false, apart := false, narrowed := true }
def TrieOrderUptoSaid : Prop := trieOrderUptoRow.holds Try.pinned (OpenSpec.upto trieOrderSpec)

/-- 'customhouselaw13.PredsSets', WHERE WHAT IT READS IS OF BULK AT MOST 1048576: true; the input reads as it did. -/
def predsSetsUptoRow : OpenClaim := { program := "ytbamjcnhmmgnlaa", sum := "c40fca81ff71635093c7eca7fbe0eb74443509072d8b1e605b7f0c378369c09a", func := "customhouse/customhouselaw13.PredsSets", spec := "predsSets", inPlace := ["math/bits.Sub64"], unfollowed := true, recurses := true, plainKeys := false, apart := false, narrowed := true }
def PredsSetsUptoSaid : Prop := predsSetsUptoRow.holds Try.pinned (OpenSpec.upto predsSetsSpec)

/-- 'customhouselaw13.PredsOf', WHERE WHAT IT READS IS OF BULK AT MOST 1048576: true; the input reads as it did. -/
def predsOfUptoRow : OpenClaim := { program := "ytbamjcnhmmgnlaa", sum := "c40fca81ff71635093c7eca7fbe0eb74443509072d8b1e605b7f0c378369c09a", func := "customhouse/customhouselaw13.PredsOf", spec := "predsOf", inPlace := ["math/bits.Sub64"], unfollowed := true, recurses := true, plainKeys := false, apart := false, narrowed := true }
def PredsOfUptoSaid : Prop := predsOfUptoRow.holds Try.pinned (OpenSpec.upto predsOfSpec)

/-- 'customhouselaw13.PredsAlike', WHERE WHAT IT READS IS OF BULK AT MOST 1048576: true; the input reads as it did. -/
def predsAlikeUptoRow : OpenClaim := { program := "ytbamjcnhmmgnlaa", sum := "c40fca81ff71635093c7eca7fbe0eb74443509072d8b1e605b7f0c378369c09a", func := "customhouse/customhouselaw13.PredsAlike", spec := "predsAlike", inPlace := ["math/bits.Sub64"], unfollowed := true, recurses := true, plainKeys := false, apart := false, narrowed := true }
def PredsAlikeUptoSaid : Prop := predsAlikeUptoRow.holds Try.pinned (OpenSpec.upto predsAlikeSpec)

/-- 'customhouselaw13.PredsClosed', WHERE WHAT IT READS IS OF BULK AT MOST 1048576: true; the input reads as it did. -/
def predsClosedUptoRow : OpenClaim := { program := "ytbamjcnhmmgnlaa", sum := "c40fca81ff71635093c7eca7fbe0eb74443509072d8b1e605b7f0c378369c09a", func := "customhouse/customhouselaw13.PredsClosed", spec := "predsClosed", inPlace := ["math/bits.Sub64"], unfollowed := true, recurses := true, plainKeys := false, apart := false, narrowed := true }
def PredsClosedUptoSaid : Prop := predsClosedUptoRow.holds Try.pinned (OpenSpec.upto predsClosedSpec)

end Rows
end Go.Proofs.Ytbamjcnhmmgnlaa
