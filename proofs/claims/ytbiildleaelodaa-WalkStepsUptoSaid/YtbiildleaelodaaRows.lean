/-
  No cell of these rows narrows 'for every input' (looked for: loops, veiled, ifaces, maps, wideKeys, modest, calm, conditions, laid).
  DERIVED. THE GIVEN ROWS OF THIS SEAT. 12 by the template 'for every input the law returns true; each argument reads behind the call as it read before'; 0 by the template 'total and deterministic' (their statements: YtbiildleaelodaaTotals.lean).
  GIVEN WITH THE SEED: the statements are not yours to turn. If you find one false, say at which input.
  Laid BY PROGRAM, IN A SANDBOX (cutbox-rows.mjs): the forced cells as the released guide's own fill.sh prints them over the translation 188470148dd14701… (all of the seat's roots in one cut). By AI agents, Wed Nov 11 2026. No macro, syntax, notation, axiom, sorry.
-/
import Derived.Test.YtbiildleaelodaaChecked
import GoSem.Claim
import GoSem.ClaimJoined
import GoSem.ClaimMapViews
import Derived.JoinedTies
import Derived.KernelRfl
namespace Go.Proofs.Ytbiildleaelodaa
/- THE CELL 'sum', in the pinned program and in every row, IS THE sha256 OF THE DUMP (.gsa) THAT YtbiildleaelodaaProg.lean LOADS. Nothing in Lean hashes anything: it is a label: what it is worth is what the hold of that sum in a sandbox is worth. -/
noncomputable def Try.pinned : Pinned := { name := "ytbiildleaelodaa", sum := "188470148dd1470149127189d49ad078b5e756b74903e90d173db99050d2f294", checked := Try.checked }
namespace Rows
def none {H : Type} : Left H := { results := [], args := [] }

/-- 'customhouselaw06.TableFinds': WHATEVER THE INPUT: true; the input reads as it did. -/
def tableFindsSpec : ChangeSpec := { name := "tableFinds", fn := fun _ => fun
  | [d1, d2] => { results := [.lit (.bool true)], args := [d1, d2] }
  | _ => none }
def tableFindsRow : OpenClaim := { program := "ytbiildleaelodaa", sum := "188470148dd1470149127189d49ad078b5e756b74903e90d173db99050d2f294", func := "customhouse/customhouselaw06.TableFinds", spec := "tableFinds", inPlace := ["math/bits.Sub64"], unfollowed := true, recurses := true, apart := false }
def TableFindsSaid : Prop := tableFindsRow.holds Try.pinned (OpenSpec.ofChange tableFindsSpec)

/-- ITS FALSE NEIGHBOUR: 'it returns false'. Refute it at one input. -/
def tableFindsWrong : ChangeSpec := { name := "tableFinds", fn := fun _ => fun
  | [d1, d2] => { results := [.lit (.bool false)], args := [d1, d2] }
  | _ => none }
def TableFindsWrongFalsely : Prop := tableFindsRow.holds Try.pinned (OpenSpec.ofChange tableFindsWrong)

/-- 'customhouselaw06.TableSound': WHATEVER THE INPUT: true; the input reads as it did. -/
def tableSoundSpec : ChangeSpec := { name := "tableSound", fn := fun _ => fun
  | [d1, d2] => { results := [.lit (.bool true)], args := [d1, d2] }
  | _ => none }
def tableSoundRow : OpenClaim := { program := "ytbiildleaelodaa", sum := "188470148dd1470149127189d49ad078b5e756b74903e90d173db99050d2f294", func := "customhouse/customhouselaw06.TableSound", spec := "tableSound", inPlace := ["math/bits.Sub64"], unfollowed := true, recurses := true, apart := false }
def TableSoundSaid : Prop := tableSoundRow.holds Try.pinned (OpenSpec.ofChange tableSoundSpec)

/-- ITS FALSE NEIGHBOUR: 'it returns false'. Refute it at one input. -/
def tableSoundWrong : ChangeSpec := { name := "tableSound", fn := fun _ => fun
  | [d1, d2] => { results := [.lit (.bool false)], args := [d1, d2] }
  | _ => none }
def TableSoundWrongFalsely : Prop := tableSoundRow.holds Try.pinned (OpenSpec.ofChange tableSoundWrong)

/-- 'customhouselaw06.TableIdle': WHATEVER THE INPUT: true; the input reads as it did. -/
def tableIdleSpec : ChangeSpec := { name := "tableIdle", fn := fun _ => fun
  | [d] => { results := [.lit (.bool true)], args := [d] }
  | _ => none }
def tableIdleRow : OpenClaim := { program := "ytbiildleaelodaa", sum := "188470148dd1470149127189d49ad078b5e756b74903e90d173db99050d2f294", func := "customhouse/customhouselaw06.TableIdle", spec := "tableIdle", inPlace := ["math/bits.Sub64"], unfollowed := true, recurses := true, apart := false }
def TableIdleSaid : Prop := tableIdleRow.holds Try.pinned (OpenSpec.ofChange tableIdleSpec)

/-- ITS FALSE NEIGHBOUR: 'it returns false'. Refute it at one input. -/
def tableIdleWrong : ChangeSpec := { name := "tableIdle", fn := fun _ => fun
  | [d] => { results := [.lit (.bool false)], args := [d] }
  | _ => none }
def TableIdleWrongFalsely : Prop := tableIdleRow.holds Try.pinned (OpenSpec.ofChange tableIdleWrong)

/-- 'customhouselaw06.TableSpare': WHATEVER THE INPUT: true; the input reads as it did. -/
def tableSpareSpec : ChangeSpec := { name := "tableSpare", fn := fun _ => fun
  | [d1, d2, d3] => { results := [.lit (.bool true)], args := [d1, d2, d3] }
  | _ => none }
def tableSpareRow : OpenClaim := { program := "ytbiildleaelodaa", sum := "188470148dd1470149127189d49ad078b5e756b74903e90d173db99050d2f294", func := "customhouse/customhouselaw06.TableSpare", spec := "tableSpare", inPlace := ["math/bits.Sub64"], unfollowed := true, recurses := true, apart := false }
def TableSpareSaid : Prop := tableSpareRow.holds Try.pinned (OpenSpec.ofChange tableSpareSpec)

/-- ITS FALSE NEIGHBOUR: 'it returns false'. Refute it at one input. -/
def tableSpareWrong : ChangeSpec := { name := "tableSpare", fn := fun _ => fun
  | [d1, d2, d3] => { results := [.lit (.bool false)], args := [d1, d2, d3] }
  | _ => none }
def TableSpareWrongFalsely : Prop := tableSpareRow.holds Try.pinned (OpenSpec.ofChange tableSpareWrong)

/-- 'customhouselaw06.TableAdds': WHATEVER THE INPUT: true; the input reads as it did. -/
def tableAddsSpec : ChangeSpec := { name := "tableAdds", fn := fun _ => fun
  | [d1, d2, d3] => { results := [.lit (.bool true)], args := [d1, d2, d3] }
  | _ => none }
def tableAddsRow : OpenClaim := { program := "ytbiildleaelodaa", sum := "188470148dd1470149127189d49ad078b5e756b74903e90d173db99050d2f294", func := "customhouse/customhouselaw06.TableAdds", spec := "tableAdds", inPlace := ["math/bits.Sub64"], unfollowed := true, recurses := true, apart := false }
def TableAddsSaid : Prop := tableAddsRow.holds Try.pinned (OpenSpec.ofChange tableAddsSpec)

/-- ITS FALSE NEIGHBOUR: 'it returns false'. Refute it at one input. -/
def tableAddsWrong : ChangeSpec := { name := "tableAdds", fn := fun _ => fun
  | [d1, d2, d3] => { results := [.lit (.bool false)], args := [d1, d2, d3] }
  | _ => none }
def TableAddsWrongFalsely : Prop := tableAddsRow.holds Try.pinned (OpenSpec.ofChange tableAddsWrong)

/-- 'customhouselaw06.TableSeen': WHATEVER THE INPUT: true; the input reads as it did. -/
def tableSeenSpec : ChangeSpec := { name := "tableSeen", fn := fun _ => fun
  | [d1, d2] => { results := [.lit (.bool true)], args := [d1, d2] }
  | _ => none }
def tableSeenRow : OpenClaim := { program := "ytbiildleaelodaa", sum := "188470148dd1470149127189d49ad078b5e756b74903e90d173db99050d2f294", func := "customhouse/customhouselaw06.TableSeen", spec := "tableSeen", inPlace := ["math/bits.Sub64"], unfollowed := true, recurses := true, apart := false }
def TableSeenSaid : Prop := tableSeenRow.holds Try.pinned (OpenSpec.ofChange tableSeenSpec)

/-- ITS FALSE NEIGHBOUR: 'it returns false'. Refute it at one input. -/
def tableSeenWrong : ChangeSpec := { name := "tableSeen", fn := fun _ => fun
  | [d1, d2] => { results := [.lit (.bool false)], args := [d1, d2] }
  | _ => none }
def TableSeenWrongFalsely : Prop := tableSeenRow.holds Try.pinned (OpenSpec.ofChange tableSeenWrong)

/-- 'customhouselaw06.TableShares': WHATEVER THE INPUT: true; the input reads as it did. -/
def tableSharesSpec : ChangeSpec := { name := "tableShares", fn := fun _ => fun
  | [d1, d2] => { results := [.lit (.bool true)], args := [d1, d2] }
  | _ => none }
def tableSharesRow : OpenClaim := { program := "ytbiildleaelodaa", sum := "188470148dd1470149127189d49ad078b5e756b74903e90d173db99050d2f294", func := "customhouse/customhouselaw06.TableShares", spec := "tableShares", inPlace := ["math/bits.Sub64"], unfollowed := true, recurses := true, apart := false }
def TableSharesSaid : Prop := tableSharesRow.holds Try.pinned (OpenSpec.ofChange tableSharesSpec)

/-- ITS FALSE NEIGHBOUR: 'it returns false'. Refute it at one input. -/
def tableSharesWrong : ChangeSpec := { name := "tableShares", fn := fun _ => fun
  | [d1, d2] => { results := [.lit (.bool false)], args := [d1, d2] }
  | _ => none }
def TableSharesWrongFalsely : Prop := tableSharesRow.holds Try.pinned (OpenSpec.ofChange tableSharesWrong)

/-- 'customhouselaw09.WalkOnes': WHATEVER THE INPUT: true; the input reads as it did. -/
def walkOnesSpec : ChangeSpec := { name := "walkOnes", fn := fun _ => fun
  | [d1, d2, d3] => { results := [.lit (.bool true)], args := [d1, d2, d3] }
  | _ => none }
def walkOnesRow : OpenClaim := { program := "ytbiildleaelodaa", sum := "188470148dd1470149127189d49ad078b5e756b74903e90d173db99050d2f294", func := "customhouse/customhouselaw09.WalkOnes", spec := "walkOnes", inPlace := ["math/bits.Sub64"], unfollowed := true, recurses := true, apart := false }
def WalkOnesSaid : Prop := walkOnesRow.holds Try.pinned (OpenSpec.ofChange walkOnesSpec)

/-- ITS FALSE NEIGHBOUR: 'it returns false'. Refute it at one input. -/
def walkOnesWrong : ChangeSpec := { name := "walkOnes", fn := fun _ => fun
  | [d1, d2, d3] => { results := [.lit (.bool false)], args := [d1, d2, d3] }
  | _ => none }
def WalkOnesWrongFalsely : Prop := walkOnesRow.holds Try.pinned (OpenSpec.ofChange walkOnesWrong)

/-- 'customhouselaw09.WalkRuns': WHATEVER THE INPUT: true; the input reads as it did. -/
def walkRunsSpec : ChangeSpec := { name := "walkRuns", fn := fun _ => fun
  | [d1, d2, d3, d4] => { results := [.lit (.bool true)], args := [d1, d2, d3, d4] }
  | _ => none }
def walkRunsRow : OpenClaim := { program := "ytbiildleaelodaa", sum := "188470148dd1470149127189d49ad078b5e756b74903e90d173db99050d2f294", func := "customhouse/customhouselaw09.WalkRuns", spec := "walkRuns", inPlace := ["math/bits.Sub64"], unfollowed := true, recurses := true, apart := false }
def WalkRunsSaid : Prop := walkRunsRow.holds Try.pinned (OpenSpec.ofChange walkRunsSpec)

/-- ITS FALSE NEIGHBOUR: 'it returns false'. Refute it at one input. -/
def walkRunsWrong : ChangeSpec := { name := "walkRuns", fn := fun _ => fun
  | [d1, d2, d3, d4] => { results := [.lit (.bool false)], args := [d1, d2, d3, d4] }
  | _ => none }
def WalkRunsWrongFalsely : Prop := walkRunsRow.holds Try.pinned (OpenSpec.ofChange walkRunsWrong)

/-- 'customhouselaw09.WalkPassed': WHATEVER THE INPUT: true; the input reads as it did. -/
def walkPassedSpec : ChangeSpec := { name := "walkPassed", fn := fun _ => fun
  | [d1, d2] => { results := [.lit (.bool true)], args := [d1, d2] }
  | _ => none }
def walkPassedRow : OpenClaim := { program := "ytbiildleaelodaa", sum := "188470148dd1470149127189d49ad078b5e756b74903e90d173db99050d2f294", func := "customhouse/customhouselaw09.WalkPassed", spec := "walkPassed", inPlace := ["math/bits.Sub64"], unfollowed := true, recurses := true, apart := false }
def WalkPassedSaid : Prop := walkPassedRow.holds Try.pinned (OpenSpec.ofChange walkPassedSpec)

/-- ITS FALSE NEIGHBOUR: 'it returns false'. Refute it at one input. -/
def walkPassedWrong : ChangeSpec := { name := "walkPassed", fn := fun _ => fun
  | [d1, d2] => { results := [.lit (.bool false)], args := [d1, d2] }
  | _ => none }
def WalkPassedWrongFalsely : Prop := walkPassedRow.holds Try.pinned (OpenSpec.ofChange walkPassedWrong)

/-- 'customhouselaw09.WalkSame': WHATEVER THE INPUT: true; the input reads as it did. -/
def walkSameSpec : ChangeSpec := { name := "walkSame", fn := fun _ => fun
  | [d1, d2, d3, d4, d5] => { results := [.lit (.bool true)], args := [d1, d2, d3, d4, d5] }
  | _ => none }
def walkSameRow : OpenClaim := { program := "ytbiildleaelodaa", sum := "188470148dd1470149127189d49ad078b5e756b74903e90d173db99050d2f294", func := "customhouse/customhouselaw09.WalkSame", spec := "walkSame", inPlace := ["math/bits.Sub64"], unfollowed := true, recurses := true, apart := false }
def WalkSameSaid : Prop := walkSameRow.holds Try.pinned (OpenSpec.ofChange walkSameSpec)

/-- ITS FALSE NEIGHBOUR: 'it returns false'. Refute it at one input. -/
def walkSameWrong : ChangeSpec := { name := "walkSame", fn := fun _ => fun
  | [d1, d2, d3, d4, d5] => { results := [.lit (.bool false)], args := [d1, d2, d3, d4, d5] }
  | _ => none }
def WalkSameWrongFalsely : Prop := walkSameRow.holds Try.pinned (OpenSpec.ofChange walkSameWrong)

/-- 'customhouselaw09.WalkSteps': WHATEVER THE INPUT: true; the input reads as it did. -/
def walkStepsSpec : ChangeSpec := { name := "walkSteps", fn := fun _ => fun
  | [d1, d2, d3, d4] => { results := [.lit (.bool true)], args := [d1, d2, d3, d4] }
  | _ => none }
def walkStepsRow : OpenClaim := { program := "ytbiildleaelodaa", sum := "188470148dd1470149127189d49ad078b5e756b74903e90d173db99050d2f294", func := "customhouse/customhouselaw09.WalkSteps", spec := "walkSteps", inPlace := ["math/bits.Sub64"], unfollowed := true, recurses := true, apart := false }
def WalkStepsSaid : Prop := walkStepsRow.holds Try.pinned (OpenSpec.ofChange walkStepsSpec)

/-- ITS FALSE NEIGHBOUR: 'it returns false'. Refute it at one input. -/
def walkStepsWrong : ChangeSpec := { name := "walkSteps", fn := fun _ => fun
  | [d1, d2, d3, d4] => { results := [.lit (.bool false)], args := [d1, d2, d3, d4] }
  | _ => none }
def WalkStepsWrongFalsely : Prop := walkStepsRow.holds Try.pinned (OpenSpec.ofChange walkStepsWrong)

/- THE SECOND FORM. 'bulk': how many values and letters a reading holds, each counted each time it is reached (what is shared counts as often as it is met; a slice's spare places count too). A statement '..UptoSaid' is the law's where the arguments, and the package variables that the reading takes, are together of bulk at most 1048576: NARROWER than '..Said'. Prove '..Said' where nothing that the law and all that it calls make is longer than what came in: it says more and counts as full. Else prove '..UptoSaid'. A law counts once. -/
mutual
def uptoBulk {H : Type} : DataW H → Nat
  | .lit (.string bytes) => bytes.length + 1
  | .lit _ => 1
  | .nil => 1
  | .ptr d => uptoBulk d + 1
  | .slice elems spare => uptoBulkAll elems + uptoBulkAll spare + 1
  | .agg parts => uptoBulkAll parts + 1
  | .iface _ d => uptoBulk d + 1
  | .map entries => uptoBulkEntries entries + 1
  | .held _ => 1
def uptoBulkAll {H : Type} : List (DataW H) → Nat
  | [] => 0
  | d :: r => uptoBulk d + uptoBulkAll r
def uptoBulkEntries {H : Type} : List (Lit × DataW H) → Nat
  | [] => 0
  | x :: r => uptoBulkEntry x + uptoBulkEntries r
def uptoBulkEntry {H : Type} : Lit × DataW H → Nat
  | (.string bytes, d) => bytes.length + uptoBulk d + 1
  | (_, d) => uptoBulk d + 1
 end
def uptoSmall : (H : Type) → List (DataW H) → Bool := fun _ ds => decide (uptoBulkAll ds ≤ 1048576)
def OpenSpec.upto (s : _root_.Go.ChangeSpec) : _root_.Go.OpenSpec := { _root_.Go.OpenSpec.ofChange s with cond := some uptoSmall }

/-- 'customhouselaw06.TableFinds', WHERE WHAT IT READS IS OF BULK AT MOST 1048576: true; the input reads as it did. -/
def tableFindsUptoRow : OpenClaim := { program := "ytbiildleaelodaa", sum := "188470148dd1470149127189d49ad078b5e756b74903e90d173db99050d2f294", func := "customhouse/customhouselaw06.TableFinds", spec := "tableFinds", inPlace := ["math/bits.Sub64"], unfollowed := true, recurses := true, apart := false, narrowed := true }
def TableFindsUptoSaid : Prop := tableFindsUptoRow.holds Try.pinned (OpenSpec.upto tableFindsSpec)

/-- 'customhouselaw06.TableSound', WHERE WHAT IT READS IS OF BULK AT MOST 1048576: true; the input reads as it did. -/
def tableSoundUptoRow : OpenClaim := { program := "ytbiildleaelodaa", sum := "188470148dd1470149127189d49ad078b5e756b74903e90d173db99050d2f294", func := "customhouse/customhouselaw06.TableSound", spec := "tableSound", inPlace := ["math/bits.Sub64"], unfollowed := true, recurses := true, apart := false, narrowed := true }
def TableSoundUptoSaid : Prop := tableSoundUptoRow.holds Try.pinned (OpenSpec.upto tableSoundSpec)

/-- 'customhouselaw06.TableIdle', WHERE WHAT IT READS IS OF BULK AT MOST 1048576: true; the input reads as it did. -/
def tableIdleUptoRow : OpenClaim := { program := "ytbiildleaelodaa", sum := "188470148dd1470149127189d49ad078b5e756b74903e90d173db99050d2f294", func := "customhouse/customhouselaw06.TableIdle", spec := "tableIdle", inPlace := ["math/bits.Sub64"], unfollowed := true, recurses := true, apart := false, narrowed := true }
def TableIdleUptoSaid : Prop := tableIdleUptoRow.holds Try.pinned (OpenSpec.upto tableIdleSpec)

/-- 'customhouselaw06.TableSpare', WHERE WHAT IT READS IS OF BULK AT MOST 1048576: true; the input reads as it did. -/
def tableSpareUptoRow : OpenClaim := { program := "ytbiildleaelodaa", sum := "188470148dd1470149127189d49ad078b5e756b74903e90d173db99050d2f294", func := "customhouse/customhouselaw06.TableSpare", spec := "tableSpare", inPlace := ["math/bits.Sub64"], unfollowed := true, recurses := true, apart := false, narrowed := true }
def TableSpareUptoSaid : Prop := tableSpareUptoRow.holds Try.pinned (OpenSpec.upto tableSpareSpec)

/-- 'customhouselaw06.TableAdds', WHERE WHAT IT READS IS OF BULK AT MOST 1048576: true; the input reads as it did. -/
def tableAddsUptoRow : OpenClaim := { program := "ytbiildleaelodaa", sum := "188470148dd1470149127189d49ad078b5e756b74903e90d173db99050d2f294", func := "customhouse/customhouselaw06.TableAdds", spec := "tableAdds", inPlace := ["math/bits.Sub64"], unfollowed := true, recurses := true, apart := false, narrowed := true }
def TableAddsUptoSaid : Prop := tableAddsUptoRow.holds Try.pinned (OpenSpec.upto tableAddsSpec)

/-- 'customhouselaw06.TableSeen', WHERE WHAT IT READS IS OF BULK AT MOST 1048576: true; the input reads as it did. -/
def tableSeenUptoRow : OpenClaim := { program := "ytbiildleaelodaa", sum := "188470148dd1470149127189d49ad078b5e756b74903e90d173db99050d2f294", func := "customhouse/customhouselaw06.TableSeen", spec := "tableSeen", inPlace := ["math/bits.Sub64"], unfollowed := true, recurses := true, apart := false, narrowed := true }
def TableSeenUptoSaid : Prop := tableSeenUptoRow.holds Try.pinned (OpenSpec.upto tableSeenSpec)

/-- 'customhouselaw06.TableShares', WHERE WHAT IT READS IS OF BULK AT MOST 1048576: true; the input reads as it did. -/
def tableSharesUptoRow : OpenClaim := { program := "ytbiildleaelodaa", sum := "188470148dd1470149127189d49ad078b5e756b74903e90d173db99050d2f294", func := "customhouse/customhouselaw06.TableShares", spec := "tableShares", inPlace := ["math/bits.Sub64"], unfollowed := true, recurses := true, apart := false, narrowed := true }
def TableSharesUptoSaid : Prop := tableSharesUptoRow.holds Try.pinned (OpenSpec.upto tableSharesSpec)

/-- 'customhouselaw09.WalkOnes', WHERE WHAT IT READS IS OF BULK AT MOST 1048576: true; the input reads as it did. -/
def walkOnesUptoRow : OpenClaim := { program := "ytbiildleaelodaa", sum := "188470148dd1470149127189d49ad078b5e756b74903e90d173db99050d2f294", func := "customhouse/customhouselaw09.WalkOnes", spec := "walkOnes", inPlace := ["math/bits.Sub64"], unfollowed := true, recurses := true, apart := false, narrowed := true }
def WalkOnesUptoSaid : Prop := walkOnesUptoRow.holds Try.pinned (OpenSpec.upto walkOnesSpec)

/-- 'customhouselaw09.WalkRuns', WHERE WHAT IT READS IS OF BULK AT MOST 1048576: true; the input reads as it did. -/
def walkRunsUptoRow : OpenClaim := { program := "ytbiildleaelodaa", sum := "188470148dd1470149127189d49ad078b5e756b74903e90d173db99050d2f294", func := "customhouse/customhouselaw09.WalkRuns", spec := "walkRuns", inPlace := ["math/bits.Sub64"], unfollowed := true, recurses := true, apart := false, narrowed := true }
def WalkRunsUptoSaid : Prop := walkRunsUptoRow.holds Try.pinned (OpenSpec.upto walkRunsSpec)

/-- 'customhouselaw09.WalkPassed', WHERE WHAT IT READS IS OF BULK AT MOST 1048576: true; the input reads as it did. -/
def walkPassedUptoRow : OpenClaim := { program := "ytbiildleaelodaa", sum := "188470148dd1470149127189d49ad078b5e756b74903e90d173db99050d2f294", func := "customhouse/customhouselaw09.WalkPassed", spec := "walkPassed", inPlace := ["math/bits.Sub64"], unfollowed := true, recurses := true, apart := false, narrowed := true }
def WalkPassedUptoSaid : Prop := walkPassedUptoRow.holds Try.pinned (OpenSpec.upto walkPassedSpec)

/-- 'customhouselaw09.WalkSame', WHERE WHAT IT READS IS OF BULK AT MOST 1048576: true; the input reads as it did. -/
def walkSameUptoRow : OpenClaim := { program := "ytbiildleaelodaa", sum := "188470148dd1470149127189d49ad078b5e756b74903e90d173db99050d2f294", func := "customhouse/customhouselaw09.WalkSame", spec := "walkSame", inPlace := ["math/bits.Sub64"], unfollowed := true, recurses := true, apart := false, narrowed := true }
def WalkSameUptoSaid : Prop := walkSameUptoRow.holds Try.pinned (OpenSpec.upto walkSameSpec)

/-- 'customhouselaw09.WalkSteps', WHERE WHAT IT READS IS OF BULK AT MOST 1048576: true; the input reads as it did. -/
def walkStepsUptoRow : OpenClaim := { program := "ytbiildleaelodaa", sum := "188470148dd1470149127189d49ad078b5e756b74903e90d173db99050d2f294", func := "customhouse/customhouselaw09.WalkSteps", spec := "walkSteps", inPlace := ["math/bits.Sub64"], unfollowed := true, recurses := true, apart := false, narrowed := true }
def WalkStepsUptoSaid : Prop := walkStepsUptoRow.holds Try.pinned (OpenSpec.upto walkStepsSpec)

end Rows
end Go.Proofs.Ytbiildleaelodaa
