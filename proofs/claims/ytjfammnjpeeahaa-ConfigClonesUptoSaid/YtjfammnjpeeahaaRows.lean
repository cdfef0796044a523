/-
  No cell of these rows narrows 'for every input' (looked for: loops, veiled, ifaces, maps, wideKeys, modest, calm, conditions, laid).
  DERIVED. THE GIVEN ROWS OF THIS SEAT. 3 by the template 'for every input the law returns true; each argument reads behind the call as it read before'; 0 by the template 'total and deterministic' (their statements: YtjfammnjpeeahaaTotals.lean).
  GIVEN WITH THE SEED: the statements are not yours to turn. If you find one false, say at which input.
  Laid BY PROGRAM, IN A SANDBOX (cutbox-rows.mjs): the forced cells as the released guide's own fill.sh prints them over the translation c6367f63ad6d0ed9… (all of the seat's roots in one cut). By AI agents, Wed Nov 11 2026. No macro, syntax, notation, axiom, sorry.
-/
import Derived.Test.YtjfammnjpeeahaaChecked
import GoSem.Claim
import GoSem.ClaimJoined
import GoSem.ClaimMapViews
import Derived.JoinedTies
import Derived.KernelRfl
namespace Go.Proofs.Ytjfammnjpeeahaa
/- THE CELL 'sum', in the pinned program and in every row, IS THE sha256 OF THE DUMP (.gsa) THAT YtjfammnjpeeahaaProg.lean LOADS. Nothing in Lean hashes anything: it is a label: what it is worth is what the hold of that sum in a sandbox is worth. -/
noncomputable def Try.pinned : Pinned := { name := "ytjfammnjpeeahaa", sum := "c6367f63ad6d0ed94963719d107f12ceab9208fa9177e26101ed776e5b664ee3", checked := Try.checked }
namespace Rows
def none {H : Type} : Left H := { results := [], args := [] }

/-- 'customhouselaw08.ConfigClones': WHATEVER THE INPUT: true; the input reads as it did. -/
def configClonesSpec : ChangeSpec := { name := "configClones", fn := fun _ => fun
  | [d1, d2] => { results := [.lit (.bool true)], args := [d1, d2] }
  | _ => none }
def configClonesRow : OpenClaim := { program := "ytjfammnjpeeahaa", sum := "c6367f63ad6d0ed94963719d107f12ceab9208fa9177e26101ed776e5b664ee3", func := "customhouse/customhouselaw08.ConfigClones", spec := "configClones", inPlace := ["math/bits.Sub64"], unfollowed := true, recurses := true, apart := false }
def ConfigClonesSaid : Prop := configClonesRow.holds Try.pinned (OpenSpec.ofChange configClonesSpec)

/-- ITS FALSE NEIGHBOUR: 'it returns false'. Refute it at one input. -/
def configClonesWrong : ChangeSpec := { name := "configClones", fn := fun _ => fun
  | [d1, d2] => { results := [.lit (.bool false)], args := [d1, d2] }
  | _ => none }
def ConfigClonesWrongFalsely : Prop := configClonesRow.holds Try.pinned (OpenSpec.ofChange configClonesWrong)

/-- 'customhouselaw23.AgentPlays': WHATEVER THE INPUT: true; the input reads as it did. -/
def agentPlaysSpec : ChangeSpec := { name := "agentPlays", fn := fun _ => fun
  | [d1, d2, d3, d4, d5] => { results := [.lit (.bool true)], args := [d1, d2, d3, d4, d5] }
  | _ => none }
def agentPlaysRow : OpenClaim := { program := "ytjfammnjpeeahaa", sum := "c6367f63ad6d0ed94963719d107f12ceab9208fa9177e26101ed776e5b664ee3", func := "customhouse/customhouselaw23.AgentPlays", spec := "agentPlays", unfollowed := true, recurses := true, apart := false }
def AgentPlaysSaid : Prop := agentPlaysRow.holds Try.pinned (OpenSpec.ofChange agentPlaysSpec)

/-- ITS FALSE NEIGHBOUR: 'it returns false'. Refute it at one input. -/
def agentPlaysWrong : ChangeSpec := { name := "agentPlays", fn := fun _ => fun
  | [d1, d2, d3, d4, d5] => { results := [.lit (.bool false)], args := [d1, d2, d3, d4, d5] }
  | _ => none }
def AgentPlaysWrongFalsely : Prop := agentPlaysRow.holds Try.pinned (OpenSpec.ofChange agentPlaysWrong)

/-- 'customhouselaw23.AgentOwn': WHATEVER THE INPUT: true; the input reads as it did. -/
def agentOwnSpec : ChangeSpec := { name := "agentOwn", fn := fun _ => fun
  | [d] => { results := [.lit (.bool true)], args := [d] }
  | _ => none }
def agentOwnRow : OpenClaim := { program := "ytjfammnjpeeahaa", sum := "c6367f63ad6d0ed94963719d107f12ceab9208fa9177e26101ed776e5b664ee3", func := "customhouse/customhouselaw23.AgentOwn", spec := "agentOwn", unfollowed := true, recurses := true, apart := false }
def AgentOwnSaid : Prop := agentOwnRow.holds Try.pinned (OpenSpec.ofChange agentOwnSpec)

/-- ITS FALSE NEIGHBOUR: 'it returns false'. Refute it at one input. -/
def agentOwnWrong : ChangeSpec := { name := "agentOwn", fn := fun _ => fun
  | [d] => { results := [.lit (.bool false)], args := [d] }
  | _ => none }
def AgentOwnWrongFalsely : Prop := agentOwnRow.holds Try.pinned (OpenSpec.ofChange agentOwnWrong)

/- THE SECOND FORM. 'bulk': how many values and letters a reading holds, each counted each time it is reached (what is shared counts as often as it is met; a slice's spare places count too). A statement '..UptoSaid' is the law's where the arguments, and the package variables that the reading takes, are together of bulk at most 1048576: NARROWER than '..Said'. Prove '..Said' where nothing that the law and all that it calls make is longer than what came in: it says more and counts as full. Else prove '..UptoSaid'. A law counts once. -/
mutual
def uptoBulk {H : Type} : DataW H → Nat
  | .lit (.string bytes) => bytes.length + 1
  | .lit _ => 1
  | .nil => 1
  | .ptr d => uptoBulk d + 1
  | .slice elems spare => uptoBulkAll elems + uptoBulkAll spare + 1
  | .agg parts => uptoBulkAll parts + 1
  | .iface _ d => uptoBulk d + 1
  | .map entries => uptoBulkEntries entries + 1
  | .held _ => 1
def uptoBulkAll {H : Type} : List (DataW H) → Nat
  | [] => 0
  | d :: r => uptoBulk d + uptoBulkAll r
def uptoBulkEntries {H : Type} : List (Lit × DataW H) → Nat
  | [] => 0
  | x :: r => uptoBulkEntry x + uptoBulkEntries r
def uptoBulkEntry {H : Type} : Lit × DataW H → Nat
  | (.string bytes, d) => bytes.length + uptoBulk d + 1
  | (_, d) => uptoBulk d + 1
 end
def uptoSmall : (H : Type) → List (DataW H) → Bool := fun _ ds => decide (uptoBulkAll ds ≤ 1048576)
def OpenSpec.upto (s : _root_.Go.ChangeSpec) : _root_.Go.OpenSpec := { _root_.Go.OpenSpec.ofChange s with cond := some uptoSmall }

/-- 'customhouselaw08.ConfigClones', WHERE WHAT IT READS IS OF BULK AT MOST 1048576: true; the input reads as it did. -/
def configClonesUptoRow : OpenClaim := { program := "ytjfammnjpeeahaa", sum := "c6367f63ad6d0ed94963719d107f12ceab9208fa9177e26101ed776e5b664ee3", func := "customhouse/customhouselaw08.ConfigClones", spec := "configClones", inPlace := ["math/bits.Sub64"], unfollowed := true, recurses := true, apart := false, narrowed := true }
def ConfigClonesUptoSaid : Prop := configClonesUptoRow.holds Try.pinned (OpenSpec.upto configClonesSpec)

/-- 'customhouselaw23.AgentPlays', WHERE WHAT IT READS IS OF BULK AT MOST 1048576: true; the input reads as it did. -/
def agentPlaysUptoRow : OpenClaim := { program := "ytjfammnjpeeahaa", sum := "c6367f63ad6d0ed94963719d107f12ceab9208fa9177e26101ed776e5b664ee3", func := "customhouse/customhouselaw23.AgentPlays", spec := "agentPlays", unfollowed := true, recurses := true, apart := false, narrowed := true }
def AgentPlaysUptoSaid : Prop := agentPlaysUptoRow.holds Try.pinned (OpenSpec.upto agentPlaysSpec)

/-- 'customhouselaw23.AgentOwn', WHERE WHAT IT READS IS OF BULK AT MOST 1048576: true; the input reads as it did. -/
def agentOwnUptoRow : OpenClaim := { program := "ytjfammnjpeeahaa", sum := "c6367f63ad6d0ed94963719d107f12ceab9208fa9177e26101ed776e5b664ee3", func := "customhouse/customhouselaw23.AgentOwn", spec := "agentOwn", unfollowed := true, recurses := true, apart := false, narrowed := true }
def AgentOwnUptoSaid : Prop := agentOwnUptoRow.holds Try.pinned (OpenSpec.upto agentOwnSpec)

end Rows
end Go.Proofs.Ytjfammnjpeeahaa
