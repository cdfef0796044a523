/-
  No cell of these rows narrows 'for every input' (looked for: loops, veiled, ifaces, maps, wideKeys, modest, calm, conditions, laid).
  DERIVED. THE GIVEN ROWS OF THIS SEAT. 10 by the template 'for every input the law returns true; each argument reads behind the call as it read before'; 0 by the template 'total and deterministic' (their statements: YtgfnpkpbebihgaaTotals.lean).
  GIVEN WITH THE SEED: the statements are not yours to turn. If you find one false, say at which input.
  Laid BY PROGRAM, IN A SANDBOX (cutbox-rows.mjs): the forced cells as the released guide's own fill.sh prints them over the translation c7fd9f563ca5e7f6… (all of the seat's roots in one cut). By AI agents, Wed Nov 11 2026. No macro, syntax, notation, axiom, sorry.
-/
import Derived.Test.YtgfnpkpbebihgaaChecked
import GoSem.Claim
import GoSem.ClaimJoined
import GoSem.ClaimMapViews
import Derived.JoinedTies
import Derived.KernelRfl
namespace Go.Proofs.Ytgfnpkpbebihgaa
/- THE CELL 'sum', in the pinned program and in every row, IS THE sha256 OF THE DUMP (.gsa) THAT YtgfnpkpbebihgaaProg.lean LOADS. Nothing in Lean hashes anything: it is a label: what it is worth is what the hold of that sum in a sandbox is worth. -/
noncomputable def Try.pinned : Pinned := { name := "ytgfnpkpbebihgaa", sum := "c7fd9f563ca5e7f666e93c66cc38f1214640a06f2bae57cfa8f164848e69ddef", checked := Try.checked }
namespace Rows
def none {H : Type} : Left H := { results := [], args := [] }

/-- 'customhouselaw05.RuleSound': WHATEVER THE INPUT: true; the input reads as it did. -/
def ruleSoundSpec : ChangeSpec := { name := "ruleSound", fn := fun _ => fun
  | [d1, d2, d3] => { results := [.lit (.bool true)], args := [d1, d2, d3] }
  | _ => none }
def ruleSoundRow : OpenClaim := { program := "ytgfnpkpbebihgaa", sum := "c7fd9f563ca5e7f666e93c66cc38f1214640a06f2bae57cfa8f164848e69ddef", func := "customhouse/customhouselaw05.RuleSound", spec := "ruleSound", unfollowed := true, recurses := true, apart := false }
def RuleSoundSaid : Prop := ruleSoundRow.holds Try.pinned (OpenSpec.ofChange ruleSoundSpec)

/-- ITS FALSE NEIGHBOUR: 'it returns false'. Refute it at one input. -/
def ruleSoundWrong : ChangeSpec := { name := "ruleSound", fn := fun _ => fun
  | [d1, d2, d3] => { results := [.lit (.bool false)], args := [d1, d2, d3] }
  | _ => none }
def RuleSoundWrongFalsely : Prop := ruleSoundRow.holds Try.pinned (OpenSpec.ofChange ruleSoundWrong)

/-- 'customhouselaw05.RuleSorts': WHATEVER THE INPUT: true; the input reads as it did. -/
def ruleSortsSpec : ChangeSpec := { name := "ruleSorts", fn := fun _ => fun
  | [d] => { results := [.lit (.bool true)], args := [d] }
  | _ => none }
def ruleSortsRow : OpenClaim := { program := "ytgfnpkpbebihgaa", sum := "c7fd9f563ca5e7f666e93c66cc38f1214640a06f2bae57cfa8f164848e69ddef", func := "customhouse/customhouselaw05.RuleSorts", spec := "ruleSorts", unfollowed := true, recurses := true, apart := false }
def RuleSortsSaid : Prop := ruleSortsRow.holds Try.pinned (OpenSpec.ofChange ruleSortsSpec)

/-- ITS FALSE NEIGHBOUR: 'it returns false'. Refute it at one input. -/
def ruleSortsWrong : ChangeSpec := { name := "ruleSorts", fn := fun _ => fun
  | [d] => { results := [.lit (.bool false)], args := [d] }
  | _ => none }
def RuleSortsWrongFalsely : Prop := ruleSortsRow.holds Try.pinned (OpenSpec.ofChange ruleSortsWrong)

/-- 'customhouselaw05.RuleOnce': WHATEVER THE INPUT: true; the input reads as it did. -/
def ruleOnceSpec : ChangeSpec := { name := "ruleOnce", fn := fun _ => fun
  | [d] => { results := [.lit (.bool true)], args := [d] }
  | _ => none }
def ruleOnceRow : OpenClaim := { program := "ytgfnpkpbebihgaa", sum := "c7fd9f563ca5e7f666e93c66cc38f1214640a06f2bae57cfa8f164848e69ddef", func := "customhouse/customhouselaw05.RuleOnce", spec := "ruleOnce", unfollowed := true, recurses := true, apart := false }
def RuleOnceSaid : Prop := ruleOnceRow.holds Try.pinned (OpenSpec.ofChange ruleOnceSpec)

/-- ITS FALSE NEIGHBOUR: 'it returns false'. Refute it at one input. -/
def ruleOnceWrong : ChangeSpec := { name := "ruleOnce", fn := fun _ => fun
  | [d] => { results := [.lit (.bool false)], args := [d] }
  | _ => none }
def RuleOnceWrongFalsely : Prop := ruleOnceRow.holds Try.pinned (OpenSpec.ofChange ruleOnceWrong)

/-- 'customhouselaw05.RuleSets': WHATEVER THE INPUT: true; the input reads as it did. -/
def ruleSetsSpec : ChangeSpec := { name := "ruleSets", fn := fun _ => fun
  | [d1, d2, d3] => { results := [.lit (.bool true)], args := [d1, d2, d3] }
  | _ => none }
def ruleSetsRow : OpenClaim := { program := "ytgfnpkpbebihgaa", sum := "c7fd9f563ca5e7f666e93c66cc38f1214640a06f2bae57cfa8f164848e69ddef", func := "customhouse/customhouselaw05.RuleSets", spec := "ruleSets", unfollowed := true, recurses := true, apart := false }
def RuleSetsSaid : Prop := ruleSetsRow.holds Try.pinned (OpenSpec.ofChange ruleSetsSpec)

/-- ITS FALSE NEIGHBOUR: 'it returns false'. Refute it at one input. -/
def ruleSetsWrong : ChangeSpec := { name := "ruleSets", fn := fun _ => fun
  | [d1, d2, d3] => { results := [.lit (.bool false)], args := [d1, d2, d3] }
  | _ => none }
def RuleSetsWrongFalsely : Prop := ruleSetsRow.holds Try.pinned (OpenSpec.ofChange ruleSetsWrong)

/-- 'customhouselaw05.RuleKeeps': WHATEVER THE INPUT: true; the input reads as it did. -/
def ruleKeepsSpec : ChangeSpec := { name := "ruleKeeps", fn := fun _ => fun
  | [d1, d2] => { results := [.lit (.bool true)], args := [d1, d2] }
  | _ => none }
def ruleKeepsRow : OpenClaim := { program := "ytgfnpkpbebihgaa", sum := "c7fd9f563ca5e7f666e93c66cc38f1214640a06f2bae57cfa8f164848e69ddef", func := "customhouse/customhouselaw05.RuleKeeps", spec := "ruleKeeps", unfollowed := true, recurses := true, apart := false }
def RuleKeepsSaid : Prop := ruleKeepsRow.holds Try.pinned (OpenSpec.ofChange ruleKeepsSpec)

/-- ITS FALSE NEIGHBOUR: 'it returns false'. Refute it at one input. -/
def ruleKeepsWrong : ChangeSpec := { name := "ruleKeeps", fn := fun _ => fun
  | [d1, d2] => { results := [.lit (.bool false)], args := [d1, d2] }
  | _ => none }
def RuleKeepsWrongFalsely : Prop := ruleKeepsRow.holds Try.pinned (OpenSpec.ofChange ruleKeepsWrong)

/-- 'customhouselaw08.ConfigSound': WHATEVER THE INPUT: true; the input reads as it did. -/
def configSoundSpec : ChangeSpec := { name := "configSound", fn := fun _ => fun
  | [d] => { results := [.lit (.bool true)], args := [d] }
  | _ => none }
def configSoundRow : OpenClaim := { program := "ytgfnpkpbebihgaa", sum := "c7fd9f563ca5e7f666e93c66cc38f1214640a06f2bae57cfa8f164848e69ddef", func := "customhouse/customhouselaw08.ConfigSound", spec := "configSound", inPlace := ["math/bits.Sub64"], unfollowed := true, recurses := true, apart := false }
def ConfigSoundSaid : Prop := configSoundRow.holds Try.pinned (OpenSpec.ofChange configSoundSpec)

/-- ITS FALSE NEIGHBOUR: 'it returns false'. Refute it at one input. -/
def configSoundWrong : ChangeSpec := { name := "configSound", fn := fun _ => fun
  | [d] => { results := [.lit (.bool false)], args := [d] }
  | _ => none }
def ConfigSoundWrongFalsely : Prop := configSoundRow.holds Try.pinned (OpenSpec.ofChange configSoundWrong)

/-- 'customhouselaw08.ConfigStamps': WHATEVER THE INPUT: true; the input reads as it did. -/
def configStampsSpec : ChangeSpec := { name := "configStamps", fn := fun _ => fun
  | [d1, d2, d3, d4] => { results := [.lit (.bool true)], args := [d1, d2, d3, d4] }
  | _ => none }
def configStampsRow : OpenClaim := { program := "ytgfnpkpbebihgaa", sum := "c7fd9f563ca5e7f666e93c66cc38f1214640a06f2bae57cfa8f164848e69ddef", func := "customhouse/customhouselaw08.ConfigStamps", spec := "configStamps", inPlace := ["math/bits.Sub64"], unfollowed := true, recurses := true, apart := false }
def ConfigStampsSaid : Prop := configStampsRow.holds Try.pinned (OpenSpec.ofChange configStampsSpec)

/-- ITS FALSE NEIGHBOUR: 'it returns false'. Refute it at one input. -/
def configStampsWrong : ChangeSpec := { name := "configStamps", fn := fun _ => fun
  | [d1, d2, d3, d4] => { results := [.lit (.bool false)], args := [d1, d2, d3, d4] }
  | _ => none }
def ConfigStampsWrongFalsely : Prop := configStampsRow.holds Try.pinned (OpenSpec.ofChange configStampsWrong)

/-- 'customhouselaw08.ConfigClones': WHATEVER THE INPUT: true; the input reads as it did. -/
def configClonesSpec : ChangeSpec := { name := "configClones", fn := fun _ => fun
  | [d1, d2] => { results := [.lit (.bool true)], args := [d1, d2] }
  | _ => none }
def configClonesRow : OpenClaim := { program := "ytgfnpkpbebihgaa", sum := "c7fd9f563ca5e7f666e93c66cc38f1214640a06f2bae57cfa8f164848e69ddef", func := "customhouse/customhouselaw08.ConfigClones", spec := "configClones", inPlace := ["math/bits.Sub64"], unfollowed := true, recurses := true, apart := false }
def ConfigClonesSaid : Prop := configClonesRow.holds Try.pinned (OpenSpec.ofChange configClonesSpec)

/-- ITS FALSE NEIGHBOUR: 'it returns false'. Refute it at one input. -/
def configClonesWrong : ChangeSpec := { name := "configClones", fn := fun _ => fun
  | [d1, d2] => { results := [.lit (.bool false)], args := [d1, d2] }
  | _ => none }
def ConfigClonesWrongFalsely : Prop := configClonesRow.holds Try.pinned (OpenSpec.ofChange configClonesWrong)

/-- 'customhouselaw08.ConfigPeers': WHATEVER THE INPUT: true; the input reads as it did. -/
def configPeersSpec : ChangeSpec := { name := "configPeers", fn := fun _ => fun
  | [d1, d2, d3, d4] => { results := [.lit (.bool true)], args := [d1, d2, d3, d4] }
  | _ => none }
def configPeersRow : OpenClaim := { program := "ytgfnpkpbebihgaa", sum := "c7fd9f563ca5e7f666e93c66cc38f1214640a06f2bae57cfa8f164848e69ddef", func := "customhouse/customhouselaw08.ConfigPeers", spec := "configPeers", inPlace := ["math/bits.Sub64"], unfollowed := true, recurses := true, apart := false }
def ConfigPeersSaid : Prop := configPeersRow.holds Try.pinned (OpenSpec.ofChange configPeersSpec)

/-- ITS FALSE NEIGHBOUR: 'it returns false'. Refute it at one input. -/
def configPeersWrong : ChangeSpec := { name := "configPeers", fn := fun _ => fun
  | [d1, d2, d3, d4] => { results := [.lit (.bool false)], args := [d1, d2, d3, d4] }
  | _ => none }
def ConfigPeersWrongFalsely : Prop := configPeersRow.holds Try.pinned (OpenSpec.ofChange configPeersWrong)

/-- 'customhouselaw08.ConfigAllows': WHATEVER THE INPUT: true; the input reads as it did. -/
def configAllowsSpec : ChangeSpec := { name := "configAllows", fn := fun _ => fun
  | [d1, d2, d3] => { results := [.lit (.bool true)], args := [d1, d2, d3] }
  | _ => none }
def configAllowsRow : OpenClaim := { program := "ytgfnpkpbebihgaa", sum := "c7fd9f563ca5e7f666e93c66cc38f1214640a06f2bae57cfa8f164848e69ddef", func := "customhouse/customhouselaw08.ConfigAllows", spec := "configAllows", inPlace := ["math/bits.Sub64"], unfollowed := true, recurses := true, apart := false }
def ConfigAllowsSaid : Prop := configAllowsRow.holds Try.pinned (OpenSpec.ofChange configAllowsSpec)

/-- ITS FALSE NEIGHBOUR: 'it returns false'. Refute it at one input. -/
def configAllowsWrong : ChangeSpec := { name := "configAllows", fn := fun _ => fun
  | [d1, d2, d3] => { results := [.lit (.bool false)], args := [d1, d2, d3] }
  | _ => none }
def ConfigAllowsWrongFalsely : Prop := configAllowsRow.holds Try.pinned (OpenSpec.ofChange configAllowsWrong)

/- THE SECOND FORM. 'bulk': how many values and letters a reading holds, each counted each time it is reached (what is shared counts as often as it is met; a slice's spare places count too). A statement '..UptoSaid' is the law's where the arguments, and the package variables that the reading takes, are together of bulk at most 1048576: NARROWER than '..Said'. Prove '..Said' where nothing that the law and all that it calls make is longer than what came in: it says more and counts as full. Else prove '..UptoSaid'. A law counts once. -/
mutual
def uptoBulk {H : Type} : DataW H → Nat
  | .lit (.string bytes) => bytes.length + 1
  | .lit _ => 1
  | .nil => 1
  | .ptr d => uptoBulk d + 1
  | .slice elems spare => uptoBulkAll elems + uptoBulkAll spare + 1
  | .agg parts => uptoBulkAll parts + 1
  | .iface _ d => uptoBulk d + 1
  | .map entries => uptoBulkEntries entries + 1
  | .held _ => 1
def uptoBulkAll {H : Type} : List (DataW H) → Nat
  | [] => 0
  | d :: r => uptoBulk d + uptoBulkAll r
def uptoBulkEntries {H : Type} : List (Lit × DataW H) → Nat
  | [] => 0
  | x :: r => uptoBulkEntry x + uptoBulkEntries r
def uptoBulkEntry {H : Type} : Lit × DataW H → Nat
  | (.string bytes, d) => bytes.length + uptoBulk d + 1
  | (_, d) => uptoBulk d + 1
 end
def uptoSmall : (H : Type) → List (DataW H) → Bool := fun _ ds => decide (uptoBulkAll ds ≤ 1048576)
def OpenSpec.upto (s : _root_.Go.ChangeSpec) : _root_.Go.OpenSpec := { _root_.Go.OpenSpec.ofChange s with cond := some uptoSmall }

/-- 'customhouselaw05.RuleSound', WHERE WHAT IT READS IS OF BULK AT MOST 1048576: true; the input reads as it did. -/
def ruleSoundUptoRow : OpenClaim := { program := "ytgfnpkpbebihgaa", sum := "c7fd9f563ca5e7f666e93c66cc38f1214640a06f2bae57cfa8f164848e69ddef", func := "customhouse/customhouselaw05.RuleSound", spec := "ruleSound", unfollowed := true, recurses := true, apart := false, narrowed := true }
def RuleSoundUptoSaid : Prop := ruleSoundUptoRow.holds Try.pinned (OpenSpec.upto ruleSoundSpec)

/-- 'customhouselaw05.RuleSorts', WHERE WHAT IT READS IS OF BULK AT MOST 1048576: true; the input reads as it did. -/
def ruleSortsUptoRow : OpenClaim := { program := "ytgfnpkpbebihgaa", sum := "c7fd9f563ca5e7f666e93c66cc38f1214640a06f2bae57cfa8f164848e69ddef", func := "customhouse/customhouselaw05.RuleSorts", spec := "ruleSorts", unfollowed := true, recurses := true, apart := false, narrowed := true }
def RuleSortsUptoSaid : Prop := ruleSortsUptoRow.holds Try.pinned (OpenSpec.upto ruleSortsSpec)

/-- 'customhouselaw05.RuleOnce', WHERE WHAT IT READS IS OF BULK AT MOST 1048576: true; the input reads as it did. -/
def ruleOnceUptoRow : OpenClaim := { program := "ytgfnpkpbebihgaa", sum := "c7fd9f563ca5e7f666e93c66cc38f1214640a06f2bae57cfa8f164848e69ddef", func := "customhouse/customhouselaw05.RuleOnce", spec := "ruleOnce", unfollowed := true, recurses := true, apart := false, narrowed := true }
def RuleOnceUptoSaid : Prop := ruleOnceUptoRow.holds Try.pinned (OpenSpec.upto ruleOnceSpec)

/-- 'customhouselaw05.RuleSets', WHERE WHAT IT READS IS OF BULK AT MOST 1048576: true; the input reads as it did. -/
def ruleSetsUptoRow : OpenClaim := { program := "ytgfnpkpbebihgaa", sum := "c7fd9f563ca5e7f666e93c66cc38f1214640a06f2bae57cfa8f164848e69ddef", func := "customhouse/customhouselaw05.RuleSets", spec := "ruleSets", unfollowed := true, recurses := true, apart := false, narrowed := true }
def RuleSetsUptoSaid : Prop := ruleSetsUptoRow.holds Try.pinned (OpenSpec.upto ruleSetsSpec)

/-- 'customhouselaw05.RuleKeeps', WHERE WHAT IT READS IS OF BULK AT MOST 1048576: true; the input reads as it did. -/
def ruleKeepsUptoRow : OpenClaim := { program := "ytgfnpkpbebihgaa", sum := "c7fd9f563ca5e7f666e93c66cc38f1214640a06f2bae57cfa8f164848e69ddef", func := "customhouse/customhouselaw05.RuleKeeps", spec := "ruleKeeps", unfollowed := true, recurses := true, apart := false, narrowed := true }
def RuleKeepsUptoSaid : Prop := ruleKeepsUptoRow.holds Try.pinned (OpenSpec.upto ruleKeepsSpec)

/-- 'customhouselaw08.ConfigSound', WHERE WHAT IT READS IS OF BULK AT MOST 1048576: true; the input reads as it did. -/
def configSoundUptoRow : OpenClaim := { program := "ytgfnpkpbebihgaa", sum := "c7fd9f563ca5e7f666e93c66cc38f1214640a06f2bae57cfa8f164848e69ddef", func := "customhouse/customhouselaw08.ConfigSound", spec := "configSound", inPlace := ["math/bits.Sub64"], unfollowed := true, recurses := true, apart := false, narrowed := true }
def ConfigSoundUptoSaid : Prop := configSoundUptoRow.holds Try.pinned (OpenSpec.upto configSoundSpec)

/-- 'customhouselaw08.ConfigStamps', WHERE WHAT IT READS IS OF BULK AT MOST 1048576: true; the input reads as it did. -/
def configStampsUptoRow : OpenClaim := { program := "ytgfnpkpbebihgaa", sum := "c7fd9f563ca5e7f666e93c66cc38f1214640a06f2bae57cfa8f164848e69ddef", func := "customhouse/customhouselaw08.ConfigStamps", spec := "configStamps", inPlace := ["math/bits.Sub64"], unfollowed := true, recurses := true, apart := false, narrowed := true }
def ConfigStampsUptoSaid : Prop := configStampsUptoRow.holds Try.pinned (OpenSpec.upto configStampsSpec)

/-- 'customhouselaw08.ConfigClones', WHERE WHAT IT READS IS OF BULK AT MOST 1048576: true; the input reads as it did. -/
def configClonesUptoRow : OpenClaim := { program := "ytgfnpkpbebihgaa", sum := "c7fd9f563ca5e7f666e93c66cc38f1214640a06f2bae57cfa8f164848e69ddef", func := "customhouse/customhouselaw08.ConfigClones", spec := "configClones", inPlace := ["math/bits.Sub64"], unfollowed := true, recurses := true, apart := false, narrowed := true }
def ConfigClonesUptoSaid : Prop := configClonesUptoRow.holds Try.pinned (OpenSpec.upto configClonesSpec)

/-- 'customhouselaw08.ConfigPeers', WHERE WHAT IT READS IS OF BULK AT MOST 1048576: true; the input reads as it did. -/
def configPeersUptoRow : OpenClaim := { program := "ytgfnpkpbebihgaa", sum := "c7fd9f563ca5e7f666e93c66cc38f1214640a06f2bae57cfa8f164848e69ddef", func := "customhouse/customhouselaw08.ConfigPeers", spec := "configPeers", inPlace := ["math/bits.Sub64"], unfollowed := true, recurses := true, apart := false, narrowed := true }
def ConfigPeersUptoSaid : Prop := configPeersUptoRow.holds Try.pinned (OpenSpec.upto configPeersSpec)

/-- 'customhouselaw08.ConfigAllows', WHERE WHAT IT READS IS OF BULK AT MOST 1048576: true; the input reads as it did. -/
def configAllowsUptoRow : OpenClaim := { program := "ytgfnpkpbebihgaa", sum := "c7fd9f563ca5e7f666e93c66cc38f1214640a06f2bae57cfa8f164848e69ddef", func := "customhouse/customhouselaw08.ConfigAllows", spec := "configAllows", inPlace := ["math/bits.Sub64"], unfollowed := true, recurses := true, apart := false, narrowed := true }
def ConfigAllowsUptoSaid : Prop := configAllowsUptoRow.holds Try.pinned (OpenSpec.upto configAllowsSpec)

end Rows
end Go.Proofs.Ytgfnpkpbebihgaa
