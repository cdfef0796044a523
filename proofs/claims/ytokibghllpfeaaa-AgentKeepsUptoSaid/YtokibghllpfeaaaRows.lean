/-
  No cell of these rows narrows 'for every input' (looked for: loops, veiled, ifaces, maps, wideKeys, modest, calm, conditions, laid).
  DERIVED. THE GIVEN ROWS OF THIS SEAT. 8 by the template 'for every input the law returns true; each argument reads behind the call as it read before'; 0 by the template 'total and deterministic' (their statements: YtokibghllpfeaaaTotals.lean).
  GIVEN WITH THE SEED: the statements are not yours to turn. If you find one false, say at which input.
  Laid BY PROGRAM, IN A SANDBOX (cutbox-rows.mjs): the forced cells as the released guide's own fill.sh prints them over the translation 9cb0bbe03db9e426… (all of the seat's roots in one cut). By AI agents, Wed Nov 11 2026. No macro, syntax, notation, axiom, sorry.
-/
import Derived.Test.YtokibghllpfeaaaChecked
import GoSem.Claim
import GoSem.ClaimJoined
import GoSem.ClaimMapViews
import Derived.JoinedTies
import Derived.KernelRfl
namespace Go.Proofs.Ytokibghllpfeaaa
/- THE CELL 'sum', in the pinned program and in every row, IS THE sha256 OF THE DUMP (.gsa) THAT YtokibghllpfeaaaProg.lean LOADS. Nothing in Lean hashes anything: it is a label: what it is worth is what the hold of that sum in a sandbox is worth. -/
noncomputable def Try.pinned : Pinned := { name := "ytokibghllpfeaaa", sum := "9cb0bbe03db9e4265e0ea3138d90729d96f71209a4ce93ac5270cb9b6b4226d3", checked := Try.checked }
namespace Rows
def none {H : Type} : Left H := { results := [], args := [] }

/-- 'customhouselaw23.AgentTwice': WHATEVER THE INPUT: true; the input reads as it did. -/
def agentTwiceSpec : ChangeSpec := { name := "agentTwice", fn := fun _ => fun
  | [d1, d2, d3] => { results := [.lit (.bool true)], args := [d1, d2, d3] }
  | _ => none }
def agentTwiceRow : OpenClaim := { program := "ytokibghllpfeaaa", sum := "9cb0bbe03db9e4265e0ea3138d90729d96f71209a4ce93ac5270cb9b6b4226d3", func := "customhouse/customhouselaw23.AgentTwice", spec := "agentTwice", unfollowed := true, recurses := true, apart := false }
def AgentTwiceSaid : Prop := agentTwiceRow.holds Try.pinned (OpenSpec.ofChange agentTwiceSpec)

/-- ITS FALSE NEIGHBOUR: 'it returns false'. Refute it at one input. -/
def agentTwiceWrong : ChangeSpec := { name := "agentTwice", fn := fun _ => fun
  | [d1, d2, d3] => { results := [.lit (.bool false)], args := [d1, d2, d3] }
  | _ => none }
def AgentTwiceWrongFalsely : Prop := agentTwiceRow.holds Try.pinned (OpenSpec.ofChange agentTwiceWrong)

/-- 'customhouselaw23.AgentPlays': WHATEVER THE INPUT: true; the input reads as it did. -/
def agentPlaysSpec : ChangeSpec := { name := "agentPlays", fn := fun _ => fun
  | [d1, d2, d3, d4, d5] => { results := [.lit (.bool true)], args := [d1, d2, d3, d4, d5] }
  | _ => none }
def agentPlaysRow : OpenClaim := { program := "ytokibghllpfeaaa", sum := "9cb0bbe03db9e4265e0ea3138d90729d96f71209a4ce93ac5270cb9b6b4226d3", func := "customhouse/customhouselaw23.AgentPlays", spec := "agentPlays", unfollowed := true, recurses := true, apart := false }
def AgentPlaysSaid : Prop := agentPlaysRow.holds Try.pinned (OpenSpec.ofChange agentPlaysSpec)

/-- ITS FALSE NEIGHBOUR: 'it returns false'. Refute it at one input. -/
def agentPlaysWrong : ChangeSpec := { name := "agentPlays", fn := fun _ => fun
  | [d1, d2, d3, d4, d5] => { results := [.lit (.bool false)], args := [d1, d2, d3, d4, d5] }
  | _ => none }
def AgentPlaysWrongFalsely : Prop := agentPlaysRow.holds Try.pinned (OpenSpec.ofChange agentPlaysWrong)

/-- 'customhouselaw23.AgentOwn': WHATEVER THE INPUT: true; the input reads as it did. -/
def agentOwnSpec : ChangeSpec := { name := "agentOwn", fn := fun _ => fun
  | [d] => { results := [.lit (.bool true)], args := [d] }
  | _ => none }
def agentOwnRow : OpenClaim := { program := "ytokibghllpfeaaa", sum := "9cb0bbe03db9e4265e0ea3138d90729d96f71209a4ce93ac5270cb9b6b4226d3", func := "customhouse/customhouselaw23.AgentOwn", spec := "agentOwn", unfollowed := true, recurses := true, apart := false }
def AgentOwnSaid : Prop := agentOwnRow.holds Try.pinned (OpenSpec.ofChange agentOwnSpec)

/-- ITS FALSE NEIGHBOUR: 'it returns false'. Refute it at one input. -/
def agentOwnWrong : ChangeSpec := { name := "agentOwn", fn := fun _ => fun
  | [d] => { results := [.lit (.bool false)], args := [d] }
  | _ => none }
def AgentOwnWrongFalsely : Prop := agentOwnRow.holds Try.pinned (OpenSpec.ofChange agentOwnWrong)

/-- 'customhouselaw23.AgentNone': WHATEVER THE INPUT: true; the input reads as it did. -/
def agentNoneSpec : ChangeSpec := { name := "agentNone", fn := fun _ => fun
  | [d1, d2] => { results := [.lit (.bool true)], args := [d1, d2] }
  | _ => none }
def agentNoneRow : OpenClaim := { program := "ytokibghllpfeaaa", sum := "9cb0bbe03db9e4265e0ea3138d90729d96f71209a4ce93ac5270cb9b6b4226d3", func := "customhouse/customhouselaw23.AgentNone", spec := "agentNone", unfollowed := true, recurses := true, apart := false }
def AgentNoneSaid : Prop := agentNoneRow.holds Try.pinned (OpenSpec.ofChange agentNoneSpec)

/-- ITS FALSE NEIGHBOUR: 'it returns false'. Refute it at one input. -/
def agentNoneWrong : ChangeSpec := { name := "agentNone", fn := fun _ => fun
  | [d1, d2] => { results := [.lit (.bool false)], args := [d1, d2] }
  | _ => none }
def AgentNoneWrongFalsely : Prop := agentNoneRow.holds Try.pinned (OpenSpec.ofChange agentNoneWrong)

/-- 'customhouselaw23.AgentKeeps': WHATEVER THE INPUT: true; the input reads as it did. -/
def agentKeepsSpec : ChangeSpec := { name := "agentKeeps", fn := fun _ => fun
  | [d1, d2] => { results := [.lit (.bool true)], args := [d1, d2] }
  | _ => none }
def agentKeepsRow : OpenClaim := { program := "ytokibghllpfeaaa", sum := "9cb0bbe03db9e4265e0ea3138d90729d96f71209a4ce93ac5270cb9b6b4226d3", func := "customhouse/customhouselaw23.AgentKeeps", spec := "agentKeeps", unfollowed := true, recurses := true, apart := false }
def AgentKeepsSaid : Prop := agentKeepsRow.holds Try.pinned (OpenSpec.ofChange agentKeepsSpec)

/-- ITS FALSE NEIGHBOUR: 'it returns false'. Refute it at one input. -/
def agentKeepsWrong : ChangeSpec := { name := "agentKeeps", fn := fun _ => fun
  | [d1, d2] => { results := [.lit (.bool false)], args := [d1, d2] }
  | _ => none }
def AgentKeepsWrongFalsely : Prop := agentKeepsRow.holds Try.pinned (OpenSpec.ofChange agentKeepsWrong)

/-- 'customhouselaw10.IdsMakes': WHATEVER THE INPUT: true; the input reads as it did. -/
def idsMakesSpec : ChangeSpec := { name := "idsMakes", fn := fun _ => fun
  | [d1, d2] => { results := [.lit (.bool true)], args := [d1, d2] }
  | _ => none }
def idsMakesRow : OpenClaim := { program := "ytokibghllpfeaaa", sum := "9cb0bbe03db9e4265e0ea3138d90729d96f71209a4ce93ac5270cb9b6b4226d3", func := "customhouse/customhouselaw10.IdsMakes", spec := "idsMakes", unfollowed := true, recurses := true, apart := false }
def IdsMakesSaid : Prop := idsMakesRow.holds Try.pinned (OpenSpec.ofChange idsMakesSpec)

/-- ITS FALSE NEIGHBOUR: 'it returns false'. Refute it at one input. -/
def idsMakesWrong : ChangeSpec := { name := "idsMakes", fn := fun _ => fun
  | [d1, d2] => { results := [.lit (.bool false)], args := [d1, d2] }
  | _ => none }
def IdsMakesWrongFalsely : Prop := idsMakesRow.holds Try.pinned (OpenSpec.ofChange idsMakesWrong)

/-- 'customhouselaw10.IdsMeets': WHATEVER THE INPUT: true; the input reads as it did. -/
def idsMeetsSpec : ChangeSpec := { name := "idsMeets", fn := fun _ => fun
  | [d1, d2] => { results := [.lit (.bool true)], args := [d1, d2] }
  | _ => none }
def idsMeetsRow : OpenClaim := { program := "ytokibghllpfeaaa", sum := "9cb0bbe03db9e4265e0ea3138d90729d96f71209a4ce93ac5270cb9b6b4226d3", func := "customhouse/customhouselaw10.IdsMeets", spec := "idsMeets", unfollowed := true, recurses := true, apart := false }
def IdsMeetsSaid : Prop := idsMeetsRow.holds Try.pinned (OpenSpec.ofChange idsMeetsSpec)

/-- ITS FALSE NEIGHBOUR: 'it returns false'. Refute it at one input. -/
def idsMeetsWrong : ChangeSpec := { name := "idsMeets", fn := fun _ => fun
  | [d1, d2] => { results := [.lit (.bool false)], args := [d1, d2] }
  | _ => none }
def IdsMeetsWrongFalsely : Prop := idsMeetsRow.holds Try.pinned (OpenSpec.ofChange idsMeetsWrong)

/-- 'customhouselaw10.IdsParts': WHATEVER THE INPUT: true; the input reads as it did. -/
def idsPartsSpec : ChangeSpec := { name := "idsParts", fn := fun _ => fun
  | [d1, d2] => { results := [.lit (.bool true)], args := [d1, d2] }
  | _ => none }
def idsPartsRow : OpenClaim := { program := "ytokibghllpfeaaa", sum := "9cb0bbe03db9e4265e0ea3138d90729d96f71209a4ce93ac5270cb9b6b4226d3", func := "customhouse/customhouselaw10.IdsParts", spec := "idsParts", unfollowed := true, recurses := true, apart := false }
def IdsPartsSaid : Prop := idsPartsRow.holds Try.pinned (OpenSpec.ofChange idsPartsSpec)

/-- ITS FALSE NEIGHBOUR: 'it returns false'. Refute it at one input. -/
def idsPartsWrong : ChangeSpec := { name := "idsParts", fn := fun _ => fun
  | [d1, d2] => { results := [.lit (.bool false)], args := [d1, d2] }
  | _ => none }
def IdsPartsWrongFalsely : Prop := idsPartsRow.holds Try.pinned (OpenSpec.ofChange idsPartsWrong)

/- THE SECOND FORM. 'bulk': how many values and letters a reading holds, each counted each time it is reached (what is shared counts as often as it is met; a slice's spare places count too). A statement '..UptoSaid' is the law's where the arguments, and the package variables that the reading takes, are together of bulk at most 1048576: NARROWER than '..Said'. Prove '..Said' where nothing that the law and all that it calls make is longer than what came in: it says more and counts as full. Else prove '..UptoSaid'. A law counts once. -/
mutual
def uptoBulk {H : Type} : DataW H → Nat
  | .lit (.string bytes) => bytes.length + 1
  | .lit _ => 1
  | .nil => 1
  | .ptr d => uptoBulk d + 1
  | .slice elems spare => uptoBulkAll elems + uptoBulkAll spare + 1
  | .agg parts => uptoBulkAll parts + 1
  | .iface _ d => uptoBulk d + 1
  | .map entries => uptoBulkEntries entries + 1
  | .held _ => 1
def uptoBulkAll {H : Type} : List (DataW H) → Nat
  | [] => 0
  | d :: r => uptoBulk d + uptoBulkAll r
def uptoBulkEntries {H : Type} : List (Lit × DataW H) → Nat
  | [] => 0
  | x :: r => uptoBulkEntry x + uptoBulkEntries r
def uptoBulkEntry {H : Type} : Lit × DataW H → Nat
  | (.string bytes, d) => bytes.length + uptoBulk d + 1
  | (_, d) => uptoBulk d + 1
 end
def uptoSmall : (H : Type) → List (DataW H) → Bool := fun _ ds => decide (uptoBulkAll ds ≤ 1048576)
def OpenSpec.upto (s : _root_.Go.ChangeSpec) : _root_.Go.OpenSpec := { _root_.Go.OpenSpec.ofChange s with cond := some uptoSmall }

/-- 'customhouselaw23.AgentTwice', WHERE WHAT IT READS IS OF BULK AT MOST 1048576: true; the input reads as it did. -/
def agentTwiceUptoRow : OpenClaim := { program := "ytokibghllpfeaaa", sum := "9cb0bbe03db9e4265e0ea3138d90729d96f71209a4ce93ac5270cb9b6b4226d3", func := "customhouse/customhouselaw23.AgentTwice", spec := "agentTwice", unfollowed := true, recurses := true, apart := false, narrowed := true }
def AgentTwiceUptoSaid : Prop := agentTwiceUptoRow.holds Try.pinned (OpenSpec.upto agentTwiceSpec)

/-- 'customhouselaw23.AgentPlays', WHERE WHAT IT READS IS OF BULK AT MOST 1048576: true; the input reads as it did. -/
def agentPlaysUptoRow : OpenClaim := { program := "ytokibghllpfeaaa", sum := "9cb0bbe03db9e4265e0ea3138d90729d96f71209a4ce93ac5270cb9b6b4226d3", func := "customhouse/customhouselaw23.AgentPlays", spec := "agentPlays", unfollowed := true, recurses := true, apart := false, narrowed := true }
def AgentPlaysUptoSaid : Prop := agentPlaysUptoRow.holds Try.pinned (OpenSpec.upto agentPlaysSpec)

/-- 'customhouselaw23.AgentOwn', WHERE WHAT IT READS IS OF BULK AT MOST 1048576: true; the input reads as it did. -/
def agentOwnUptoRow : OpenClaim := { program := "ytokibghllpfeaaa", sum := "9cb0bbe03db9e4265e0ea3138d90729d96f71209a4ce93ac5270cb9b6b4226d3", func := "customhouse/customhouselaw23.AgentOwn", spec := "agentOwn", unfollowed := true, recurses := true, apart := false, narrowed := true }
def AgentOwnUptoSaid : Prop := agentOwnUptoRow.holds Try.pinned (OpenSpec.upto agentOwnSpec)

/-- 'customhouselaw23.AgentNone', WHERE WHAT IT READS IS OF BULK AT MOST 1048576: true; the input reads as it did. -/
def agentNoneUptoRow : OpenClaim := { program := "ytokibghllpfeaaa", sum := "9cb0bbe03db9e4265e0ea3138d90729d96f71209a4ce93ac5270cb9b6b4226d3", func := "customhouse/customhouselaw23.AgentNone", spec := "agentNone", unfollowed := true, recurses := true, apart := false, narrowed := true }
def AgentNoneUptoSaid : Prop := agentNoneUptoRow.holds Try.pinned (OpenSpec.upto agentNoneSpec)

/-- 'customhouselaw23.AgentKeeps', WHERE WHAT IT READS IS OF BULK AT MOST 1048576: true; the input reads as it did. -/
def agentKeepsUptoRow : OpenClaim := { program := "ytokibghllpfeaaa", sum := "9cb0bbe03db9e4265e0ea3138d90729d96f71209a4ce93ac5270cb9b6b4226d3", func := "customhouse/customhouselaw23.AgentKeeps", spec := "agentKeeps", unfollowed := true, recurses := true, apart := false, narrowed := true }
def AgentKeepsUptoSaid : Prop := agentKeepsUptoRow.holds Try.pinned (OpenSpec.upto agentKeepsSpec)

/-- 'customhouselaw10.IdsMakes', WHERE WHAT IT READS IS OF BULK AT MOST 1048576: true; the input reads as it did. -/
def idsMakesUptoRow : OpenClaim := { program := "ytokibghllpfeaaa", sum := "9cb0bbe03db9e4265e0ea3138d90729d96f71209a4ce93ac5270cb9b6b4226d3", func := "customhouse/customhouselaw10.IdsMakes", spec := "idsMakes", unfollowed := true, recurses := true, apart := false, narrowed := true }
def IdsMakesUptoSaid : Prop := idsMakesUptoRow.holds Try.pinned (OpenSpec.upto idsMakesSpec)

/-- 'customhouselaw10.IdsMeets', WHERE WHAT IT READS IS OF BULK AT MOST 1048576: true; the input reads as it did. -/
def idsMeetsUptoRow : OpenClaim := { program := "ytokibghllpfeaaa", sum := "9cb0bbe03db9e4265e0ea3138d90729d96f71209a4ce93ac5270cb9b6b4226d3", func := "customhouse/customhouselaw10.IdsMeets", spec := "idsMeets", unfollowed := true, recurses := true, apart := false, narrowed := true }
def IdsMeetsUptoSaid : Prop := idsMeetsUptoRow.holds Try.pinned (OpenSpec.upto idsMeetsSpec)

/-- 'customhouselaw10.IdsParts', WHERE WHAT IT READS IS OF BULK AT MOST 1048576: true; the input reads as it did. -/
def idsPartsUptoRow : OpenClaim := { program := "ytokibghllpfeaaa", sum := "9cb0bbe03db9e4265e0ea3138d90729d96f71209a4ce93ac5270cb9b6b4226d3", func := "customhouse/customhouselaw10.IdsParts", spec := "idsParts", unfollowed := true, recurses := true, apart := false, narrowed := true }
def IdsPartsUptoSaid : Prop := idsPartsUptoRow.holds Try.pinned (OpenSpec.upto idsPartsSpec)

end Rows
end Go.Proofs.Ytokibghllpfeaaa
