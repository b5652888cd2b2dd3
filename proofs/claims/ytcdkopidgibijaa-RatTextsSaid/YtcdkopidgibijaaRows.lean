/-
  No cell of these rows narrows 'for every input' (looked for: loops, veiled, ifaces, maps, wideKeys, modest, calm, conditions, laid).
  DERIVED. THE GIVEN ROWS OF THIS SEAT. 7 by the template 'for every input the law returns true; each argument reads behind the call as it read before'; 0 by the template 'total and deterministic' (their statements: YtcdkopidgibijaaTotals.lean).
  GIVEN WITH THE SEED: the statements are not yours to turn. If you find one false, say at which input.
  Laid BY PROGRAM, IN A SANDBOX (cutbox-rows.mjs): the forced cells as the released guide's own fill.sh prints them over the translation 50f52f27e9abe5c2… (all of the seat's roots in one cut). By AI agents, Wed Nov 11 2026. No macro, syntax, notation, axiom, sorry.
-/
import Derived.Test.YtcdkopidgibijaaChecked
import GoSem.Claim
import GoSem.ClaimJoined
import GoSem.ClaimMapViews
import Derived.JoinedTies
import Derived.KernelRfl
namespace Go.Proofs.Ytcdkopidgibijaa
/- THE CELL 'sum', in the pinned program and in every row, IS THE sha256 OF THE DUMP (.gsa) THAT YtcdkopidgibijaaProg.lean LOADS. Nothing in Lean hashes anything: it is a label: what it is worth is what the hold of that sum in a sandbox is worth. -/
noncomputable def Try.pinned : Pinned := { name := "ytcdkopidgibijaa", sum := "50f52f27e9abe5c2461df381be27c857e875b17132ae963c53d934d52029e39c", checked := Try.checked }
namespace Rows
def none {H : Type} : Left H := { results := [], args := [] }

/-- 'offcutlaw03.RatDivides': WHATEVER THE INPUT: true; the input reads as it did. -/
def ratDividesSpec : ChangeSpec := { name := "ratDivides", fn := fun _ => fun
  | [d1, d2] => { results := [.lit (.bool true)], args := [d1, d2] }
  | _ => none }
def ratDividesRow : OpenClaim := { program := "ytcdkopidgibijaa", sum := "50f52f27e9abe5c2461df381be27c857e875b17132ae963c53d934d52029e39c", func := "offcut/offcutlaw03.RatDivides", spec := "ratDivides", unfollowed := true, recurses := true, apart := false }
def RatDividesSaid : Prop := ratDividesRow.holds Try.pinned (OpenSpec.ofChange ratDividesSpec)

/-- ITS FALSE NEIGHBOUR: 'it returns false'. Refute it at one input. -/
def ratDividesWrong : ChangeSpec := { name := "ratDivides", fn := fun _ => fun
  | [d1, d2] => { results := [.lit (.bool false)], args := [d1, d2] }
  | _ => none }
def RatDividesWrongFalsely : Prop := ratDividesRow.holds Try.pinned (OpenSpec.ofChange ratDividesWrong)

/-- 'offcutlaw03.RatRounds': WHATEVER THE INPUT: true; the input reads as it did. -/
def ratRoundsSpec : ChangeSpec := { name := "ratRounds", fn := fun _ => fun
  | [d] => { results := [.lit (.bool true)], args := [d] }
  | _ => none }
def ratRoundsRow : OpenClaim := { program := "ytcdkopidgibijaa", sum := "50f52f27e9abe5c2461df381be27c857e875b17132ae963c53d934d52029e39c", func := "offcut/offcutlaw03.RatRounds", spec := "ratRounds", unfollowed := true, recurses := true, apart := false }
def RatRoundsSaid : Prop := ratRoundsRow.holds Try.pinned (OpenSpec.ofChange ratRoundsSpec)

/-- ITS FALSE NEIGHBOUR: 'it returns false'. Refute it at one input. -/
def ratRoundsWrong : ChangeSpec := { name := "ratRounds", fn := fun _ => fun
  | [d] => { results := [.lit (.bool false)], args := [d] }
  | _ => none }
def RatRoundsWrongFalsely : Prop := ratRoundsRow.holds Try.pinned (OpenSpec.ofChange ratRoundsWrong)

/-- 'offcutlaw03.RatWhole': WHATEVER THE INPUT: true; the input reads as it did. -/
def ratWholeSpec : ChangeSpec := { name := "ratWhole", fn := fun _ => fun
  | [d1, d2] => { results := [.lit (.bool true)], args := [d1, d2] }
  | _ => none }
def ratWholeRow : OpenClaim := { program := "ytcdkopidgibijaa", sum := "50f52f27e9abe5c2461df381be27c857e875b17132ae963c53d934d52029e39c", func := "offcut/offcutlaw03.RatWhole", spec := "ratWhole", unfollowed := true, recurses := true, apart := false }
def RatWholeSaid : Prop := ratWholeRow.holds Try.pinned (OpenSpec.ofChange ratWholeSpec)

/-- ITS FALSE NEIGHBOUR: 'it returns false'. Refute it at one input. -/
def ratWholeWrong : ChangeSpec := { name := "ratWhole", fn := fun _ => fun
  | [d1, d2] => { results := [.lit (.bool false)], args := [d1, d2] }
  | _ => none }
def RatWholeWrongFalsely : Prop := ratWholeRow.holds Try.pinned (OpenSpec.ofChange ratWholeWrong)

/-- 'offcutlaw03.RatSums': WHATEVER THE INPUT: true; the input reads as it did. -/
def ratSumsSpec : ChangeSpec := { name := "ratSums", fn := fun _ => fun
  | [d1, d2] => { results := [.lit (.bool true)], args := [d1, d2] }
  | _ => none }
def ratSumsRow : OpenClaim := { program := "ytcdkopidgibijaa", sum := "50f52f27e9abe5c2461df381be27c857e875b17132ae963c53d934d52029e39c", func := "offcut/offcutlaw03.RatSums", spec := "ratSums", unfollowed := true, recurses := true, apart := false }
def RatSumsSaid : Prop := ratSumsRow.holds Try.pinned (OpenSpec.ofChange ratSumsSpec)

/-- ITS FALSE NEIGHBOUR: 'it returns false'. Refute it at one input. -/
def ratSumsWrong : ChangeSpec := { name := "ratSums", fn := fun _ => fun
  | [d1, d2] => { results := [.lit (.bool false)], args := [d1, d2] }
  | _ => none }
def RatSumsWrongFalsely : Prop := ratSumsRow.holds Try.pinned (OpenSpec.ofChange ratSumsWrong)

/-- 'offcutlaw03.RatRules': WHATEVER THE INPUT: true; the input reads as it did. -/
def ratRulesSpec : ChangeSpec := { name := "ratRules", fn := fun _ => fun
  | [d1, d2, d3] => { results := [.lit (.bool true)], args := [d1, d2, d3] }
  | _ => none }
def ratRulesRow : OpenClaim := { program := "ytcdkopidgibijaa", sum := "50f52f27e9abe5c2461df381be27c857e875b17132ae963c53d934d52029e39c", func := "offcut/offcutlaw03.RatRules", spec := "ratRules", unfollowed := true, recurses := true, apart := false }
def RatRulesSaid : Prop := ratRulesRow.holds Try.pinned (OpenSpec.ofChange ratRulesSpec)

/-- ITS FALSE NEIGHBOUR: 'it returns false'. Refute it at one input. -/
def ratRulesWrong : ChangeSpec := { name := "ratRules", fn := fun _ => fun
  | [d1, d2, d3] => { results := [.lit (.bool false)], args := [d1, d2, d3] }
  | _ => none }
def RatRulesWrongFalsely : Prop := ratRulesRow.holds Try.pinned (OpenSpec.ofChange ratRulesWrong)

/-- 'offcutlaw03.RatFloors': WHATEVER THE INPUT: true; the input reads as it did. -/
def ratFloorsSpec : ChangeSpec := { name := "ratFloors", fn := fun _ => fun
  | [d] => { results := [.lit (.bool true)], args := [d] }
  | _ => none }
def ratFloorsRow : OpenClaim := { program := "ytcdkopidgibijaa", sum := "50f52f27e9abe5c2461df381be27c857e875b17132ae963c53d934d52029e39c", func := "offcut/offcutlaw03.RatFloors", spec := "ratFloors", unfollowed := true, recurses := true, apart := false }
def RatFloorsSaid : Prop := ratFloorsRow.holds Try.pinned (OpenSpec.ofChange ratFloorsSpec)

/-- ITS FALSE NEIGHBOUR: 'it returns false'. Refute it at one input. -/
def ratFloorsWrong : ChangeSpec := { name := "ratFloors", fn := fun _ => fun
  | [d] => { results := [.lit (.bool false)], args := [d] }
  | _ => none }
def RatFloorsWrongFalsely : Prop := ratFloorsRow.holds Try.pinned (OpenSpec.ofChange ratFloorsWrong)

/-- 'offcutlaw03.RatTexts': WHATEVER THE INPUT: true; the input reads as it did. -/
def ratTextsSpec : ChangeSpec := { name := "ratTexts", fn := fun _ => fun
  | [d1, d2] => { results := [.lit (.bool true)], args := [d1, d2] }
  | _ => none }
def ratTextsRow : OpenClaim := { program := "ytcdkopidgibijaa", sum := "50f52f27e9abe5c2461df381be27c857e875b17132ae963c53d934d52029e39c", func := "offcut/offcutlaw03.RatTexts", spec := "ratTexts", inPlace := ["internal/bytealg.IndexByteString", "internal/bytealg.IndexString"], unfollowed := true, recurses := true, named := ["internal/bytealg.MaxLen"], apart := false }
def RatTextsSaid : Prop := ratTextsRow.holds Try.pinned (OpenSpec.ofChange ratTextsSpec)

/-- ITS FALSE NEIGHBOUR: 'it returns false'. Refute it at one input. -/
def ratTextsWrong : ChangeSpec := { name := "ratTexts", fn := fun _ => fun
  | [d1, d2] => { results := [.lit (.bool false)], args := [d1, d2] }
  | _ => none }
def RatTextsWrongFalsely : Prop := ratTextsRow.holds Try.pinned (OpenSpec.ofChange ratTextsWrong)

/- THE SECOND FORM. 'bulk': how many values and letters a reading holds, each counted each time it is reached (what is shared counts as often as it is met; a slice's spare places count too). A statement '..UptoSaid' is the law's where the arguments, and the package variables that the reading takes, are together of bulk at most 1048576: NARROWER than '..Said'. Prove '..Said' where nothing that the law and all that it calls make is longer than what came in: it says more and counts as full. Else prove '..UptoSaid'. A law counts once. -/
mutual
def uptoBulk {H : Type} : DataW H → Nat
  | .lit (.string bytes) => bytes.length + 1
  | .lit _ => 1
  | .nil => 1
  | .ptr d => uptoBulk d + 1
  | .slice elems spare => uptoBulkAll elems + uptoBulkAll spare + 1
  | .agg parts => uptoBulkAll parts + 1
  | .iface _ d => uptoBulk d + 1
  | .map entries => uptoBulkEntries entries + 1
  | .held _ => 1
def uptoBulkAll {H : Type} : List (DataW H) → Nat
  | [] => 0
  | d :: r => uptoBulk d + uptoBulkAll r
def uptoBulkEntries {H : Type} : List (Lit × DataW H) → Nat
  | [] => 0
  | x :: r => uptoBulkEntry x + uptoBulkEntries r
def uptoBulkEntry {H : Type} : Lit × DataW H → Nat
  | (.string bytes, d) => bytes.length + uptoBulk d + 1
  | (_, d) => uptoBulk d + 1
 end
def uptoSmall : (H : Type) → List (DataW H) → Bool := fun _ ds => decide (uptoBulkAll ds ≤ 1048576)
def OpenSpec.upto (s : _root_.Go.ChangeSpec) : _root_.Go.OpenSpec := { _root_.Go.OpenSpec.ofChange s with cond := some uptoSmall }

/-- 'offcutlaw03.RatDivides', WHERE WHAT IT READS IS OF BULK AT MOST 1048576: true; the input reads as it did. -/
def ratDividesUptoRow : OpenClaim := { program := "ytcdkopidgibijaa", sum := "50f52f27e9abe5c2461df381be27c857e875b17132ae963c53d934d52029e39c", func := "offcut/offcutlaw03.RatDivides", spec := "ratDivides", unfollowed := true, recurses := true, apart := false, narrowed := true }
def RatDividesUptoSaid : Prop := ratDividesUptoRow.holds Try.pinned (OpenSpec.upto ratDividesSpec)

/-- 'offcutlaw03.RatRounds', WHERE WHAT IT READS IS OF BULK AT MOST 1048576: true; the input reads as it did. -/
def ratRoundsUptoRow : OpenClaim := { program := "ytcdkopidgibijaa", sum := "50f52f27e9abe5c2461df381be27c857e875b17132ae963c53d934d52029e39c", func := "offcut/offcutlaw03.RatRounds", spec := "ratRounds", unfollowed := true, recurses := true, apart := false, narrowed := true }
def RatRoundsUptoSaid : Prop := ratRoundsUptoRow.holds Try.pinned (OpenSpec.upto ratRoundsSpec)

/-- 'offcutlaw03.RatWhole', WHERE WHAT IT READS IS OF BULK AT MOST 1048576: true; the input reads as it did. -/
def ratWholeUptoRow : OpenClaim := { program := "ytcdkopidgibijaa", sum := "50f52f27e9abe5c2461df381be27c857e875b17132ae963c53d934d52029e39c", func := "offcut/offcutlaw03.RatWhole", spec := "ratWhole", unfollowed := true, recurses := true, apart := false, narrowed := true }
def RatWholeUptoSaid : Prop := ratWholeUptoRow.holds Try.pinned (OpenSpec.upto ratWholeSpec)

/-- 'offcutlaw03.RatSums', WHERE WHAT IT READS IS OF BULK AT MOST 1048576: true; the input reads as it did. -/
def ratSumsUptoRow : OpenClaim := { program := "ytcdkopidgibijaa", sum := "50f52f27e9abe5c2461df381be27c857e875b17132ae963c53d934d52029e39c", func := "offcut/offcutlaw03.RatSums", spec := "ratSums", unfollowed := true, recurses := true, apart := false, narrowed := true }
def RatSumsUptoSaid : Prop := ratSumsUptoRow.holds Try.pinned (OpenSpec.upto ratSumsSpec)

/-- 'offcutlaw03.RatRules', WHERE WHAT IT READS IS OF BULK AT MOST 1048576: true; the input reads as it did. -/
def ratRulesUptoRow : OpenClaim := { program := "ytcdkopidgibijaa", sum := "50f52f27e9abe5c2461df381be27c857e875b17132ae963c53d934d52029e39c", func := "offcut/offcutlaw03.RatRules", spec := "ratRules", unfollowed := true, recurses := true, apart := false, narrowed := true }
def RatRulesUptoSaid : Prop := ratRulesUptoRow.holds Try.pinned (OpenSpec.upto ratRulesSpec)

/-- 'offcutlaw03.RatFloors', WHERE WHAT IT READS IS OF BULK AT MOST 1048576: true; the input reads as it did. -/
def ratFloorsUptoRow : OpenClaim := { program := "ytcdkopidgibijaa", sum := "50f52f27e9abe5c2461df381be27c857e875b17132ae963c53d934d52029e39c", func := "offcut/offcutlaw03.RatFloors", spec := "ratFloors", unfollowed := true, recurses := true, apart := false, narrowed := true }
def RatFloorsUptoSaid : Prop := ratFloorsUptoRow.holds Try.pinned (OpenSpec.upto ratFloorsSpec)

/-- 'offcutlaw03.RatTexts', WHERE WHAT IT READS IS OF BULK AT MOST 1048576: true; the input reads as it did. -/
def ratTextsUptoRow : OpenClaim := { program := "ytcdkopidgibijaa", sum := "50f52f27e9abe5c2461df381be27c857e875b17132ae963c53d934d52029e39c", func := "offcut/offcutlaw03.RatTexts", spec := "ratTexts", inPlace := ["internal/bytealg.IndexByteString", "internal/bytealg.IndexString"], unfollowed := true, recurses := true, named := ["internal/bytealg.MaxLen"], apart := false, narrowed := true }
def RatTextsUptoSaid : Prop := ratTextsUptoRow.holds Try.pinned (OpenSpec.upto ratTextsSpec)

end Rows
end Go.Proofs.Ytcdkopidgibijaa
