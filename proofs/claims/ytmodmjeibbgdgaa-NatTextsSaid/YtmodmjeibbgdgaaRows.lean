/-
  No cell of these rows narrows 'for every input' (looked for: loops, veiled, ifaces, maps, wideKeys, modest, calm, conditions, laid).
  DERIVED. THE GIVEN ROWS OF THIS SEAT. 9 by the template 'for every input the law returns true; each argument reads behind the call as it read before'; 0 by the template 'total and deterministic' (their statements: YtmodmjeibbgdgaaTotals.lean).
  GIVEN WITH THE SEED: the statements are not yours to turn. If you find one false, say at which input.
  Laid BY PROGRAM, IN A SANDBOX (cutbox-rows.mjs): the forced cells as the released guide's own fill.sh prints them over the translation 81596c99da77627b… (all of the seat's roots in one cut). By AI agents, Wed Nov 11 2026. No macro, syntax, notation, axiom, sorry.
-/
import Derived.Test.YtmodmjeibbgdgaaChecked
import GoSem.Claim
import GoSem.ClaimJoined
import GoSem.ClaimMapViews
import Derived.JoinedTies
import Derived.KernelRfl
namespace Go.Proofs.Ytmodmjeibbgdgaa
/- THE CELL 'sum', in the pinned program and in every row, IS THE sha256 OF THE DUMP (.gsa) THAT YtmodmjeibbgdgaaProg.lean LOADS. Nothing in Lean hashes anything: it is a label: what it is worth is what the hold of that sum in a sandbox is worth. -/
noncomputable def Try.pinned : Pinned := { name := "ytmodmjeibbgdgaa", sum := "81596c99da77627b386840e4b4a476c24fa190f75ba27f6c875e60f1e1f3d399", checked := Try.checked }
namespace Rows
def none {H : Type} : Left H := { results := [], args := [] }

/-- 'offcutlaw01.NatOrder': WHATEVER THE INPUT: true; the input reads as it did. -/
def natOrderSpec : ChangeSpec := { name := "natOrder", fn := fun _ => fun
  | [d1, d2] => { results := [.lit (.bool true)], args := [d1, d2] }
  | _ => none }
def natOrderRow : OpenClaim := { program := "ytmodmjeibbgdgaa", sum := "81596c99da77627b386840e4b4a476c24fa190f75ba27f6c875e60f1e1f3d399", func := "offcut/offcutlaw01.NatOrder", spec := "natOrder", unfollowed := true, recurses := true, apart := false }
def NatOrderSaid : Prop := natOrderRow.holds Try.pinned (OpenSpec.ofChange natOrderSpec)

/-- ITS FALSE NEIGHBOUR: 'it returns false'. Refute it at one input. -/
def natOrderWrong : ChangeSpec := { name := "natOrder", fn := fun _ => fun
  | [d1, d2] => { results := [.lit (.bool false)], args := [d1, d2] }
  | _ => none }
def NatOrderWrongFalsely : Prop := natOrderRow.holds Try.pinned (OpenSpec.ofChange natOrderWrong)

/-- 'offcutlaw01.NatDivides': WHATEVER THE INPUT: true; the input reads as it did. -/
def natDividesSpec : ChangeSpec := { name := "natDivides", fn := fun _ => fun
  | [d1, d2] => { results := [.lit (.bool true)], args := [d1, d2] }
  | _ => none }
def natDividesRow : OpenClaim := { program := "ytmodmjeibbgdgaa", sum := "81596c99da77627b386840e4b4a476c24fa190f75ba27f6c875e60f1e1f3d399", func := "offcut/offcutlaw01.NatDivides", spec := "natDivides", unfollowed := true, recurses := true, apart := false }
def NatDividesSaid : Prop := natDividesRow.holds Try.pinned (OpenSpec.ofChange natDividesSpec)

/-- ITS FALSE NEIGHBOUR: 'it returns false'. Refute it at one input. -/
def natDividesWrong : ChangeSpec := { name := "natDivides", fn := fun _ => fun
  | [d1, d2] => { results := [.lit (.bool false)], args := [d1, d2] }
  | _ => none }
def NatDividesWrongFalsely : Prop := natDividesRow.holds Try.pinned (OpenSpec.ofChange natDividesWrong)

/-- 'offcutlaw01.NatCommon': WHATEVER THE INPUT: true; the input reads as it did. -/
def natCommonSpec : ChangeSpec := { name := "natCommon", fn := fun _ => fun
  | [d1, d2] => { results := [.lit (.bool true)], args := [d1, d2] }
  | _ => none }
def natCommonRow : OpenClaim := { program := "ytmodmjeibbgdgaa", sum := "81596c99da77627b386840e4b4a476c24fa190f75ba27f6c875e60f1e1f3d399", func := "offcut/offcutlaw01.NatCommon", spec := "natCommon", unfollowed := true, recurses := true, apart := false }
def NatCommonSaid : Prop := natCommonRow.holds Try.pinned (OpenSpec.ofChange natCommonSpec)

/-- ITS FALSE NEIGHBOUR: 'it returns false'. Refute it at one input. -/
def natCommonWrong : ChangeSpec := { name := "natCommon", fn := fun _ => fun
  | [d1, d2] => { results := [.lit (.bool false)], args := [d1, d2] }
  | _ => none }
def NatCommonWrongFalsely : Prop := natCommonRow.holds Try.pinned (OpenSpec.ofChange natCommonWrong)

/-- 'offcutlaw01.NatShifts': WHATEVER THE INPUT: true; the input reads as it did. -/
def natShiftsSpec : ChangeSpec := { name := "natShifts", fn := fun _ => fun
  | [d1, d2] => { results := [.lit (.bool true)], args := [d1, d2] }
  | _ => none }
def natShiftsRow : OpenClaim := { program := "ytmodmjeibbgdgaa", sum := "81596c99da77627b386840e4b4a476c24fa190f75ba27f6c875e60f1e1f3d399", func := "offcut/offcutlaw01.NatShifts", spec := "natShifts", unfollowed := true, recurses := true, apart := false }
def NatShiftsSaid : Prop := natShiftsRow.holds Try.pinned (OpenSpec.ofChange natShiftsSpec)

/-- ITS FALSE NEIGHBOUR: 'it returns false'. Refute it at one input. -/
def natShiftsWrong : ChangeSpec := { name := "natShifts", fn := fun _ => fun
  | [d1, d2] => { results := [.lit (.bool false)], args := [d1, d2] }
  | _ => none }
def NatShiftsWrongFalsely : Prop := natShiftsRow.holds Try.pinned (OpenSpec.ofChange natShiftsWrong)

/-- 'offcutlaw01.NatSums': WHATEVER THE INPUT: true; the input reads as it did. -/
def natSumsSpec : ChangeSpec := { name := "natSums", fn := fun _ => fun
  | [d1, d2] => { results := [.lit (.bool true)], args := [d1, d2] }
  | _ => none }
def natSumsRow : OpenClaim := { program := "ytmodmjeibbgdgaa", sum := "81596c99da77627b386840e4b4a476c24fa190f75ba27f6c875e60f1e1f3d399", func := "offcut/offcutlaw01.NatSums", spec := "natSums", unfollowed := true, recurses := true, apart := false }
def NatSumsSaid : Prop := natSumsRow.holds Try.pinned (OpenSpec.ofChange natSumsSpec)

/-- ITS FALSE NEIGHBOUR: 'it returns false'. Refute it at one input. -/
def natSumsWrong : ChangeSpec := { name := "natSums", fn := fun _ => fun
  | [d1, d2] => { results := [.lit (.bool false)], args := [d1, d2] }
  | _ => none }
def NatSumsWrongFalsely : Prop := natSumsRow.holds Try.pinned (OpenSpec.ofChange natSumsWrong)

/-- 'offcutlaw01.NatOrders': WHATEVER THE INPUT: true; the input reads as it did. -/
def natOrdersSpec : ChangeSpec := { name := "natOrders", fn := fun _ => fun
  | [d1, d2, d3] => { results := [.lit (.bool true)], args := [d1, d2, d3] }
  | _ => none }
def natOrdersRow : OpenClaim := { program := "ytmodmjeibbgdgaa", sum := "81596c99da77627b386840e4b4a476c24fa190f75ba27f6c875e60f1e1f3d399", func := "offcut/offcutlaw01.NatOrders", spec := "natOrders", unfollowed := true, recurses := true, apart := false }
def NatOrdersSaid : Prop := natOrdersRow.holds Try.pinned (OpenSpec.ofChange natOrdersSpec)

/-- ITS FALSE NEIGHBOUR: 'it returns false'. Refute it at one input. -/
def natOrdersWrong : ChangeSpec := { name := "natOrders", fn := fun _ => fun
  | [d1, d2, d3] => { results := [.lit (.bool false)], args := [d1, d2, d3] }
  | _ => none }
def NatOrdersWrongFalsely : Prop := natOrdersRow.holds Try.pinned (OpenSpec.ofChange natOrdersWrong)

/-- 'offcutlaw01.NatWhole': WHATEVER THE INPUT: true; the input reads as it did. -/
def natWholeSpec : ChangeSpec := { name := "natWhole", fn := fun _ => fun
  | [d1, d2] => { results := [.lit (.bool true)], args := [d1, d2] }
  | _ => none }
def natWholeRow : OpenClaim := { program := "ytmodmjeibbgdgaa", sum := "81596c99da77627b386840e4b4a476c24fa190f75ba27f6c875e60f1e1f3d399", func := "offcut/offcutlaw01.NatWhole", spec := "natWhole", unfollowed := true, recurses := true, apart := false }
def NatWholeSaid : Prop := natWholeRow.holds Try.pinned (OpenSpec.ofChange natWholeSpec)

/-- ITS FALSE NEIGHBOUR: 'it returns false'. Refute it at one input. -/
def natWholeWrong : ChangeSpec := { name := "natWhole", fn := fun _ => fun
  | [d1, d2] => { results := [.lit (.bool false)], args := [d1, d2] }
  | _ => none }
def NatWholeWrongFalsely : Prop := natWholeRow.holds Try.pinned (OpenSpec.ofChange natWholeWrong)

/-- 'offcutlaw01.NatRules': WHATEVER THE INPUT: true; the input reads as it did. -/
def natRulesSpec : ChangeSpec := { name := "natRules", fn := fun _ => fun
  | [d1, d2, d3] => { results := [.lit (.bool true)], args := [d1, d2, d3] }
  | _ => none }
def natRulesRow : OpenClaim := { program := "ytmodmjeibbgdgaa", sum := "81596c99da77627b386840e4b4a476c24fa190f75ba27f6c875e60f1e1f3d399", func := "offcut/offcutlaw01.NatRules", spec := "natRules", unfollowed := true, recurses := true, apart := false }
def NatRulesSaid : Prop := natRulesRow.holds Try.pinned (OpenSpec.ofChange natRulesSpec)

/-- ITS FALSE NEIGHBOUR: 'it returns false'. Refute it at one input. -/
def natRulesWrong : ChangeSpec := { name := "natRules", fn := fun _ => fun
  | [d1, d2, d3] => { results := [.lit (.bool false)], args := [d1, d2, d3] }
  | _ => none }
def NatRulesWrongFalsely : Prop := natRulesRow.holds Try.pinned (OpenSpec.ofChange natRulesWrong)

/-- 'offcutlaw01.NatTexts': WHATEVER THE INPUT: true; the input reads as it did. -/
def natTextsSpec : ChangeSpec := { name := "natTexts", fn := fun _ => fun
  | [d1, d2] => { results := [.lit (.bool true)], args := [d1, d2] }
  | _ => none }
def natTextsRow : OpenClaim := { program := "ytmodmjeibbgdgaa", sum := "81596c99da77627b386840e4b4a476c24fa190f75ba27f6c875e60f1e1f3d399", func := "offcut/offcutlaw01.NatTexts", spec := "natTexts", unfollowed := true, recurses := true, apart := false }
def NatTextsSaid : Prop := natTextsRow.holds Try.pinned (OpenSpec.ofChange natTextsSpec)

/-- ITS FALSE NEIGHBOUR: 'it returns false'. Refute it at one input. -/
def natTextsWrong : ChangeSpec := { name := "natTexts", fn := fun _ => fun
  | [d1, d2] => { results := [.lit (.bool false)], args := [d1, d2] }
  | _ => none }
def NatTextsWrongFalsely : Prop := natTextsRow.holds Try.pinned (OpenSpec.ofChange natTextsWrong)

/- THE SECOND FORM. 'bulk': how many values and letters a reading holds, each counted each time it is reached (what is shared counts as often as it is met; a slice's spare places count too). A statement '..UptoSaid' is the law's where the arguments, and the package variables that the reading takes, are together of bulk at most 1048576: NARROWER than '..Said'. Prove '..Said' where nothing that the law and all that it calls make is longer than what came in: it says more and counts as full. Else prove '..UptoSaid'. A law counts once. -/
mutual
def uptoBulk {H : Type} : DataW H → Nat
  | .lit (.string bytes) => bytes.length + 1
  | .lit _ => 1
  | .nil => 1
  | .ptr d => uptoBulk d + 1
  | .slice elems spare => uptoBulkAll elems + uptoBulkAll spare + 1
  | .agg parts => uptoBulkAll parts + 1
  | .iface _ d => uptoBulk d + 1
  | .map entries => uptoBulkEntries entries + 1
  | .held _ => 1
def uptoBulkAll {H : Type} : List (DataW H) → Nat
  | [] => 0
  | d :: r => uptoBulk d + uptoBulkAll r
def uptoBulkEntries {H : Type} : List (Lit × DataW H) → Nat
  | [] => 0
  | x :: r => uptoBulkEntry x + uptoBulkEntries r
def uptoBulkEntry {H : Type} : Lit × DataW H → Nat
  | (.string bytes, d) => bytes.length + uptoBulk d + 1
  | (_, d) => uptoBulk d + 1
 end
def uptoSmall : (H : Type) → List (DataW H) → Bool := fun _ ds => decide (uptoBulkAll ds ≤ 1048576)
def OpenSpec.upto (s : _root_.Go.ChangeSpec) : _root_.Go.OpenSpec := { _root_.Go.OpenSpec.ofChange s with cond := some uptoSmall }

/-- 'offcutlaw01.NatOrder', WHERE WHAT IT READS IS OF BULK AT MOST 1048576: true; the input reads as it did. -/
def natOrderUptoRow : OpenClaim := { program := "ytmodmjeibbgdgaa", sum := "81596c99da77627b386840e4b4a476c24fa190f75ba27f6c875e60f1e1f3d399", func := "offcut/offcutlaw01.NatOrder", spec := "natOrder", unfollowed := true, recurses := true, apart := false, narrowed := true }
def NatOrderUptoSaid : Prop := natOrderUptoRow.holds Try.pinned (OpenSpec.upto natOrderSpec)

/-- 'offcutlaw01.NatDivides', WHERE WHAT IT READS IS OF BULK AT MOST 1048576: true; the input reads as it did. -/
def natDividesUptoRow : OpenClaim := { program := "ytmodmjeibbgdgaa", sum := "81596c99da77627b386840e4b4a476c24fa190f75ba27f6c875e60f1e1f3d399", func := "offcut/offcutlaw01.NatDivides", spec := "natDivides", unfollowed := true, recurses := true, apart := false, narrowed := true }
def NatDividesUptoSaid : Prop := natDividesUptoRow.holds Try.pinned (OpenSpec.upto natDividesSpec)

/-- 'offcutlaw01.NatCommon', WHERE WHAT IT READS IS OF BULK AT MOST 1048576: true; the input reads as it did. -/
def natCommonUptoRow : OpenClaim := { program := "ytmodmjeibbgdgaa", sum := "81596c99da77627b386840e4b4a476c24fa190f75ba27f6c875e60f1e1f3d399", func := "offcut/offcutlaw01.NatCommon", spec := "natCommon", unfollowed := true, recurses := true, apart := false, narrowed := true }
def NatCommonUptoSaid : Prop := natCommonUptoRow.holds Try.pinned (OpenSpec.upto natCommonSpec)

/-- 'offcutlaw01.NatShifts', WHERE WHAT IT READS IS OF BULK AT MOST 1048576: true; the input reads as it did. -/
def natShiftsUptoRow : OpenClaim := { program := "ytmodmjeibbgdgaa", sum := "81596c99da77627b386840e4b4a476c24fa190f75ba27f6c875e60f1e1f3d399", func := "offcut/offcutlaw01.NatShifts", spec := "natShifts", unfollowed := true, recurses := true, apart := false, narrowed := true }
def NatShiftsUptoSaid : Prop := natShiftsUptoRow.holds Try.pinned (OpenSpec.upto natShiftsSpec)

/-- 'offcutlaw01.NatSums', WHERE WHAT IT READS IS OF BULK AT MOST 1048576: true; the input reads as it did. -/
def natSumsUptoRow : OpenClaim := { program := "ytmodmjeibbgdgaa", sum := "81596c99da77627b386840e4b4a476c24fa190f75ba27f6c875e60f1e1f3d399", func := "offcut/offcutlaw01.NatSums", spec := "natSums", unfollowed := true, recurses := true, apart := false, narrowed := true }
def NatSumsUptoSaid : Prop := natSumsUptoRow.holds Try.pinned (OpenSpec.upto natSumsSpec)

/-- 'offcutlaw01.NatOrders', WHERE WHAT IT READS IS OF BULK AT MOST 1048576: true; the input reads as it did. -/
def natOrdersUptoRow : OpenClaim := { program := "ytmodmjeibbgdgaa", sum := "81596c99da77627b386840e4b4a476c24fa190f75ba27f6c875e60f1e1f3d399", func := "offcut/offcutlaw01.NatOrders", spec := "natOrders", unfollowed := true, recurses := true, apart := false, narrowed := true }
def NatOrdersUptoSaid : Prop := natOrdersUptoRow.holds Try.pinned (OpenSpec.upto natOrdersSpec)

/-- 'offcutlaw01.NatWhole', WHERE WHAT IT READS IS OF BULK AT MOST 1048576: true; the input reads as it did. -/
def natWholeUptoRow : OpenClaim := { program := "ytmodmjeibbgdgaa", sum := "81596c99da77627b386840e4b4a476c24fa190f75ba27f6c875e60f1e1f3d399", func := "offcut/offcutlaw01.NatWhole", spec := "natWhole", unfollowed := true, recurses := true, apart := false, narrowed := true }
def NatWholeUptoSaid : Prop := natWholeUptoRow.holds Try.pinned (OpenSpec.upto natWholeSpec)

/-- 'offcutlaw01.NatRules', WHERE WHAT IT READS IS OF BULK AT MOST 1048576: true; the input reads as it did. -/
def natRulesUptoRow : OpenClaim := { program := "ytmodmjeibbgdgaa", sum := "81596c99da77627b386840e4b4a476c24fa190f75ba27f6c875e60f1e1f3d399", func := "offcut/offcutlaw01.NatRules", spec := "natRules", unfollowed := true, recurses := true, apart := false, narrowed := true }
def NatRulesUptoSaid : Prop := natRulesUptoRow.holds Try.pinned (OpenSpec.upto natRulesSpec)

/-- 'offcutlaw01.NatTexts', WHERE WHAT IT READS IS OF BULK AT MOST 1048576: true; the input reads as it did. -/
def natTextsUptoRow : OpenClaim := { program := "ytmodmjeibbgdgaa", sum := "81596c99da77627b386840e4b4a476c24fa190f75ba27f6c875e60f1e1f3d399", func := "offcut/offcutlaw01.NatTexts", spec := "natTexts", unfollowed := true, recurses := true, apart := false, narrowed := true }
def NatTextsUptoSaid : Prop := natTextsUptoRow.holds Try.pinned (OpenSpec.upto natTextsSpec)

end Rows
end Go.Proofs.Ytmodmjeibbgdgaa
