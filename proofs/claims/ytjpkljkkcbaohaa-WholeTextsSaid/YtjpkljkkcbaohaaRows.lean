/-
  No cell of these rows narrows 'for every input' (looked for: loops, veiled, ifaces, maps, wideKeys, modest, calm, conditions, laid).
  DERIVED. THE GIVEN ROWS OF THIS SEAT. 14 by the template 'for every input the law returns true; each argument reads behind the call as it read before'; 0 by the template 'total and deterministic' (their statements: YtjpkljkkcbaohaaTotals.lean).
  GIVEN WITH THE SEED: the statements are not yours to turn. If you find one false, say at which input.
  Laid BY PROGRAM, IN A SANDBOX (cutbox-rows.mjs): the forced cells as the released guide's own fill.sh prints them over the translation 9bbc136a40c65eec… (all of the seat's roots in one cut). By AI agents, Wed Nov 11 2026. No macro, syntax, notation, axiom, sorry.
-/
import Derived.Test.YtjpkljkkcbaohaaChecked
import GoSem.Claim
import GoSem.ClaimJoined
import GoSem.ClaimMapViews
import Derived.JoinedTies
import Derived.KernelRfl
namespace Go.Proofs.Ytjpkljkkcbaohaa
/- THE CELL 'sum', in the pinned program and in every row, IS THE sha256 OF THE DUMP (.gsa) THAT YtjpkljkkcbaohaaProg.lean LOADS. Nothing in Lean hashes anything: it is a label: what it is worth is what the hold of that sum in a sandbox is worth. -/
noncomputable def Try.pinned : Pinned := { name := "ytjpkljkkcbaohaa", sum := "9bbc136a40c65eeceb962b6e8531368784d48e0bf4b2510255531295fa8b5336", checked := Try.checked }
namespace Rows
def none {H : Type} : Left H := { results := [], args := [] }

/-- 'offcutlaw02.WholeSums': WHATEVER THE INPUT: true; the input reads as it did. -/
def wholeSumsSpec : ChangeSpec := { name := "wholeSums", fn := fun _ => fun
  | [d1, d2] => { results := [.lit (.bool true)], args := [d1, d2] }
  | _ => none }
def wholeSumsRow : OpenClaim := { program := "ytjpkljkkcbaohaa", sum := "9bbc136a40c65eeceb962b6e8531368784d48e0bf4b2510255531295fa8b5336", func := "offcut/offcutlaw02.WholeSums", spec := "wholeSums", unfollowed := true, recurses := true, apart := false }
def WholeSumsSaid : Prop := wholeSumsRow.holds Try.pinned (OpenSpec.ofChange wholeSumsSpec)

/-- ITS FALSE NEIGHBOUR: 'it returns false'. Refute it at one input. -/
def wholeSumsWrong : ChangeSpec := { name := "wholeSums", fn := fun _ => fun
  | [d1, d2] => { results := [.lit (.bool false)], args := [d1, d2] }
  | _ => none }
def WholeSumsWrongFalsely : Prop := wholeSumsRow.holds Try.pinned (OpenSpec.ofChange wholeSumsWrong)

/-- 'offcutlaw02.WholeOrder': WHATEVER THE INPUT: true; the input reads as it did. -/
def wholeOrderSpec : ChangeSpec := { name := "wholeOrder", fn := fun _ => fun
  | [d1, d2] => { results := [.lit (.bool true)], args := [d1, d2] }
  | _ => none }
def wholeOrderRow : OpenClaim := { program := "ytjpkljkkcbaohaa", sum := "9bbc136a40c65eeceb962b6e8531368784d48e0bf4b2510255531295fa8b5336", func := "offcut/offcutlaw02.WholeOrder", spec := "wholeOrder", unfollowed := true, recurses := true, apart := false }
def WholeOrderSaid : Prop := wholeOrderRow.holds Try.pinned (OpenSpec.ofChange wholeOrderSpec)

/-- ITS FALSE NEIGHBOUR: 'it returns false'. Refute it at one input. -/
def wholeOrderWrong : ChangeSpec := { name := "wholeOrder", fn := fun _ => fun
  | [d1, d2] => { results := [.lit (.bool false)], args := [d1, d2] }
  | _ => none }
def WholeOrderWrongFalsely : Prop := wholeOrderRow.holds Try.pinned (OpenSpec.ofChange wholeOrderWrong)

/-- 'offcutlaw02.WholeFloors': WHATEVER THE INPUT: true; the input reads as it did. -/
def wholeFloorsSpec : ChangeSpec := { name := "wholeFloors", fn := fun _ => fun
  | [d1, d2] => { results := [.lit (.bool true)], args := [d1, d2] }
  | _ => none }
def wholeFloorsRow : OpenClaim := { program := "ytjpkljkkcbaohaa", sum := "9bbc136a40c65eeceb962b6e8531368784d48e0bf4b2510255531295fa8b5336", func := "offcut/offcutlaw02.WholeFloors", spec := "wholeFloors", unfollowed := true, recurses := true, apart := false }
def WholeFloorsSaid : Prop := wholeFloorsRow.holds Try.pinned (OpenSpec.ofChange wholeFloorsSpec)

/-- ITS FALSE NEIGHBOUR: 'it returns false'. Refute it at one input. -/
def wholeFloorsWrong : ChangeSpec := { name := "wholeFloors", fn := fun _ => fun
  | [d1, d2] => { results := [.lit (.bool false)], args := [d1, d2] }
  | _ => none }
def WholeFloorsWrongFalsely : Prop := wholeFloorsRow.holds Try.pinned (OpenSpec.ofChange wholeFloorsWrong)

/-- 'offcutlaw02.WholeRules': WHATEVER THE INPUT: true; the input reads as it did. -/
def wholeRulesSpec : ChangeSpec := { name := "wholeRules", fn := fun _ => fun
  | [d1, d2] => { results := [.lit (.bool true)], args := [d1, d2] }
  | _ => none }
def wholeRulesRow : OpenClaim := { program := "ytjpkljkkcbaohaa", sum := "9bbc136a40c65eeceb962b6e8531368784d48e0bf4b2510255531295fa8b5336", func := "offcut/offcutlaw02.WholeRules", spec := "wholeRules", unfollowed := true, recurses := true, apart := false }
def WholeRulesSaid : Prop := wholeRulesRow.holds Try.pinned (OpenSpec.ofChange wholeRulesSpec)

/-- ITS FALSE NEIGHBOUR: 'it returns false'. Refute it at one input. -/
def wholeRulesWrong : ChangeSpec := { name := "wholeRules", fn := fun _ => fun
  | [d1, d2] => { results := [.lit (.bool false)], args := [d1, d2] }
  | _ => none }
def WholeRulesWrongFalsely : Prop := wholeRulesRow.holds Try.pinned (OpenSpec.ofChange wholeRulesWrong)

/-- 'offcutlaw02.WholeSigns': WHATEVER THE INPUT: true; the input reads as it did. -/
def wholeSignsSpec : ChangeSpec := { name := "wholeSigns", fn := fun _ => fun
  | [d1, d2] => { results := [.lit (.bool true)], args := [d1, d2] }
  | _ => none }
def wholeSignsRow : OpenClaim := { program := "ytjpkljkkcbaohaa", sum := "9bbc136a40c65eeceb962b6e8531368784d48e0bf4b2510255531295fa8b5336", func := "offcut/offcutlaw02.WholeSigns", spec := "wholeSigns", unfollowed := true, recurses := true, apart := false }
def WholeSignsSaid : Prop := wholeSignsRow.holds Try.pinned (OpenSpec.ofChange wholeSignsSpec)

/-- ITS FALSE NEIGHBOUR: 'it returns false'. Refute it at one input. -/
def wholeSignsWrong : ChangeSpec := { name := "wholeSigns", fn := fun _ => fun
  | [d1, d2] => { results := [.lit (.bool false)], args := [d1, d2] }
  | _ => none }
def WholeSignsWrongFalsely : Prop := wholeSignsRow.holds Try.pinned (OpenSpec.ofChange wholeSignsWrong)

/-- 'offcutlaw02.WholeSmall': WHATEVER THE INPUT: true; the input reads as it did. -/
def wholeSmallSpec : ChangeSpec := { name := "wholeSmall", fn := fun _ => fun
  | [d1, d2] => { results := [.lit (.bool true)], args := [d1, d2] }
  | _ => none }
def wholeSmallRow : OpenClaim := { program := "ytjpkljkkcbaohaa", sum := "9bbc136a40c65eeceb962b6e8531368784d48e0bf4b2510255531295fa8b5336", func := "offcut/offcutlaw02.WholeSmall", spec := "wholeSmall", unfollowed := true, recurses := true, apart := false }
def WholeSmallSaid : Prop := wholeSmallRow.holds Try.pinned (OpenSpec.ofChange wholeSmallSpec)

/-- ITS FALSE NEIGHBOUR: 'it returns false'. Refute it at one input. -/
def wholeSmallWrong : ChangeSpec := { name := "wholeSmall", fn := fun _ => fun
  | [d1, d2] => { results := [.lit (.bool false)], args := [d1, d2] }
  | _ => none }
def WholeSmallWrongFalsely : Prop := wholeSmallRow.holds Try.pinned (OpenSpec.ofChange wholeSmallWrong)

/-- 'offcutlaw02.WholeTexts': WHATEVER THE INPUT: true; the input reads as it did. -/
def wholeTextsSpec : ChangeSpec := { name := "wholeTexts", fn := fun _ => fun
  | [d1, d2] => { results := [.lit (.bool true)], args := [d1, d2] }
  | _ => none }
def wholeTextsRow : OpenClaim := { program := "ytjpkljkkcbaohaa", sum := "9bbc136a40c65eeceb962b6e8531368784d48e0bf4b2510255531295fa8b5336", func := "offcut/offcutlaw02.WholeTexts", spec := "wholeTexts", unfollowed := true, recurses := true, apart := false }
def WholeTextsSaid : Prop := wholeTextsRow.holds Try.pinned (OpenSpec.ofChange wholeTextsSpec)

/-- ITS FALSE NEIGHBOUR: 'it returns false'. Refute it at one input. -/
def wholeTextsWrong : ChangeSpec := { name := "wholeTexts", fn := fun _ => fun
  | [d1, d2] => { results := [.lit (.bool false)], args := [d1, d2] }
  | _ => none }
def WholeTextsWrongFalsely : Prop := wholeTextsRow.holds Try.pinned (OpenSpec.ofChange wholeTextsWrong)

/-- 'offcutlaw03.RatDivides': WHATEVER THE INPUT: true; the input reads as it did. -/
def ratDividesSpec : ChangeSpec := { name := "ratDivides", fn := fun _ => fun
  | [d1, d2] => { results := [.lit (.bool true)], args := [d1, d2] }
  | _ => none }
def ratDividesRow : OpenClaim := { program := "ytjpkljkkcbaohaa", sum := "9bbc136a40c65eeceb962b6e8531368784d48e0bf4b2510255531295fa8b5336", func := "offcut/offcutlaw03.RatDivides", spec := "ratDivides", unfollowed := true, recurses := true, apart := false }
def RatDividesSaid : Prop := ratDividesRow.holds Try.pinned (OpenSpec.ofChange ratDividesSpec)

/-- ITS FALSE NEIGHBOUR: 'it returns false'. Refute it at one input. -/
def ratDividesWrong : ChangeSpec := { name := "ratDivides", fn := fun _ => fun
  | [d1, d2] => { results := [.lit (.bool false)], args := [d1, d2] }
  | _ => none }
def RatDividesWrongFalsely : Prop := ratDividesRow.holds Try.pinned (OpenSpec.ofChange ratDividesWrong)

/-- 'offcutlaw03.RatRounds': WHATEVER THE INPUT: true; the input reads as it did. -/
def ratRoundsSpec : ChangeSpec := { name := "ratRounds", fn := fun _ => fun
  | [d] => { results := [.lit (.bool true)], args := [d] }
  | _ => none }
def ratRoundsRow : OpenClaim := { program := "ytjpkljkkcbaohaa", sum := "9bbc136a40c65eeceb962b6e8531368784d48e0bf4b2510255531295fa8b5336", func := "offcut/offcutlaw03.RatRounds", spec := "ratRounds", unfollowed := true, recurses := true, apart := false }
def RatRoundsSaid : Prop := ratRoundsRow.holds Try.pinned (OpenSpec.ofChange ratRoundsSpec)

/-- ITS FALSE NEIGHBOUR: 'it returns false'. Refute it at one input. -/
def ratRoundsWrong : ChangeSpec := { name := "ratRounds", fn := fun _ => fun
  | [d] => { results := [.lit (.bool false)], args := [d] }
  | _ => none }
def RatRoundsWrongFalsely : Prop := ratRoundsRow.holds Try.pinned (OpenSpec.ofChange ratRoundsWrong)

/-- 'offcutlaw03.RatWhole': WHATEVER THE INPUT: true; the input reads as it did. -/
def ratWholeSpec : ChangeSpec := { name := "ratWhole", fn := fun _ => fun
  | [d1, d2] => { results := [.lit (.bool true)], args := [d1, d2] }
  | _ => none }
def ratWholeRow : OpenClaim := { program := "ytjpkljkkcbaohaa", sum := "9bbc136a40c65eeceb962b6e8531368784d48e0bf4b2510255531295fa8b5336", func := "offcut/offcutlaw03.RatWhole", spec := "ratWhole", unfollowed := true, recurses := true, apart := false }
def RatWholeSaid : Prop := ratWholeRow.holds Try.pinned (OpenSpec.ofChange ratWholeSpec)

/-- ITS FALSE NEIGHBOUR: 'it returns false'. Refute it at one input. -/
def ratWholeWrong : ChangeSpec := { name := "ratWhole", fn := fun _ => fun
  | [d1, d2] => { results := [.lit (.bool false)], args := [d1, d2] }
  | _ => none }
def RatWholeWrongFalsely : Prop := ratWholeRow.holds Try.pinned (OpenSpec.ofChange ratWholeWrong)

/-- 'offcutlaw03.RatSums': WHATEVER THE INPUT: true; the input reads as it did. -/
def ratSumsSpec : ChangeSpec := { name := "ratSums", fn := fun _ => fun
  | [d1, d2] => { results := [.lit (.bool true)], args := [d1, d2] }
  | _ => none }
def ratSumsRow : OpenClaim := { program := "ytjpkljkkcbaohaa", sum := "9bbc136a40c65eeceb962b6e8531368784d48e0bf4b2510255531295fa8b5336", func := "offcut/offcutlaw03.RatSums", spec := "ratSums", unfollowed := true, recurses := true, apart := false }
def RatSumsSaid : Prop := ratSumsRow.holds Try.pinned (OpenSpec.ofChange ratSumsSpec)

/-- ITS FALSE NEIGHBOUR: 'it returns false'. Refute it at one input. -/
def ratSumsWrong : ChangeSpec := { name := "ratSums", fn := fun _ => fun
  | [d1, d2] => { results := [.lit (.bool false)], args := [d1, d2] }
  | _ => none }
def RatSumsWrongFalsely : Prop := ratSumsRow.holds Try.pinned (OpenSpec.ofChange ratSumsWrong)

/-- 'offcutlaw03.RatRules': WHATEVER THE INPUT: true; the input reads as it did. -/
def ratRulesSpec : ChangeSpec := { name := "ratRules", fn := fun _ => fun
  | [d1, d2, d3] => { results := [.lit (.bool true)], args := [d1, d2, d3] }
  | _ => none }
def ratRulesRow : OpenClaim := { program := "ytjpkljkkcbaohaa", sum := "9bbc136a40c65eeceb962b6e8531368784d48e0bf4b2510255531295fa8b5336", func := "offcut/offcutlaw03.RatRules", spec := "ratRules", unfollowed := true, recurses := true, apart := false }
def RatRulesSaid : Prop := ratRulesRow.holds Try.pinned (OpenSpec.ofChange ratRulesSpec)

/-- ITS FALSE NEIGHBOUR: 'it returns false'. Refute it at one input. -/
def ratRulesWrong : ChangeSpec := { name := "ratRules", fn := fun _ => fun
  | [d1, d2, d3] => { results := [.lit (.bool false)], args := [d1, d2, d3] }
  | _ => none }
def RatRulesWrongFalsely : Prop := ratRulesRow.holds Try.pinned (OpenSpec.ofChange ratRulesWrong)

/-- 'offcutlaw03.RatFloors': WHATEVER THE INPUT: true; the input reads as it did. -/
def ratFloorsSpec : ChangeSpec := { name := "ratFloors", fn := fun _ => fun
  | [d] => { results := [.lit (.bool true)], args := [d] }
  | _ => none }
def ratFloorsRow : OpenClaim := { program := "ytjpkljkkcbaohaa", sum := "9bbc136a40c65eeceb962b6e8531368784d48e0bf4b2510255531295fa8b5336", func := "offcut/offcutlaw03.RatFloors", spec := "ratFloors", unfollowed := true, recurses := true, apart := false }
def RatFloorsSaid : Prop := ratFloorsRow.holds Try.pinned (OpenSpec.ofChange ratFloorsSpec)

/-- ITS FALSE NEIGHBOUR: 'it returns false'. Refute it at one input. -/
def ratFloorsWrong : ChangeSpec := { name := "ratFloors", fn := fun _ => fun
  | [d] => { results := [.lit (.bool false)], args := [d] }
  | _ => none }
def RatFloorsWrongFalsely : Prop := ratFloorsRow.holds Try.pinned (OpenSpec.ofChange ratFloorsWrong)

/-- 'offcutlaw03.RatTexts': WHATEVER THE INPUT: true; the input reads as it did. -/
def ratTextsSpec : ChangeSpec := { name := "ratTexts", fn := fun _ => fun
  | [d1, d2] => { results := [.lit (.bool true)], args := [d1, d2] }
  | _ => none }
def ratTextsRow : OpenClaim := { program := "ytjpkljkkcbaohaa", sum := "9bbc136a40c65eeceb962b6e8531368784d48e0bf4b2510255531295fa8b5336", func := "offcut/offcutlaw03.RatTexts", spec := "ratTexts", inPlace := ["internal/bytealg.IndexByteString", "internal/bytealg.IndexString"], unfollowed := true, recurses := true, named := ["internal/bytealg.MaxLen"], apart := false }
def RatTextsSaid : Prop := ratTextsRow.holds Try.pinned (OpenSpec.ofChange ratTextsSpec)

/-- ITS FALSE NEIGHBOUR: 'it returns false'. Refute it at one input. -/
def ratTextsWrong : ChangeSpec := { name := "ratTexts", fn := fun _ => fun
  | [d1, d2] => { results := [.lit (.bool false)], args := [d1, d2] }
  | _ => none }
def RatTextsWrongFalsely : Prop := ratTextsRow.holds Try.pinned (OpenSpec.ofChange ratTextsWrong)

/- THE SECOND FORM. 'bulk': how many values and letters a reading holds, each counted each time it is reached (what is shared counts as often as it is met; a slice's spare places count too). A statement '..UptoSaid' is the law's where the arguments, and the package variables that the reading takes, are together of bulk at most 1048576: NARROWER than '..Said'. Prove '..Said' where nothing that the law and all that it calls make is longer than what came in: it says more and counts as full. Else prove '..UptoSaid'. A law counts once. -/
mutual
def uptoBulk {H : Type} : DataW H → Nat
  | .lit (.string bytes) => bytes.length + 1
  | .lit _ => 1
  | .nil => 1
  | .ptr d => uptoBulk d + 1
  | .slice elems spare => uptoBulkAll elems + uptoBulkAll spare + 1
  | .agg parts => uptoBulkAll parts + 1
  | .iface _ d => uptoBulk d + 1
  | .map entries => uptoBulkEntries entries + 1
  | .held _ => 1
def uptoBulkAll {H : Type} : List (DataW H) → Nat
  | [] => 0
  | d :: r => uptoBulk d + uptoBulkAll r
def uptoBulkEntries {H : Type} : List (Lit × DataW H) → Nat
  | [] => 0
  | x :: r => uptoBulkEntry x + uptoBulkEntries r
def uptoBulkEntry {H : Type} : Lit × DataW H → Nat
  | (.string bytes, d) => bytes.length + uptoBulk d + 1
  | (_, d) => uptoBulk d + 1
 end
def uptoSmall : (H : Type) → List (DataW H) → Bool := fun _ ds => decide (uptoBulkAll ds ≤ 1048576)
def OpenSpec.upto (s : _root_.Go.ChangeSpec) : _root_.Go.OpenSpec := { _root_.Go.OpenSpec.ofChange s with cond := some uptoSmall }

/-- 'offcutlaw02.WholeSums', WHERE WHAT IT READS IS OF BULK AT MOST 1048576: true; the input reads as it did. -/
def wholeSumsUptoRow : OpenClaim := { program := "ytjpkljkkcbaohaa", sum := "9bbc136a40c65eeceb962b6e8531368784d48e0bf4b2510255531295fa8b5336", func := "offcut/offcutlaw02.WholeSums", spec := "wholeSums", unfollowed := true, recurses := true, apart := false, narrowed := true }
def WholeSumsUptoSaid : Prop := wholeSumsUptoRow.holds Try.pinned (OpenSpec.upto wholeSumsSpec)

/-- 'offcutlaw02.WholeOrder', WHERE WHAT IT READS IS OF BULK AT MOST 1048576: true; the input reads as it did. -/
def wholeOrderUptoRow : OpenClaim := { program := "ytjpkljkkcbaohaa", sum := "9bbc136a40c65eeceb962b6e8531368784d48e0bf4b2510255531295fa8b5336", func := "offcut/offcutlaw02.WholeOrder", spec := "wholeOrder", unfollowed := true, recurses := true, apart := false, narrowed := true }
def WholeOrderUptoSaid : Prop := wholeOrderUptoRow.holds Try.pinned (OpenSpec.upto wholeOrderSpec)

/-- 'offcutlaw02.WholeFloors', WHERE WHAT IT READS IS OF BULK AT MOST 1048576: true; the input reads as it did. -/
def wholeFloorsUptoRow : OpenClaim := { program := "ytjpkljkkcbaohaa", sum := "9bbc136a40c65eeceb962b6e8531368784d48e0bf4b2510255531295fa8b5336", func := "offcut/offcutlaw02.WholeFloors", spec := "wholeFloors", unfollowed := true, recurses := true, apart := false, narrowed := true }
def WholeFloorsUptoSaid : Prop := wholeFloorsUptoRow.holds Try.pinned (OpenSpec.upto wholeFloorsSpec)

/-- 'offcutlaw02.WholeRules', WHERE WHAT IT READS IS OF BULK AT MOST 1048576: true; the input reads as it did. -/
def wholeRulesUptoRow : OpenClaim := { program := "ytjpkljkkcbaohaa", sum := "9bbc136a40c65eeceb962b6e8531368784d48e0bf4b2510255531295fa8b5336", func := "offcut/offcutlaw02.WholeRules", spec := "wholeRules", unfollowed := true, recurses := true, apart := false, narrowed := true }
def WholeRulesUptoSaid : Prop := wholeRulesUptoRow.holds Try.pinned (OpenSpec.upto wholeRulesSpec)

/-- 'offcutlaw02.WholeSigns', WHERE WHAT IT READS IS OF BULK AT MOST 1048576: true; the input reads as it did. -/
def wholeSignsUptoRow : OpenClaim := { program := "ytjpkljkkcbaohaa", sum := "9bbc136a40c65eeceb962b6e8531368784d48e0bf4b2510255531295fa8b5336", func := "offcut/offcutlaw02.WholeSigns", spec := "wholeSigns", unfollowed := true, recurses := true, apart := false, narrowed := true }
def WholeSignsUptoSaid : Prop := wholeSignsUptoRow.holds Try.pinned (OpenSpec.upto wholeSignsSpec)

/-- 'offcutlaw02.WholeSmall', WHERE WHAT IT READS IS OF BULK AT MOST 1048576: true; the input reads as it did. -/
def wholeSmallUptoRow : OpenClaim := { program := "ytjpkljkkcbaohaa", sum := "9bbc136a40c65eeceb962b6e8531368784d48e0bf4b2510255531295fa8b5336", func := "offcut/offcutlaw02.WholeSmall", spec := "wholeSmall", unfollowed := true, recurses := true, apart := false, narrowed := true }
def WholeSmallUptoSaid : Prop := wholeSmallUptoRow.holds Try.pinned (OpenSpec.upto wholeSmallSpec)

/-- 'offcutlaw02.WholeTexts', WHERE WHAT IT READS IS OF BULK AT MOST 1048576: true; the input reads as it did. -/
def wholeTextsUptoRow : OpenClaim := { program := "ytjpkljkkcbaohaa", sum := "9bbc136a40c65eeceb962b6e8531368784d48e0bf4b2510255531295fa8b5336", func := "offcut/offcutlaw02.WholeTexts", spec := "wholeTexts", unfollowed := true, recurses := true, apart := false, narrowed := true }
def WholeTextsUptoSaid : Prop := wholeTextsUptoRow.holds Try.pinned (OpenSpec.upto wholeTextsSpec)

/-- 'offcutlaw03.RatDivides', WHERE WHAT IT READS IS OF BULK AT MOST 1048576: true; the input reads as it did. -/
def ratDividesUptoRow : OpenClaim := { program := "ytjpkljkkcbaohaa", sum := "9bbc136a40c65eeceb962b6e8531368784d48e0bf4b2510255531295fa8b5336", func := "offcut/offcutlaw03.RatDivides", spec := "ratDivides", unfollowed := true, recurses := true, apart := false, narrowed := true }
def RatDividesUptoSaid : Prop := ratDividesUptoRow.holds Try.pinned (OpenSpec.upto ratDividesSpec)

/-- 'offcutlaw03.RatRounds', WHERE WHAT IT READS IS OF BULK AT MOST 1048576: true; the input reads as it did. -/
def ratRoundsUptoRow : OpenClaim := { program := "ytjpkljkkcbaohaa", sum := "9bbc136a40c65eeceb962b6e8531368784d48e0bf4b2510255531295fa8b5336", func := "offcut/offcutlaw03.RatRounds", spec := "ratRounds", unfollowed := true, recurses := true, apart := false, narrowed := true }
def RatRoundsUptoSaid : Prop := ratRoundsUptoRow.holds Try.pinned (OpenSpec.upto ratRoundsSpec)

/-- 'offcutlaw03.RatWhole', WHERE WHAT IT READS IS OF BULK AT MOST 1048576: true; the input reads as it did. -/
def ratWholeUptoRow : OpenClaim := { program := "ytjpkljkkcbaohaa", sum := "9bbc136a40c65eeceb962b6e8531368784d48e0bf4b2510255531295fa8b5336", func := "offcut/offcutlaw03.RatWhole", spec := "ratWhole", unfollowed := true, recurses := true, apart := false, narrowed := true }
def RatWholeUptoSaid : Prop := ratWholeUptoRow.holds Try.pinned (OpenSpec.upto ratWholeSpec)

/-- 'offcutlaw03.RatSums', WHERE WHAT IT READS IS OF BULK AT MOST 1048576: true; the input reads as it did. -/
def ratSumsUptoRow : OpenClaim := { program := "ytjpkljkkcbaohaa", sum := "9bbc136a40c65eeceb962b6e8531368784d48e0bf4b2510255531295fa8b5336", func := "offcut/offcutlaw03.RatSums", spec := "ratSums", unfollowed := true, recurses := true, apart := false, narrowed := true }
def RatSumsUptoSaid : Prop := ratSumsUptoRow.holds Try.pinned (OpenSpec.upto ratSumsSpec)

/-- 'offcutlaw03.RatRules', WHERE WHAT IT READS IS OF BULK AT MOST 1048576: true; the input reads as it did. -/
def ratRulesUptoRow : OpenClaim := { program := "ytjpkljkkcbaohaa", sum := "9bbc136a40c65eeceb962b6e8531368784d48e0bf4b2510255531295fa8b5336", func := "offcut/offcutlaw03.RatRules", spec := "ratRules", unfollowed := true, recurses := true, apart := false, narrowed := true }
def RatRulesUptoSaid : Prop := ratRulesUptoRow.holds Try.pinned (OpenSpec.upto ratRulesSpec)

/-- 'offcutlaw03.RatFloors', WHERE WHAT IT READS IS OF BULK AT MOST 1048576: true; the input reads as it did. -/
def ratFloorsUptoRow : OpenClaim := { program := "ytjpkljkkcbaohaa", sum := "9bbc136a40c65eeceb962b6e8531368784d48e0bf4b2510255531295fa8b5336", func := "offcut/offcutlaw03.RatFloors", spec := "ratFloors", unfollowed := true, recurses := true, apart := false, narrowed := true }
def RatFloorsUptoSaid : Prop := ratFloorsUptoRow.holds Try.pinned (OpenSpec.upto ratFloorsSpec)

/-- 'offcutlaw03.RatTexts', WHERE WHAT IT READS IS OF BULK AT MOST 1048576: true; the input reads as it did. -/
def ratTextsUptoRow : OpenClaim := { program := "ytjpkljkkcbaohaa", sum := "9bbc136a40c65eeceb962b6e8531368784d48e0bf4b2510255531295fa8b5336", func := "offcut/offcutlaw03.RatTexts", spec := "ratTexts", inPlace := ["internal/bytealg.IndexByteString", "internal/bytealg.IndexString"], unfollowed := true, recurses := true, named := ["internal/bytealg.MaxLen"], apart := false, narrowed := true }
def RatTextsUptoSaid : Prop := ratTextsUptoRow.holds Try.pinned (OpenSpec.upto ratTextsSpec)

end Rows
end Go.Proofs.Ytjpkljkkcbaohaa
