/-
  No cell of these rows narrows 'for every input' (looked for: loops, veiled, ifaces, maps, wideKeys, modest, calm, conditions, laid).
  DERIVED. THE GIVEN ROWS OF THIS SEAT. 8 by the template 'for every input the law returns true; each argument reads behind the call as it read before'; 0 by the template 'total and deterministic' (their statements: YtdhioaoojemcpaaTotals.lean).
  GIVEN WITH THE SEED: the statements are not yours to turn. If you find one false, say at which input.
  Laid BY PROGRAM, IN A SANDBOX (cutbox-rows.mjs): the forced cells as the released guide's own fill.sh prints them over the translation 419474f253b43ef4… (all of the seat's roots in one cut). By AI agents, Wed Nov 11 2026. No macro, syntax, notation, axiom, sorry.
-/
import Derived.Test.YtdhioaoojemcpaaChecked
import GoSem.Claim
import GoSem.ClaimJoined
import GoSem.ClaimMapViews
import Derived.JoinedTies
import Derived.KernelRfl
namespace Go.Proofs.Ytdhioaoojemcpaa
/- THE CELL 'sum', in the pinned program and in every row, IS THE sha256 OF THE DUMP (.gsa) THAT YtdhioaoojemcpaaProg.lean LOADS. Nothing in Lean hashes anything: it is a label: what it is worth is what the hold of that sum in a sandbox is worth. -/
noncomputable def Try.pinned : Pinned := { name := "ytdhioaoojemcpaa", sum := "419474f253b43ef468d05d0b21775f31d69f9d459a551397558cb4d4b85e1cc1", checked := Try.checked }
namespace Rows
def none {H : Type} : Left H := { results := [], args := [] }

/-- 'offcutlaw04.EdgeKinds': WHATEVER THE INPUT: true; the input reads as it did. -/
def edgeKindsSpec : ChangeSpec := { name := "edgeKinds", fn := fun _ => fun
  | [d] => { results := [.lit (.bool true)], args := [d] }
  | _ => none }
def edgeKindsRow : OpenClaim := { program := "ytdhioaoojemcpaa", sum := "419474f253b43ef468d05d0b21775f31d69f9d459a551397558cb4d4b85e1cc1", func := "offcut/offcutlaw04.EdgeKinds", spec := "edgeKinds", inPlace := ["math.Float64frombits", "math.Float64bits"], unfollowed := true, recurses := true, apart := false }
def EdgeKindsSaid : Prop := edgeKindsRow.holds Try.pinned (OpenSpec.ofChange edgeKindsSpec)

/-- ITS FALSE NEIGHBOUR: 'it returns false'. Refute it at one input. -/
def edgeKindsWrong : ChangeSpec := { name := "edgeKinds", fn := fun _ => fun
  | [d] => { results := [.lit (.bool false)], args := [d] }
  | _ => none }
def EdgeKindsWrongFalsely : Prop := edgeKindsRow.holds Try.pinned (OpenSpec.ofChange edgeKindsWrong)

/-- 'offcutlaw04.EdgeExact': WHATEVER THE INPUT: true; the input reads as it did. -/
def edgeExactSpec : ChangeSpec := { name := "edgeExact", fn := fun _ => fun
  | [d] => { results := [.lit (.bool true)], args := [d] }
  | _ => none }
def edgeExactRow : OpenClaim := { program := "ytdhioaoojemcpaa", sum := "419474f253b43ef468d05d0b21775f31d69f9d459a551397558cb4d4b85e1cc1", func := "offcut/offcutlaw04.EdgeExact", spec := "edgeExact", inPlace := ["math.Float64bits", "math.Float64frombits"], unfollowed := true, recurses := true, apart := false }
def EdgeExactSaid : Prop := edgeExactRow.holds Try.pinned (OpenSpec.ofChange edgeExactSpec)

/-- ITS FALSE NEIGHBOUR: 'it returns false'. Refute it at one input. -/
def edgeExactWrong : ChangeSpec := { name := "edgeExact", fn := fun _ => fun
  | [d] => { results := [.lit (.bool false)], args := [d] }
  | _ => none }
def EdgeExactWrongFalsely : Prop := edgeExactRow.holds Try.pinned (OpenSpec.ofChange edgeExactWrong)

/-- 'offcutlaw04.EdgeBetween': WHATEVER THE INPUT: true; the input reads as it did. -/
def edgeBetweenSpec : ChangeSpec := { name := "edgeBetween", fn := fun _ => fun
  | [d] => { results := [.lit (.bool true)], args := [d] }
  | _ => none }
def edgeBetweenRow : OpenClaim := { program := "ytdhioaoojemcpaa", sum := "419474f253b43ef468d05d0b21775f31d69f9d459a551397558cb4d4b85e1cc1", func := "offcut/offcutlaw04.EdgeBetween", spec := "edgeBetween", inPlace := ["math.Float64bits", "math.Float64frombits"], unfollowed := true, recurses := true, apart := false }
def EdgeBetweenSaid : Prop := edgeBetweenRow.holds Try.pinned (OpenSpec.ofChange edgeBetweenSpec)

/-- ITS FALSE NEIGHBOUR: 'it returns false'. Refute it at one input. -/
def edgeBetweenWrong : ChangeSpec := { name := "edgeBetween", fn := fun _ => fun
  | [d] => { results := [.lit (.bool false)], args := [d] }
  | _ => none }
def EdgeBetweenWrongFalsely : Prop := edgeBetweenRow.holds Try.pinned (OpenSpec.ofChange edgeBetweenWrong)

/-- 'offcutlaw04.EdgeGuards': WHATEVER THE INPUT: true; the input reads as it did. -/
def edgeGuardsSpec : ChangeSpec := { name := "edgeGuards", fn := fun _ => fun
  | [d1, d2] => { results := [.lit (.bool true)], args := [d1, d2] }
  | _ => none }
def edgeGuardsRow : OpenClaim := { program := "ytdhioaoojemcpaa", sum := "419474f253b43ef468d05d0b21775f31d69f9d459a551397558cb4d4b85e1cc1", func := "offcut/offcutlaw04.EdgeGuards", spec := "edgeGuards", inPlace := ["math.Float64bits", "math.Float64frombits"], unfollowed := true, recurses := true, apart := false }
def EdgeGuardsSaid : Prop := edgeGuardsRow.holds Try.pinned (OpenSpec.ofChange edgeGuardsSpec)

/-- ITS FALSE NEIGHBOUR: 'it returns false'. Refute it at one input. -/
def edgeGuardsWrong : ChangeSpec := { name := "edgeGuards", fn := fun _ => fun
  | [d1, d2] => { results := [.lit (.bool false)], args := [d1, d2] }
  | _ => none }
def EdgeGuardsWrongFalsely : Prop := edgeGuardsRow.holds Try.pinned (OpenSpec.ofChange edgeGuardsWrong)

/-- 'offcutlaw04.EdgeNear': WHATEVER THE INPUT: true; the input reads as it did. -/
def edgeNearSpec : ChangeSpec := { name := "edgeNear", fn := fun _ => fun
  | [d] => { results := [.lit (.bool true)], args := [d] }
  | _ => none }
def edgeNearRow : OpenClaim := { program := "ytdhioaoojemcpaa", sum := "419474f253b43ef468d05d0b21775f31d69f9d459a551397558cb4d4b85e1cc1", func := "offcut/offcutlaw04.EdgeNear", spec := "edgeNear", inPlace := ["math.Float64bits", "math.Float64frombits"], unfollowed := true, recurses := true, apart := false }
def EdgeNearSaid : Prop := edgeNearRow.holds Try.pinned (OpenSpec.ofChange edgeNearSpec)

/-- ITS FALSE NEIGHBOUR: 'it returns false'. Refute it at one input. -/
def edgeNearWrong : ChangeSpec := { name := "edgeNear", fn := fun _ => fun
  | [d] => { results := [.lit (.bool false)], args := [d] }
  | _ => none }
def EdgeNearWrongFalsely : Prop := edgeNearRow.holds Try.pinned (OpenSpec.ofChange edgeNearWrong)

/-- 'offcutlaw04.EdgeBack': WHATEVER THE INPUT: true; the input reads as it did. -/
def edgeBackSpec : ChangeSpec := { name := "edgeBack", fn := fun _ => fun
  | [d] => { results := [.lit (.bool true)], args := [d] }
  | _ => none }
def edgeBackRow : OpenClaim := { program := "ytdhioaoojemcpaa", sum := "419474f253b43ef468d05d0b21775f31d69f9d459a551397558cb4d4b85e1cc1", func := "offcut/offcutlaw04.EdgeBack", spec := "edgeBack", inPlace := ["math.Float64frombits", "math.Float64bits"], unfollowed := true, recurses := true, apart := false }
def EdgeBackSaid : Prop := edgeBackRow.holds Try.pinned (OpenSpec.ofChange edgeBackSpec)

/-- ITS FALSE NEIGHBOUR: 'it returns false'. Refute it at one input. -/
def edgeBackWrong : ChangeSpec := { name := "edgeBack", fn := fun _ => fun
  | [d] => { results := [.lit (.bool false)], args := [d] }
  | _ => none }
def EdgeBackWrongFalsely : Prop := edgeBackRow.holds Try.pinned (OpenSpec.ofChange edgeBackWrong)

/-- 'offcutlaw04.EdgeGreat': WHATEVER THE INPUT: true; the input reads as it did. -/
def edgeGreatSpec : ChangeSpec := { name := "edgeGreat", fn := fun _ => fun
  | [d1, d2] => { results := [.lit (.bool true)], args := [d1, d2] }
  | _ => none }
def edgeGreatRow : OpenClaim := { program := "ytdhioaoojemcpaa", sum := "419474f253b43ef468d05d0b21775f31d69f9d459a551397558cb4d4b85e1cc1", func := "offcut/offcutlaw04.EdgeGreat", spec := "edgeGreat", inPlace := ["math.Float64frombits", "math.Float64bits"], unfollowed := true, recurses := true, apart := false }
def EdgeGreatSaid : Prop := edgeGreatRow.holds Try.pinned (OpenSpec.ofChange edgeGreatSpec)

/-- ITS FALSE NEIGHBOUR: 'it returns false'. Refute it at one input. -/
def edgeGreatWrong : ChangeSpec := { name := "edgeGreat", fn := fun _ => fun
  | [d1, d2] => { results := [.lit (.bool false)], args := [d1, d2] }
  | _ => none }
def EdgeGreatWrongFalsely : Prop := edgeGreatRow.holds Try.pinned (OpenSpec.ofChange edgeGreatWrong)

/-- 'offcutlaw04.EdgeOrder': WHATEVER THE INPUT: true; the input reads as it did. -/
def edgeOrderSpec : ChangeSpec := { name := "edgeOrder", fn := fun _ => fun
  | [d1, d2] => { results := [.lit (.bool true)], args := [d1, d2] }
  | _ => none }
def edgeOrderRow : OpenClaim := { program := "ytdhioaoojemcpaa", sum := "419474f253b43ef468d05d0b21775f31d69f9d459a551397558cb4d4b85e1cc1", func := "offcut/offcutlaw04.EdgeOrder", spec := "edgeOrder", inPlace := ["math.Float64bits", "math.Float64frombits"], unfollowed := true, recurses := true, apart := false }
def EdgeOrderSaid : Prop := edgeOrderRow.holds Try.pinned (OpenSpec.ofChange edgeOrderSpec)

/-- ITS FALSE NEIGHBOUR: 'it returns false'. Refute it at one input. -/
def edgeOrderWrong : ChangeSpec := { name := "edgeOrder", fn := fun _ => fun
  | [d1, d2] => { results := [.lit (.bool false)], args := [d1, d2] }
  | _ => none }
def EdgeOrderWrongFalsely : Prop := edgeOrderRow.holds Try.pinned (OpenSpec.ofChange edgeOrderWrong)

/- THE SECOND FORM. 'bulk': how many values and letters a reading holds, each counted each time it is reached (what is shared counts as often as it is met; a slice's spare places count too). A statement '..UptoSaid' is the law's where the arguments, and the package variables that the reading takes, are together of bulk at most 1048576: NARROWER than '..Said'. Prove '..Said' where nothing that the law and all that it calls make is longer than what came in: it says more and counts as full. Else prove '..UptoSaid'. A law counts once. -/
mutual
def uptoBulk {H : Type} : DataW H → Nat
  | .lit (.string bytes) => bytes.length + 1
  | .lit _ => 1
  | .nil => 1
  | .ptr d => uptoBulk d + 1
  | .slice elems spare => uptoBulkAll elems + uptoBulkAll spare + 1
  | .agg parts => uptoBulkAll parts + 1
  | .iface _ d => uptoBulk d + 1
  | .map entries => uptoBulkEntries entries + 1
  | .held _ => 1
def uptoBulkAll {H : Type} : List (DataW H) → Nat
  | [] => 0
  | d :: r => uptoBulk d + uptoBulkAll r
def uptoBulkEntries {H : Type} : List (Lit × DataW H) → Nat
  | [] => 0
  | x :: r => uptoBulkEntry x + uptoBulkEntries r
def uptoBulkEntry {H : Type} : Lit × DataW H → Nat
  | (.string bytes, d) => bytes.length + uptoBulk d + 1
  | (_, d) => uptoBulk d + 1
 end
def uptoSmall : (H : Type) → List (DataW H) → Bool := fun _ ds => decide (uptoBulkAll ds ≤ 1048576)
def OpenSpec.upto (s : _root_.Go.ChangeSpec) : _root_.Go.OpenSpec := { _root_.Go.OpenSpec.ofChange s with cond := some uptoSmall }

/-- 'offcutlaw04.EdgeKinds', WHERE WHAT IT READS IS OF BULK AT MOST 1048576: true; the input reads as it did. -/
def edgeKindsUptoRow : OpenClaim := { program := "ytdhioaoojemcpaa", sum := "419474f253b43ef468d05d0b21775f31d69f9d459a551397558cb4d4b85e1cc1", func := "offcut/offcutlaw04.EdgeKinds", spec := "edgeKinds", inPlace := ["math.Float64frombits", "math.Float64bits"], unfollowed := true, recurses := true, apart := false, narrowed := true }
def EdgeKindsUptoSaid : Prop := edgeKindsUptoRow.holds Try.pinned (OpenSpec.upto edgeKindsSpec)

/-- 'offcutlaw04.EdgeExact', WHERE WHAT IT READS IS OF BULK AT MOST 1048576: true; the input reads as it did. -/
def edgeExactUptoRow : OpenClaim := { program := "ytdhioaoojemcpaa", sum := "419474f253b43ef468d05d0b21775f31d69f9d459a551397558cb4d4b85e1cc1", func := "offcut/offcutlaw04.EdgeExact", spec := "edgeExact", inPlace := ["math.Float64bits", "math.Float64frombits"], unfollowed := true, recurses := true, apart := false, narrowed := true }
def EdgeExactUptoSaid : Prop := edgeExactUptoRow.holds Try.pinned (OpenSpec.upto edgeExactSpec)

/-- 'offcutlaw04.EdgeBetween', WHERE WHAT IT READS IS OF BULK AT MOST 1048576: true; the input reads as it did. -/
def edgeBetweenUptoRow : OpenClaim := { program := "ytdhioaoojemcpaa", sum := "419474f253b43ef468d05d0b21775f31d69f9d459a551397558cb4d4b85e1cc1", func := "offcut/offcutlaw04.EdgeBetween", spec := "edgeBetween", inPlace := ["math.Float64bits", "math.Float64frombits"], unfollowed := true, recurses := true, apart := false, narrowed := true }
def EdgeBetweenUptoSaid : Prop := edgeBetweenUptoRow.holds Try.pinned (OpenSpec.upto edgeBetweenSpec)

/-- 'offcutlaw04.EdgeGuards', WHERE WHAT IT READS IS OF BULK AT MOST 1048576: true; the input reads as it did. -/
def edgeGuardsUptoRow : OpenClaim := { program := "ytdhioaoojemcpaa", sum := "419474f253b43ef468d05d0b21775f31d69f9d459a551397558cb4d4b85e1cc1", func := "offcut/offcutlaw04.EdgeGuards", spec := "edgeGuards", inPlace := ["math.Float64bits", "math.Float64frombits"], unfollowed := true, recurses := true, apart := false, narrowed := true }
def EdgeGuardsUptoSaid : Prop := edgeGuardsUptoRow.holds Try.pinned (OpenSpec.upto edgeGuardsSpec)

/-- 'offcutlaw04.EdgeNear', WHERE WHAT IT READS IS OF BULK AT MOST 1048576: true; the input reads as it did. -/
def edgeNearUptoRow : OpenClaim := { program := "ytdhioaoojemcpaa", sum := "419474f253b43ef468d05d0b21775f31d69f9d459a551397558cb4d4b85e1cc1", func := "offcut/offcutlaw04.EdgeNear", spec := "edgeNear", inPlace := ["math.Float64bits", "math.Float64frombits"], unfollowed := true, recurses := true, apart := false, narrowed := true }
def EdgeNearUptoSaid : Prop := edgeNearUptoRow.holds Try.pinned (OpenSpec.upto edgeNearSpec)

/-- 'offcutlaw04.EdgeBack', WHERE WHAT IT READS IS OF BULK AT MOST 1048576: true; the input reads as it did. -/
def edgeBackUptoRow : OpenClaim := { program := "ytdhioaoojemcpaa", sum := "419474f253b43ef468d05d0b21775f31d69f9d459a551397558cb4d4b85e1cc1", func := "offcut/offcutlaw04.EdgeBack", spec := "edgeBack", inPlace := ["math.Float64frombits", "math.Float64bits"], unfollowed := true, recurses := true, apart := false, narrowed := true }
def EdgeBackUptoSaid : Prop := edgeBackUptoRow.holds Try.pinned (OpenSpec.upto edgeBackSpec)

/-- 'offcutlaw04.EdgeGreat', WHERE WHAT IT READS IS OF BULK AT MOST 1048576: true; the input reads as it did. -/
def edgeGreatUptoRow : OpenClaim := { program := "ytdhioaoojemcpaa", sum := "419474f253b43ef468d05d0b21775f31d69f9d459a551397558cb4d4b85e1cc1", func := "offcut/offcutlaw04.EdgeGreat", spec := "edgeGreat", inPlace := ["math.Float64frombits", "math.Float64bits"], unfollowed := true, recurses := true, apart := false, narrowed := true }
def EdgeGreatUptoSaid : Prop := edgeGreatUptoRow.holds Try.pinned (OpenSpec.upto edgeGreatSpec)

/-- 'offcutlaw04.EdgeOrder', WHERE WHAT IT READS IS OF BULK AT MOST 1048576: true; the input reads as it did. -/
def edgeOrderUptoRow : OpenClaim := { program := "ytdhioaoojemcpaa", sum := "419474f253b43ef468d05d0b21775f31d69f9d459a551397558cb4d4b85e1cc1", func := "offcut/offcutlaw04.EdgeOrder", spec := "edgeOrder", inPlace := ["math.Float64bits", "math.Float64frombits"], unfollowed := true, recurses := true, apart := false, narrowed := true }
def EdgeOrderUptoSaid : Prop := edgeOrderUptoRow.holds Try.pinned (OpenSpec.upto edgeOrderSpec)

end Rows
end Go.Proofs.Ytdhioaoojemcpaa
