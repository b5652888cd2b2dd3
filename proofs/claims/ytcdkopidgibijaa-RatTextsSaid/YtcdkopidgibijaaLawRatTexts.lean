/- The law RatTexts of the given program holds: the text of any fraction is the document's, and read as it; what is no fraction is told why. (Of 4 words each; 60 bytes.) Conditions: none but those that the statement's own form sets (every input that the row lets in). -/
import Derived.Test.YtcdkopidgibijaaRows
import Derived.Test.YtcdkopidgibijaaPRg2
import Derived.WalkKit
import Derived.ProofKit
import Derived.OpenShut
import Derived.ShutString
import Derived.ChangeOld
import Derived.Below
import Derived.SizedLaws
import Derived.Lib.SmallJoins
import Derived.ChangeSame
namespace Go.Proofs.Ytcdkopidgibijaa.ratTexts
open Go.ChangeShapes Go.WideShapes Go.ChangeAt Go.RowKit Go.Joins Go.Proofs.YtcdkopidgibijaaW.PrintWords Go.Proofs.YtcdkopidgibijaaW.PrintLast Go.Proofs.YtcdkopidgibijaaW.PrintMore
open Go.ChangeMaps (open_string shut_string)
set_option linter.unusedVariables false
theorem own : ownKnob Try.prog.godebug = none := by kernel_rfl
theorem laidOut : laidOutB Try.prog = true := by kernel_rfl
theorem cellsQ : Try.prog.cellsOf 27 = 3 := by kernel_rfl
theorem cellsN : Try.prog.cellsOf 23 = 1 := by kernel_rfl
theorem cellsB : Try.prog.cellsOf 4 = 1 := by kernel_rfl
theorem cellsZ : Try.prog.cellsOf 25 = 2 := by kernel_rfl
def IsRow (k : IntKind) (w : World) (a : Option Addr) (len cap : Nat) (zs : List Int) : Prop :=
  (a = none ∧ len = 0 ∧ cap = 0 ∧ zs = []) ∨
  ∃ x, a = some x ∧ len ≤ cap ∧ cap ≤ maxLen ∧ zs.length = cap ∧ (∀ i, i < zs.length → w.cell? (x.add i) = some (.int k (zs.getD i 0))) ∧ ∀ n ∈ zs, (Lit.int k n).wf = true
set_option maxRecDepth 100000 in
theorem lifted (os : Os) (started : os.Started) (H : Type) (enc : TypeId × Value → H) :
    ReturnsInHanded {} Try.checked os 9 .any (Rows.ratTextsSpec.pre6 enc Try.prog Try.f9 Rows.ratTextsRow.domain false) (Rows.ratTextsSpec.post enc Try.prog Try.f9 false true false false) := by
  refine returnsInHanded_of_change_sized (C := Try.checked) own started (by kernel_rfl) Try.func9
    (ChangeSpec.witness6 (enc := enc) (C := Try.checked) false ⟨#[], #[.agg #[.bool false, .slice none 0 0, .slice none 0 0], .string ByteArray.empty], []⟩ 8 (by kernel_rfl) (by kernel_rfl) (by kernel_rfl) (by kernel_rfl)) ?_
  intro W base args ds gs before hval0 hW hcnd hsz0 _
  have hval : ∀ (j : Nat) t v, Try.f9.params[j]? = some t → args[j]? = some v → Value.okWide Try.prog W .any base t v := hval0
  have hW' := hW
  obtain ⟨p, q, hA0, hV, rfl, hfz, hnd⟩ := hW
  have hA : DataW.TrodAll enc Try.prog W 0 (fun _ => true) true Try.f9.params.toList args.toList ds p := hA0
  rw [Try.params9] at hA hval
  obtain ⟨v0, vs0, d0, ds0, p0, q0, hargs, rfl, rfl, h0, r0⟩ := trodAll_cons hA
  obtain ⟨v1, vs1, d1, ds1, p1, q1, rfl, rfl, rfl, h1, r1⟩ := trodAll_cons r0
  obtain ⟨rfl, rfl, rfl⟩ := trodAll_nil r1
  obtain rfl : args = #[v0, v1] := by cases args; simp_all
  obtain ⟨rfl, rfl⟩ := trodVars_none hV
  clear hA0 hval0 hsz0
  have k0 := h0
  have lt0 : ∀ x ∈ p0, x.block < W.heap.size := by obtain ⟨m, hm⟩ := k0; exact DataW.trod_lt m _ _ _ hm
  obtain ⟨cs0, rfl, hz0⟩ := okWide_struct Try.underlying27 (hval 0 27 v0 rfl rfl)
  obtain ⟨u0, x0, z0_, rfl⟩ := array3 (hz0.trans cellsQ)
  obtain ⟨m0, hf0⟩ := h0
  obtain ⟨y0, t0, g0, hx0, _, hy0, ht0⟩ := trod_struct2 Try.underlying27 hf0
  have hn0 : DataW.trod enc Try.prog W 0 (fun _ => true) true g0 25 [u0, x0] = some y0 := by simpa [Value.cells, cellsZ] using hy0
  have hd0 : DataW.trod enc Try.prog W 0 (fun _ => true) true g0 23 [z0_] = some t0 := by simpa [Value.cells, cellsN] using ht0
  obtain ⟨ya0, yb0, gg0, hxx0, _, hya0, hyb0⟩ := trod_struct2 Try.underlying25 hn0
  have hb0 : DataW.trod enc Try.prog W 0 (fun _ => true) true gg0 4 [u0] = some ya0 := by simpa [cellsB] using hya0
  have hs0 : DataW.trod enc Try.prog W 0 (fun _ => true) true gg0 23 [x0] = some yb0 := by simpa [cellsN] using hyb0
  clear hf0 hy0 ht0 hn0 hya0 hyb0 hx0 hxx0
  obtain ⟨b0, e0, _⟩ := DataW.trod_bool Try.underlying4 hb0
  simp at e0
  subst e0
  obtain ⟨a0n, len0n, cap0n, z0n, rfl, w0n⟩ : ∃ a l c zs, x0 = .slice a l c ∧ IsRow .u32 W a l c zs := by
    rcases open_ints Try.underlying23 Try.underlying89 (by kernel_rfl) hs0 with ⟨hcs, _⟩ | ⟨x, l, c, zs, hcs, _, hl, hm, hz, _, hcell, hwz⟩
    · simp at hcs
      exact ⟨none, 0, 0, [], hcs, .inl ⟨rfl, rfl, rfl, rfl⟩⟩
    · simp at hcs
      exact ⟨_, _, _, zs, hcs, .inr ⟨_, rfl, hl, hm, by simpa using hz, hcell, hwz⟩⟩
  obtain ⟨a0d, len0d, cap0d, z0d, rfl, w0d⟩ : ∃ a l c zs, z0_ = .slice a l c ∧ IsRow .u32 W a l c zs := by
    rcases open_ints Try.underlying23 Try.underlying89 (by kernel_rfl) hd0 with ⟨hcs, _⟩ | ⟨x, l, c, zs, hcs, _, hl, hm, hz, _, hcell, hwz⟩
    · simp at hcs
      exact ⟨none, 0, 0, [], hcs, .inl ⟨rfl, rfl, rfl, rfl⟩⟩
    · simp at hcs
      exact ⟨_, _, _, zs, hcs, .inr ⟨_, rfl, hl, hm, by simpa using hz, hcell, hwz⟩⟩
  obtain ⟨s1, rfl, rfl, rfl, ys1⟩ := open_string Try.underlying9 (hval 1 9 v1 rfl rfl) h1
  obtain ⟨l0n, rfl, hr0n, hm0n, hw0n, hc0n⟩ := ReadsInt.ofRowC w0n
  obtain ⟨l0d, rfl, hr0d, hm0d, hw0d, hc0d⟩ := ReadsInt.ofRowC w0d
  refine (PR.offcutlaw03_RatTexts.calls b0 _ _ l0n _ _ l0d s1 W (Kd.C_of_reads (d := (0 : Int)) (h1 := fun _ => rfl) hr0n) hc0n (Kd.C_of_reads (d := (0 : Int)) (h1 := fun _ => rfl) hr0d) hc0d hw0n hw0d).mono fun e W' ⟨he, bel⟩ => ?_
  subst he
  exact ⟨_, rfl, _, _, _, [], _, [], hW', trodAll_mk1 (shut_bool Try.underlying4 _), (trodAll_cons_mk (Below.trod laidOut (by kernel_rfl) (of_decide_eq_true (by kernel_rfl)) k0 bel lt0) (trodAll_cons_mk (shut_string Try.underlying9 ys1) trodAll_mk0)), rfl, bel.frame _, fun h => by cases h⟩
theorem over : Rows.ratTextsRow.holds Try.pinned (OpenSpec.ofChange Rows.ratTextsSpec) :=
  OpenClaim.holds_of_wide 9 Try.f9 rfl rfl rfl rfl rfl rfl rfl ⟨rfl, rfl, rfl, rfl, rfl⟩ rfl rfl rfl rfl rfl (by kernel_rfl) Try.func9 (by kernel_rfl)
    (of_decide_eq_true (by kernel_rfl)) (by unfold Func.isWrapper; first | (rw [if_pos (by decide +kernel)]; kernel_rfl) | (rw [if_neg (by decide +kernel)]; exact ⟨rfl, rfl⟩))
    (fun os started H enc _ => lifted os started H enc)
theorem proved : Rows.RatTextsSaid := over
#print axioms proved
end Go.Proofs.Ytcdkopidgibijaa.ratTexts
namespace Go.Proofs.Ytcdkopidgibijaa
/-- The row, under a short name, for the claim. -/
theorem ratTexts_holds : Rows.RatTextsSaid := ratTexts.proved
end Go.Proofs.Ytcdkopidgibijaa
