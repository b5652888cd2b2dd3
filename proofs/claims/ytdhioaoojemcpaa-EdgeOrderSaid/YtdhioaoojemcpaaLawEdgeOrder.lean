/- The law EdgeOrder of the given program holds: of two fractions the greater one has no lesser nearest floating-point number. (Of 4 words each.) Conditions: none but those that the statement's own form sets (every input that the row lets in). -/
import Derived.Test.YtdhioaoojemcpaaRows
import Derived.Test.YtdhioaoojemcpaaPRg1
import Derived.WalkKit
import Derived.ProofKit
import Derived.OpenShut
import Derived.ShutString
import Derived.ChangeOld
import Derived.Below
import Derived.SizedLaws
import Derived.Lib.SmallJoins
import Derived.ChangeSame
namespace Go.Proofs.Ytdhioaoojemcpaa.edgeOrder
open Go.ChangeShapes Go.WideShapes Go.ChangeAt Go.RowKit Go.Joins Go.Proofs.YtdhioaoojemcpaaW.PrintWords Go.Proofs.YtdhioaoojemcpaaW.PrintLast Go.Proofs.YtdhioaoojemcpaaW.PrintMore
open Go.ChangeMaps (open_string shut_string)
set_option linter.unusedVariables false
theorem own : ownKnob Try.prog.godebug = none := by kernel_rfl
theorem laidOut : laidOutB Try.prog = true := by kernel_rfl
theorem cellsQ : Try.prog.cellsOf 34 = 3 := by kernel_rfl
theorem cellsN : Try.prog.cellsOf 30 = 1 := by kernel_rfl
theorem cellsB : Try.prog.cellsOf 4 = 1 := by kernel_rfl
theorem cellsZ : Try.prog.cellsOf 32 = 2 := by kernel_rfl
def IsRow (k : IntKind) (w : World) (a : Option Addr) (len cap : Nat) (zs : List Int) : Prop :=
  (a = none ∧ len = 0 ∧ cap = 0 ∧ zs = []) ∨
  ∃ x, a = some x ∧ len ≤ cap ∧ cap ≤ maxLen ∧ zs.length = cap ∧ (∀ i, i < zs.length → w.cell? (x.add i) = some (.int k (zs.getD i 0))) ∧ ∀ n ∈ zs, (Lit.int k n).wf = true
set_option maxRecDepth 100000 in
theorem lifted (os : Os) (started : os.Started) (H : Type) (enc : TypeId × Value → H) :
    ReturnsInHanded {} Try.checked os 10 .any (Rows.edgeOrderSpec.pre6 enc Try.prog Try.f10 Rows.edgeOrderRow.domain false) (Rows.edgeOrderSpec.post enc Try.prog Try.f10 false true false false) := by
  refine returnsInHanded_of_change_sized (C := Try.checked) own started (by kernel_rfl) Try.func10
    (ChangeSpec.witness6 (enc := enc) (C := Try.checked) false ⟨#[], #[.agg #[.bool false, .slice none 0 0, .slice none 0 0], .agg #[.bool false, .slice none 0 0, .slice none 0 0]], []⟩ 8 (by kernel_rfl) (by kernel_rfl) (by kernel_rfl) (by kernel_rfl)) ?_
  intro W base args ds gs before hval0 hW hcnd hsz0 _
  have hval : ∀ (j : Nat) t v, Try.f10.params[j]? = some t → args[j]? = some v → Value.okWide Try.prog W .any base t v := hval0
  have hW' := hW
  obtain ⟨p, q, hA0, hV, rfl, hfz, hnd⟩ := hW
  have hA : DataW.TrodAll enc Try.prog W 0 (fun _ => true) true Try.f10.params.toList args.toList ds p := hA0
  rw [Try.params10] at hA hval
  obtain ⟨v0, vs0, d0, ds0, p0, q0, hargs, rfl, rfl, h0, r0⟩ := trodAll_cons hA
  obtain ⟨v1, vs1, d1, ds1, p1, q1, rfl, rfl, rfl, h1, r1⟩ := trodAll_cons r0
  obtain ⟨rfl, rfl, rfl⟩ := trodAll_nil r1
  obtain rfl : args = #[v0, v1] := by cases args; simp_all
  obtain ⟨rfl, rfl⟩ := trodVars_none hV
  clear hA0 hval0 hsz0
  have k0 := h0
  have lt0 : ∀ x ∈ p0, x.block < W.heap.size := by obtain ⟨m, hm⟩ := k0; exact DataW.trod_lt m _ _ _ hm
  obtain ⟨cs0, rfl, hz0⟩ := okWide_struct Try.underlying34 (hval 0 34 v0 rfl rfl)
  obtain ⟨u0, x0, z0_, rfl⟩ := array3 (hz0.trans cellsQ)
  obtain ⟨m0, hf0⟩ := h0
  obtain ⟨y0, t0, g0, hx0, _, hy0, ht0⟩ := trod_struct2 Try.underlying34 hf0
  have hn0 : DataW.trod enc Try.prog W 0 (fun _ => true) true g0 32 [u0, x0] = some y0 := by simpa [Value.cells, cellsZ] using hy0
  have hd0 : DataW.trod enc Try.prog W 0 (fun _ => true) true g0 30 [z0_] = some t0 := by simpa [Value.cells, cellsN] using ht0
  obtain ⟨ya0, yb0, gg0, hxx0, _, hya0, hyb0⟩ := trod_struct2 Try.underlying32 hn0
  have hb0 : DataW.trod enc Try.prog W 0 (fun _ => true) true gg0 4 [u0] = some ya0 := by simpa [cellsB] using hya0
  have hs0 : DataW.trod enc Try.prog W 0 (fun _ => true) true gg0 30 [x0] = some yb0 := by simpa [cellsN] using hyb0
  clear hf0 hy0 ht0 hn0 hya0 hyb0 hx0 hxx0
  obtain ⟨b0, e0, _⟩ := DataW.trod_bool Try.underlying4 hb0
  simp at e0
  subst e0
  obtain ⟨a0n, len0n, cap0n, z0n, rfl, w0n⟩ : ∃ a l c zs, x0 = .slice a l c ∧ IsRow .u32 W a l c zs := by
    rcases open_ints Try.underlying30 Try.underlying92 (by kernel_rfl) hs0 with ⟨hcs, _⟩ | ⟨x, l, c, zs, hcs, _, hl, hm, hz, _, hcell, hwz⟩
    · simp at hcs
      exact ⟨none, 0, 0, [], hcs, .inl ⟨rfl, rfl, rfl, rfl⟩⟩
    · simp at hcs
      exact ⟨_, _, _, zs, hcs, .inr ⟨_, rfl, hl, hm, by simpa using hz, hcell, hwz⟩⟩
  obtain ⟨a0d, len0d, cap0d, z0d, rfl, w0d⟩ : ∃ a l c zs, z0_ = .slice a l c ∧ IsRow .u32 W a l c zs := by
    rcases open_ints Try.underlying30 Try.underlying92 (by kernel_rfl) hd0 with ⟨hcs, _⟩ | ⟨x, l, c, zs, hcs, _, hl, hm, hz, _, hcell, hwz⟩
    · simp at hcs
      exact ⟨none, 0, 0, [], hcs, .inl ⟨rfl, rfl, rfl, rfl⟩⟩
    · simp at hcs
      exact ⟨_, _, _, zs, hcs, .inr ⟨_, rfl, hl, hm, by simpa using hz, hcell, hwz⟩⟩
  have k1 := h1
  have lt1 : ∀ x ∈ p1, x.block < W.heap.size := by obtain ⟨m, hm⟩ := k1; exact DataW.trod_lt m _ _ _ hm
  obtain ⟨cs1, rfl, hz1⟩ := okWide_struct Try.underlying34 (hval 1 34 v1 rfl rfl)
  obtain ⟨u1, x1, z1_, rfl⟩ := array3 (hz1.trans cellsQ)
  obtain ⟨m1, hf1⟩ := h1
  obtain ⟨y1, t1, g1, hx1, _, hy1, ht1⟩ := trod_struct2 Try.underlying34 hf1
  have hn1 : DataW.trod enc Try.prog W 0 (fun _ => true) true g1 32 [u1, x1] = some y1 := by simpa [Value.cells, cellsZ] using hy1
  have hd1 : DataW.trod enc Try.prog W 0 (fun _ => true) true g1 30 [z1_] = some t1 := by simpa [Value.cells, cellsN] using ht1
  obtain ⟨ya1, yb1, gg1, hxx1, _, hya1, hyb1⟩ := trod_struct2 Try.underlying32 hn1
  have hb1 : DataW.trod enc Try.prog W 0 (fun _ => true) true gg1 4 [u1] = some ya1 := by simpa [cellsB] using hya1
  have hs1 : DataW.trod enc Try.prog W 0 (fun _ => true) true gg1 30 [x1] = some yb1 := by simpa [cellsN] using hyb1
  clear hf1 hy1 ht1 hn1 hya1 hyb1 hx1 hxx1
  obtain ⟨b1, e1, _⟩ := DataW.trod_bool Try.underlying4 hb1
  simp at e1
  subst e1
  obtain ⟨a1n, len1n, cap1n, z1n, rfl, w1n⟩ : ∃ a l c zs, x1 = .slice a l c ∧ IsRow .u32 W a l c zs := by
    rcases open_ints Try.underlying30 Try.underlying92 (by kernel_rfl) hs1 with ⟨hcs, _⟩ | ⟨x, l, c, zs, hcs, _, hl, hm, hz, _, hcell, hwz⟩
    · simp at hcs
      exact ⟨none, 0, 0, [], hcs, .inl ⟨rfl, rfl, rfl, rfl⟩⟩
    · simp at hcs
      exact ⟨_, _, _, zs, hcs, .inr ⟨_, rfl, hl, hm, by simpa using hz, hcell, hwz⟩⟩
  obtain ⟨a1d, len1d, cap1d, z1d, rfl, w1d⟩ : ∃ a l c zs, z1_ = .slice a l c ∧ IsRow .u32 W a l c zs := by
    rcases open_ints Try.underlying30 Try.underlying92 (by kernel_rfl) hd1 with ⟨hcs, _⟩ | ⟨x, l, c, zs, hcs, _, hl, hm, hz, _, hcell, hwz⟩
    · simp at hcs
      exact ⟨none, 0, 0, [], hcs, .inl ⟨rfl, rfl, rfl, rfl⟩⟩
    · simp at hcs
      exact ⟨_, _, _, zs, hcs, .inr ⟨_, rfl, hl, hm, by simpa using hz, hcell, hwz⟩⟩
  obtain ⟨l0n, rfl, hr0n, hm0n, hw0n, hc0n⟩ := ReadsInt.ofRowC w0n
  obtain ⟨l0d, rfl, hr0d, hm0d, hw0d, hc0d⟩ := ReadsInt.ofRowC w0d
  obtain ⟨l1n, rfl, hr1n, hm1n, hw1n, hc1n⟩ := ReadsInt.ofRowC w1n
  obtain ⟨l1d, rfl, hr1d, hm1d, hw1d, hc1d⟩ := ReadsInt.ofRowC w1d
  refine (PR.offcutlaw04_EdgeOrder.calls b0 _ _ l0n _ _ l0d b1 _ _ l1n _ _ l1d W (Kd.C_of_reads (d := (0 : Int)) (h1 := fun _ => rfl) hr0n) hc0n (Kd.C_of_reads (d := (0 : Int)) (h1 := fun _ => rfl) hr0d) hc0d (Kd.C_of_reads (d := (0 : Int)) (h1 := fun _ => rfl) hr1n) hc1n (Kd.C_of_reads (d := (0 : Int)) (h1 := fun _ => rfl) hr1d) hc1d hw0n hw0d hw1n hw1d).mono fun e W' ⟨he, bel⟩ => ?_
  subst he
  exact ⟨_, rfl, _, _, _, [], _, [], hW', trodAll_mk1 (shut_bool Try.underlying4 _), (trodAll_cons_mk (Below.trod laidOut (by kernel_rfl) (of_decide_eq_true (by kernel_rfl)) k0 bel lt0) (trodAll_cons_mk (Below.trod laidOut (by kernel_rfl) (of_decide_eq_true (by kernel_rfl)) k1 bel lt1) trodAll_mk0)), rfl, bel.frame _, fun h => by cases h⟩
theorem over : Rows.edgeOrderRow.holds Try.pinned (OpenSpec.ofChange Rows.edgeOrderSpec) :=
  OpenClaim.holds_of_wide 10 Try.f10 rfl rfl rfl rfl rfl rfl rfl ⟨rfl, rfl, rfl, rfl, rfl⟩ rfl rfl rfl rfl rfl (by kernel_rfl) Try.func10 (by kernel_rfl)
    (of_decide_eq_true (by kernel_rfl)) (by unfold Func.isWrapper; first | (rw [if_pos (by decide +kernel)]; kernel_rfl) | (rw [if_neg (by decide +kernel)]; exact ⟨rfl, rfl⟩))
    (fun os started H enc _ => lifted os started H enc)
theorem proved : Rows.EdgeOrderSaid := over
#print axioms proved
end Go.Proofs.Ytdhioaoojemcpaa.edgeOrder
namespace Go.Proofs.Ytdhioaoojemcpaa
/-- The row, under a short name, for the claim. -/
theorem edgeOrder_holds : Rows.EdgeOrderSaid := edgeOrder.proved
end Go.Proofs.Ytdhioaoojemcpaa
