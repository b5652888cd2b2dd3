import Derived.Test.YtjpkljkkcbaohaaPRx55
import Derived.Test.YtjpkljkkcbaohaaPRg28
namespace Go.Proofs.Ytjpkljkkcbaohaa.Pure
open Go.RowKit Go.Proofs.Ytjpkljkkcbaohaa.PR Go.Proofs.YtjpkljkkcbaohaaW.PrintWords Go.Proofs.YtjpkljkkcbaohaaW.PrintLast Go.Proofs.YtjpkljkkcbaohaaW.PrintMore

theorem WholeSigns.ws {l : List Int} (h : ∀ x ∈ l, (Lit.int .u32 x).wf = true) : Num.Ws l := fun x hx => by
  have := h x hx
  simp [Lit.wf, IntKind.min, IntKind.max, IntKind.signed, IntKind.bits] at this
  omega
theorem WholeSigns (m0 : Bool) (l0 : List Int) (m1 : Bool) (l1 : List Int) (h0 : ∀ x ∈ l0, (Lit.int .u32 x).wf = true) (h1 : ∀ x ∈ l1, (Lit.int .u32 x).wf = true) : ∃ k, offcutlaw02_WholeSigns.f k m0 l0 m1 l1 = some true := by
  have W0 := WholeSigns.ws h0
  have W1 := WholeSigns.ws h1
  clear h0 h1
  refine Ev.rounds ?_
  have early : Ev (fun k => offcutlaw02_WholeSigns.j0 k true m0 l0 m1 l1) true :=
    Ev.step (f := fun k => (offcutlaw02_awake.f k).bind fun t => some t) (fun k => by rw [offcutlaw02_WholeSigns.j0, if_pos rfl]) (Dec.end_ offcutlaw02_awake.ev)
  by_cases c : l0.length ≤ 10 ∧ l1.length ≤ 10
  rotate_left
  · refine Ev.congr (fun k => ?_) early
    unfold offcutlaw02_WholeSigns.f offcutlaw02_few.f
    by_cases c0 : l0.length ≤ 10
    · rw [decide_eq_true (show (l0.length : Int) ≤ 10 by omega), Option.bind_some, if_pos rfl, decide_eq_false (by omega), Option.bind_some]
      rfl
    · rw [decide_eq_false (show ¬ (l0.length : Int) ≤ 10 by omega), Option.bind_some, if_neg (by decide)]
  obtain ⟨c0, c1⟩ := c
  refine Ev.congr (f := fun k => offcutlaw02_WholeSigns.j0 k false m0 l0 m1 l1) (fun k => ?_) ?_
  · unfold offcutlaw02_WholeSigns.f offcutlaw02_few.f
    rw [decide_eq_true (show (l0.length : Int) ≤ 10 by omega), Option.bind_some, if_pos rfl, decide_eq_true (by omega), Option.bind_some]
    rfl
  obtain ⟨a, I0⟩ : ∃ a, Zn.Is m0 l0 a 10 := ⟨_, Zn.Is.of W0 c0⟩
  obtain ⟨b, I1⟩ : ∃ b, Zn.Is m1 l1 b 10 := ⟨_, Zn.Is.of W1 c1⟩
  have sa := I0.lt
  have sb := I1.lt
  have la := Dec.dc_len32 (n := a.natAbs) (by omega) sa
  have lb := Dec.dc_len32 (n := b.natAbs) (by omega) sb
  refine Ev.step (f := fun k => if false = true then ((offcutlaw02_awake.f k).bind fun t608 => (some t608)) else ((whole_Mul.f k m0 l0 m1 l1).bind fun bt609 => ((whole_Sign.f k bt609.1 bt609.2).bind fun t613 => ((whole_Sign.f k m0 l0).bind fun t614 => ((whole_Sign.f k m1 l1).bind fun t615 => (if t613 = (wrap64 (t614 * t615)) then ((whole_Neg.f k m0 l0).bind fun bt616 => ((whole_Neg.f k m1 l1).bind fun bt620 => ((whole_Compare.f k bt616.1 bt616.2 bt620.1 bt620.2).bind fun t624 => ((whole_Compare.f k m1 l1 m0 l0).bind fun t625 => (if t624 = t625 then ((whole_Compare.f k m0 l0 m1 l1).bind fun t626 => ((whole_Sub.f k m0 l0 m1 l1).bind fun bt627 => ((whole_Sign.f k bt627.1 bt627.2).bind fun t631 => (if t626 = t631 then ((offcutlaw02_awake.f k).bind fun t632 => (some t632)) else (some false))))) else (some false)))))) else (some false))))))) (fun k => by rw [offcutlaw02_WholeSigns.j0]) ?_
  refine Dec.no (by decide) ?_
  have G := whole_Sign.ev (Zn.Is.zd (Zn.abs_mul sa sb)) (by omega)
  have N0 := Zn.Is.zd (Zn.abs_neg sa)
  have N1 := Zn.Is.zd (Zn.abs_neg sb)
  have C := whole_Compare.ev N0 N1 (by omega) (by omega)
  rw [show -a - -b = b - a from by omega] at C
  refine Ev.bind (whole_Mul.ev I0 I1 (by omega)) (Ev.bind G (Ev.bind (whole_Sign.ev I0 (by omega)) (Ev.bind (whole_Sign.ev I1 (by omega)) (Dec.yes (by rw [Zn.w64_sign, Int.sign_mul]) ?_))))
  refine Ev.bind (whole_Neg.ev I0 (by omega)) (Ev.bind (whole_Neg.ev I1 (by omega)) (Ev.bind C (Ev.bind (whole_Compare.ev I1 I0 (by omega) (by omega)) (Dec.yes rfl ?_))))
  exact Ev.bind (whole_Compare.ev I0 I1 (by omega) (by omega)) (Ev.bind (whole_Sub.ev I0 I1 (by omega)) (Ev.bind (whole_Sign.ev (Zn.Is.zd (Zn.abs_sub sa sb)) (by omega)) (Dec.yes rfl (Dec.end_ offcutlaw02_awake.ev))))

end Go.Proofs.Ytjpkljkkcbaohaa.Pure
