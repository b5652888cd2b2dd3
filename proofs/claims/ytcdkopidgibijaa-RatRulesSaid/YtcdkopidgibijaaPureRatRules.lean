import Derived.Test.YtcdkopidgibijaaPRx81
import Derived.Test.YtcdkopidgibijaaPRg32
namespace Go.Proofs.Ytcdkopidgibijaa.Pure
open Go.RowKit Go.Proofs.Ytcdkopidgibijaa.PR Go.Proofs.YtcdkopidgibijaaW.PrintWords Go.Proofs.YtcdkopidgibijaaW.PrintLast Go.Proofs.YtcdkopidgibijaaW.PrintMore

theorem RatRules.ws {l : List Int} (h : ∀ x ∈ l, (Lit.int .u32 x).wf = true) : Num.Ws l := fun x hx => by
  have := h x hx
  simp [Lit.wf, IntKind.min, IntKind.max, IntKind.signed, IntKind.bits] at this
  omega
theorem RatRules.few_ (m : Bool) (l1 l2 : List Int) : offcutlaw03_few.f m l1 l2 = some (decide (l1.length ≤ 4 ∧ l2.length ≤ 4)) := by
  unfold offcutlaw03_few.f
  by_cases h : l1.length ≤ 4
  · rw [if_pos (by omega)]
    congr 1
    exact decide_eq_decide.2 ⟨fun e => ⟨h, by omega⟩, fun e => by omega⟩
  · rw [if_neg (by omega), decide_eq_false (fun e => h e.1)]
theorem RatRules.same {x y : Rat} (h : x = y) : (x - y).num.sign = 0 := by
  rw [h, Rat.sub_self]
  rfl
theorem RatRules (m0 : Bool) (l0 d0 : List Int) (m1 : Bool) (l1 d1 : List Int) (m2 : Bool) (l2 d2 : List Int) (h0 : ∀ x ∈ l0, (Lit.int .u32 x).wf = true) (g0 : ∀ x ∈ d0, (Lit.int .u32 x).wf = true) (h1 : ∀ x ∈ l1, (Lit.int .u32 x).wf = true) (g1 : ∀ x ∈ d1, (Lit.int .u32 x).wf = true) (h2 : ∀ x ∈ l2, (Lit.int .u32 x).wf = true) (g2 : ∀ x ∈ d2, (Lit.int .u32 x).wf = true) : ∃ k, offcutlaw03_RatRules.f k m0 l0 d0 m1 l1 d1 m2 l2 d2 = some true := by
  have W0 := RatRules.ws h0
  have V0 := RatRules.ws g0
  have W1 := RatRules.ws h1
  have V1 := RatRules.ws g1
  have W2 := RatRules.ws h2
  have V2 := RatRules.ws g2
  clear h0 g0 h1 g1 h2 g2
  refine Ev.rounds ?_
  have A := offcutlaw03_awake.ev
  have early : Ev (fun k => offcutlaw03_RatRules.j0 k true m0 l0 d0 m1 l1 d1 m2 l2 d2) true :=
    Ev.step (f := fun k => (offcutlaw03_awake.f k).bind fun t => some t) (fun k => by rw [offcutlaw03_RatRules.j0, if_pos rfl]) (Dec.end_ A)
  unfold offcutlaw03_RatRules.f
  refine Dec.val (fun _ => RatRules.few_ m0 l0 d0) ?_
  by_cases c0 : l0.length ≤ 4 ∧ d0.length ≤ 4
  rotate_left
  · exact Dec.no (by rw [decide_eq_false c0]; decide) early
  refine Dec.yes (decide_eq_true c0) (Dec.val (fun _ => RatRules.few_ m1 l1 d1) ?_)
  by_cases c1 : l1.length ≤ 4 ∧ d1.length ≤ 4
  rotate_left
  · exact Dec.no (by rw [decide_eq_false c1]; decide) early
  refine Dec.yes (decide_eq_true c1) (Dec.val (fun _ => RatRules.few_ m2 l2 d2) ?_)
  by_cases c2 : l2.length ≤ 4 ∧ d2.length ≤ 4
  rotate_left
  · rw [decide_eq_false c2]
    exact early
  rw [decide_eq_true c2]
  refine Ev.congr (f := fun k => offcutlaw03_RatRules.j0 k false m0 l0 d0 m1 l1 d1 m2 l2 d2) (fun _ => rfl) ?_
  obtain ⟨K, hK⟩ : ∃ K : Nat, K = 4 := ⟨4, rfl⟩
  rw [← hK] at c0 c1 c2
  obtain ⟨a, Ia⟩ : ∃ a, Qn.Is m0 l0 d0 a K := ⟨_, Qn.Is.of W0 V0 c0.1 c0.2⟩
  obtain ⟨b, Ib⟩ : ∃ b, Qn.Is m1 l1 d1 b K := ⟨_, Qn.Is.of W1 V1 c1.1 c1.2⟩
  obtain ⟨c, Ic⟩ : ∃ c, Qn.Is m2 l2 d2 c K := ⟨_, Qn.Is.of W2 V2 c2.1 c2.2⟩
  have sa := Ia.sm (by omega)
  have sb := Ib.sm (by omega)
  have sc := Ic.sm (by omega)
  have J2 : Ev (fun k => offcutlaw03_RatRules.j2 k m0 l0 d0 m1 l1 d1 m2 l2 d2) true := by
    refine Ev.step (f := fun k => (rat_Compare.f k m0 l0 d0 m1 l1 d1).bind fun t1039 => ((rat_Sub.f k m0 l0 d0 m2 l2 d2).bind fun bt1040 => ((rat_Sub.f k m1 l1 d1 m2 l2 d2).bind fun bt1047 => ((rat_Compare.f k bt1040.1 bt1040.2.1 bt1040.2.2 bt1047.1 bt1047.2.1 bt1047.2.2).bind fun t1054 => (if t1039 = t1054 then ((offcutlaw03_awake.f k).bind fun t1055 => (some t1055)) else (some false)))))) (fun k => by rw [offcutlaw03_RatRules.j2]) ?_
    have C := rat_Compare.ev (Qn.Is.qd (sa.sub sc)) (Qn.Is.qd (sb.sub sc)) (by omega) (by omega) (by omega)
    rw [show a - c - (b - c) = a - b from by grind] at C
    exact Ev.bind (rat_Compare.ev Ia Ib (by omega) (by omega) (by omega)) (Ev.bind (rat_Sub.ev Ia Ic (by omega) (by omega) (by omega)) (Ev.bind (rat_Sub.ev Ib Ic (by omega) (by omega) (by omega)) (Ev.bind C (Dec.yes rfl (Dec.end_ A)))))
  have J1 : Ev (fun k => offcutlaw03_RatRules.j1 k false m0 l0 d0 m1 l1 d1 m2 l2 d2) true := by
    refine Ev.step (f := fun k => if false = true then (some false) else ((rat_Sign.f k m1 l1 d1).bind fun t1021 => (if t1021 = 0 then (offcutlaw03_RatRules.j2 k m0 l0 d0 m1 l1 d1 m2 l2 d2) else ((rat_Mul.f k m0 l0 d0 m1 l1 d1).bind fun bt1022 => ((rat_Div.f k bt1022.1 bt1022.2.1 bt1022.2.2 m1 l1 d1).bind fun bt1029 => (if bt1029.2.2.2 = 0 then ((rat_Compare.f k bt1029.1 bt1029.2.1 bt1029.2.2.1 m0 l0 d0).bind fun t1038 => (if t1038 = 0 then (offcutlaw03_RatRules.j2 k m0 l0 d0 m1 l1 d1 m2 l2 d2) else (some false))) else (some false))))))) (fun k => by rw [offcutlaw03_RatRules.j1]) (Dec.no (by decide) ?_)
    refine Ev.bind (rat_Sign.ev Ib (by omega)) ?_
    by_cases h : b.num.sign = 0
    · exact Dec.yes h J2
    · have b0 : b ≠ 0 := fun e => h (by rw [e]; rfl)
      have D := rat_Div.ev (Qn.Is.qd (sa.mul sb)) Ib (by omega) (by omega) (by omega) b0
      have e : a * b / b = a := by rw [Rat.div_def, Rat.mul_assoc, Rat.mul_inv_cancel b b0, Rat.mul_one]
      rw [e] at D
      have C := rat_Compare.ev (Qn.Is.qd sa) Ia (by omega) (by omega) (by omega)
      rw [RatRules.same rfl] at C
      exact Dec.no h (Ev.bind (rat_Mul.ev Ia Ib (by omega) (by omega) (by omega)) (Ev.bind D (Dec.yes rfl (Ev.bind C (Dec.yes rfl J2)))))
  refine Ev.step (f := fun k => if false = true then ((offcutlaw03_awake.f k).bind fun t969 => (some t969)) else ((rat_Add.f k m0 l0 d0 m1 l1 d1).bind fun bt970 => ((rat_Sub.f k bt970.1 bt970.2.1 bt970.2.2 m1 l1 d1).bind fun bt977 => ((rat_Compare.f k bt977.1 bt977.2.1 bt977.2.2 m0 l0 d0).bind fun t984 => (if t984 = 0 then ((rat_Add.f k m1 l1 d1 m2 l2 d2).bind fun bt985 => ((rat_Mul.f k m0 l0 d0 bt985.1 bt985.2.1 bt985.2.2).bind fun bt992 => ((rat_Mul.f k m0 l0 d0 m1 l1 d1).bind fun bt999 => ((rat_Mul.f k m0 l0 d0 m2 l2 d2).bind fun bt1006 => ((rat_Add.f k bt999.1 bt999.2.1 bt999.2.2 bt1006.1 bt1006.2.1 bt1006.2.2).bind fun bt1013 => ((rat_Compare.f k bt992.1 bt992.2.1 bt992.2.2 bt1013.1 bt1013.2.1 bt1013.2.2).bind fun t1020 => (offcutlaw03_RatRules.j1 k (t1020 != 0) m0 l0 d0 m1 l1 d1 m2 l2 d2))))))) else (offcutlaw03_RatRules.j1 k true m0 l0 d0 m1 l1 d1 m2 l2 d2)))))) (fun k => by rw [offcutlaw03_RatRules.j0]) (Dec.no (by decide) ?_)
  have S := rat_Sub.ev (Qn.Is.qd (sa.add sb)) Ib (by omega) (by omega) (by omega)
  rw [show a + b - b = a from by grind] at S
  have C := rat_Compare.ev (Qn.Is.qd sa) Ia (by omega) (by omega) (by omega)
  rw [RatRules.same rfl] at C
  have M := rat_Mul.ev Ia (Qn.Is.qd (sb.add sc)) (by omega) (by omega) (by omega)
  have N := rat_Add.ev (Qn.Is.qd (sa.mul sb)) (Qn.Is.qd (sa.mul sc)) (by omega) (by omega) (by omega)
  have C2 := rat_Compare.ev (Qn.Is.qd (sa.mul (sb.add sc))) (Qn.Is.qd ((sa.mul sb).add (sa.mul sc))) (by omega) (by omega) (by omega)
  rw [RatRules.same (Rat.mul_add a b c)] at C2
  exact Ev.bind (rat_Add.ev Ia Ib (by omega) (by omega) (by omega)) (Ev.bind S (Ev.bind C (Dec.yes rfl (Ev.bind (rat_Add.ev Ib Ic (by omega) (by omega) (by omega)) (Ev.bind M (Ev.bind (rat_Mul.ev Ia Ib (by omega) (by omega) (by omega)) (Ev.bind (rat_Mul.ev Ia Ic (by omega) (by omega) (by omega)) (Ev.bind N (Ev.bind C2 J1)))))))))

end Go.Proofs.Ytcdkopidgibijaa.Pure
