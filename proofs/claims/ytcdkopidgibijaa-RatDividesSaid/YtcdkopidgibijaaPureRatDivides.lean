import Derived.Test.YtcdkopidgibijaaPRx66
import Derived.Test.YtcdkopidgibijaaPRg32
namespace Go.Proofs.Ytcdkopidgibijaa.Pure
open Go.RowKit Go.Proofs.Ytcdkopidgibijaa.PR Go.Proofs.YtcdkopidgibijaaW.PrintWords Go.Proofs.YtcdkopidgibijaaW.PrintLast Go.Proofs.YtcdkopidgibijaaW.PrintMore

theorem RatDivides.ws {l : List Int} (h : ∀ x ∈ l, (Lit.int .u32 x).wf = true) : Num.Ws l := fun x hx => by
  have := h x hx
  simp [Lit.wf, IntKind.min, IntKind.max, IntKind.signed, IntKind.bits] at this
  omega
theorem RatDivides.few_ (m : Bool) (l1 l2 : List Int) : offcutlaw03_few.f m l1 l2 = some (decide (l1.length ≤ 4 ∧ l2.length ≤ 4)) := by
  unfold offcutlaw03_few.f
  by_cases h : l1.length ≤ 4
  · rw [if_pos (by omega)]
    congr 1
    exact decide_eq_decide.2 ⟨fun e => ⟨h, by omega⟩, fun e => by omega⟩
  · rw [if_neg (by omega), decide_eq_false (fun e => h e.1)]
theorem RatDivides.is_ {r : Rat} {K : Nat} (h : Qn.Sm r K) (hK1 : 1 ≤ K) (hK : K < 300000) {v : Bool} {A B : Nat → Option Bool} (k : Ev A v) : Ev (fun k => (offcutlaw03_Is.f k (Qn.qd r).1 (Qn.qd r).2.1 (Qn.qd r).2.2 (Zn.tz r.num) (Dec.dec r.den)).bind fun t => if t = true then A k else B k) v := by
  have := offcutlaw03_Is.ev (s := r) h hK1 hK
  rw [decide_eq_true rfl] at this
  exact Ev.bind this (Dec.yes rfl k)
theorem RatDivides.inv_ {b : Rat} {K : Nat} (h : Qn.Sm b K) (h0 : b ≠ 0) : Qn.Sm b⁻¹ K := by
  have hn : b.num ≠ 0 := fun e => h0 (Rat.num_eq_zero.1 e)
  refine ⟨?_, ?_⟩
  · rw [Rat.num_inv, Int.natAbs_mul]
    have h1 := Zn.sign_range b.num
    have h2 := h.den
    have : b.num.sign.natAbs ≤ 1 := by omega
    rw [Int.natAbs_natCast]
    exact Nat.lt_of_le_of_lt (Nat.le_trans (Nat.mul_le_mul_right _ this) (by omega)) h2
  · rw [Rat.den_inv, if_neg hn]
    exact h.num
theorem RatDivides.nil_ : Ev (fun k => rat_Sign.f k false [] []) 0 := by
  have h := rat_Sign.ev (Qn.Is.of (m := false) (K := 1) Num.Ws.nil Num.Ws.nil (Nat.zero_le _) (Nat.zero_le _)) (by omega)
  have e : (mkRat (Zn.zv false (Num.nv [])) (Qn.dn (Num.nv []))).num.sign = 0 := by
    show (mkRat 0 1).num.sign = 0
    rfl
  rwa [e] at h
theorem RatDivides (m0 : Bool) (l0 d0 : List Int) (m1 : Bool) (l1 d1 : List Int) (h0 : ∀ x ∈ l0, (Lit.int .u32 x).wf = true) (g0 : ∀ x ∈ d0, (Lit.int .u32 x).wf = true) (h1 : ∀ x ∈ l1, (Lit.int .u32 x).wf = true) (g1 : ∀ x ∈ d1, (Lit.int .u32 x).wf = true) : ∃ k, offcutlaw03_RatDivides.f k m0 l0 d0 m1 l1 d1 = some true := by
  have W0 := RatDivides.ws h0
  have V0 := RatDivides.ws g0
  have W1 := RatDivides.ws h1
  have V1 := RatDivides.ws g1
  clear h0 g0 h1 g1
  refine Ev.rounds ?_
  have A := offcutlaw03_awake.ev
  have early : Ev (fun k => offcutlaw03_RatDivides.j0 k true m0 l0 d0 m1 l1 d1) true :=
    Ev.step (f := fun k => (offcutlaw03_awake.f k).bind fun t => some t) (fun k => by rw [offcutlaw03_RatDivides.j0, if_pos rfl]) (Dec.end_ A)
  unfold offcutlaw03_RatDivides.f
  refine Dec.val (fun _ => RatDivides.few_ m0 l0 d0) ?_
  by_cases c0 : l0.length ≤ 4 ∧ d0.length ≤ 4
  rotate_left
  · exact Dec.no (by rw [decide_eq_false c0]; decide) early
  refine Dec.yes (decide_eq_true c0) (Dec.val (fun _ => RatDivides.few_ m1 l1 d1) ?_)
  by_cases c1 : l1.length ≤ 4 ∧ d1.length ≤ 4
  rotate_left
  · rw [decide_eq_false c1]
    exact early
  rw [decide_eq_true c1]
  refine Ev.congr (f := fun k => offcutlaw03_RatDivides.j0 k false m0 l0 d0 m1 l1 d1) (fun _ => rfl) ?_
  obtain ⟨K, hK⟩ : ∃ K : Nat, K = 4 := ⟨4, rfl⟩
  rw [← hK] at c0 c1
  obtain ⟨a, I0⟩ : ∃ a, Qn.Is m0 l0 d0 a K := ⟨_, Qn.Is.of W0 V0 c0.1 c0.2⟩
  obtain ⟨b, I1⟩ : ∃ b, Qn.Is m1 l1 d1 b K := ⟨_, Qn.Is.of W1 V1 c1.1 c1.2⟩
  have O0 := offcutlaw03_Of.ev I0 (by omega) (by omega)
  have O1 := offcutlaw03_Of.ev I1 (by omega) (by omega)
  have sa := I0.sm (by omega)
  have sb := I1.sm (by omega)
  refine Ev.step (f := fun k => if false = true then ((offcutlaw03_awake.f k).bind fun t676 => (some t676)) else ((rat_Div.f k m0 l0 d0 m1 l1 d1).bind fun bt677 => ((offcutlaw03_Of.f k m1 l1 d1).bind fun bt686 => (if bt686.1.toList = ([48] : List UInt8) then ((rat_Sign.f k bt677.1 bt677.2.1 bt677.2.2.1).bind fun t688 => (if t688 = 0 then (if bt677.2.2.2 = 5 then ((offcutlaw03_awake.f k).bind fun t689 => (some t689)) else (some false)) else (some false))) else ((offcutlaw03_Of.f k m0 l0 d0).bind fun bt690 => ((offcutlaw03_Of.f k m1 l1 d1).bind fun bt692 => ((offcutref03_Turned.f bt692.1 bt692.2).bind fun bt694 => ((offcutref03_Mul.f k bt690.1 bt690.2 bt694.1 bt694.2).bind fun bt696 => ((offcutlaw03_Is.f k bt677.1 bt677.2.1 bt677.2.2.1 bt696.1 bt696.2).bind fun t698 => (if t698 = true then (if bt677.2.2.2 = 0 then ((offcutlaw03_awake.f k).bind fun t699 => (some t699)) else (some false)) else (some false))))))))))) (fun k => by rw [offcutlaw03_RatDivides.j0]) ?_
  refine Dec.no (by decide) ?_
  by_cases hb : b = 0
  · refine Ev.bind (rat_Div.ev0 I1 (by omega) hb) (Ev.bind O1 (Dec.yes ((Zn.tz_is0 _).2 (by rw [hb]; rfl)) ?_))
    exact Ev.bind RatDivides.nil_ (Dec.yes rfl (Dec.yes rfl (Dec.end_ A)))
  · have M := offcutref03_Mul.ev sa (RatDivides.inv_ sb hb) (by omega) (by omega)
    rw [← Rat.div_def] at M
    have sd : Qn.Sm (a / b) (K + K) := by
      rw [Rat.div_def]
      exact sa.mul (RatDivides.inv_ sb hb)
    refine Ev.bind (rat_Div.ev I0 I1 (by omega) (by omega) (by omega) hb) (Ev.bind O1 (Dec.no (fun e => hb (Rat.num_eq_zero.1 ((Zn.tz_is0 _).1 e))) (Ev.bind O0 (Ev.bind O1 (Dec.val (fun _ => offcutref03_Turned.sem sb (by omega) hb) (Ev.bind M ?_))))))
    exact RatDivides.is_ sd (by omega) (by omega) (Dec.yes rfl (Dec.end_ A))

end Go.Proofs.Ytcdkopidgibijaa.Pure
