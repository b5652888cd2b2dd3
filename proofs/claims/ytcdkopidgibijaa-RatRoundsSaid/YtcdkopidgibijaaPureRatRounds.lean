import Derived.Test.YtcdkopidgibijaaPRx70
import Derived.Test.YtcdkopidgibijaaPRg32
namespace Go.Proofs.Ytcdkopidgibijaa.Pure
open Go.RowKit Go.Proofs.Ytcdkopidgibijaa.PR Go.Proofs.YtcdkopidgibijaaW.PrintWords Go.Proofs.YtcdkopidgibijaaW.PrintLast Go.Proofs.YtcdkopidgibijaaW.PrintMore

theorem RatRounds.ws {l : List Int} (h : ∀ x ∈ l, (Lit.int .u32 x).wf = true) : Num.Ws l := fun x hx => by
  have := h x hx
  simp [Lit.wf, IntKind.min, IntKind.max, IntKind.signed, IntKind.bits] at this
  omega
theorem RatRounds.few_ (m : Bool) (l1 l2 : List Int) : offcutlaw03_few.f m l1 l2 = some (decide (l1.length ≤ 4 ∧ l2.length ≤ 4)) := by
  unfold offcutlaw03_few.f
  by_cases h : l1.length ≤ 4
  · rw [if_pos (by omega)]
    congr 1
    exact decide_eq_decide.2 ⟨fun e => ⟨h, by omega⟩, fun e => by omega⟩
  · rw [if_neg (by omega), decide_eq_false (fun e => h e.1)]
theorem RatRounds.den_ (a : Rat) : a.num % (a.den : Int) = 0 ↔ a.den = 1 := by
  constructor
  · intro h
    have h1 : (a.den : Int) ∣ a.num := Int.dvd_of_emod_eq_zero h
    have h2 : a.den ∣ a.num.natAbs := Int.ofNat_dvd_left.1 h1
    have h3 := a.reduced
    unfold Nat.Coprime at h3
    rw [Nat.gcd_eq_right h2] at h3
    exact h3
  · intro h
    rw [h]
    exact Int.emod_one _
theorem RatRounds (m0 : Bool) (l0 d0 : List Int) (h0 : ∀ x ∈ l0, (Lit.int .u32 x).wf = true) (g0 : ∀ x ∈ d0, (Lit.int .u32 x).wf = true) : ∃ k, offcutlaw03_RatRounds.f k m0 l0 d0 = some true := by
  have W0 := RatRounds.ws h0
  have V0 := RatRounds.ws g0
  clear h0 g0
  refine Ev.rounds ?_
  have A := offcutlaw03_awake.ev
  unfold offcutlaw03_RatRounds.f
  refine Dec.val (fun _ => RatRounds.few_ m0 l0 d0) ?_
  by_cases c0 : l0.length ≤ 4 ∧ d0.length ≤ 4
  rotate_left
  · exact Dec.no (by rw [decide_eq_false c0]; decide) (Dec.end_ A)
  refine Dec.yes (decide_eq_true c0) ?_
  obtain ⟨K, hK⟩ : ∃ K : Nat, K = 4 := ⟨4, rfl⟩
  rw [← hK] at c0
  obtain ⟨a, I0⟩ : ∃ a, Qn.Is m0 l0 d0 a K := ⟨_, Qn.Is.of W0 V0 c0.1 c0.2⟩
  have sa := I0.sm (by omega)
  have F := rat_Floor.ev I0 (by omega) (by omega)
  have C := rat_Ceil.ev I0 (by omega) (by omega)
  have sf := rat_Floor.size sa
  have sc : a.ceil.natAbs < 2 ^ (32 * (K + 1)) := by
    rw [Rat.ceil_eq_neg_floor_neg]
    exact Zn.abs_neg (rat_Floor.size sa.neg)
  have O0 := offcutlaw03_Of.ev I0 (by omega) (by omega)
  have P := offcutref02_Floor.ev sa.num (Qn.cast_abs sa.den) (by omega) (by omega) (by have := a.den_nz; omega)
  rw [Zn.tz_nat, (Qn.fl_ediv a.num a.den_nz).1, (Qn.fl_ediv a.num a.den_nz).2, ← Rat.floor_def] at P
  have T1 := whole_Text.ev (Zn.Is.zd sf) (by omega)
  have T2 := whole_Text.ev (Zn.Is.zd sc) (by omega)
  have W := rat_Whole.ev I0 (by omega) (by omega)
  have ce : a.ceil = if a.den = 1 then a.floor else a.floor + 1 := by
    rw [Rat.floor_def]
    show (if a.den = 1 then a.num else a.num / (a.den : Int) + 1) = _
    by_cases h : a.den = 1
    · rw [if_pos h, if_pos h, h]
      exact (Int.ediv_one _).symm
    · rw [if_neg h, if_neg h]
  have J : ∀ up, up = a.ceil → Ev (fun k => offcutlaw03_RatRounds.j0 k (Zn.tz a.floor) (Zn.tz (a.num % (a.den : Int))) (Zn.tz up) m0 l0 d0) true := by
    intro up hu
    subst hu
    refine Ev.step (f := fun k => (rat_Floor.f k m0 l0 d0).bind fun bt746 => ((whole_Text.f k bt746.1 bt746.2).bind fun t750 => (if t750.toList = (Zn.tz a.floor).toList then ((rat_Ceil.f k m0 l0 d0).bind fun bt751 => ((whole_Text.f k bt751.1 bt751.2).bind fun t755 => (if t755.toList = (Zn.tz a.ceil).toList then ((rat_Whole.f k m0 l0 d0).bind fun t756 => (if (t756 == ((Zn.tz (a.num % (a.den : Int))).toList == ([48] : List UInt8))) = true then ((offcutlaw03_awake.f k).bind fun t757 => (some t757)) else (some false))) else (some false)))) else (some false)))) (fun k => by rw [offcutlaw03_RatRounds.j0]) ?_
    refine Ev.bind F (Ev.bind T1 (Dec.yes rfl (Ev.bind C (Ev.bind T2 (Dec.yes rfl (Ev.bind W (Dec.yes ?_ (Dec.end_ A))))))))
    have e : ((Zn.tz (a.num % (a.den : Int))).toList == ([48] : List UInt8)) = decide (a.den = 1) := by
      by_cases h : a.den = 1
      · rw [decide_eq_true h, (Zn.tz_is0 _).2 ((RatRounds.den_ a).2 h)]
        rfl
      · rw [decide_eq_false h]
        exact beq_eq_false_iff_ne.2 (fun e => h ((RatRounds.den_ a).1 ((Zn.tz_is0 _).1 e)))
    rw [e, beq_self_eq_true]
  refine Ev.bind O0 (Ev.bind P ?_)
  by_cases h : a.den = 1
  · exact Dec.yes ((Zn.tz_is0 _).2 ((RatRounds.den_ a).2 h)) (J a.floor (by rw [ce, if_pos h]))
  · have o1 : (⟨#[49]⟩ : ByteArray) = Zn.tz 1 := by rw [Zn.tz_pos (by omega), show (1 : Int).natAbs = 1 from rfl, Dec.dec_one]
    have s1 : (1 : Int).natAbs < 2 ^ (32 * (K + 1)) := Num.le_pow (k := 1) (by decide) (by omega)
    rw [o1]
    exact Dec.no (fun e => h ((RatRounds.den_ a).1 ((Zn.tz_is0 _).1 e))) (Ev.bind (offcutref02_Add.ev sf s1 (by omega)) (J (a.floor + 1) (by rw [ce, if_neg h])))

end Go.Proofs.Ytcdkopidgibijaa.Pure
