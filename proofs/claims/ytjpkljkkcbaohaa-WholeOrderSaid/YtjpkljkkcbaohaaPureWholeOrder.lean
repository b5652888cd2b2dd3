import Derived.Test.YtjpkljkkcbaohaaPRx50
import Derived.Test.YtjpkljkkcbaohaaPRg28
namespace Go.Proofs.Ytjpkljkkcbaohaa.Pure
open Go.RowKit Go.Proofs.Ytjpkljkkcbaohaa.PR Go.Proofs.YtjpkljkkcbaohaaW.PrintWords Go.Proofs.YtjpkljkkcbaohaaW.PrintLast Go.Proofs.YtjpkljkkcbaohaaW.PrintMore

theorem WholeOrder.ws {l : List Int} (h : ∀ x ∈ l, (Lit.int .u32 x).wf = true) : Num.Ws l := fun x hx => by
  have := h x hx
  simp [Lit.wf, IntKind.min, IntKind.max, IntKind.signed, IntKind.bits] at this
  omega
theorem WholeOrder.is_ {z : Int} {K : Nat} (h : z.natAbs < 2 ^ (32 * K)) (hK : K < 1000000) {r : Bool} {A B : Nat → Option Bool} (k : Ev A r) : Ev (fun k => (offcutlaw02_is.f k (Zn.zd z).1 (Zn.zd z).2 (Zn.tz z)).bind fun t => if t = true then A k else B k) r := by
  have := offcutlaw02_is.ev (y := z) h hK
  rw [decide_eq_true rfl] at this
  exact Ev.bind this (Dec.yes rfl k)
theorem WholeOrder (m0 : Bool) (l0 : List Int) (m1 : Bool) (l1 : List Int) (h0 : ∀ x ∈ l0, (Lit.int .u32 x).wf = true) (h1 : ∀ x ∈ l1, (Lit.int .u32 x).wf = true) : ∃ k, offcutlaw02_WholeOrder.f k m0 l0 m1 l1 = some true := by
  have W0 := WholeOrder.ws h0
  have W1 := WholeOrder.ws h1
  clear h0 h1
  refine Ev.rounds ?_
  have early : Ev (fun k => offcutlaw02_WholeOrder.j0 k true m0 l0 m1 l1) true :=
    Ev.step (f := fun k => (offcutlaw02_awake.f k).bind fun t => some t) (fun k => by rw [offcutlaw02_WholeOrder.j0, if_pos rfl]) (Dec.end_ offcutlaw02_awake.ev)
  by_cases c : l0.length ≤ 10 ∧ l1.length ≤ 10
  rotate_left
  · refine Ev.congr (fun k => ?_) early
    unfold offcutlaw02_WholeOrder.f offcutlaw02_few.f
    by_cases c0 : l0.length ≤ 10
    · rw [decide_eq_true (show (l0.length : Int) ≤ 10 by omega), Option.bind_some, if_pos rfl, decide_eq_false (by omega), Option.bind_some]
      rfl
    · rw [decide_eq_false (show ¬ (l0.length : Int) ≤ 10 by omega), Option.bind_some, if_neg (by decide)]
  obtain ⟨c0, c1⟩ := c
  refine Ev.congr (f := fun k => offcutlaw02_WholeOrder.j0 k false m0 l0 m1 l1) (fun k => ?_) ?_
  · unfold offcutlaw02_WholeOrder.f offcutlaw02_few.f
    rw [decide_eq_true (show (l0.length : Int) ≤ 10 by omega), Option.bind_some, if_pos rfl, decide_eq_true (by omega), Option.bind_some]
    rfl
  obtain ⟨a, I0⟩ : ∃ a, Zn.Is m0 l0 a 10 := ⟨_, Zn.Is.of W0 c0⟩
  obtain ⟨b, I1⟩ : ∃ b, Zn.Is m1 l1 b 10 := ⟨_, Zn.Is.of W1 c1⟩
  have sa := I0.lt
  have sb := I1.lt
  have la := Dec.dc_len32 (n := a.natAbs) (by omega) sa
  have lb := Dec.dc_len32 (n := b.natAbs) (by omega) sb
  refine Ev.step (f := fun k => if false = true then ((offcutlaw02_awake.f k).bind fun t492 => (some t492)) else ((offcutlaw02_of.f k m0 l0).bind fun t493 => ((offcutlaw02_of.f k m1 l1).bind fun t494 => ((offcutref02_Less.f k t493 t494).bind fun t495 => (if t495 = true then (offcutlaw02_WholeOrder.j1 k t493 t494 (-1) 0 m0 l0 m1 l1) else (offcutlaw02_WholeOrder.j1 k t493 t494 0 0 m0 l0 m1 l1)))))) (fun k => by rw [offcutlaw02_WholeOrder.j0]) ?_
  refine Dec.no (by decide) ?_
  have O0 := offcutlaw02_of.ev I0 (by omega)
  have O1 := offcutlaw02_of.ev I1 (by omega)
  have J5 : ∀ v, whole_Right.f m0 l0 = some v → Ev (fun k => offcutlaw02_WholeOrder.j5 k (Zn.tz a) (a - b).sign a.sign v m0 l0 m1 l1) true := by
    intro v hv
    refine Ev.step (f := fun k => (whole_Compare.f k m0 l0 m1 l1).bind fun t500 => (if t500 = ((a - b).sign) then ((whole_Sign.f k m0 l0).bind fun t501 => (if t501 = (a.sign) then ((whole_Right.f m0 l0).bind fun t502 => (if (t502 == v) = true then ((whole_Make.f k m0 l0).bind fun bt503 => ((offcutlaw02_is.f k bt503.1 bt503.2 (Zn.tz a)).bind fun t507 => (if t507 = true then ((offcutlaw02_awake.f k).bind fun t508 => (some t508)) else (some false)))) else (some false))) else (some false))) else (some false))) (fun k => by rw [offcutlaw02_WholeOrder.j5]) ?_
    exact Ev.bind (whole_Compare.ev I0 I1 (by omega) (by omega)) (Dec.yes rfl (Ev.bind (whole_Sign.ev I0 (by omega)) (Dec.yes rfl (Dec.val (fun _ => hv) (Dec.yes (by simp) (Ev.bind (whole_Make.ev I0 (by omega)) (WholeOrder.is_ sa (by omega) (Dec.end_ offcutlaw02_awake.ev))))))))
  have J4 : Ev (fun k => offcutlaw02_WholeOrder.j4 k (Zn.tz a) (a - b).sign a.sign m0 l0 m1 l1) true := by
    refine Ev.step (f := fun k => if (l0.length : Int) = 0 then (if m0 = true then (if (l0.length : Int) > 0 then (if 0 ≤ (wrap64 ((l0.length : Int) - 1)) then (if (wrap64 ((l0.length : Int) - 1)) < (l0.length : Int) then (offcutlaw02_WholeOrder.j5 k (Zn.tz a) ((a - b).sign) (a.sign) ((rd l0 (wrap64 ((l0.length : Int) - 1))) != 0) m0 l0 m1 l1) else (none)) else (none)) else (offcutlaw02_WholeOrder.j5 k (Zn.tz a) ((a - b).sign) (a.sign) false m0 l0 m1 l1)) else (offcutlaw02_WholeOrder.j5 k (Zn.tz a) ((a - b).sign) (a.sign) true m0 l0 m1 l1)) else (if (l0.length : Int) > 0 then (if 0 ≤ (wrap64 ((l0.length : Int) - 1)) then (if (wrap64 ((l0.length : Int) - 1)) < (l0.length : Int) then (offcutlaw02_WholeOrder.j5 k (Zn.tz a) ((a - b).sign) (a.sign) ((rd l0 (wrap64 ((l0.length : Int) - 1))) != 0) m0 l0 m1 l1) else (none)) else (none)) else (offcutlaw02_WholeOrder.j5 k (Zn.tz a) ((a - b).sign) (a.sign) false m0 l0 m1 l1))) (fun k => by rw [offcutlaw02_WholeOrder.j4]) ?_
    by_cases hl : l0.length = 0
    · obtain rfl : l0 = [] := List.eq_nil_of_length_eq_zero hl
      cases m0
      · exact Dec.yes rfl (Dec.no (by decide) (J5 true rfl))
      · exact Dec.yes rfl (Dec.yes rfl (Dec.no (by decide) (J5 false rfl)))
    · have R := nat_Right.sem (l := l0) (by omega) (by omega)
      have e := Dec.w64p l0.length (by omega) (by omega)
      refine Dec.no (by omega) (Dec.yes (by omega) (Dec.yes (by rw [e]; omega) (Dec.yes (by rw [e]; omega) (J5 _ ?_))))
      unfold whole_Right.f
      rw [R, Option.bind_some]
      cases (rd l0 (wrap64 ((l0.length : Int) - 1)) != 0)
      · rfl
      · rw [if_pos rfl]
        cases m0
        · rfl
        · rw [if_pos rfl, decide_eq_true (by omega)]
  have J3 : ∀ x8, (¬ a < 0 → x8 = a.sign) → Ev (fun k => offcutlaw02_WholeOrder.j3 k (Zn.tz a) (a - b).sign x8 m0 l0 m1 l1) true := by
    intro x8 hx
    refine Ev.step (f := fun k => (offcutref02_Below.f (Zn.tz a)).bind fun t497 => (if t497 = true then (offcutlaw02_WholeOrder.j4 k (Zn.tz a) ((a - b).sign) (-1) m0 l0 m1 l1) else (offcutlaw02_WholeOrder.j4 k (Zn.tz a) ((a - b).sign) x8 m0 l0 m1 l1))) (fun k => by rw [offcutlaw02_WholeOrder.j3]) ?_
    refine Dec.val (fun _ => offcutref02_Below.sem a) ?_
    by_cases h : a < 0
    · rw [Int.sign_eq_neg_one_of_neg h] at J4
      exact Dec.yes (decide_eq_true h) J4
    · rw [hx h]
      exact Dec.no (by rw [decide_eq_false h]; decide) J4
  have J2 : Ev (fun k => offcutlaw02_WholeOrder.j2 k (Zn.tz a) (a - b).sign 0 m0 l0 m1 l1) true := by
    refine Ev.step (f := fun k => if (Zn.tz a).toList = ([48] : List UInt8) then (offcutlaw02_WholeOrder.j3 k (Zn.tz a) ((a - b).sign) 0 m0 l0 m1 l1) else (offcutlaw02_WholeOrder.j3 k (Zn.tz a) ((a - b).sign) 1 m0 l0 m1 l1)) (fun k => by rw [offcutlaw02_WholeOrder.j2]) ?_
    by_cases h : a = 0
    · exact Dec.yes ((Zn.tz_is0 a).2 h) (J3 0 (fun _ => by rw [h]; rfl))
    · exact Dec.no (fun e => h ((Zn.tz_is0 a).1 e)) (J3 1 (fun hn => (Int.sign_eq_one_of_pos (by omega)).symm))
  have J1 : ∀ x7, (¬ b < a → x7 = (a - b).sign) → Ev (fun k => offcutlaw02_WholeOrder.j1 k (Zn.tz a) (Zn.tz b) x7 0 m0 l0 m1 l1) true := by
    intro x7 hx
    refine Ev.step (f := fun k => (offcutref02_Less.f k (Zn.tz b) (Zn.tz a)).bind fun t496 => (if t496 = true then (offcutlaw02_WholeOrder.j2 k (Zn.tz a) 1 0 m0 l0 m1 l1) else (offcutlaw02_WholeOrder.j2 k (Zn.tz a) x7 0 m0 l0 m1 l1))) (fun k => by rw [offcutlaw02_WholeOrder.j1]) ?_
    refine Ev.bind (offcutref02_Less.ev sb sa (by omega)) ?_
    by_cases h : b < a
    · rw [Int.sign_eq_one_of_pos (show 0 < a - b by omega)] at J2
      exact Dec.yes (decide_eq_true h) J2
    · rw [hx h]
      exact Dec.no (by rw [decide_eq_false h]; decide) J2
  refine Ev.bind O0 (Ev.bind O1 (Ev.bind (offcutref02_Less.ev sa sb (by omega)) ?_))
  by_cases h : a < b
  · exact Dec.yes (decide_eq_true h) (J1 (-1) (fun _ => (Int.sign_eq_neg_one_of_neg (by omega)).symm))
  · exact Dec.no (by rw [decide_eq_false h]; decide) (J1 0 (fun hn => by rw [show a - b = 0 from by omega]; rfl))

end Go.Proofs.Ytjpkljkkcbaohaa.Pure
