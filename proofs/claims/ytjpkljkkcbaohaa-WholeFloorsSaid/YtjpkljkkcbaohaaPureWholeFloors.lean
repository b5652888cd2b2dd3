import Derived.Test.YtjpkljkkcbaohaaPRx53
import Derived.Test.YtjpkljkkcbaohaaPRg28
namespace Go.Proofs.Ytjpkljkkcbaohaa.Pure
open Go.RowKit Go.Proofs.Ytjpkljkkcbaohaa.PR Go.Proofs.YtjpkljkkcbaohaaW.PrintWords Go.Proofs.YtjpkljkkcbaohaaW.PrintLast Go.Proofs.YtjpkljkkcbaohaaW.PrintMore

theorem WholeFloors.ws {l : List Int} (h : ∀ x ∈ l, (Lit.int .u32 x).wf = true) : Num.Ws l := fun x hx => by
  have := h x hx
  simp [Lit.wf, IntKind.min, IntKind.max, IntKind.signed, IntKind.bits] at this
  omega
theorem WholeFloors.is_ {z : Int} {K : Nat} (h : z.natAbs < 2 ^ (32 * K)) (hK : K < 1000000) {r : Bool} {A B : Nat → Option Bool} (k : Ev A r) : Ev (fun k => (offcutlaw02_is.f k (Zn.zd z).1 (Zn.zd z).2 (Zn.tz z)).bind fun t => if t = true then A k else B k) r := by
  have := offcutlaw02_is.ev (y := z) h hK
  rw [decide_eq_true rfl] at this
  exact Ev.bind this (Dec.yes rfl k)
theorem WholeFloors.succ_ {n K : Nat} (h : n < 2 ^ (32 * K)) : n + 1 < 2 ^ (32 * (K + 1)) := by
  rw [Num.pow_succ32]
  omega
theorem WholeFloors (m0 : Bool) (l0 : List Int) (m1 : Bool) (l1 : List Int) (h0 : ∀ x ∈ l0, (Lit.int .u32 x).wf = true) (h1 : ∀ x ∈ l1, (Lit.int .u32 x).wf = true) : ∃ k, offcutlaw02_WholeFloors.f k m0 l0 m1 l1 = some true := by
  have W0 := WholeFloors.ws h0
  have W1 := WholeFloors.ws h1
  clear h0 h1
  refine Ev.rounds ?_
  have early : Ev (fun k => offcutlaw02_WholeFloors.j0 k true m0 l0 m1 l1) true :=
    Ev.step (f := fun k => (offcutlaw02_awake.f k).bind fun t => some t) (fun k => by rw [offcutlaw02_WholeFloors.j0, if_pos rfl]) (Dec.end_ offcutlaw02_awake.ev)
  by_cases c : l0.length ≤ 10 ∧ l1.length ≤ 10
  rotate_left
  · refine Ev.congr (fun k => ?_) early
    unfold offcutlaw02_WholeFloors.f offcutlaw02_few.f
    by_cases c0 : l0.length ≤ 10
    · rw [decide_eq_true (show (l0.length : Int) ≤ 10 by omega), Option.bind_some, if_pos rfl, decide_eq_false (by omega), Option.bind_some]
      rfl
    · rw [decide_eq_false (show ¬ (l0.length : Int) ≤ 10 by omega), Option.bind_some, if_neg (by decide)]
  obtain ⟨c0, c1⟩ := c
  refine Ev.congr (f := fun k => offcutlaw02_WholeFloors.j0 k false m0 l0 m1 l1) (fun k => ?_) ?_
  · unfold offcutlaw02_WholeFloors.f offcutlaw02_few.f
    rw [decide_eq_true (show (l0.length : Int) ≤ 10 by omega), Option.bind_some, if_pos rfl, decide_eq_true (by omega), Option.bind_some]
    rfl
  obtain ⟨K, hK⟩ : ∃ K : Nat, K = 10 := ⟨10, rfl⟩
  rw [← hK] at c0 c1
  obtain ⟨a, I0⟩ : ∃ a, Zn.Is m0 l0 a K := ⟨_, Zn.Is.of W0 c0⟩
  obtain ⟨b, I1⟩ : ∃ b, Zn.Is m1 l1 b K := ⟨_, Zn.Is.of W1 c1⟩
  have sa := I0.lt
  have sb := I1.lt
  have la := Dec.dc_len32 (n := a.natAbs) (by omega) sa
  have lb := Dec.dc_len32 (n := b.natAbs) (by omega) sb
  refine Ev.step (f := fun k => if false = true then ((offcutlaw02_awake.f k).bind fun t532 => (some t532)) else ((whole_Floor.f k m0 l0 m1 l1).bind fun bt533 => ((offcutlaw02_of.f k m1 l1).bind fun t544 => (if t544.toList = ([48] : List UInt8) then ((offcutlaw02_is.f k bt533.1 bt533.2.1 (⟨#[48]⟩ : ByteArray)).bind fun t545 => (if t545 = true then ((offcutlaw02_is.f k bt533.2.2.1 bt533.2.2.2.1 (⟨#[48]⟩ : ByteArray)).bind fun t546 => (if t546 = true then (if bt533.2.2.2.2 = 5 then ((offcutlaw02_awake.f k).bind fun t547 => (some t547)) else (some false)) else (some false))) else (some false))) else ((offcutlaw02_of.f k m0 l0).bind fun t548 => ((offcutlaw02_of.f k m1 l1).bind fun t549 => ((offcutref02_Floor.f k t548 t549).bind fun bt550 => ((offcutlaw02_is.f k bt533.1 bt533.2.1 bt550.1).bind fun t552 => (if t552 = true then ((offcutlaw02_is.f k bt533.2.2.1 bt533.2.2.2.1 bt550.2).bind fun t553 => (if t553 = true then (if bt533.2.2.2.2 = 0 then ((offcutlaw02_awake.f k).bind fun t554 => (some t554)) else (some false)) else (some false))) else (some false)))))))))) (fun k => by rw [offcutlaw02_WholeFloors.j0]) ?_
  refine Dec.no (by decide) ?_
  have O0 := offcutlaw02_of.ev I0 (by omega)
  have O1 := offcutlaw02_of.ev I1 (by omega)
  by_cases hb : b = 0
  · have I := offcutlaw02_is.ev (z := 0) (y := 0) (K := 1) (by decide) (by omega)
    rw [decide_eq_true rfl, Zn.tz_zero, Zn.zd_zero] at I
    refine Ev.bind (whole_Floor.ev0 I0 I1 (by omega) hb) (Ev.bind O1 (Dec.yes ((Zn.tz_is0 b).2 hb) ?_))
    exact Ev.bind I (Dec.yes rfl (Ev.bind I (Dec.yes rfl (Dec.yes rfl (Dec.end_ offcutlaw02_awake.ev)))))
  · have sq : (Zn.fl a b).1.natAbs < 2 ^ (32 * (K + 1)) := Nat.lt_of_le_of_lt (Zn.fl_size a b) (WholeFloors.succ_ sa)
    have sr : (Zn.fl a b).2.natAbs < 2 ^ (32 * K) := Nat.lt_trans (Zn.fl_right a b hb).1 sb
    refine Ev.bind (whole_Floor.ev I0 I1 (by omega) hb) (Ev.bind O1 (Dec.no (fun e => hb ((Zn.tz_is0 b).1 e)) (Ev.bind O0 (Ev.bind O1 (Ev.bind (offcutref02_Floor.ev sa sb (by omega) (by omega) hb) ?_)))))
    exact WholeFloors.is_ sq (by omega) (WholeFloors.is_ sr (by omega) (Dec.yes rfl (Dec.end_ offcutlaw02_awake.ev)))

end Go.Proofs.Ytjpkljkkcbaohaa.Pure
