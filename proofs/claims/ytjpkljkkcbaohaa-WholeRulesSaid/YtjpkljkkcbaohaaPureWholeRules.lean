import Derived.Test.YtjpkljkkcbaohaaPRx54
import Derived.Test.YtjpkljkkcbaohaaPRg28
namespace Go.Proofs.Ytjpkljkkcbaohaa.Pure
open Go.RowKit Go.Proofs.Ytjpkljkkcbaohaa.PR Go.Proofs.YtjpkljkkcbaohaaW.PrintWords Go.Proofs.YtjpkljkkcbaohaaW.PrintLast Go.Proofs.YtjpkljkkcbaohaaW.PrintMore

theorem WholeRules.ws {l : List Int} (h : ∀ x ∈ l, (Lit.int .u32 x).wf = true) : Num.Ws l := fun x hx => by
  have := h x hx
  simp [Lit.wf, IntKind.min, IntKind.max, IntKind.signed, IntKind.bits] at this
  omega
theorem WholeRules.succ_ {n K : Nat} (h : n < 2 ^ (32 * K)) : n + 1 < 2 ^ (32 * (K + 1)) := by
  rw [Num.pow_succ32]
  omega
theorem WholeRules (m0 : Bool) (l0 : List Int) (m1 : Bool) (l1 : List Int) (h0 : ∀ x ∈ l0, (Lit.int .u32 x).wf = true) (h1 : ∀ x ∈ l1, (Lit.int .u32 x).wf = true) : ∃ k, offcutlaw02_WholeRules.f k m0 l0 m1 l1 = some true := by
  have W0 := WholeRules.ws h0
  have W1 := WholeRules.ws h1
  clear h0 h1
  refine Ev.rounds ?_
  have early : Ev (fun k => offcutlaw02_WholeRules.j0 k true m0 l0 m1 l1) true :=
    Ev.step (f := fun k => (offcutlaw02_awake.f k).bind fun t => some t) (fun k => by rw [offcutlaw02_WholeRules.j0, if_pos rfl]) (Dec.end_ offcutlaw02_awake.ev)
  by_cases c : l0.length ≤ 10 ∧ l1.length ≤ 10
  rotate_left
  · refine Ev.congr (fun k => ?_) early
    unfold offcutlaw02_WholeRules.f offcutlaw02_few.f
    by_cases c0 : l0.length ≤ 10
    · rw [decide_eq_true (show (l0.length : Int) ≤ 10 by omega), Option.bind_some, if_pos rfl, decide_eq_false (by omega), Option.bind_some]
      rfl
    · rw [decide_eq_false (show ¬ (l0.length : Int) ≤ 10 by omega), Option.bind_some, if_neg (by decide)]
  obtain ⟨c0, c1⟩ := c
  refine Ev.congr (f := fun k => offcutlaw02_WholeRules.j0 k false m0 l0 m1 l1) (fun k => ?_) ?_
  · unfold offcutlaw02_WholeRules.f offcutlaw02_few.f
    rw [decide_eq_true (show (l0.length : Int) ≤ 10 by omega), Option.bind_some, if_pos rfl, decide_eq_true (by omega), Option.bind_some]
    rfl
  obtain ⟨K, hK⟩ : ∃ K : Nat, K = 10 := ⟨10, rfl⟩
  rw [← hK] at c0 c1
  obtain ⟨a, I0⟩ : ∃ a, Zn.Is m0 l0 a K := ⟨_, Zn.Is.of W0 c0⟩
  obtain ⟨b, I1⟩ : ∃ b, Zn.Is m1 l1 b K := ⟨_, Zn.Is.of W1 c1⟩
  have sa := I0.lt
  have sb := I1.lt
  have la := Dec.dc_len32 (n := a.natAbs) (by omega) sa
  have lb := Dec.dc_len32 (n := b.natAbs) (by omega) sb
  refine Ev.step (f := fun k => if false = true then ((offcutlaw02_awake.f k).bind fun t559 => (some t559)) else ((whole_Add.f k m0 l0 m1 l1).bind fun bt560 => ((whole_Sub.f k bt560.1 bt560.2 m1 l1).bind fun bt564 => ((whole_Compare.f k bt564.1 bt564.2 m0 l0).bind fun t568 => (if t568 = 0 then ((whole_Neg.f k m0 l0).bind fun bt569 => ((whole_Add.f k m0 l0 bt569.1 bt569.2).bind fun bt573 => ((whole_Sign.f k bt573.1 bt573.2).bind fun t577 => (offcutlaw02_WholeRules.j1 k (t577 != 0) m0 l0 m1 l1)))) else (offcutlaw02_WholeRules.j1 k true m0 l0 m1 l1)))))) (fun k => by rw [offcutlaw02_WholeRules.j0]) ?_
  refine Dec.no (by decide) ?_
  have J1 : Ev (fun k => offcutlaw02_WholeRules.j1 k false m0 l0 m1 l1) true := by
    refine Ev.step (f := fun k => if false = true then (some false) else ((whole_Floor.f k m0 l0 m1 l1).bind fun bt578 => (if bt578.2.2.2.2 = 0 then ((whole_Mul.f k m1 l1 bt578.1 bt578.2.1).bind fun bt591 => ((whole_Add.f k bt591.1 bt591.2 bt578.2.2.1 bt578.2.2.2.1).bind fun bt595 => ((whole_Compare.f k bt595.1 bt595.2 m0 l0).bind fun t599 => (if t599 = 0 then ((whole_Sign.f k bt578.2.2.1 bt578.2.2.2.1).bind fun t600 => ((whole_Sign.f k m1 l1).bind fun t601 => (if (wrap64 (t600 * t601)) ≥ 0 then ((nat_Compare.f k bt578.2.2.2.1 l1).bind fun t602 => (if t602 < 0 then ((offcutlaw02_awake.f k).bind fun t603 => (some t603)) else (some false))) else (some false)))) else (some false))))) else ((whole_Sign.f k m1 l1).bind fun t589 => (if t589 = 0 then ((offcutlaw02_awake.f k).bind fun t590 => (some t590)) else (some false)))))) (fun k => by rw [offcutlaw02_WholeRules.j1]) (Dec.no (by decide) ?_)
    have Sb := whole_Sign.ev I1 (by omega)
    by_cases hb : b = 0
    · refine Ev.bind (whole_Floor.ev0 I0 I1 (by omega) hb) (Dec.no (by decide) (Ev.bind Sb (Dec.yes ?_ (Dec.end_ offcutlaw02_awake.ev))))
      rw [hb]
      rfl
    · have sq : (Zn.fl a b).1.natAbs < 2 ^ (32 * (K + 1)) := Nat.lt_of_le_of_lt (Zn.fl_size a b) (WholeRules.succ_ sa)
      have hr := Zn.fl_right a b hb
      have sr : (Zn.fl a b).2.natAbs < 2 ^ (32 * K) := Nat.lt_trans hr.1 sb
      have M := whole_Mul.ev I1 (Zn.Is.zd sq) (by omega)
      have A := whole_Add.ev (Zn.Is.zd (Zn.abs_mul sb sq)) (Zn.Is.zd (Zn.abs_le sr (show K ≤ K + (K + 1) by omega))) (by omega)
      rw [Zn.fl_sum] at A
      have C := whole_Compare.ev (Zn.Is.zd sa) I0 (by omega) (by omega)
      have z : (a - a).sign = 0 := by rw [Int.sub_self]; rfl
      rw [z] at C
      have D : ∀ k, nat_Compare.f k (Zn.zd (Zn.fl a b).2).2 l1 = some (-1) := fun k => by
        unfold nat_Compare.f
        rw [if_pos ((Zn.Is.zd sr).ok (by omega)), if_pos (I1.ok (by omega)), ← I1.abs, ← (Zn.Is.zd sr).abs, Num.cmp_lt hr.1]
      refine Ev.bind (whole_Floor.ev I0 I1 (by omega) hb) (Dec.yes rfl (Ev.bind M (Ev.bind A (Ev.bind C (Dec.yes rfl (Ev.bind (whole_Sign.ev (Zn.Is.zd sr) (by omega)) (Ev.bind Sb (Dec.yes ?_ (Dec.val D (Dec.yes (by decide) (Dec.end_ offcutlaw02_awake.ev)))))))))))
      rw [Zn.w64_sign]
      have h1 := hr.2
      have h2 := Zn.sign_mul_neg (Zn.fl a b).2 b
      rcases Int.lt_or_le ((Zn.fl a b).2.sign * b.sign) 0 with h | h
      · have := h2.1 h
        omega
      · exact h
  have S := whole_Sub.ev (Zn.Is.zd (Zn.abs_add sa sb)) (I1.le (show K ≤ K + 1 by omega)) (by omega)
  rw [show a + b - b = a from by omega] at S
  have C := whole_Compare.ev (Zn.Is.zd sa) I0 (by omega) (by omega)
  have z : (a - a).sign = 0 := by rw [Int.sub_self]; rfl
  rw [z] at C
  have A2 := whole_Add.ev I0 (Zn.Is.zd (Zn.abs_neg sa)) (by omega)
  have z0 : a + -a = 0 := by omega
  rw [z0] at A2
  have G := whole_Sign.ev (Zn.Is.zd (z := 0) (K := 1) (by decide)) (by omega)
  exact Ev.bind (whole_Add.ev I0 I1 (by omega)) (Ev.bind S (Ev.bind C (Dec.yes rfl (Ev.bind (whole_Neg.ev I0 (by omega)) (Ev.bind A2 (Ev.bind G J1))))))

end Go.Proofs.Ytjpkljkkcbaohaa.Pure
