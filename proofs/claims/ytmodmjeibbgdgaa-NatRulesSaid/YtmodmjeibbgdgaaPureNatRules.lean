import Derived.Test.YtmodmjeibbgdgaaPRx41
namespace Go.Proofs.Ytmodmjeibbgdgaa.Pure
open Go.RowKit Go.Proofs.Ytmodmjeibbgdgaa.PR Go.Proofs.YtmodmjeibbgdgaaW.PrintWords Go.Proofs.YtmodmjeibbgdgaaW.PrintLast

theorem NatRules.ws {l : List Int} (h : ∀ x ∈ l, (Lit.int .u32 x).wf = true) : Num.Ws l := fun x hx => by
  have := h x hx
  simp [Lit.wf, IntKind.min, IntKind.max, IntKind.signed, IntKind.bits] at this
  omega
theorem NatRules.comp {a b : List Int} (ha : Num.okw a = true) (hb : Num.okw b = true) (k : Nat) : nat_Compare.f k a b = some (Num.cmp (Num.nv a) (Num.nv b)) := by
  unfold nat_Compare.f
  rw [if_pos ha, if_pos hb]

theorem NatRules : offcutlaw01_NatRules.Pure := by
  intro l0 l1 l2 _ _ h0 _ _ h1 _ _ h2
  have W0 := NatRules.ws h0
  have W1 := NatRules.ws h1
  have W2 := NatRules.ws h2
  clear h0 h1 h2
  refine Ev.rounds ?_
  have early : Ev (fun k => offcutlaw01_NatRules.j0 k l0 l1 l2 true) true :=
    Ev.step (f := fun k => (offcutlaw01_awake.f k).bind fun t => some t) (fun k => by rw [offcutlaw01_NatRules.j0, if_pos rfl]) (Dec.end_ offcutlaw01_awake.ev)
  by_cases c : l0.length ≤ 12 ∧ l1.length ≤ 12 ∧ l2.length ≤ 12
  rotate_left
  · refine Ev.congr (fun k => ?_) early
    unfold offcutlaw01_NatRules.f offcutlaw01_few.f
    by_cases c0 : l0.length ≤ 12
    · by_cases c1 : l1.length ≤ 12
      · rw [decide_eq_true (by omega), decide_eq_true (by omega), decide_eq_false (by omega), Option.bind_some, if_pos rfl, Option.bind_some, if_pos rfl, Option.bind_some]
        rfl
      · rw [decide_eq_true (by omega), decide_eq_false (by omega), Option.bind_some, if_pos rfl, Option.bind_some, if_neg (by decide)]
    · rw [decide_eq_false (by omega), Option.bind_some, if_neg (by decide)]
  obtain ⟨c0, c1, c2⟩ := c
  refine Ev.congr (f := fun k => offcutlaw01_NatRules.j0 k l0 l1 l2 false) (fun k => ?_) ?_
  · unfold offcutlaw01_NatRules.f offcutlaw01_few.f
    rw [decide_eq_true (by omega), decide_eq_true (by omega), decide_eq_true (by omega), Option.bind_some, if_pos rfl, Option.bind_some, if_pos rfl, Option.bind_some]
    rfl
  have K0 := Num.okw_of (by omega) W0
  have K1 := Num.okw_of (by omega) W1
  have K2 := Num.okw_of (by omega) W2
  have b0 := Num.nv_lt_of W0 c0
  have b1 := Num.nv_lt_of W1 c1
  have b2 := Num.nv_lt_of W2 c2
  obtain ⟨x, hx⟩ : ∃ x, x = Num.nv l0 := ⟨_, rfl⟩
  obtain ⟨y, hy⟩ : ∃ y, y = Num.nv l1 := ⟨_, rfl⟩
  obtain ⟨z, hz⟩ : ∃ z, z = Num.nv l2 := ⟨_, rfl⟩
  rw [← hx] at b0
  rw [← hy] at b1
  rw [← hz] at b2
  have A01 := nat_Add.ev K0 K1
  have M01 := nat_Mul.ev K0 K1
  have M02 := nat_Mul.ev K0 K2
  have A12 := nat_Add.ev K1 K2
  have BI := nat_Bits.ev W1 (by omega)
  rw [← hx, ← hy] at A01 M01
  rw [← hx, ← hz] at M02
  rw [← hy, ← hz] at A12
  rw [← hy] at BI
  have k01 := Num.ok_nd (Num.add_lt b0 b1) (by omega)
  have m01 := Num.mul_lt b0 b1
  have m02 := Num.mul_lt b0 b2
  have km01 := Num.ok_nd m01 (by omega)
  have km02 := Num.ok_nd m02 (by omega)
  have k12 := Num.ok_nd (Num.add_lt b1 b2) (by omega)
  have z0 : ∀ n : Nat, ((Num.blen n : Nat) : Int) = 0 ↔ n = 0 := by
    intro n
    constructor
    · intro h
      by_cases h0 : n = 0
      · exact h0
      · have := Num.blen_lt n
        rw [show Num.blen n = 0 from by omega, Nat.pow_zero] at this
        omega
    · intro h
      rw [h, Num.blen_zero]
      rfl
  have zero : Ev (fun k => nat_Bits.f k (Num.nd 0)) 0 := by
    have := nat_Bits.ev (Num.Ws_nd 0) (by rw [Num.nd_zero, List.length_nil]; omega)
    rw [Num.nv_nd, Num.blen_zero] at this
    exact this
  have h2 : Ev (fun k => offcutlaw01_NatRules.j2 k l0 l1 l2) true := by
    have MS := nat_Mul.ev K0 k12
    rw [Num.nv_nd, ← hx] at MS
    have AS := nat_Add.ev km01 km02
    rw [Num.nv_nd, Num.nv_nd] at AS
    refine Ev.step (f := fun k => (nat_Add.f k l1 l2).bind fun t476 => ((nat_Mul.f k l0 t476).bind fun t479 => ((nat_Mul.f k l0 l1).bind fun t482 => ((nat_Mul.f k l0 l2).bind fun t485 => ((nat_Add.f k t482 t485).bind fun t488 => ((nat_Compare.f k t479 t488).bind fun t491 => (if t491 = 0 then ((offcutlaw01_awake.f k).bind fun t492 => (some t492)) else (some false)))))))) (fun k => by rw [offcutlaw01_NatRules.j2]) ?_
    refine Ev.bind A12 (Ev.bind MS (Ev.bind M01 (Ev.bind M02 (Ev.bind AS (Dec.val (NatRules.comp (Num.ok_nd (Num.mul_lt b0 (Num.add_lt b1 b2)) (by omega)) (Num.ok_nd (Num.add_lt m01 m02) (by omega))) (Dec.yes ?_ (Dec.end_ offcutlaw01_awake.ev)))))))
    rw [Num.nv_nd, Num.nv_nd]
    exact Num.cmp_eq (Nat.mul_add _ _ _)
  have h1 : Ev (fun k => offcutlaw01_NatRules.j1 k l0 l1 l2 false) true := by
    refine Ev.step (f := fun k => if false = true then (some false) else ((nat_Bits.f k l1).bind fun t457 => (if t457 > 0 then ((nat_Mul.f k l0 l1).bind fun t458 => ((nat_Of.f k 0).bind fun t461 => ((nat_Add.f k t458 t461).bind fun t464 => ((nat_DivMod.f k t464 l1).bind fun bt467 => ((nat_Compare.f k bt467.1 l0).bind fun t474 => (if t474 = 0 then ((nat_Bits.f k bt467.2.1).bind fun t475 => (if t475 = 0 then (if bt467.2.2 = 0 then (offcutlaw01_NatRules.j2 k l0 l1 l2) else (some false)) else (some false))) else (some false))))))) else (offcutlaw01_NatRules.j2 k l0 l1 l2)))) (fun k => by rw [offcutlaw01_NatRules.j1]) ?_
    refine Dec.no (by decide) (Ev.bind BI ?_)
    by_cases hy0 : y = 0
    · refine Dec.no ?_ h2
      rw [(z0 y).2 hy0]
      omega
    · have hyp : 0 < y := by omega
      have OF0 : Ev (fun k => nat_Of.f k 0) (Num.nd 0) := nat_Of.ev 0 (by omega)
      have AZ := nat_Add.ev km01 (Num.ok_nd (n := 0) (k := 1) (by omega) (by omega))
      rw [Num.nv_nd, Num.nv_nd, Nat.add_zero] at AZ
      have qm := (Num.okd_iff (Num.nd (x * y))).2 ⟨Nat.lt_of_le_of_lt (Num.nd_length_le m01) (by omega), Num.Ws_nd _⟩
      have q1 := (Num.okd_iff l1).2 ⟨by omega, W1⟩
      have DM : ∀ k, nat_DivMod.f k (Num.nd (x * y)) l1 = some (Num.nd x, Num.nd 0, 0) := fun k => by
        unfold nat_DivMod.f
        rw [if_pos qm, if_pos q1, Num.nv_nd, ← hy, if_neg hy0, Nat.mul_div_cancel _ hyp, Nat.mul_mod_left]
      have hb : ¬ ((Num.blen y : Nat) : Int) = 0 := fun e => hy0 ((z0 y).1 e)
      refine Dec.yes (by omega) (Ev.bind M01 (Ev.bind OF0 (Ev.bind AZ (Dec.val DM (Dec.val (NatRules.comp (Num.ok_nd b0 (by omega)) K0) (Dec.yes ?_ (Ev.bind zero (Dec.yes rfl (Dec.yes rfl h2)))))))))
      show Num.cmp (Num.nv (Num.nd x)) (Num.nv l0) = 0
      rw [Num.nv_nd, ← hx]
      exact Num.cmp_eq rfl
  have SB := nat_Sub.ev k01 K1
  rw [Num.nv_nd, ← hy, if_neg (by omega), Nat.add_sub_cancel] at SB
  refine Ev.step (f := fun k => if false = true then ((offcutlaw01_awake.f k).bind fun t448 => (some t448)) else ((nat_Add.f k l0 l1).bind fun t449 => ((nat_Sub.f k t449 l1).bind fun bt452 => (if bt452.2 = true then ((nat_Compare.f k bt452.1 l0).bind fun t456 => (offcutlaw01_NatRules.j1 k l0 l1 l2 (t456 != 0))) else (offcutlaw01_NatRules.j1 k l0 l1 l2 true))))) (fun k => by rw [offcutlaw01_NatRules.j0]) ?_
  refine Dec.no (by decide) (Ev.bind A01 (Ev.bind SB (Dec.yes rfl (Dec.val (NatRules.comp (Num.ok_nd b0 (by omega)) K0) ?_))))
  have e : (Num.cmp (Num.nv (Num.nd x)) (Num.nv l0) != 0) = false := by rw [Num.nv_nd, ← hx, Num.cmp_eq rfl]; rfl
  show Ev (fun k => offcutlaw01_NatRules.j1 k l0 l1 l2 (Num.cmp (Num.nv (Num.nd x)) (Num.nv l0) != 0)) true
  rw [e]
  exact h1

end Go.Proofs.Ytmodmjeibbgdgaa.Pure
