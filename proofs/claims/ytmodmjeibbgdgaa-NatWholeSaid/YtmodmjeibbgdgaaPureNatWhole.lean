import Derived.Test.YtmodmjeibbgdgaaPRx40
namespace Go.Proofs.Ytmodmjeibbgdgaa.Pure
open Go.RowKit Go.Proofs.Ytmodmjeibbgdgaa.PR Go.Proofs.YtmodmjeibbgdgaaW.PrintWords Go.Proofs.YtmodmjeibbgdgaaW.PrintLast

theorem NatWhole.ws {l : List Int} (h : ∀ x ∈ l, (Lit.int .u32 x).wf = true) : Num.Ws l := fun x hx => by
  have := h x hx
  simp [Lit.wf, IntKind.min, IntKind.max, IntKind.signed, IntKind.bits] at this
  omega
theorem NatWhole.comp {a b : List Int} (ha : Num.okw a = true) (hb : Num.okw b = true) (k : Nat) : nat_Compare.f k a b = some (Num.cmp (Num.nv a) (Num.nv b)) := by
  unfold nat_Compare.f
  rw [if_pos ha, if_pos hb]

theorem NatWhole.is_ {n K : Nat} (hK : K < 1000) (h : n < 2 ^ (32 * K)) {r : Bool} {A B : Nat → Option Bool} (k : Ev A r) : Ev (fun k => (offcutlaw01_is.f k (Num.nd n) (Dec.dec n)).bind fun t => if t = true then A k else B k) r := by
  have := offcutlaw01_is.ev_nd (n := n) (Nat.lt_of_le_of_lt (Num.nd_length_le h) (by omega)) n
  rw [decide_eq_true rfl] at this
  exact Ev.bind this (Dec.yes rfl k)
theorem NatWhole : offcutlaw01_NatWhole.Pure := by
  intro l0 l1 _ _ h0 _ _ h1
  have W0 := NatWhole.ws h0
  have W1 := NatWhole.ws h1
  clear h0 h1
  refine Ev.rounds ?_
  have early : Ev (fun k => offcutlaw01_NatWhole.j0 k l0 l1 true) true :=
    Ev.step (f := fun k => (offcutlaw01_awake.f k).bind fun t => some t) (fun k => by rw [offcutlaw01_NatWhole.j0, if_pos rfl]) (Dec.end_ offcutlaw01_awake.ev)
  by_cases c : l0.length ≤ 6 ∧ l1.length ≤ 6
  rotate_left
  · refine Ev.congr (fun k => ?_) early
    unfold offcutlaw01_NatWhole.f
    by_cases c0 : l0.length ≤ 6
    · rw [if_neg (by omega), decide_eq_true (by omega)]
    · rw [if_pos (by omega)]
  obtain ⟨c0, c1⟩ := c
  refine Ev.congr (f := fun k => offcutlaw01_NatWhole.j0 k l0 l1 false) (fun k => ?_) ?_
  · unfold offcutlaw01_NatWhole.f
    rw [if_neg (by omega), decide_eq_false (by omega)]
  have K0 := Num.okw_of (by omega) W0
  have K1 := Num.okw_of (by omega) W1
  have b0 := Num.nv_lt_of W0 c0
  have b1 := Num.nv_lt_of W1 c1
  obtain ⟨x, hx⟩ : ∃ x, x = Num.nv l0 := ⟨_, rfl⟩
  obtain ⟨y, hy⟩ : ∃ y, y = Num.nv l1 := ⟨_, rfl⟩
  have G := nat_Gcd.ev (K := 6) (by omega) W0 W1 c0 c1
  rw [← hx, ← hy] at G
  rw [← hx] at b0
  rw [← hy] at b1
  have hl0 : l0.length < 10000000 := by omega
  have B0 := nat_Bits.ev W0 hl0
  have B1 := nat_Bits.ev W1 (by omega)
  rw [← hx] at B0
  rw [← hy] at B1
  obtain ⟨g, hg⟩ : ∃ g, g = Nat.gcd x y := ⟨_, rfl⟩
  rw [← hg] at G
  have q0 := (Num.okd_iff l0).2 ⟨by omega, W0⟩
  have q1 := (Num.okd_iff l1).2 ⟨by omega, W1⟩
  have z0 : ∀ n : Nat, ((Num.blen n : Nat) : Int) = 0 ↔ n = 0 := by
    intro n
    constructor
    · intro h
      by_cases h0 : n = 0
      · exact h0
      · have := Num.blen_lt n
        rw [show Num.blen n = 0 from by omega, Nat.pow_zero] at this
        omega
    · intro h
      rw [h, Num.blen_zero]
      rfl
  have zero : Ev (fun k => nat_Bits.f k (Num.nd 0)) 0 := by
    have := nat_Bits.ev (Num.Ws_nd 0) (by rw [Num.nd_zero, List.length_nil]; omega)
    rw [Num.nv_nd, Num.blen_zero] at this
    exact this
  have jt : x = 0 → y = 0 → Ev (fun k => offcutlaw01_NatWhole.j1 k l0 l1 (Num.nd g) true) true := by
    intro e1 e2
    have g0 : g = 0 := by rw [hg, e1, e2]; rfl
    rw [g0]
    refine Ev.step (f := fun k => if true = true then ((nat_Bits.f k (Num.nd 0)).bind fun t422 => (if t422 = 0 then ((offcutlaw01_awake.f k).bind fun t423 => (some t423)) else (some false))) else ((nat_DivMod.f k l0 (Num.nd 0)).bind fun bt424 => ((nat_DivMod.f k l1 (Num.nd 0)).bind fun bt431 => (if bt424.2.2 = 0 then (if bt431.2.2 = 0 then ((nat_Bits.f k bt424.2.1).bind fun t438 => (if t438 = 0 then ((nat_Bits.f k bt431.2.1).bind fun t439 => (if t439 = 0 then ((nat_Gcd.f k bt424.1 bt431.1).bind fun t440 => ((offcutlaw01_is.f k t440 (⟨#[49]⟩ : ByteArray)).bind fun t443 => (if t443 = true then ((offcutlaw01_awake.f k).bind fun t444 => (some t444)) else (some false)))) else (some false))) else (some false))) else (some false)) else (some false))))) (fun k => by rw [offcutlaw01_NatWhole.j1]) ?_
    exact Dec.yes rfl (Ev.bind zero (Dec.yes rfl (Dec.end_ offcutlaw01_awake.ev)))
  have jf : ¬ (x = 0 ∧ y = 0) → Ev (fun k => offcutlaw01_NatWhole.j1 k l0 l1 (Num.nd g) false) true := by
    intro hne
    have gpos : 0 < g := by
      rw [hg]
      rcases Nat.eq_zero_or_pos x with h | h
      · exact Nat.gcd_pos_of_pos_right x (by omega)
      · exact Nat.gcd_pos_of_pos_left y h
    have gx : g ∣ x := by rw [hg]; exact Nat.gcd_dvd_left x y
    have gy : g ∣ y := by rw [hg]; exact Nat.gcd_dvd_right x y
    have mx0 : x % g = 0 := Nat.mod_eq_zero_of_dvd gx
    have my0 : y % g = 0 := Nat.mod_eq_zero_of_dvd gy
    have gb : g < 2 ^ (32 * 6) := by
      rcases Nat.eq_zero_or_pos x with h | h
      · exact Nat.lt_of_le_of_lt (Nat.le_of_dvd (by omega) gy) b1
      · exact Nat.lt_of_le_of_lt (Nat.le_of_dvd h gx) b0
    have qg := (Num.okd_iff (Num.nd g)).2 ⟨Nat.lt_of_le_of_lt (Num.nd_length_le gb) (by omega), Num.Ws_nd _⟩
    have D0 : ∀ k, nat_DivMod.f k l0 (Num.nd g) = some (Num.nd (x / g), Num.nd 0, 0) := fun k => by unfold nat_DivMod.f; rw [if_pos q0, if_pos qg, Num.nv_nd, if_neg (by omega), ← hx, mx0]
    have D1 : ∀ k, nat_DivMod.f k l1 (Num.nd g) = some (Num.nd (y / g), Num.nd 0, 0) := fun k => by unfold nat_DivMod.f; rw [if_pos q1, if_pos qg, Num.nv_nd, if_neg (by omega), ← hy, my0]
    have c1 : Nat.gcd (x / g) (y / g) = 1 := by
      have := Nat.coprime_div_gcd_div_gcd (m := x) (n := y) (by rw [← hg]; exact gpos)
      rw [← hg] at this
      exact this
    have G2 := nat_Gcd.ev (K := 6) (by omega) (Num.Ws_nd (x / g)) (Num.Ws_nd (y / g)) (Num.nd_length_le (Nat.lt_of_le_of_lt (Nat.div_le_self x g) b0)) (Num.nd_length_le (Nat.lt_of_le_of_lt (Nat.div_le_self y g) b1))
    rw [Num.nv_nd, Num.nv_nd, c1] at G2
    refine Ev.step (f := fun k => if false = true then ((nat_Bits.f k (Num.nd g)).bind fun t422 => (if t422 = 0 then ((offcutlaw01_awake.f k).bind fun t423 => (some t423)) else (some false))) else ((nat_DivMod.f k l0 (Num.nd g)).bind fun bt424 => ((nat_DivMod.f k l1 (Num.nd g)).bind fun bt431 => (if bt424.2.2 = 0 then (if bt431.2.2 = 0 then ((nat_Bits.f k bt424.2.1).bind fun t438 => (if t438 = 0 then ((nat_Bits.f k bt431.2.1).bind fun t439 => (if t439 = 0 then ((nat_Gcd.f k bt424.1 bt431.1).bind fun t440 => ((offcutlaw01_is.f k t440 (⟨#[49]⟩ : ByteArray)).bind fun t443 => (if t443 = true then ((offcutlaw01_awake.f k).bind fun t444 => (some t444)) else (some false)))) else (some false))) else (some false))) else (some false)) else (some false))))) (fun k => by rw [offcutlaw01_NatWhole.j1]) ?_
    refine Dec.no (by decide) (Dec.val D0 (Dec.val D1 (Dec.yes rfl (Dec.yes rfl (Ev.bind zero (Dec.yes rfl (Ev.bind zero (Dec.yes rfl (Ev.bind G2 ?_)))))))))
    rw [← Dec.dec_one]
    exact NatWhole.is_ (n := 1) (by omega) (K := 1) (by decide) (Dec.end_ offcutlaw01_awake.ev)
  refine Ev.step (f := fun k => if false = true then ((offcutlaw01_awake.f k).bind fun t416 => (some t416)) else ((nat_Gcd.f k l0 l1).bind fun t417 => ((nat_Bits.f k l0).bind fun t420 => (if t420 = 0 then ((nat_Bits.f k l1).bind fun t421 => (offcutlaw01_NatWhole.j1 k l0 l1 t417 (t421 == 0))) else (offcutlaw01_NatWhole.j1 k l0 l1 t417 false))))) (fun k => by rw [offcutlaw01_NatWhole.j0]) ?_
  refine Dec.no (by decide) (Ev.bind G (Ev.bind B0 ?_))
  by_cases hx0 : x = 0
  · refine Dec.yes ((z0 x).2 hx0) (Ev.bind B1 ?_)
    by_cases hy0 : y = 0
    · rw [(z0 y).2 hy0]
      exact jt hx0 hy0
    · have : (((Num.blen y : Nat) : Int) == 0) = false := by
        have : ¬ ((Num.blen y : Nat) : Int) = 0 := fun e => hy0 ((z0 y).1 e)
        simpa using this
      rw [this]
      exact jf (fun h => hy0 h.2)
  · exact Dec.no (fun e => hx0 ((z0 x).1 e)) (jf (fun h => hx0 h.1))

end Go.Proofs.Ytmodmjeibbgdgaa.Pure
