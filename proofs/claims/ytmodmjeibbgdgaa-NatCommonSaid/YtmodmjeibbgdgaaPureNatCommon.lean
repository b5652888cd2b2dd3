import Derived.Test.YtmodmjeibbgdgaaPRx31
namespace Go.Proofs.Ytmodmjeibbgdgaa.Pure
open Go.RowKit Go.Proofs.Ytmodmjeibbgdgaa.PR Go.Proofs.YtmodmjeibbgdgaaW.PrintWords Go.Proofs.YtmodmjeibbgdgaaW.PrintLast

theorem NatCommon.ws {l : List Int} (h : ∀ x ∈ l, (Lit.int .u32 x).wf = true) : Num.Ws l := fun x hx => by
  have := h x hx
  simp [Lit.wf, IntKind.min, IntKind.max, IntKind.signed, IntKind.bits] at this
  omega
theorem NatCommon.comp {a b : List Int} (ha : Num.okw a = true) (hb : Num.okw b = true) (k : Nat) : nat_Compare.f k a b = some (Num.cmp (Num.nv a) (Num.nv b)) := by
  unfold nat_Compare.f
  rw [if_pos ha, if_pos hb]

theorem NatCommon.is_ {n K : Nat} (hK : K < 1000) (h : n < 2 ^ (32 * K)) {r : Bool} {A B : Nat → Option Bool} (k : Ev A r) : Ev (fun k => (offcutlaw01_is.f k (Num.nd n) (Dec.dec n)).bind fun t => if t = true then A k else B k) r := by
  have := offcutlaw01_is.ev_nd (n := n) (Nat.lt_of_le_of_lt (Num.nd_length_le h) (by omega)) n
  rw [decide_eq_true rfl] at this
  exact Ev.bind this (Dec.yes rfl k)
theorem NatCommon : offcutlaw01_NatCommon.Pure := by
  intro l0 l1 _ _ h0 _ _ h1
  have W0 := NatCommon.ws h0
  have W1 := NatCommon.ws h1
  clear h0 h1
  refine Ev.rounds ?_
  have early : Ev (fun k => offcutlaw01_NatCommon.j0 k l0 l1 true) true :=
    Ev.step (f := fun k => (offcutlaw01_awake.f k).bind fun t => some t) (fun k => by rw [offcutlaw01_NatCommon.j0, if_pos rfl]) (Dec.end_ offcutlaw01_awake.ev)
  by_cases c : l0.length ≤ 6 ∧ l1.length ≤ 6
  rotate_left
  · refine Ev.congr (fun k => ?_) early
    unfold offcutlaw01_NatCommon.f
    by_cases c0 : l0.length ≤ 6
    · rw [if_neg (by omega), decide_eq_true (by omega)]
    · rw [if_pos (by omega)]
  obtain ⟨c0, c1⟩ := c
  refine Ev.congr (f := fun k => offcutlaw01_NatCommon.j0 k l0 l1 false) (fun k => ?_) ?_
  · unfold offcutlaw01_NatCommon.f
    rw [if_neg (by omega), decide_eq_false (by omega)]
  have K0 := Num.okw_of (by omega) W0
  have K1 := Num.okw_of (by omega) W1
  have b0 := Num.nv_lt_of W0 c0
  have b1 := Num.nv_lt_of W1 c1
  obtain ⟨x, hx⟩ : ∃ x, x = Num.nv l0 := ⟨_, rfl⟩
  obtain ⟨y, hy⟩ : ∃ y, y = Num.nv l1 := ⟨_, rfl⟩
  have G := nat_Gcd.ev (K := 6) (by omega) W0 W1 c0 c1
  rw [← hx, ← hy] at G
  rw [← hx] at b0
  rw [← hy] at b1
  have O0 := offcutref01_Of.ev W0 (by omega)
  have O1 := offcutref01_Of.ev W1 (by omega)
  rw [← hx] at O0
  rw [← hy] at O1
  refine Ev.step (f := fun k => if false = true then ((offcutlaw01_awake.f k).bind fun t302 => (some t302)) else ((nat_Gcd.f k l0 l1).bind fun t303 => ((offcutref01_Of.f k l0).bind fun t306 => ((offcutref01_Of.f k l1).bind fun t307 => ((offcutref01_Gcd.f k t306 t307).bind fun t308 => ((offcutlaw01_is.f k t303 t308).bind fun t309 => (if t309 = true then ((offcutlaw01_awake.f k).bind fun t310 => (some t310)) else (some false)))))))) (fun k => by rw [offcutlaw01_NatCommon.j0]) ?_
  have hg : Nat.gcd x y < 2 ^ (32 * 6) := by
    by_cases h0 : x = 0
    · rw [h0, Nat.gcd_zero_left]
      exact b1
    · exact Nat.lt_of_le_of_lt (Nat.gcd_le_left y (Nat.pos_of_ne_zero h0)) b0
  exact Dec.no (by decide) (Ev.bind G (Ev.bind O0 (Ev.bind O1 (Ev.bind (offcutref01_Gcd.ev (by omega) (by omega) y x b0 b1) (NatCommon.is_ (by omega) hg (Dec.end_ offcutlaw01_awake.ev))))))

end Go.Proofs.Ytmodmjeibbgdgaa.Pure
