import Derived.Test.YtmodmjeibbgdgaaPRx28
namespace Go.Proofs.Ytmodmjeibbgdgaa.Pure
open Go.RowKit Go.Proofs.Ytmodmjeibbgdgaa.PR Go.Proofs.YtmodmjeibbgdgaaW.PrintWords Go.Proofs.YtmodmjeibbgdgaaW.PrintLast

theorem NatDivides.ws {l : List Int} (h : ∀ x ∈ l, (Lit.int .u32 x).wf = true) : Num.Ws l := fun x hx => by
  have := h x hx
  simp [Lit.wf, IntKind.min, IntKind.max, IntKind.signed, IntKind.bits] at this
  omega
theorem NatDivides.comp {a b : List Int} (ha : Num.okw a = true) (hb : Num.okw b = true) (k : Nat) : nat_Compare.f k a b = some (Num.cmp (Num.nv a) (Num.nv b)) := by
  unfold nat_Compare.f
  rw [if_pos ha, if_pos hb]

theorem NatDivides.is_ {n K : Nat} (hK : K < 1000) (h : n < 2 ^ (32 * K)) {r : Bool} {A B : Nat → Option Bool} (k : Ev A r) : Ev (fun k => (offcutlaw01_is.f k (Num.nd n) (Dec.dec n)).bind fun t => if t = true then A k else B k) r := by
  have := offcutlaw01_is.ev_nd (n := n) (Nat.lt_of_le_of_lt (Num.nd_length_le h) (by omega)) n
  rw [decide_eq_true rfl] at this
  exact Ev.bind this (Dec.yes rfl k)
theorem NatDivides : offcutlaw01_NatDivides.Pure := by
  intro l0 l1 _ _ h0 _ _ h1
  have W0 := NatDivides.ws h0
  have W1 := NatDivides.ws h1
  clear h0 h1
  refine Ev.rounds ?_
  have early : Ev (fun k => offcutlaw01_NatDivides.j0 k l0 l1 true) true :=
    Ev.step (f := fun k => (offcutlaw01_awake.f k).bind fun t => some t) (fun k => by rw [offcutlaw01_NatDivides.j0, if_pos rfl]) (Dec.end_ offcutlaw01_awake.ev)
  by_cases c : l0.length ≤ 12 ∧ l1.length ≤ 12
  rotate_left
  · refine Ev.congr (fun k => ?_) early
    unfold offcutlaw01_NatDivides.f offcutlaw01_few.f
    by_cases c0 : l0.length ≤ 12
    · rw [decide_eq_true (by omega), decide_eq_false (by omega), Option.bind_some, if_pos rfl, Option.bind_some]
      rfl
    · rw [decide_eq_false (by omega), Option.bind_some, if_neg (by decide)]
  obtain ⟨c0, c1⟩ := c
  refine Ev.congr (f := fun k => offcutlaw01_NatDivides.j0 k l0 l1 false) (fun k => ?_) ?_
  · unfold offcutlaw01_NatDivides.f offcutlaw01_few.f
    rw [decide_eq_true (by omega), decide_eq_true (by omega), Option.bind_some, if_pos rfl, Option.bind_some]
    rfl
  have K0 := Num.okw_of (by omega) W0
  have K1 := Num.okw_of (by omega) W1
  have b0 := Num.nv_lt_of W0 c0
  have b1 := Num.nv_lt_of W1 c1
  obtain ⟨x, hx⟩ : ∃ x, x = Num.nv l0 := ⟨_, rfl⟩
  obtain ⟨y, hy⟩ : ∃ y, y = Num.nv l1 := ⟨_, rfl⟩
  have O0 := offcutref01_Of.ev W0 (by omega)
  have O1 := offcutref01_Of.ev W1 (by omega)
  rw [← hx] at O0 b0
  rw [← hy] at O1 b1
  have d0 := Dec.dc_len32 (by omega) b0
  have d1 := Dec.dc_len32 (by omega) b1
  have q0 := (Num.okd_iff l0).2 ⟨by omega, W0⟩
  have q1 := (Num.okd_iff l1).2 ⟨by omega, W1⟩
  refine Ev.step (f := fun k => if false = true then ((offcutlaw01_awake.f k).bind fun t271 => (some t271)) else ((offcutref01_Of.f k l0).bind fun t272 => ((offcutref01_Of.f k l1).bind fun t273 => ((nat_DivMod.f k l0 l1).bind fun bt274 => (if t273.toList = ([48] : List UInt8) then (if (wrap64 ((bt274.1.length : Int) + (bt274.2.1.length : Int))) = 0 then (if bt274.2.2 = 5 then ((offcutlaw01_awake.f k).bind fun t281 => (some t281)) else (some false)) else (some false)) else ((offcutref01_DivMod.f k t272 t273).bind fun bt282 => ((offcutlaw01_is.f k bt274.1 bt282.1).bind fun t284 => (if t284 = true then ((offcutlaw01_is.f k bt274.2.1 bt282.2).bind fun t285 => (if t285 = true then (if bt274.2.2 = 0 then ((offcutlaw01_awake.f k).bind fun t286 => (some t286)) else (some false)) else (some false))) else (some false))))))))) (fun k => by rw [offcutlaw01_NatDivides.j0]) ?_
  refine Dec.no (by decide) (Ev.bind O0 (Ev.bind O1 ?_))
  by_cases hy0 : y = 0
  · have hd : ∀ k, nat_DivMod.f k l0 l1 = some ([], [], 5) := fun k => by unfold nat_DivMod.f; rw [if_pos q0, if_pos q1, ← hy, if_pos hy0]
    exact Dec.val hd (Dec.yes ((Dec.dec_is0 y).2 hy0) (Dec.yes (show wrap64 (((0 : Nat) : Int) + ((0 : Nat) : Int)) = 0 from by rw [Dec.w64 (by omega) (by omega)]; rfl) (Dec.yes rfl (Dec.end_ offcutlaw01_awake.ev))))
  · have hd : ∀ k, nat_DivMod.f k l0 l1 = some (Num.nd (x / y), Num.nd (x % y), 0) := fun k => by unfold nat_DivMod.f; rw [if_pos q0, if_pos q1, ← hy, if_neg hy0, ← hx]
    have hq := Nat.lt_of_le_of_lt (Nat.div_le_self x y) b0
    have hr := Nat.lt_of_le_of_lt (Nat.mod_le x y) b0
    refine Dec.val hd (Dec.no (fun e => hy0 ((Dec.dec_is0 y).1 e)) (Ev.bind (offcutref01_DivMod.ev (by omega) hy0 (by omega)) ?_))
    exact NatDivides.is_ (by omega) hq (NatDivides.is_ (by omega) hr (Dec.yes rfl (Dec.end_ offcutlaw01_awake.ev)))

end Go.Proofs.Ytmodmjeibbgdgaa.Pure
