import Derived.Test.YtmodmjeibbgdgaaPRx39
namespace Go.Proofs.Ytmodmjeibbgdgaa.Pure
open Go.RowKit Go.Proofs.Ytmodmjeibbgdgaa.PR Go.Proofs.YtmodmjeibbgdgaaW.PrintWords Go.Proofs.YtmodmjeibbgdgaaW.PrintLast

theorem NatOrders.ws {l : List Int} (h : ∀ x ∈ l, (Lit.int .u32 x).wf = true) : Num.Ws l := fun x hx => by
  have := h x hx
  simp [Lit.wf, IntKind.min, IntKind.max, IntKind.signed, IntKind.bits] at this
  omega
theorem NatOrders.comp {a b : List Int} (ha : Num.okw a = true) (hb : Num.okw b = true) (k : Nat) : nat_Compare.f k a b = some (Num.cmp (Num.nv a) (Num.nv b)) := by
  unfold nat_Compare.f
  rw [if_pos ha, if_pos hb]

theorem NatOrders : offcutlaw01_NatOrders.Pure := by
  intro l0 l1 l2 _ _ h0 _ _ h1 _ _ h2
  have W0 := NatOrders.ws h0
  have W1 := NatOrders.ws h1
  have W2 := NatOrders.ws h2
  clear h0 h1 h2
  refine Ev.rounds ?_
  have early : Ev (fun k => offcutlaw01_NatOrders.j0 k l0 l1 l2 true) true :=
    Ev.step (f := fun k => (offcutlaw01_awake.f k).bind fun t => some t) (fun k => by rw [offcutlaw01_NatOrders.j0, if_pos rfl]) (Dec.end_ offcutlaw01_awake.ev)
  by_cases c : l0.length ≤ 12 ∧ l1.length ≤ 12 ∧ l2.length ≤ 12
  rotate_left
  · refine Ev.congr (fun k => ?_) early
    unfold offcutlaw01_NatOrders.f offcutlaw01_few.f
    by_cases c0 : l0.length ≤ 12
    · by_cases c1 : l1.length ≤ 12
      · rw [decide_eq_true (by omega), decide_eq_true (by omega), decide_eq_false (by omega), Option.bind_some, if_pos rfl, Option.bind_some, if_pos rfl, Option.bind_some]
        rfl
      · rw [decide_eq_true (by omega), decide_eq_false (by omega), Option.bind_some, if_pos rfl, Option.bind_some, if_neg (by decide)]
    · rw [decide_eq_false (by omega), Option.bind_some, if_neg (by decide)]
  obtain ⟨c0, c1, c2⟩ := c
  refine Ev.congr (f := fun k => offcutlaw01_NatOrders.j0 k l0 l1 l2 false) (fun k => ?_) ?_
  · unfold offcutlaw01_NatOrders.f offcutlaw01_few.f
    rw [decide_eq_true (by omega), decide_eq_true (by omega), decide_eq_true (by omega), Option.bind_some, if_pos rfl, Option.bind_some, if_pos rfl, Option.bind_some]
    rfl
  have K0 := Num.okw_of (by omega) W0
  have K1 := Num.okw_of (by omega) W1
  have K2 := Num.okw_of (by omega) W2
  have b0 := Num.nv_lt_of W0 c0
  have b1 := Num.nv_lt_of W1 c1
  have b2 := Num.nv_lt_of W2 c2
  refine Ev.step (f := fun k => if false = true then ((offcutlaw01_awake.f k).bind fun t390 => (some t390)) else ((nat_Add.f k l0 l1).bind fun t391 => ((nat_Add.f k l1 l0).bind fun t394 => ((nat_Compare.f k t391 t394).bind fun t397 => (if t397 = 0 then ((nat_Mul.f k l0 l1).bind fun t398 => ((nat_Mul.f k l1 l0).bind fun t401 => ((nat_Compare.f k t398 t401).bind fun t404 => (if t404 = 0 then ((nat_Compare.f k l0 l1).bind fun t405 => ((nat_Add.f k l0 l2).bind fun t406 => ((nat_Add.f k l1 l2).bind fun t409 => ((nat_Compare.f k t406 t409).bind fun t412 => (if t405 = t412 then ((nat_Compare.f k l0 l1).bind fun t413 => ((nat_Compare.f k l1 l0).bind fun t414 => (if t413 = (wrap64 (-t414)) then ((offcutlaw01_awake.f k).bind fun t415 => (some t415)) else (some false)))) else (some false)))))) else (some false))))) else (some false)))))) (fun k => by rw [offcutlaw01_NatOrders.j0]) ?_
  refine Dec.no (by decide) ?_
  refine Ev.bind (nat_Add.ev K0 K1) (Ev.bind (nat_Add.ev K1 K0) ?_)
  refine Dec.val (NatOrders.comp (Num.ok_nd (Num.add_lt b0 b1) (by omega)) (Num.ok_nd (Num.add_lt b1 b0) (by omega))) (Dec.yes (by rw [Num.nv_nd, Num.nv_nd]; exact Num.cmp_eq (Nat.add_comm _ _)) ?_)
  refine Ev.bind (nat_Mul.ev K0 K1) (Ev.bind (nat_Mul.ev K1 K0) ?_)
  refine Dec.val (NatOrders.comp (Num.ok_nd (Num.mul_lt b0 b1) (by omega)) (Num.ok_nd (Num.mul_lt b1 b0) (by omega))) (Dec.yes (by rw [Num.nv_nd, Num.nv_nd]; exact Num.cmp_eq (Nat.mul_comm _ _)) ?_)
  refine Dec.val (NatOrders.comp K0 K1) (Ev.bind (nat_Add.ev K0 K2) (Ev.bind (nat_Add.ev K1 K2) ?_))
  refine Dec.val (NatOrders.comp (Num.ok_nd (Num.add_lt b0 b2) (by omega)) (Num.ok_nd (Num.add_lt b1 b2) (by omega))) (Dec.yes (by rw [Num.nv_nd, Num.nv_nd]; exact (Num.cmp_add _ _ _).symm) ?_)
  refine Dec.val (NatOrders.comp K0 K1) (Dec.val (NatOrders.comp K1 K0) (Dec.yes ?_ (Dec.end_ offcutlaw01_awake.ev)))
  have := Num.cmp_range (Num.nv l1) (Num.nv l0)
  rw [Dec.w64 (by omega) (by omega)]
  exact Num.cmp_neg _ _

end Go.Proofs.Ytmodmjeibbgdgaa.Pure
