import Derived.Test.YtmodmjeibbgdgaaPRx38
namespace Go.Proofs.Ytmodmjeibbgdgaa.Pure
open Go.RowKit Go.Proofs.Ytmodmjeibbgdgaa.PR Go.Proofs.YtmodmjeibbgdgaaW.PrintWords Go.Proofs.YtmodmjeibbgdgaaW.PrintLast

theorem NatSums.ws {l : List Int} (h : ∀ x ∈ l, (Lit.int .u32 x).wf = true) : Num.Ws l := fun x hx => by
  have := h x hx
  simp [Lit.wf, IntKind.min, IntKind.max, IntKind.signed, IntKind.bits] at this
  omega
theorem NatSums.comp {a b : List Int} (ha : Num.okw a = true) (hb : Num.okw b = true) (k : Nat) : nat_Compare.f k a b = some (Num.cmp (Num.nv a) (Num.nv b)) := by
  unfold nat_Compare.f
  rw [if_pos ha, if_pos hb]

theorem NatSums.is_ {n K : Nat} (hK : K < 1000) (h : n < 2 ^ (32 * K)) {r : Bool} {A B : Nat → Option Bool} (k : Ev A r) : Ev (fun k => (offcutlaw01_is.f k (Num.nd n) (Dec.dec n)).bind fun t => if t = true then A k else B k) r := by
  have := offcutlaw01_is.ev_nd (n := n) (Nat.lt_of_le_of_lt (Num.nd_length_le h) (by omega)) n
  rw [decide_eq_true rfl] at this
  exact Ev.bind this (Dec.yes rfl k)
theorem NatSums : offcutlaw01_NatSums.Pure := by
  intro l0 l1 _ _ h0 _ _ h1
  have W0 := NatSums.ws h0
  have W1 := NatSums.ws h1
  clear h0 h1
  refine Ev.rounds ?_
  have early : Ev (fun k => offcutlaw01_NatSums.j0 k l0 l1 true) true :=
    Ev.step (f := fun k => (offcutlaw01_awake.f k).bind fun t => some t) (fun k => by rw [offcutlaw01_NatSums.j0, if_pos rfl]) (Dec.end_ offcutlaw01_awake.ev)
  by_cases c : l0.length ≤ 12 ∧ l1.length ≤ 12
  rotate_left
  · refine Ev.congr (fun k => ?_) early
    unfold offcutlaw01_NatSums.f offcutlaw01_few.f
    by_cases c0 : l0.length ≤ 12
    · rw [decide_eq_true (by omega), decide_eq_false (by omega), Option.bind_some, if_pos rfl, Option.bind_some]
      rfl
    · rw [decide_eq_false (by omega), Option.bind_some, if_neg (by decide)]
  obtain ⟨c0, c1⟩ := c
  refine Ev.congr (f := fun k => offcutlaw01_NatSums.j0 k l0 l1 false) (fun k => ?_) ?_
  · unfold offcutlaw01_NatSums.f offcutlaw01_few.f
    rw [decide_eq_true (by omega), decide_eq_true (by omega), Option.bind_some, if_pos rfl, Option.bind_some]
    rfl
  have K0 := Num.okw_of (by omega) W0
  have K1 := Num.okw_of (by omega) W1
  have b0 := Num.nv_lt_of W0 c0
  have b1 := Num.nv_lt_of W1 c1
  obtain ⟨x, hx⟩ : ∃ x, x = Num.nv l0 := ⟨_, rfl⟩
  obtain ⟨y, hy⟩ : ∃ y, y = Num.nv l1 := ⟨_, rfl⟩
  have O0 := offcutref01_Of.ev W0 (by omega)
  have O1 := offcutref01_Of.ev W1 (by omega)
  rw [← hx] at O0 b0
  rw [← hy] at O1 b1
  have d0 := Dec.dc_len32 (by omega) b0
  have d1 := Dec.dc_len32 (by omega) b1
  have AD := offcutref01_Add.ev (Dec.Ds_dc x) (Dec.Ds_dc y) (by omega) (by omega)
  have MU := offcutref01_Mul.ev (Dec.Ds_dc x) (Dec.Ds_dc y) (by omega) (by omega)
  rw [Dec.dv_dc, Dec.dv_dc] at AD MU
  have NA := nat_Add.ev K0 K1
  have NM := nat_Mul.ev K0 K1
  have NS := nat_Sub.ev K0 K1
  rw [← hx, ← hy] at NA NM NS
  have ba := Num.add_lt b0 b1
  have bm := Num.mul_lt b0 b1
  have h2 : Ev (fun k => offcutlaw01_NatSums.j2 k l0 l1 (Dec.dec x) (Dec.dec y) false) true := by
    refine Ev.step (f := fun k => if false = true then (some false) else ((offcutref01_Of.f k l0).bind fun t384 => (if t384.toList = (Dec.dec x).toList then ((offcutref01_Of.f k l1).bind fun t385 => (if t385.toList = (Dec.dec y).toList then ((offcutlaw01_awake.f k).bind fun t386 => (some t386)) else (some false))) else (some false)))) (fun k => by rw [offcutlaw01_NatSums.j2]) ?_
    exact Dec.no (by decide) (Ev.bind O0 (Dec.yes rfl (Ev.bind O1 (Dec.yes rfl (Dec.end_ offcutlaw01_awake.ev)))))
  refine Ev.step (f := fun k => if false = true then ((offcutlaw01_awake.f k).bind fun t364 => (some t364)) else ((offcutref01_Of.f k l0).bind fun t365 => ((offcutref01_Of.f k l1).bind fun t366 => ((nat_Sub.f k l0 l1).bind fun bt367 => ((nat_Add.f k l0 l1).bind fun t371 => ((offcutref01_Add.f k t365 t366).bind fun t374 => ((offcutlaw01_is.f k t371 t374).bind fun t375 => (if t375 = true then ((nat_Mul.f k l0 l1).bind fun t376 => ((offcutref01_Mul.f k t365 t366).bind fun t379 => ((offcutlaw01_is.f k t376 t379).bind fun t380 => (if t380 = true then ((offcutref01_Less.f t365 t366).bind fun t381 => (offcutlaw01_NatSums.j1 k l0 l1 t365 t366 bt367.1 bt367.2 (bt367.2 == t381))) else (offcutlaw01_NatSums.j1 k l0 l1 t365 t366 bt367.1 bt367.2 true))))) else (offcutlaw01_NatSums.j1 k l0 l1 t365 t366 bt367.1 bt367.2 true))))))))) (fun k => by rw [offcutlaw01_NatSums.j0]) ?_
  refine Dec.no (by decide) (Ev.bind O0 (Ev.bind O1 (Ev.bind NS (Ev.bind NA (Ev.bind AD (NatSums.is_ (by omega) ba (Ev.bind NM (Ev.bind MU (NatSums.is_ (by omega) bm (Dec.val (fun k => offcutref01_Less.sem x y) ?_))))))))))
  by_cases hlt : x < y
  · rw [if_pos hlt, decide_eq_true hlt]
    refine Ev.step (f := fun k => if false = true then (some false) else (if false = true then ((offcutref01_Sub.f k (Dec.dec x) (Dec.dec y)).bind fun t382 => ((offcutlaw01_is.f k (([] : List Int)) t382).bind fun t383 => (if t383 = true then (offcutlaw01_NatSums.j2 k l0 l1 (Dec.dec x) (Dec.dec y) false) else (offcutlaw01_NatSums.j2 k l0 l1 (Dec.dec x) (Dec.dec y) true)))) else (offcutlaw01_NatSums.j2 k l0 l1 (Dec.dec x) (Dec.dec y) (decide (((([] : List Int)).length : Int) > 0))))) (fun k => ?_) (Dec.no (by decide) (Dec.no (by decide) h2))
    rw [show (false == true) = false from rfl, offcutlaw01_NatSums.j1]
  · rw [if_neg hlt, decide_eq_false hlt]
    refine Ev.step (f := fun k => if false = true then (some false) else (if true = true then ((offcutref01_Sub.f k (Dec.dec x) (Dec.dec y)).bind fun t382 => ((offcutlaw01_is.f k (Num.nd (x - y)) t382).bind fun t383 => (if t383 = true then (offcutlaw01_NatSums.j2 k l0 l1 (Dec.dec x) (Dec.dec y) false) else (offcutlaw01_NatSums.j2 k l0 l1 (Dec.dec x) (Dec.dec y) true)))) else (offcutlaw01_NatSums.j2 k l0 l1 (Dec.dec x) (Dec.dec y) (decide (((Num.nd (x - y)).length : Int) > 0))))) (fun k => ?_) (Dec.no (by decide) (Dec.yes rfl (Ev.bind (offcutref01_Sub.ev_dec (by omega) (by omega)) (NatSums.is_ (by omega) (Nat.lt_of_le_of_lt (Nat.sub_le x y) b0) h2))))
    rw [show (true == false) = false from rfl, offcutlaw01_NatSums.j1]

end Go.Proofs.Ytmodmjeibbgdgaa.Pure
