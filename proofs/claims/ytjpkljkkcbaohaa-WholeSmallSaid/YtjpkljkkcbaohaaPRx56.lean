import Derived.Test.YtjpkljkkcbaohaaPRg0
import Derived.Test.YtjpkljkkcbaohaaPRg16
namespace Go.Proofs.Ytjpkljkkcbaohaa.PR
open Go.RowKit Go.Proofs.YtjpkljkkcbaohaaW.PrintWords Go.Proofs.YtjpkljkkcbaohaaW.PrintLast Go.Proofs.YtjpkljkkcbaohaaW.PrintMore
attribute [local go_sem] max2_int min2_int max_two min_two max_three min_three max_four min_four   -- for this text's walks alone
set_option linter.unusedVariables false
set_option linter.unusedSimpArgs false

/-! ### whole_Small: function 38 -/
def whole_Small.j0 : Nat → Int → Bool → Bool → List Int → Option (Int × Bool)
  | 0, _, _, _, _ => none
  | k + 1, x4, x12, x634000, x634001 => if x12 = true then (some (0, false)) else ((whole_Sign.f k x634000 x634001).bind fun t637 => (if t637 < 0 then (some (wrap64 (-(wrap64 (x4))), true)) else (some (wrap64 (x4), true))))
def whole_Small.f (k : Nat) (a0_0 : Bool) (l0_1 : List Int) : Option (Int × Bool) := (nat_Small.f k l0_1).bind fun bt634 => (if bt634.2 = true then (if bt634.1 > 4611686018427387904 then (whole_Small.j0 k bt634.1 true a0_0 l0_1) else (if bt634.1 = 4611686018427387904 then ((whole_Sign.f k a0_0 l0_1).bind fun t636 => (whole_Small.j0 k bt634.1 (decide (t636 > 0)) a0_0 l0_1)) else (whole_Small.j0 k bt634.1 false a0_0 l0_1))) else (whole_Small.j0 k bt634.1 true a0_0 l0_1))
theorem whole_Small.mono_l : ∀ k, (∀ y0 y1 y2 y3, LeO (whole_Small.j0 k y0 y1 y2 y3) (whole_Small.j0 (k + 1) y0 y1 y2 y3))
  | 0 => fun _ _ _ _ r h => by simp [whole_Small.j0] at h
  | k + 1 => by
    have ih0 := whole_Small.mono_l k
    · intro y0 y1 y2 y3
      unfold whole_Small.j0
      repeat' first
      | (with_reducible exact ih0 _ _ _ _)
      | (with_reducible exact nat_Small.mono _ _)
      | (with_reducible exact whole_Sign.mono _ _ _)
      | (with_reducible exact LeO.refl _)
      | (with_reducible exact LeO.none _)
      | (with_reducible refine LeO.ite ?_ ?_)
      | (with_reducible refine LeO.bind ?_ (fun _ => ?_))
      | exact ih0 _ _ _ _
      | exact nat_Small.mono _ _
      | exact whole_Sign.mono _ _ _
      | exact LeO.none _
      | refine LeO.ite ?_ ?_
      | refine LeO.bind ?_ (fun _ => ?_)
theorem whole_Small.mono : ∀ a0 a1 k, LeO (whole_Small.f k a0 a1) (whole_Small.f (k + 1) a0 a1) := by
  intro a0 a1 k
  have ih0 := whole_Small.mono_l k
  unfold whole_Small.f
  repeat' first
      | (with_reducible exact ih0 _ _ _ _)
      | (with_reducible exact nat_Small.mono _ _)
      | (with_reducible exact whole_Sign.mono _ _ _)
      | (with_reducible exact LeO.refl _)
      | (with_reducible exact LeO.none _)
      | (with_reducible refine LeO.ite ?_ ?_)
      | (with_reducible refine LeO.bind ?_ (fun _ => ?_))
      | exact ih0 _ _ _ _
      | exact nat_Small.mono _ _
      | exact whole_Sign.mono _ _ _
      | exact LeO.none _
      | refine LeO.ite ?_ ?_
      | refine LeO.bind ?_ (fun _ => ?_)
set_option maxHeartbeats 8000000 in
set_option maxRecDepth 100000 in
theorem whole_Small.calls (k : Nat) (a0_0 : Bool) (A0_1 : Option Addr) (c0_1 : Nat) (l0_1 : List Int) (r1 : Int) (r2 : Bool) (w : World) (hr0_1 : Kd.C (Kd.int .u32) w A0_1 l0_1.length l0_1) (hc0_1 : l0_1.length ≤ c0_1) (h : whole_Small.f k a0_0 l0_1 = some (r1, r2)) :
    Calls Try.prog 38 #[.agg #[.bool a0_0, .slice A0_1 l0_1.length c0_1]] w fun e w' => e = .returned (.tuple #[.int .i64 r1, .bool r2]) ∧ Below w.heap.size w w' := by
  have hu25 := Try.underlying25
  have HR0_1 := Aside0.mk hr0_1
  have HC0_1 := Aside0.mk hc0_1
  clear hr0_1 hc0_1
  have HB := Aside0.mk (Below.refl w.heap.size w)
  have H : ((nat_Small.f k l0_1).bind fun bt634 => (if bt634.2 = true then (if bt634.1 > 4611686018427387904 then (whole_Small.j0 k bt634.1 true a0_0 l0_1) else (if bt634.1 = 4611686018427387904 then ((whole_Sign.f k a0_0 l0_1).bind fun t636 => (whole_Small.j0 k bt634.1 (decide (t636 > 0)) a0_0 l0_1)) else (whole_Small.j0 k bt634.1 false a0_0 l0_1))) else (whole_Small.j0 k bt634.1 true a0_0 l0_1))) = some (r1, r2) := h
  clear h
  replace H := Option.bind_eq_some_iff.mp H
  obtain ⟨⟨t634, t635⟩, A20, H⟩ := H
  replace H : (if t635 = true then (if t634 > 4611686018427387904 then (whole_Small.j0 k t634 true a0_0 l0_1) else (if t634 = 4611686018427387904 then ((whole_Sign.f k a0_0 l0_1).bind fun t636 => (whole_Small.j0 k t634 (decide (t636 > 0)) a0_0 l0_1)) else (whole_Small.j0 k t634 false a0_0 l0_1))) else (whole_Small.j0 k t634 true a0_0 l0_1)) = some (r1, r2) := H
  have A2 := Aside0.mk A20
  clear A20
  have HC3 := Aside0.mk H
  clear H
  go_enter Try.func38, Try.ntmps38
  go_upto_region 2 with (first | ((with_reducible refine gate_dst (N := 1) rfl ?_); refine box_event ?hg (N := 1) ?hd (cs := #[.bool a0_0, .slice A0_1 l0_1.length c0_1]) (t := 25) ?hr ?_; (case hd => rfl); (case hg => rfl); (case hr => first | (go_simp; done) | (go_simp; rfl)); intro gb633 hg w4 hbox hb; have n0_ := Aside0.mk (below_step (by repeat (first | (with_reducible first | exact HB.out | apply below_alloc | apply pw_below_drewN | apply below_drew1) | exact HB.out)) hb); have n1_ := Aside0.mk (hbox); have n2_ := Aside0.mk ((by rw [hg]; exact (below_size (by repeat (first | (with_reducible first | exact HB.out | apply below_alloc | apply pw_below_drewN | apply below_drew1) | exact HB.out))) : w.heap.size ≤ gb633)); have n3_ := Aside0.mk ((by rw [hg]; exact (below_size (by repeat (first | (with_reducible first | exact HB.out | apply below_alloc | apply pw_below_drewN | apply below_drew1) | exact HB.out))) : w.heap.size ≤ gb633)); clear HB; have HB := n0_; have BK633 := n1_; have GW633 := n2_; have GE633 := n3_; clear n0_ n1_ n2_ n3_; clear hb hbox hg; have hcz5_0 : w4.cell? ⟨gb633, 0, none⟩ = some (.bool a0_0) := (blk_cell BK633.out 0).trans rfl; have hcz5_1 : w4.cell? ⟨gb633, 1, none⟩ = some (.slice A0_1 l0_1.length c0_1) := (blk_cell BK633.out 1).trans rfl; have hfz5_0 := blk_frozen BK633.out 0; have hfz5_1 := blk_frozen BK633.out 1) | ((with_reducible refine gate_callee (f := 87) rfl ?_); refine goesL_ (some 9) rfl rfl Try.func87 (by kernel_rfl) rfl #[.slice A0_1 l0_1.length c0_1] rfl (by (try simp only [List.map_toArray, List.map_cons, List.map_nil]); first | done | rfl | (simp only [List.length_drop, List.length_take]; rfl)) ?_; (with_reducible refine (nat_Small.calls k _ _ l0_1 t634 t635 _ ?side1 ?side2 A2.out).mono ?_); (case side1 => repeat (first | exact (Kd.C_below HR0_1.out HB.out) | (with_reducible refine Kd.C_alloc ?_ _) | (with_reducible refine Kd.C_drewN ?_ _) | (with_reducible refine Kd.C_drew ?_))); (case side2 => exact HC0_1.out); rintro e w6 ⟨rfl, hb⟩; refine ⟨_, rfl, ?_⟩; have n0_ := Aside0.mk (blk_below (g := gb633) (o := .cells #[.bool a0_0, .slice A0_1 l0_1.length c0_1] 25 (0, 0)) (by (with_reducible repeat (first | refine blk_drewN ?_ _ | refine blk_drew ?_ | refine blk_alloc ?_ _)); exact BK633.out) hb); have n1_ := Aside0.mk (below_step (by repeat (first | (with_reducible first | exact HB.out | apply below_alloc | apply pw_below_drewN | apply below_drew1 | refine below_set ?_ GE633.out) | exact HB.out)) hb); clear BK633; clear HB; have BK633 := n0_; have HB := n1_; clear n0_ n1_; (try clear hb)))
  (try simp only [Act.put, List.setIfInBounds_toArray, List.set_cons_zero, List.set_cons_succ])
  go_cut [12] (fun v12 wc => ∃ (kq : Nat) (x12_2 : Bool), v12 = .bool x12_2 ∧ Aside0 (whole_Small.j0 kq t634 x12_2 a0_0 l0_1 = some (r1, r2)) ∧ Aside0 (kq ≤ k) ∧ Aside0 (wc.heap[gb633]? = some (.cells #[.bool a0_0, (.slice A0_1 l0_1.length c0_1)] 25 (0, 0))) ∧ Aside0 (Below w.heap.size w wc))
  case first =>
    have H := HC3.out
    clear HC3
    by_cases c7 : t635 = true
    · subst c7
      have H1 : (if t634 > 4611686018427387904 then (whole_Small.j0 k t634 true a0_0 l0_1) else (if t634 = 4611686018427387904 then ((whole_Sign.f k a0_0 l0_1).bind fun t636 => (whole_Small.j0 k t634 (decide (t636 > 0)) a0_0 l0_1)) else (whole_Small.j0 k t634 false a0_0 l0_1))) = some (r1, r2) := by rw [if_pos rfl] at H; exact H
      clear H
      have H := H1
      clear H1
      by_cases c8 : t634 > 4611686018427387904
      · rw [if_pos c8] at H
        have c8b0 : decide (4611686018427387904 < t634) = true := decide_eq_true c8
        clear c8
        (first | rw [c8b0] | (simp only [i64_w, i32_w]; rw [c8b0]) | skip)
        have H' := Aside0.mk H
        clear H
        go_wp2
        go_meet
        case rel => exact ⟨_, (true), (by first | rfl | (simp; done) | (simp [*]; done)), H', ⟨by first | omega | exact Nat.le_refl _⟩, ⟨by (with_reducible repeat (first | refine blk_drewN ?_ _ | refine blk_drew ?_ | refine blk_alloc ?_ _)); exact BK633.out⟩, ⟨by repeat (first | (with_reducible first | exact HB.out | apply below_alloc | apply pw_below_drewN | apply below_drew1 | refine below_set ?_ GE633.out) | exact HB.out)⟩⟩
      · rw [if_neg c8] at H
        have c8b0 : decide (4611686018427387904 < t634) = false := decide_eq_false c8
        clear c8
        (first | rw [c8b0] | (simp only [i64_w, i32_w]; rw [c8b0]) | skip)
        by_cases c9 : t634 = 4611686018427387904
        · rw [if_pos c9] at H
          have c9b0 : (t634 == 4611686018427387904) = true := beq_iff_eq.mpr c9
          have c9b1 : (t634 != 4611686018427387904) = false := bne_eq_false_iff_eq.mpr c9
          clear c9
          replace H := Option.bind_eq_some_iff.mp H
          obtain ⟨t636, A100, H⟩ := H
          replace H : (whole_Small.j0 k t634 (decide (t636 > 0)) a0_0 l0_1) = some (r1, r2) := H
          have A10 := Aside0.mk A100
          clear A100
          have H' := Aside0.mk H
          clear H
          have hcz11_0 : w6.cell? ⟨gb633, 0, none⟩ = some (.bool a0_0) := (blk_cell BK633.out 0).trans rfl
          have hcz11_1 : w6.cell? ⟨gb633, 1, none⟩ = some (.slice A0_1 l0_1.length c0_1) := (blk_cell BK633.out 1).trans rfl
          have hfz11_0 := blk_frozen BK633.out 0
          have hfz11_1 := blk_frozen BK633.out 1
          go_wp2_with (first | (go_at_call 31; (with_reducible refine (whole_Sign.calls k a0_0 _ _ l0_1 t636 _ ?side1 ?side2 A10.out).mono ?_); (case side1 => repeat (first | exact (Kd.C_below HR0_1.out HB.out) | (with_reducible refine Kd.C_alloc ?_ _) | (with_reducible refine Kd.C_drewN ?_ _) | (with_reducible refine Kd.C_drew ?_))); (case side2 => exact HC0_1.out); rintro e w12 ⟨rfl, hb⟩; have n0_ := Aside0.mk (blk_below (g := gb633) (o := .cells #[.bool a0_0, .slice A0_1 l0_1.length c0_1] 25 (0, 0)) (by (with_reducible repeat (first | refine blk_drewN ?_ _ | refine blk_drew ?_ | refine blk_alloc ?_ _)); exact BK633.out) hb); have n1_ := Aside0.mk (below_step (by repeat (first | (with_reducible first | exact HB.out | apply below_alloc | apply pw_below_drewN | apply below_drew1 | refine below_set ?_ GE633.out) | exact HB.out)) hb); clear BK633; clear HB; have BK633 := n0_; have HB := n1_; clear n0_ n1_; (try clear hb)))
          go_meet
          case rel => exact ⟨_, (decide (t636 > 0)), (by first | rfl | (simp; done) | (simp [*]; done)), H', ⟨by first | omega | exact Nat.le_refl _⟩, ⟨by (with_reducible repeat (first | refine blk_drewN ?_ _ | refine blk_drew ?_ | refine blk_alloc ?_ _)); exact BK633.out⟩, ⟨by repeat (first | (with_reducible first | exact HB.out | apply below_alloc | apply pw_below_drewN | apply below_drew1 | refine below_set ?_ GE633.out) | exact HB.out)⟩⟩
        · rw [if_neg c9] at H
          have c9b0 : (t634 == 4611686018427387904) = false := beq_eq_false_iff_ne.mpr c9
          have c9b1 : (t634 != 4611686018427387904) = true := bne_iff_ne.mpr c9
          have H' := Aside0.mk H
          clear H
          go_wp2
          go_meet
          case rel => exact ⟨_, (false), (by first | rfl | (simp; done) | (simp [*]; done)), H', ⟨by first | omega | exact Nat.le_refl _⟩, ⟨by (with_reducible repeat (first | refine blk_drewN ?_ _ | refine blk_drew ?_ | refine blk_alloc ?_ _)); exact BK633.out⟩, ⟨by repeat (first | (with_reducible first | exact HB.out | apply below_alloc | apply pw_below_drewN | apply below_drew1 | refine below_set ?_ GE633.out) | exact HB.out)⟩⟩
    · replace c7 := Bool.eq_false_iff.mpr c7
      subst c7
      have H1 : (whole_Small.j0 k t634 true a0_0 l0_1) = some (r1, r2) := by rw [if_neg (show ¬ (false = true) by decide)] at H; exact H
      clear H
      have H := H1
      clear H1
      have H' := Aside0.mk H
      clear H
      go_wp2
      go_meet
      case rel => exact ⟨_, (true), (by first | rfl | (simp; done) | (simp [*]; done)), H', ⟨by first | omega | exact Nat.le_refl _⟩, ⟨by (with_reducible repeat (first | refine blk_drewN ?_ _ | refine blk_drew ?_ | refine blk_alloc ?_ _)); exact BK633.out⟩, ⟨by repeat (first | (with_reducible first | exact HB.out | apply below_alloc | apply pw_below_drewN | apply below_drew1 | refine below_set ?_ GE633.out) | exact HB.out)⟩⟩
  case rest =>
    clear HC3
    try clear p2
    try clear c3
    try clear c7
    try clear c8
    try clear c8b0
    try clear c9
    try clear c9b0
    try clear c9b1
    try clear hcz11_0
    try clear hcz11_1
    try clear hcz5_0
    try clear hcz5_1
    try clear hfz11_0
    try clear hfz11_1
    try clear hfz5_0
    try clear hfz5_1
    obtain ⟨kq, x12_2, rfl, HA, HJ2, BK633, HB⟩ := hcut
    cases kq with
    | zero => exact absurd HA.out (by simp [whole_Small.j0])
    | succ kj2 =>
      have H := HA.out
      clear HA
      simp only [whole_Small.j0] at H
      by_cases c13 : x12_2 = true
      · subst c13
        have H1 : (some (0, false)) = some (r1, r2) := by rw [if_pos rfl] at H; exact H
        clear H
        have H := H1
        clear H1
        simp only [Option.some.injEq, Prod.mk.injEq] at H
        obtain ⟨rfl, rfl⟩ := H
        go_wp2
        go_ret2
        exact ⟨by first | rfl | (simp [errW_none, errW_some] <;> rfl) | (simp [*, errW_none, errW_some] <;> rfl), by repeat (first | (with_reducible first | exact HB.out | apply below_alloc | apply pw_below_drewN | apply below_drew1 | refine below_set ?_ GE633.out) | exact HB.out)⟩
      · replace c13 := Bool.eq_false_iff.mpr c13
        subst c13
        have H1 : ((whole_Sign.f kj2 a0_0 l0_1).bind fun t637 => (if t637 < 0 then (some (wrap64 (-(wrap64 (t634))), true)) else (some (wrap64 (t634), true)))) = some (r1, r2) := by rw [if_neg (show ¬ (false = true) by decide)] at H; exact H
        clear H
        have H := H1
        clear H1
        replace H := Option.bind_eq_some_iff.mp H
        obtain ⟨t637, A140, H⟩ := H
        replace H : (if t637 < 0 then (some (wrap64 (-(wrap64 (t634))), true)) else (some (wrap64 (t634), true))) = some (r1, r2) := H
        have A14 := Aside0.mk A140
        clear A140
        by_cases c15 : t637 < 0
        · rw [if_pos c15] at H
          have c15b0 : decide (t637 < 0) = true := decide_eq_true c15
          clear c15
          simp only [Option.some.injEq, Prod.mk.injEq] at H
          obtain ⟨rfl, rfl⟩ := H
          have hcz16_0 : wc.cell? ⟨gb633, 0, none⟩ = some (.bool a0_0) := (blk_cell BK633.out 0).trans rfl
          have hcz16_1 : wc.cell? ⟨gb633, 1, none⟩ = some (.slice A0_1 l0_1.length c0_1) := (blk_cell BK633.out 1).trans rfl
          have hfz16_0 := blk_frozen BK633.out 0
          have hfz16_1 := blk_frozen BK633.out 1
          go_wp2_with (first | ((with_reducible refine gate_callee (f := 31) rfl ?_); refine goesL_ (some 30) rfl rfl Try.func31 (by kernel_rfl) rfl #[.agg #[.bool a0_0, .slice A0_1 l0_1.length c0_1]] rfl (by (try simp only [List.map_toArray, List.map_cons, List.map_nil]); first | done | rfl | (simp only [List.length_drop, List.length_take]; rfl)) ?_; (with_reducible refine (whole_Sign.calls kj2 a0_0 _ _ l0_1 t637 _ ?side1 ?side2 A14.out).mono ?_); (case side1 => repeat (first | exact (Kd.C_below HR0_1.out HB.out) | (with_reducible refine Kd.C_alloc ?_ _) | (with_reducible refine Kd.C_drewN ?_ _) | (with_reducible refine Kd.C_drew ?_))); (case side2 => exact HC0_1.out); rintro e w17 ⟨rfl, hb⟩; refine ⟨_, rfl, ?_⟩; have n0_ := Aside0.mk (blk_below (g := gb633) (o := .cells #[.bool a0_0, .slice A0_1 l0_1.length c0_1] 25 (0, 0)) (by (with_reducible repeat (first | refine blk_drewN ?_ _ | refine blk_drew ?_ | refine blk_alloc ?_ _)); exact BK633.out) hb); have n1_ := Aside0.mk (below_step (by repeat (first | (with_reducible first | exact HB.out | apply below_alloc | apply pw_below_drewN | apply below_drew1 | refine below_set ?_ GE633.out) | exact HB.out)) hb); clear BK633; clear HB; have BK633 := n0_; have HB := n1_; clear n0_ n1_; (try clear hb)))
          go_ret2
          exact ⟨by first | rfl | (simp [errW_none, errW_some] <;> rfl) | (simp [*, errW_none, errW_some] <;> rfl), by repeat (first | (with_reducible first | exact HB.out | apply below_alloc | apply pw_below_drewN | apply below_drew1 | refine below_set ?_ GE633.out) | exact HB.out)⟩
        · rw [if_neg c15] at H
          have c15b0 : decide (t637 < 0) = false := decide_eq_false c15
          clear c15
          simp only [Option.some.injEq, Prod.mk.injEq] at H
          obtain ⟨rfl, rfl⟩ := H
          have hcz18_0 : wc.cell? ⟨gb633, 0, none⟩ = some (.bool a0_0) := (blk_cell BK633.out 0).trans rfl
          have hcz18_1 : wc.cell? ⟨gb633, 1, none⟩ = some (.slice A0_1 l0_1.length c0_1) := (blk_cell BK633.out 1).trans rfl
          have hfz18_0 := blk_frozen BK633.out 0
          have hfz18_1 := blk_frozen BK633.out 1
          go_wp2_with (first | ((with_reducible refine gate_callee (f := 31) rfl ?_); refine goesL_ (some 30) rfl rfl Try.func31 (by kernel_rfl) rfl #[.agg #[.bool a0_0, .slice A0_1 l0_1.length c0_1]] rfl (by (try simp only [List.map_toArray, List.map_cons, List.map_nil]); first | done | rfl | (simp only [List.length_drop, List.length_take]; rfl)) ?_; (with_reducible refine (whole_Sign.calls kj2 a0_0 _ _ l0_1 t637 _ ?side1 ?side2 A14.out).mono ?_); (case side1 => repeat (first | exact (Kd.C_below HR0_1.out HB.out) | (with_reducible refine Kd.C_alloc ?_ _) | (with_reducible refine Kd.C_drewN ?_ _) | (with_reducible refine Kd.C_drew ?_))); (case side2 => exact HC0_1.out); rintro e w19 ⟨rfl, hb⟩; refine ⟨_, rfl, ?_⟩; have n0_ := Aside0.mk (blk_below (g := gb633) (o := .cells #[.bool a0_0, .slice A0_1 l0_1.length c0_1] 25 (0, 0)) (by (with_reducible repeat (first | refine blk_drewN ?_ _ | refine blk_drew ?_ | refine blk_alloc ?_ _)); exact BK633.out) hb); have n1_ := Aside0.mk (below_step (by repeat (first | (with_reducible first | exact HB.out | apply below_alloc | apply pw_below_drewN | apply below_drew1 | refine below_set ?_ GE633.out) | exact HB.out)) hb); clear BK633; clear HB; have BK633 := n0_; have HB := n1_; clear n0_ n1_; (try clear hb)))
          go_ret2
          exact ⟨by first | rfl | (simp [errW_none, errW_some] <;> rfl) | (simp [*, errW_none, errW_some] <;> rfl), by repeat (first | (with_reducible first | exact HB.out | apply below_alloc | apply pw_below_drewN | apply below_drew1 | refine below_set ?_ GE633.out) | exact HB.out)⟩

theorem whole_Small.ev {m : Bool} {l : List Int} {z : Int} {K : Nat} (h : Zn.Is m l z K) (hK : K < 1000000) : Ev (fun k => whole_Small.f k m l) (if -4611686018427387904 ≤ z ∧ z < 4611686018427387904 then (z, true) else (0, false)) := by
  have ab := h.abs
  have ok := h.ok hK
  have Sg := whole_Sign.ev h hK
  have out : ¬ (-4611686018427387904 ≤ z ∧ z < 4611686018427387904) → ∀ n : Int, Ev (fun k => whole_Small.j0 k n true m l) (if -4611686018427387904 ≤ z ∧ z < 4611686018427387904 then (z, true) else (0, false)) := by
    intro hn n
    rw [if_neg hn]
    exact Ev.step (f := fun _ => some (0, false)) (fun k => by rw [whole_Small.j0, if_pos rfl]) (Ev.now _)
  have ins : (-4611686018427387904 ≤ z ∧ z < 4611686018427387904) → Ev (fun k => whole_Small.j0 k ((Num.nv l : Nat) : Int) false m l) (if -4611686018427387904 ≤ z ∧ z < 4611686018427387904 then (z, true) else (0, false)) := by
    intro hn
    rw [if_pos hn]
    refine Ev.step (f := fun k => (whole_Sign.f k m l).bind fun t637 => if t637 < 0 then some (wrap64 (-(wrap64 ((Num.nv l : Nat) : Int))), true) else some (wrap64 ((Num.nv l : Nat) : Int), true)) (fun k => by rw [whole_Small.j0, if_neg (by decide)]) (Ev.bind Sg ?_)
    rw [Dec.w64 (show -9223372036854775808 ≤ ((Num.nv l : Nat) : Int) by omega) (by omega)]
    by_cases hz : z < 0
    · rw [Dec.w64 (by omega) (by omega), show -((Num.nv l : Nat) : Int) = z from by omega]
      exact Dec.yes ((Zn.sign_lt z).2 hz) (Ev.now _)
    · rw [show ((Num.nv l : Nat) : Int) = z from by omega]
      exact Dec.no (fun e => hz ((Zn.sign_lt z).1 e)) (Ev.now _)
  unfold whole_Small.f
  by_cases hb : Num.nv l < 18446744073709551616
  · have D : ∀ k, nat_Small.f k l = some (((Num.nv l : Nat) : Int), true) := fun k => by unfold nat_Small.f; rw [if_pos ok, if_pos hb]
    refine Dec.val D (Dec.yes rfl ?_)
    by_cases h1 : ((Num.nv l : Nat) : Int) > 4611686018427387904
    · exact Dec.yes h1 (out (by omega) _)
    · refine Dec.no h1 ?_
      by_cases h2 : ((Num.nv l : Nat) : Int) = 4611686018427387904
      · refine Dec.yes h2 (Ev.bind Sg ?_)
        rcases Zn.sign_cases z with ⟨hz, e⟩ | ⟨hz, e⟩ | ⟨hz, e⟩
        · rw [e]
          exact ins (by omega)
        · omega
        · rw [e]
          exact out (by omega) _
      · exact Dec.no h2 (ins (by omega))
  · have D : ∀ k, nat_Small.f k l = some (0, false) := fun k => by unfold nat_Small.f; rw [if_pos ok, if_neg hb]
    exact Dec.val D (Dec.no (by decide) (out (by omega) _))

end Go.Proofs.Ytjpkljkkcbaohaa.PR
