import Derived.Test.YtjpkljkkcbaohaaPRg0
import Derived.Test.YtjpkljkkcbaohaaPRx27
import Derived.Test.YtjpkljkkcbaohaaPRg28
import Derived.Test.YtjpkljkkcbaohaaPRg32
import Derived.Test.YtjpkljkkcbaohaaPRg51
namespace Go.Proofs.Ytjpkljkkcbaohaa.PR
open Go.RowKit Go.Proofs.YtjpkljkkcbaohaaW.PrintWords Go.Proofs.YtjpkljkkcbaohaaW.PrintLast Go.Proofs.YtjpkljkkcbaohaaW.PrintMore
attribute [local go_sem] max2_int min2_int max_two min_two max_three min_three max_four min_four   -- for this text's walks alone
set_option linter.unusedVariables false
set_option linter.unusedSimpArgs false

/-! ### offcutlaw02_WholeFloors: function 5 -/
def offcutlaw02_WholeFloors.j0 : Nat → Bool → Bool → List Int → Bool → List Int → Option (Bool)
  | 0, _, _, _, _, _ => none
  | k + 1, x17, x529000, x529001, x530000, x530001 => if x17 = true then ((offcutlaw02_awake.f k).bind fun t532 => (some t532)) else ((whole_Floor.f k x529000 x529001 x530000 x530001).bind fun bt533 => ((offcutlaw02_of.f k x530000 x530001).bind fun t544 => (if t544.toList = ([48] : List UInt8) then ((offcutlaw02_is.f k bt533.1 bt533.2.1 (⟨#[48]⟩ : ByteArray)).bind fun t545 => (if t545 = true then ((offcutlaw02_is.f k bt533.2.2.1 bt533.2.2.2.1 (⟨#[48]⟩ : ByteArray)).bind fun t546 => (if t546 = true then (if bt533.2.2.2.2 = 5 then ((offcutlaw02_awake.f k).bind fun t547 => (some t547)) else (some false)) else (some false))) else (some false))) else ((offcutlaw02_of.f k x529000 x529001).bind fun t548 => ((offcutlaw02_of.f k x530000 x530001).bind fun t549 => ((offcutref02_Floor.f k t548 t549).bind fun bt550 => ((offcutlaw02_is.f k bt533.1 bt533.2.1 bt550.1).bind fun t552 => (if t552 = true then ((offcutlaw02_is.f k bt533.2.2.1 bt533.2.2.2.1 bt550.2).bind fun t553 => (if t553 = true then (if bt533.2.2.2.2 = 0 then ((offcutlaw02_awake.f k).bind fun t554 => (some t554)) else (some false)) else (some false))) else (some false)))))))))
def offcutlaw02_WholeFloors.f (k : Nat) (a0_0 : Bool) (l0_1 : List Int) (a1_0 : Bool) (l1_1 : List Int) : Option (Bool) := (offcutlaw02_few.f a0_0 l0_1).bind fun t530 => (if t530 = true then ((offcutlaw02_few.f a1_0 l1_1).bind fun t531 => (offcutlaw02_WholeFloors.j0 k (!t531) a0_0 l0_1 a1_0 l1_1)) else (offcutlaw02_WholeFloors.j0 k true a0_0 l0_1 a1_0 l1_1))
theorem offcutlaw02_WholeFloors.mono_l : ∀ k, (∀ y0 y1 y2 y3 y4, LeO (offcutlaw02_WholeFloors.j0 k y0 y1 y2 y3 y4) (offcutlaw02_WholeFloors.j0 (k + 1) y0 y1 y2 y3 y4))
  | 0 => fun _ _ _ _ _ r h => by simp [offcutlaw02_WholeFloors.j0] at h
  | k + 1 => by
    have ih0 := offcutlaw02_WholeFloors.mono_l k
    · intro y0 y1 y2 y3 y4
      unfold offcutlaw02_WholeFloors.j0
      repeat' first
      | (with_reducible exact ih0 _ _ _ _ _)
      | (with_reducible exact offcutlaw02_awake.mono _)
      | (with_reducible exact offcutlaw02_is.mono _ _ _ _)
      | (with_reducible exact offcutlaw02_of.mono _ _ _)
      | (with_reducible exact offcutref02_Floor.mono _ _ _)
      | (with_reducible exact whole_Floor.mono _ _ _ _ _)
      | (with_reducible exact LeO.refl _)
      | (with_reducible exact LeO.none _)
      | (with_reducible refine LeO.ite ?_ ?_)
      | (with_reducible refine LeO.bind ?_ (fun _ => ?_))
      | exact LeO.none _
      | refine LeO.ite ?_ ?_
      | refine LeO.bind ?_ (fun _ => ?_)
theorem offcutlaw02_WholeFloors.mono : ∀ a0 a1 a2 a3 k, LeO (offcutlaw02_WholeFloors.f k a0 a1 a2 a3) (offcutlaw02_WholeFloors.f (k + 1) a0 a1 a2 a3) := by
  intro a0 a1 a2 a3 k
  have ih0 := offcutlaw02_WholeFloors.mono_l k
  unfold offcutlaw02_WholeFloors.f
  repeat' first
      | (with_reducible exact ih0 _ _ _ _ _)
      | (with_reducible exact offcutlaw02_awake.mono _)
      | (with_reducible exact offcutlaw02_is.mono _ _ _ _)
      | (with_reducible exact offcutlaw02_of.mono _ _ _)
      | (with_reducible exact offcutref02_Floor.mono _ _ _)
      | (with_reducible exact whole_Floor.mono _ _ _ _ _)
      | (with_reducible exact LeO.refl _)
      | (with_reducible exact LeO.none _)
      | (with_reducible refine LeO.ite ?_ ?_)
      | (with_reducible refine LeO.bind ?_ (fun _ => ?_))
      | exact LeO.none _
      | refine LeO.ite ?_ ?_
      | refine LeO.bind ?_ (fun _ => ?_)
def offcutlaw02_WholeFloors.T6 : Bool × List (List Nat × List Nat) := (true, [([], []), ([0], [0]), ([], []), ([2, 1], [2]), ([1, 3, 3], [1, 3]), ([4], [4]), ([5], [5]), ([5], [5]), ([6, 4, 0, 1, 2, 3, 4, 5, 6], [6]), ([7, 8, 0, 1, 2, 3, 4, 5, 6, 7, 8], [7])])
def offcutlaw02_WholeFloors.B6 : List Nat := [0, 1, 0, 7, 15, 31, 63, 63, 127, 511]
theorem offcutlaw02_WholeFloors.tab6 : rtab .any (opsOf Try.f5 6) = offcutlaw02_WholeFloors.T6 := by kernel_rfl
theorem offcutlaw02_WholeFloors.bits6 : waitsOk offcutlaw02_WholeFloors.T6.2 offcutlaw02_WholeFloors.B6 = true := by kernel_rfl
set_option maxHeartbeats 8000000 in
set_option maxRecDepth 100000 in
theorem offcutlaw02_WholeFloors.calls (k : Nat) (a0_0 : Bool) (A0_1 : Option Addr) (c0_1 : Nat) (l0_1 : List Int) (a1_0 : Bool) (A1_1 : Option Addr) (c1_1 : Nat) (l1_1 : List Int) (r : Bool) (w : World) (hr0_1 : Kd.C (Kd.int .u32) w A0_1 l0_1.length l0_1) (hc0_1 : l0_1.length ≤ c0_1) (hr1_1 : Kd.C (Kd.int .u32) w A1_1 l1_1.length l1_1) (hc1_1 : l1_1.length ≤ c1_1) (hrt : r = true) (h : offcutlaw02_WholeFloors.f k a0_0 l0_1 a1_0 l1_1 = some r) :
    Calls Try.prog 5 #[.agg #[.bool a0_0, .slice A0_1 l0_1.length c0_1], .agg #[.bool a1_0, .slice A1_1 l1_1.length c1_1]] w fun e w' => e = .returned (.bool r) ∧ Below w.heap.size w w' := by
  have hu25 := Try.underlying25
  have HRT := Aside0.mk hrt
  clear hrt
  have HR0_1 := Aside0.mk hr0_1
  have HC0_1 := Aside0.mk hc0_1
  clear hr0_1 hc0_1
  have HR1_1 := Aside0.mk hr1_1
  have HC1_1 := Aside0.mk hc1_1
  clear hr1_1 hc1_1
  have HB := Aside0.mk (Below.refl w.heap.size w)
  have H : ((offcutlaw02_few.f a0_0 l0_1).bind fun t530 => (if t530 = true then ((offcutlaw02_few.f a1_0 l1_1).bind fun t531 => (offcutlaw02_WholeFloors.j0 k (!t531) a0_0 l0_1 a1_0 l1_1)) else (offcutlaw02_WholeFloors.j0 k true a0_0 l0_1 a1_0 l1_1))) = some r := h
  clear h
  have HC3 := Aside0.mk H
  clear H
  go_enter Try.func5, Try.ntmps5
  go_upto_region 1 with (first | ((with_reducible refine gate_dst (N := 2) rfl ?_); refine box_event ?hg (N := 2) ?hd (cs := #[.bool a0_0, .slice A0_1 l0_1.length c0_1]) (t := 25) ?hr ?_; (case hd => rfl); (case hg => rfl); (case hr => first | (go_simp; done) | (go_simp; rfl)); intro gb528 hg w4 hbox hb; have n0_ := Aside0.mk (below_step (by repeat (first | (with_reducible first | exact HB.out | apply below_alloc | apply pw_below_drewN | apply below_drew1) | exact HB.out)) hb); have n1_ := Aside0.mk (hbox); have n2_ := Aside0.mk ((by rw [hg]; exact (below_size (by repeat (first | (with_reducible first | exact HB.out | apply below_alloc | apply pw_below_drewN | apply below_drew1) | exact HB.out))) : w.heap.size ≤ gb528)); have n3_ := Aside0.mk ((by rw [hg]; exact (below_size (by repeat (first | (with_reducible first | exact HB.out | apply below_alloc | apply pw_below_drewN | apply below_drew1) | exact HB.out))) : w.heap.size ≤ gb528)); clear HB; have HB := n0_; have BK528 := n1_; have GW528 := n2_; have GE528 := n3_; clear n0_ n1_ n2_ n3_; clear hb hbox hg) | ((with_reducible refine gate_dst (N := 3) rfl ?_); refine box_event ?hg (N := 3) ?hd (cs := #[.bool a1_0, .slice A1_1 l1_1.length c1_1]) (t := 25) ?hr ?_; (case hd => rfl); (case hg => rfl); (case hr => first | (go_simp; done) | (go_simp; rfl)); intro gb529 hg w5 hbox hb; have n0_ := Aside0.mk (blk_below (g := gb528) (o := .cells #[.bool a0_0, .slice A0_1 l0_1.length c0_1] 25 (0, 0)) (by (with_reducible repeat (first | refine blk_drewN ?_ _ | refine blk_drew ?_ | refine blk_alloc ?_ _)); exact BK528.out) hb); have n1_ := Aside0.mk (below_step (by repeat (first | (with_reducible first | exact HB.out | apply below_alloc | apply pw_below_drewN | apply below_drew1 | refine below_set ?_ GE528.out) | exact HB.out)) hb); have n2_ := Aside0.mk (hbox); have n3_ := Aside0.mk ((by rw [hg]; exact (below_size (by repeat (first | (with_reducible first | exact HB.out | apply below_alloc | apply pw_below_drewN | apply below_drew1 | refine below_set ?_ GE528.out) | exact HB.out))) : w.heap.size ≤ gb529)); have n4_ := Aside0.mk ((by rw [hg]; exact (below_size (by repeat (first | (with_reducible first | exact HB.out | apply below_alloc | apply pw_below_drewN | apply below_drew1 | refine below_set ?_ GE528.out) | exact HB.out))) : w.heap.size ≤ gb529)); have n5_ := Aside0.mk ((by rw [hg]; exact Nat.ne_of_lt (blk_lt (g := gb528) (o := .cells #[.bool a0_0, .slice A0_1 l0_1.length c0_1] 25 (0, 0)) (by (with_reducible repeat (first | refine blk_drewN ?_ _ | refine blk_drew ?_ | refine blk_alloc ?_ _)); exact BK528.out)) : gb528 ≠ gb529)); have n6_ := Aside0.mk ((by rw [hg]; exact Nat.ne_of_gt (blk_lt (g := gb528) (o := .cells #[.bool a0_0, .slice A0_1 l0_1.length c0_1] 25 (0, 0)) (by (with_reducible repeat (first | refine blk_drewN ?_ _ | refine blk_drew ?_ | refine blk_alloc ?_ _)); exact BK528.out)) : gb529 ≠ gb528)); clear BK528; clear HB; have BK528 := n0_; have HB := n1_; have BK529 := n2_; have GW529 := n3_; have GE529 := n4_; have NB528_529 := n5_; have NB529_528 := n6_; clear n0_ n1_ n2_ n3_ n4_ n5_ n6_; clear hb hbox hg))
  (try simp only [Act.put, List.setIfInBounds_toArray, List.set_cons_zero, List.set_cons_succ])
  go_cut [17] (fun v17 wc => ∃ (kq : Nat) (x17_2 : Bool), v17 = .bool x17_2 ∧ Aside0 (offcutlaw02_WholeFloors.j0 kq x17_2 a0_0 l0_1 a1_0 l1_1 = some r) ∧ Aside0 (kq ≤ k) ∧ Aside0 (wc.heap[gb528]? = some (.cells #[.bool a0_0, (.slice A0_1 l0_1.length c0_1)] 25 (0, 0))) ∧ Aside0 (wc.heap[gb529]? = some (.cells #[.bool a1_0, (.slice A1_1 l1_1.length c1_1)] 25 (0, 0))) ∧ Aside0 (Below w.heap.size w wc))
  case first =>
    have H := HC3.out
    clear HC3
    replace H := Option.bind_eq_some_iff.mp H
    obtain ⟨t530, A60, H⟩ := H
    replace H : (if t530 = true then ((offcutlaw02_few.f a1_0 l1_1).bind fun t531 => (offcutlaw02_WholeFloors.j0 k (!t531) a0_0 l0_1 a1_0 l1_1)) else (offcutlaw02_WholeFloors.j0 k true a0_0 l0_1 a1_0 l1_1)) = some r := H
    have A6 := Aside0.mk A60
    clear A60
    by_cases c7 : t530 = true
    · subst c7
      have H1 : ((offcutlaw02_few.f a1_0 l1_1).bind fun t531 => (offcutlaw02_WholeFloors.j0 k (!t531) a0_0 l0_1 a1_0 l1_1)) = some r := by rw [if_pos rfl] at H; exact H
      clear H
      have H := H1
      clear H1
      replace H := Option.bind_eq_some_iff.mp H
      obtain ⟨t531, A80, H⟩ := H
      replace H : (offcutlaw02_WholeFloors.j0 k (!t531) a0_0 l0_1 a1_0 l1_1) = some r := H
      have A8 := Aside0.mk A80
      clear A80
      have H' := Aside0.mk H
      clear H
      have hnb9 := NB528_529.out
      have hnc9 := NB529_528.out
      have hcz10_0 : w5.cell? ⟨gb528, 0, none⟩ = some (.bool a0_0) := (blk_cell BK528.out 0).trans rfl
      have hcz10_1 : w5.cell? ⟨gb528, 1, none⟩ = some (.slice A0_1 l0_1.length c0_1) := (blk_cell BK528.out 1).trans rfl
      have hfz10_0 := blk_frozen BK528.out 0
      have hfz10_1 := blk_frozen BK528.out 1
      go_wp2_with (first | ((with_reducible refine gate_callee (f := 17) rfl ?_); refine goesL_ (some 11) rfl rfl Try.func17 (by kernel_rfl) rfl #[.agg #[.bool a0_0, .slice A0_1 l0_1.length c0_1]] rfl (by (try simp only [List.map_toArray, List.map_cons, List.map_nil]); first | done | rfl) ?_; (with_reducible refine (offcutlaw02_few.calls a0_0 _ _ l0_1 true _ ?side1 ?side2 A6.out).mono ?_); (case side1 => repeat (first | exact (Kd.C_below HR0_1.out HB.out) | (with_reducible refine Kd.C_alloc ?_ _) | (with_reducible refine Kd.C_drewN ?_ _) | (with_reducible refine Kd.C_drew ?_))); (case side2 => exact HC0_1.out); rintro e w11 ⟨rfl, hb⟩; refine ⟨_, rfl, ?_⟩; have n0_ := Aside0.mk (blk_below (g := gb528) (o := .cells #[.bool a0_0, .slice A0_1 l0_1.length c0_1] 25 (0, 0)) (by (with_reducible repeat (first | refine blk_drewN ?_ _ | refine blk_drew ?_ | refine blk_alloc ?_ _)); exact BK528.out) hb); have n1_ := Aside0.mk (blk_below (g := gb529) (o := .cells #[.bool a1_0, .slice A1_1 l1_1.length c1_1] 25 (0, 0)) (by (with_reducible repeat (first | refine blk_drewN ?_ _ | refine blk_drew ?_ | refine blk_alloc ?_ _)); exact BK529.out) hb); have n2_ := Aside0.mk (below_step (by repeat (first | (with_reducible first | exact HB.out | apply below_alloc | apply pw_below_drewN | apply below_drew1 | refine below_set ?_ GE528.out | refine below_set ?_ GE529.out) | exact HB.out)) hb); clear BK528; clear BK529; clear HB; have BK528 := n0_; have BK529 := n1_; have HB := n2_; clear n0_ n1_ n2_; (try clear hb); have hcz12_0 : w11.cell? ⟨gb529, 0, none⟩ = some (.bool a1_0) := (blk_cell BK529.out 0).trans rfl; have hcz12_1 : w11.cell? ⟨gb529, 1, none⟩ = some (.slice A1_1 l1_1.length c1_1) := (blk_cell BK529.out 1).trans rfl; have hfz12_0 := blk_frozen BK529.out 0; have hfz12_1 := blk_frozen BK529.out 1) | (go_at_call 17; (with_reducible refine (offcutlaw02_few.calls a1_0 _ _ l1_1 t531 _ ?side1 ?side2 A8.out).mono ?_); (case side1 => repeat (first | exact (Kd.C_below HR1_1.out HB.out) | (with_reducible refine Kd.C_alloc ?_ _) | (with_reducible refine Kd.C_drewN ?_ _) | (with_reducible refine Kd.C_drew ?_))); (case side2 => exact HC1_1.out); rintro e w13 ⟨rfl, hb⟩; have n0_ := Aside0.mk (blk_below (g := gb528) (o := .cells #[.bool a0_0, .slice A0_1 l0_1.length c0_1] 25 (0, 0)) (by (with_reducible repeat (first | refine blk_drewN ?_ _ | refine blk_drew ?_ | refine blk_alloc ?_ _)); exact BK528.out) hb); have n1_ := Aside0.mk (blk_below (g := gb529) (o := .cells #[.bool a1_0, .slice A1_1 l1_1.length c1_1] 25 (0, 0)) (by (with_reducible repeat (first | refine blk_drewN ?_ _ | refine blk_drew ?_ | refine blk_alloc ?_ _)); exact BK529.out) hb); have n2_ := Aside0.mk (below_step (by repeat (first | (with_reducible first | exact HB.out | apply below_alloc | apply pw_below_drewN | apply below_drew1 | refine below_set ?_ GE528.out | refine below_set ?_ GE529.out) | exact HB.out)) hb); clear BK528; clear BK529; clear HB; have BK528 := n0_; have BK529 := n1_; have HB := n2_; clear n0_ n1_ n2_; (try clear hb)))
      go_meet
      case rel => exact ⟨_, (!t531), (by first | rfl | (simp; done) | (simp [*]; done)), H', ⟨by first | omega | exact Nat.le_refl _⟩, ⟨by (with_reducible repeat (first | refine blk_drewN ?_ _ | refine blk_drew ?_ | refine blk_alloc ?_ _)); exact BK528.out⟩, ⟨by (with_reducible repeat (first | refine blk_drewN ?_ _ | refine blk_drew ?_ | refine blk_alloc ?_ _)); exact BK529.out⟩, ⟨by repeat (first | (with_reducible first | exact HB.out | apply below_alloc | apply pw_below_drewN | apply below_drew1 | refine below_set ?_ GE528.out | refine below_set ?_ GE529.out) | exact HB.out)⟩⟩
    · replace c7 := Bool.eq_false_iff.mpr c7
      subst c7
      have H1 : (offcutlaw02_WholeFloors.j0 k true a0_0 l0_1 a1_0 l1_1) = some r := by rw [if_neg (show ¬ (false = true) by decide)] at H; exact H
      clear H
      have H := H1
      clear H1
      have H' := Aside0.mk H
      clear H
      have hnb14 := NB528_529.out
      have hnc14 := NB529_528.out
      have hcz15_0 : w5.cell? ⟨gb528, 0, none⟩ = some (.bool a0_0) := (blk_cell BK528.out 0).trans rfl
      have hcz15_1 : w5.cell? ⟨gb528, 1, none⟩ = some (.slice A0_1 l0_1.length c0_1) := (blk_cell BK528.out 1).trans rfl
      have hfz15_0 := blk_frozen BK528.out 0
      have hfz15_1 := blk_frozen BK528.out 1
      go_wp2_with (first | ((with_reducible refine gate_callee (f := 17) rfl ?_); refine goesL_ (some 11) rfl rfl Try.func17 (by kernel_rfl) rfl #[.agg #[.bool a0_0, .slice A0_1 l0_1.length c0_1]] rfl (by (try simp only [List.map_toArray, List.map_cons, List.map_nil]); first | done | rfl) ?_; (with_reducible refine (offcutlaw02_few.calls a0_0 _ _ l0_1 false _ ?side1 ?side2 A6.out).mono ?_); (case side1 => repeat (first | exact (Kd.C_below HR0_1.out HB.out) | (with_reducible refine Kd.C_alloc ?_ _) | (with_reducible refine Kd.C_drewN ?_ _) | (with_reducible refine Kd.C_drew ?_))); (case side2 => exact HC0_1.out); rintro e w16 ⟨rfl, hb⟩; refine ⟨_, rfl, ?_⟩; have n0_ := Aside0.mk (blk_below (g := gb528) (o := .cells #[.bool a0_0, .slice A0_1 l0_1.length c0_1] 25 (0, 0)) (by (with_reducible repeat (first | refine blk_drewN ?_ _ | refine blk_drew ?_ | refine blk_alloc ?_ _)); exact BK528.out) hb); have n1_ := Aside0.mk (blk_below (g := gb529) (o := .cells #[.bool a1_0, .slice A1_1 l1_1.length c1_1] 25 (0, 0)) (by (with_reducible repeat (first | refine blk_drewN ?_ _ | refine blk_drew ?_ | refine blk_alloc ?_ _)); exact BK529.out) hb); have n2_ := Aside0.mk (below_step (by repeat (first | (with_reducible first | exact HB.out | apply below_alloc | apply pw_below_drewN | apply below_drew1 | refine below_set ?_ GE528.out | refine below_set ?_ GE529.out) | exact HB.out)) hb); clear BK528; clear BK529; clear HB; have BK528 := n0_; have BK529 := n1_; have HB := n2_; clear n0_ n1_ n2_; (try clear hb)))
      go_meet
      case rel => exact ⟨_, (true), (by first | rfl | (simp; done) | (simp [*]; done)), H', ⟨by first | omega | exact Nat.le_refl _⟩, ⟨by (with_reducible repeat (first | refine blk_drewN ?_ _ | refine blk_drew ?_ | refine blk_alloc ?_ _)); exact BK528.out⟩, ⟨by (with_reducible repeat (first | refine blk_drewN ?_ _ | refine blk_drew ?_ | refine blk_alloc ?_ _)); exact BK529.out⟩, ⟨by repeat (first | (with_reducible first | exact HB.out | apply below_alloc | apply pw_below_drewN | apply below_drew1 | refine below_set ?_ GE528.out | refine below_set ?_ GE529.out) | exact HB.out)⟩⟩
  case rest =>
    clear HC3
    try clear c1
    try clear p2
    try clear c5
    try clear c7
    try clear c9
    try clear c14
    try clear hcz10_0
    try clear hcz10_1
    try clear hcz12_0
    try clear hcz12_1
    try clear hcz15_0
    try clear hcz15_1
    try clear hfz10_0
    try clear hfz10_1
    try clear hfz12_0
    try clear hfz12_1
    try clear hfz15_0
    try clear hfz15_1
    obtain ⟨kq, x17_2, rfl, HA, HJ2, BK528, BK529, HB⟩ := hcut
    cases kq with
    | zero => exact absurd HA.out (by simp [offcutlaw02_WholeFloors.j0])
    | succ kj2 =>
      have H := HA.out
      clear HA
      simp only [offcutlaw02_WholeFloors.j0] at H
      by_cases c17 : x17_2 = true
      · subst c17
        have H1 : ((offcutlaw02_awake.f kj2).bind fun t532 => (some t532)) = some r := by rw [if_pos rfl] at H; exact H
        clear H
        have H := H1
        clear H1
        replace H := Option.bind_eq_some_iff.mp H
        obtain ⟨t532, A180, H⟩ := H
        replace H : (some t532) = some r := H
        have A18 := Aside0.mk A180
        clear A180
        obtain rfl := Option.some.inj H
        go_wp2_with (first | ((with_reducible refine gate_callee (f := 18) rfl ?_); refine goesL_ (some 18) rfl rfl Try.func18 (by kernel_rfl) rfl #[] rfl (by (try simp only [List.map_toArray, List.map_cons, List.map_nil]); first | done | rfl) ?_; (with_reducible refine (offcutlaw02_awake.calls kj2  t532 _ HRT.out A18.out).mono ?_); rintro e w19 ⟨rfl, hb⟩; refine ⟨_, rfl, ?_⟩; have n0_ := Aside0.mk (blk_below (g := gb528) (o := .cells #[.bool a0_0, .slice A0_1 l0_1.length c0_1] 25 (0, 0)) (by (with_reducible repeat (first | refine blk_drewN ?_ _ | refine blk_drew ?_ | refine blk_alloc ?_ _)); exact BK528.out) hb); have n1_ := Aside0.mk (blk_below (g := gb529) (o := .cells #[.bool a1_0, .slice A1_1 l1_1.length c1_1] 25 (0, 0)) (by (with_reducible repeat (first | refine blk_drewN ?_ _ | refine blk_drew ?_ | refine blk_alloc ?_ _)); exact BK529.out) hb); have n2_ := Aside0.mk (below_step (by repeat (first | (with_reducible first | exact HB.out | apply below_alloc | apply pw_below_drewN | apply below_drew1 | refine below_set ?_ GE528.out | refine below_set ?_ GE529.out) | exact HB.out)) hb); clear BK528; clear BK529; clear HB; have BK528 := n0_; have BK529 := n1_; have HB := n2_; clear n0_ n1_ n2_; (try clear hb)))
        go_ret
        exact ⟨by first | rfl | (simp [errW_none, errW_some] <;> rfl) | (simp [*, errW_none, errW_some] <;> rfl), by repeat (first | (with_reducible first | exact HB.out | apply below_alloc | apply pw_below_drewN | apply below_drew1 | refine below_set ?_ GE528.out | refine below_set ?_ GE529.out) | exact HB.out)⟩
      · replace c17 := Bool.eq_false_iff.mpr c17
        subst c17
        have H1 : ((whole_Floor.f kj2 a0_0 l0_1 a1_0 l1_1).bind fun bt533 => ((offcutlaw02_of.f kj2 a1_0 l1_1).bind fun t544 => (if t544.toList = ([48] : List UInt8) then ((offcutlaw02_is.f kj2 bt533.1 bt533.2.1 (⟨#[48]⟩ : ByteArray)).bind fun t545 => (if t545 = true then ((offcutlaw02_is.f kj2 bt533.2.2.1 bt533.2.2.2.1 (⟨#[48]⟩ : ByteArray)).bind fun t546 => (if t546 = true then (if bt533.2.2.2.2 = 5 then ((offcutlaw02_awake.f kj2).bind fun t547 => (some t547)) else (some false)) else (some false))) else (some false))) else ((offcutlaw02_of.f kj2 a0_0 l0_1).bind fun t548 => ((offcutlaw02_of.f kj2 a1_0 l1_1).bind fun t549 => ((offcutref02_Floor.f kj2 t548 t549).bind fun bt550 => ((offcutlaw02_is.f kj2 bt533.1 bt533.2.1 bt550.1).bind fun t552 => (if t552 = true then ((offcutlaw02_is.f kj2 bt533.2.2.1 bt533.2.2.2.1 bt550.2).bind fun t553 => (if t553 = true then (if bt533.2.2.2.2 = 0 then ((offcutlaw02_awake.f kj2).bind fun t554 => (some t554)) else (some false)) else (some false))) else (some false))))))))) = some r := by rw [if_neg (show ¬ (false = true) by decide)] at H; exact H
        clear H
        have H := H1
        clear H1
        replace H := Option.bind_eq_some_iff.mp H
        obtain ⟨⟨t533, t534, t537, t538, t541⟩, A200, H⟩ := H
        replace H : ((offcutlaw02_of.f kj2 a1_0 l1_1).bind fun t544 => (if t544.toList = ([48] : List UInt8) then ((offcutlaw02_is.f kj2 t533 t534 (⟨#[48]⟩ : ByteArray)).bind fun t545 => (if t545 = true then ((offcutlaw02_is.f kj2 t537 t538 (⟨#[48]⟩ : ByteArray)).bind fun t546 => (if t546 = true then (if t541 = 5 then ((offcutlaw02_awake.f kj2).bind fun t547 => (some t547)) else (some false)) else (some false))) else (some false))) else ((offcutlaw02_of.f kj2 a0_0 l0_1).bind fun t548 => ((offcutlaw02_of.f kj2 a1_0 l1_1).bind fun t549 => ((offcutref02_Floor.f kj2 t548 t549).bind fun bt550 => ((offcutlaw02_is.f kj2 t533 t534 bt550.1).bind fun t552 => (if t552 = true then ((offcutlaw02_is.f kj2 t537 t538 bt550.2).bind fun t553 => (if t553 = true then (if t541 = 0 then ((offcutlaw02_awake.f kj2).bind fun t554 => (some t554)) else (some false)) else (some false))) else (some false)))))))) = some r := H
        have A20 := Aside0.mk A200
        clear A200
        replace H := Option.bind_eq_some_iff.mp H
        obtain ⟨t544, A210, H⟩ := H
        replace H : (if t544.toList = ([48] : List UInt8) then ((offcutlaw02_is.f kj2 t533 t534 (⟨#[48]⟩ : ByteArray)).bind fun t545 => (if t545 = true then ((offcutlaw02_is.f kj2 t537 t538 (⟨#[48]⟩ : ByteArray)).bind fun t546 => (if t546 = true then (if t541 = 5 then ((offcutlaw02_awake.f kj2).bind fun t547 => (some t547)) else (some false)) else (some false))) else (some false))) else ((offcutlaw02_of.f kj2 a0_0 l0_1).bind fun t548 => ((offcutlaw02_of.f kj2 a1_0 l1_1).bind fun t549 => ((offcutref02_Floor.f kj2 t548 t549).bind fun bt550 => ((offcutlaw02_is.f kj2 t533 t534 bt550.1).bind fun t552 => (if t552 = true then ((offcutlaw02_is.f kj2 t537 t538 bt550.2).bind fun t553 => (if t553 = true then (if t541 = 0 then ((offcutlaw02_awake.f kj2).bind fun t554 => (some t554)) else (some false)) else (some false))) else (some false))))))) = some r := H
        have A21 := Aside0.mk A210
        clear A210
        by_cases c22 : t544.toList = ([48] : List UInt8)
        · rw [if_pos c22] at H
          have c22b0 : (t544.toList == ([48] : List UInt8)) = true := beq_iff_eq.mpr c22
          have c22b1 : (t544.toList != ([48] : List UInt8)) = false := bne_eq_false_iff_eq.mpr c22
          clear c22
          replace H := Option.bind_eq_some_iff.mp H
          obtain ⟨t545, A230, H⟩ := H
          replace H : (if t545 = true then ((offcutlaw02_is.f kj2 t537 t538 (⟨#[48]⟩ : ByteArray)).bind fun t546 => (if t546 = true then (if t541 = 5 then ((offcutlaw02_awake.f kj2).bind fun t547 => (some t547)) else (some false)) else (some false))) else (some false)) = some r := H
          have A23 := Aside0.mk A230
          clear A230
          by_cases c24 : t545 = true
          · subst c24
            have H1 : ((offcutlaw02_is.f kj2 t537 t538 (⟨#[48]⟩ : ByteArray)).bind fun t546 => (if t546 = true then (if t541 = 5 then ((offcutlaw02_awake.f kj2).bind fun t547 => (some t547)) else (some false)) else (some false))) = some r := by rw [if_pos rfl] at H; exact H
            clear H
            have H := H1
            clear H1
            replace H := Option.bind_eq_some_iff.mp H
            obtain ⟨t546, A250, H⟩ := H
            replace H : (if t546 = true then (if t541 = 5 then ((offcutlaw02_awake.f kj2).bind fun t547 => (some t547)) else (some false)) else (some false)) = some r := H
            have A25 := Aside0.mk A250
            clear A250
            by_cases c26 : t546 = true
            · subst c26
              have H1 : (if t541 = 5 then ((offcutlaw02_awake.f kj2).bind fun t547 => (some t547)) else (some false)) = some r := by rw [if_pos rfl] at H; exact H
              clear H
              have H := H1
              clear H1
              by_cases c27 : t541 = 5
              · rw [if_pos c27] at H
                have c27b0 : (t541 == 5) = true := beq_iff_eq.mpr c27
                have c27b1 : (t541 != 5) = false := bne_eq_false_iff_eq.mpr c27
                clear c27
                replace H := Option.bind_eq_some_iff.mp H
                obtain ⟨t547, A280, H⟩ := H
                replace H : (some t547) = some r := H
                have A28 := Aside0.mk A280
                clear A280
                obtain rfl := Option.some.inj H
                have hnb29 := NB528_529.out
                have hnc29 := NB529_528.out
                have hcz30_0 : wc.cell? ⟨gb528, 0, none⟩ = some (.bool a0_0) := (blk_cell BK528.out 0).trans rfl
                have hcz30_1 : wc.cell? ⟨gb528, 1, none⟩ = some (.slice A0_1 l0_1.length c0_1) := (blk_cell BK528.out 1).trans rfl
                have hfz30_0 := blk_frozen BK528.out 0
                have hfz30_1 := blk_frozen BK528.out 1
                have hcz31_0 : wc.cell? ⟨gb529, 0, none⟩ = some (.bool a1_0) := (blk_cell BK529.out 0).trans rfl
                have hcz31_1 : wc.cell? ⟨gb529, 1, none⟩ = some (.slice A1_1 l1_1.length c1_1) := (blk_cell BK529.out 1).trans rfl
                have hfz31_0 := blk_frozen BK529.out 0
                have hfz31_1 := blk_frozen BK529.out 1
                go_wp2_with (first | ((with_reducible refine gate_callee (f := 34) rfl ?_); refine goesL_ (some 22) rfl rfl Try.func34 (by kernel_rfl) rfl #[.agg #[.bool a0_0, .slice A0_1 l0_1.length c0_1], .agg #[.bool a1_0, .slice A1_1 l1_1.length c1_1]] rfl (by (try simp only [List.map_toArray, List.map_cons, List.map_nil]); first | done | rfl) ?_; (with_reducible refine (whole_Floor.calls kj2 a0_0 _ _ l0_1 a1_0 _ _ l1_1 t533 t534 t537 t538 t541 _ ?side1 ?side2 ?side3 ?side4 A20.out).mono ?_); (case side1 => repeat (first | exact (Kd.C_below HR0_1.out HB.out) | (with_reducible refine Kd.C_alloc ?_ _) | (with_reducible refine Kd.C_drewN ?_ _) | (with_reducible refine Kd.C_drew ?_))); (case side2 => exact HC0_1.out); (case side3 => repeat (first | exact (Kd.C_below HR1_1.out HB.out) | (with_reducible refine Kd.C_alloc ?_ _) | (with_reducible refine Kd.C_drewN ?_ _) | (with_reducible refine Kd.C_drew ?_))); (case side4 => exact HC1_1.out); rintro e w32 ⟨v535, v539, rfl, ho0, ho1, hb⟩; refine ⟨_, rfl, ?_⟩; have n0_ := Aside0.mk (Kd.R_lower ho0 (below_size (by repeat (first | (with_reducible first | exact HB.out | apply below_alloc | apply pw_below_drewN | apply below_drew1 | refine below_set ?_ GE528.out | refine below_set ?_ GE529.out) | exact HB.out)))); have n1_ := Aside0.mk (Kd.R_lower ho1 (below_size (by repeat (first | (with_reducible first | exact HB.out | apply below_alloc | apply pw_below_drewN | apply below_drew1 | refine below_set ?_ GE528.out | refine below_set ?_ GE529.out) | exact HB.out)))); have n2_ := Aside0.mk (blk_below (g := gb528) (o := .cells #[.bool a0_0, .slice A0_1 l0_1.length c0_1] 25 (0, 0)) (by (with_reducible repeat (first | refine blk_drewN ?_ _ | refine blk_drew ?_ | refine blk_alloc ?_ _)); exact BK528.out) hb); have n3_ := Aside0.mk (blk_below (g := gb529) (o := .cells #[.bool a1_0, .slice A1_1 l1_1.length c1_1] 25 (0, 0)) (by (with_reducible repeat (first | refine blk_drewN ?_ _ | refine blk_drew ?_ | refine blk_alloc ?_ _)); exact BK529.out) hb); have n4_ := Aside0.mk (below_step (by repeat (first | (with_reducible first | exact HB.out | apply below_alloc | apply pw_below_drewN | apply below_drew1 | refine below_set ?_ GE528.out | refine below_set ?_ GE529.out) | exact HB.out)) hb); clear BK528; clear BK529; clear HB; have HO536 := n0_; have HO540 := n1_; have BK528 := n2_; have BK529 := n3_; have HB := n4_; clear n0_ n1_ n2_ n3_ n4_; (try clear hb); (try clear ho0); (try clear ho1)) | ((with_reducible refine gate_dst (N := 5) rfl ?_); refine box_event ?hg (N := 5) ?hd (cs := #[.bool false, .slice none 0 0]) (t := 25) ?hr ?_; (case hd => rfl); (case hg => rfl); (case hr => first | (go_simp; done) | (go_simp; rfl)); intro gb542 hg w33 hbox hb; have n0_ := Aside0.mk (Kd.R_below (by (with_reducible repeat (first | apply Kd.R_alloc | apply Kd.R_drewN | apply Kd.R_drew)); exact HO536.out) hb); have n1_ := Aside0.mk (Kd.R_below (by (with_reducible repeat (first | apply Kd.R_alloc | apply Kd.R_drewN | apply Kd.R_drew)); exact HO540.out) hb); have n2_ := Aside0.mk (blk_below (g := gb528) (o := .cells #[.bool a0_0, .slice A0_1 l0_1.length c0_1] 25 (0, 0)) (by (with_reducible repeat (first | refine blk_drewN ?_ _ | refine blk_drew ?_ | refine blk_alloc ?_ _)); exact BK528.out) hb); have n3_ := Aside0.mk (blk_below (g := gb529) (o := .cells #[.bool a1_0, .slice A1_1 l1_1.length c1_1] 25 (0, 0)) (by (with_reducible repeat (first | refine blk_drewN ?_ _ | refine blk_drew ?_ | refine blk_alloc ?_ _)); exact BK529.out) hb); have n4_ := Aside0.mk (below_step (by repeat (first | (with_reducible first | exact HB.out | apply below_alloc | apply pw_below_drewN | apply below_drew1 | refine below_set ?_ GE528.out | refine below_set ?_ GE529.out) | exact HB.out)) hb); have n5_ := Aside0.mk (hbox); have n6_ := Aside0.mk ((by rw [hg]; exact (below_size (by repeat (first | (with_reducible first | exact HB.out | apply below_alloc | apply pw_below_drewN | apply below_drew1 | refine below_set ?_ GE528.out | refine below_set ?_ GE529.out) | exact HB.out))) : w.heap.size ≤ gb542)); have n7_ := Aside0.mk ((by rw [hg]; exact (below_size (by repeat (first | (with_reducible first | exact HB.out | apply below_alloc | apply pw_below_drewN | apply below_drew1 | refine below_set ?_ GE528.out | refine below_set ?_ GE529.out) | exact HB.out))) : w.heap.size ≤ gb542)); have n8_ := Aside0.mk ((by rw [hg]; exact Nat.ne_of_lt (blk_lt (g := gb528) (o := .cells #[.bool a0_0, .slice A0_1 l0_1.length c0_1] 25 (0, 0)) (by (with_reducible repeat (first | refine blk_drewN ?_ _ | refine blk_drew ?_ | refine blk_alloc ?_ _)); exact BK528.out)) : gb528 ≠ gb542)); have n9_ := Aside0.mk ((by rw [hg]; exact Nat.ne_of_gt (blk_lt (g := gb528) (o := .cells #[.bool a0_0, .slice A0_1 l0_1.length c0_1] 25 (0, 0)) (by (with_reducible repeat (first | refine blk_drewN ?_ _ | refine blk_drew ?_ | refine blk_alloc ?_ _)); exact BK528.out)) : gb542 ≠ gb528)); have n10_ := Aside0.mk ((by rw [hg]; exact Nat.ne_of_lt (blk_lt (g := gb529) (o := .cells #[.bool a1_0, .slice A1_1 l1_1.length c1_1] 25 (0, 0)) (by (with_reducible repeat (first | refine blk_drewN ?_ _ | refine blk_drew ?_ | refine blk_alloc ?_ _)); exact BK529.out)) : gb529 ≠ gb542)); have n11_ := Aside0.mk ((by rw [hg]; exact Nat.ne_of_gt (blk_lt (g := gb529) (o := .cells #[.bool a1_0, .slice A1_1 l1_1.length c1_1] 25 (0, 0)) (by (with_reducible repeat (first | refine blk_drewN ?_ _ | refine blk_drew ?_ | refine blk_alloc ?_ _)); exact BK529.out)) : gb542 ≠ gb529)); clear HO536; clear HO540; clear BK528; clear BK529; clear HB; have HO536 := n0_; have HO540 := n1_; have BK528 := n2_; have BK529 := n3_; have HB := n4_; have BK542 := n5_; have GW542 := n6_; have GE542 := n7_; have NB528_542 := n8_; have NB542_528 := n9_; have NB529_542 := n10_; have NB542_529 := n11_; clear n0_ n1_ n2_ n3_ n4_ n5_ n6_ n7_ n8_ n9_ n10_ n11_; clear hb hbox hg) | ((with_reducible refine gate_dst (N := 6) rfl ?_); refine box_event ?hg (N := 6) ?hd (cs := #[.bool false, .slice none 0 0]) (t := 25) ?hr ?_; (case hd => rfl); (case hg => rfl); (case hr => first | (go_simp; done) | (go_simp; rfl)); intro gb543 hg w34 hbox hb; have n0_ := Aside0.mk (Kd.R_below (by (with_reducible repeat (first | apply Kd.R_alloc | apply Kd.R_drewN | apply Kd.R_drew)); exact HO536.out) hb); have n1_ := Aside0.mk (Kd.R_below (by (with_reducible repeat (first | apply Kd.R_alloc | apply Kd.R_drewN | apply Kd.R_drew)); exact HO540.out) hb); have n2_ := Aside0.mk (blk_below (g := gb528) (o := .cells #[.bool a0_0, .slice A0_1 l0_1.length c0_1] 25 (0, 0)) (by (with_reducible repeat (first | refine blk_drewN ?_ _ | refine blk_drew ?_ | refine blk_alloc ?_ _)); exact BK528.out) hb); have n3_ := Aside0.mk (blk_below (g := gb529) (o := .cells #[.bool a1_0, .slice A1_1 l1_1.length c1_1] 25 (0, 0)) (by (with_reducible repeat (first | refine blk_drewN ?_ _ | refine blk_drew ?_ | refine blk_alloc ?_ _)); exact BK529.out) hb); have n4_ := Aside0.mk (blk_below (g := gb542) (o := .cells #[.bool false, .slice none 0 0] 25 (0, 0)) (by (with_reducible repeat (first | refine blk_drewN ?_ _ | refine blk_drew ?_ | refine blk_alloc ?_ _)); exact BK542.out) hb); have n5_ := Aside0.mk (below_step (by repeat (first | (with_reducible first | exact HB.out | apply below_alloc | apply pw_below_drewN | apply below_drew1 | refine below_set ?_ GE528.out | refine below_set ?_ GE529.out | refine below_set ?_ GE542.out) | exact HB.out)) hb); have n6_ := Aside0.mk (hbox); have n7_ := Aside0.mk ((by rw [hg]; exact (below_size (by repeat (first | (with_reducible first | exact HB.out | apply below_alloc | apply pw_below_drewN | apply below_drew1 | refine below_set ?_ GE528.out | refine below_set ?_ GE529.out | refine below_set ?_ GE542.out) | exact HB.out))) : w.heap.size ≤ gb543)); have n8_ := Aside0.mk ((by rw [hg]; exact (below_size (by repeat (first | (with_reducible first | exact HB.out | apply below_alloc | apply pw_below_drewN | apply below_drew1 | refine below_set ?_ GE528.out | refine below_set ?_ GE529.out | refine below_set ?_ GE542.out) | exact HB.out))) : w.heap.size ≤ gb543)); have n9_ := Aside0.mk ((by rw [hg]; exact Nat.ne_of_lt (blk_lt (g := gb528) (o := .cells #[.bool a0_0, .slice A0_1 l0_1.length c0_1] 25 (0, 0)) (by (with_reducible repeat (first | refine blk_drewN ?_ _ | refine blk_drew ?_ | refine blk_alloc ?_ _)); exact BK528.out)) : gb528 ≠ gb543)); have n10_ := Aside0.mk ((by rw [hg]; exact Nat.ne_of_gt (blk_lt (g := gb528) (o := .cells #[.bool a0_0, .slice A0_1 l0_1.length c0_1] 25 (0, 0)) (by (with_reducible repeat (first | refine blk_drewN ?_ _ | refine blk_drew ?_ | refine blk_alloc ?_ _)); exact BK528.out)) : gb543 ≠ gb528)); have n11_ := Aside0.mk ((by rw [hg]; exact Nat.ne_of_lt (blk_lt (g := gb529) (o := .cells #[.bool a1_0, .slice A1_1 l1_1.length c1_1] 25 (0, 0)) (by (with_reducible repeat (first | refine blk_drewN ?_ _ | refine blk_drew ?_ | refine blk_alloc ?_ _)); exact BK529.out)) : gb529 ≠ gb543)); have n12_ := Aside0.mk ((by rw [hg]; exact Nat.ne_of_gt (blk_lt (g := gb529) (o := .cells #[.bool a1_0, .slice A1_1 l1_1.length c1_1] 25 (0, 0)) (by (with_reducible repeat (first | refine blk_drewN ?_ _ | refine blk_drew ?_ | refine blk_alloc ?_ _)); exact BK529.out)) : gb543 ≠ gb529)); have n13_ := Aside0.mk ((by rw [hg]; exact Nat.ne_of_lt (blk_lt (g := gb542) (o := .cells #[.bool false, .slice none 0 0] 25 (0, 0)) (by (with_reducible repeat (first | refine blk_drewN ?_ _ | refine blk_drew ?_ | refine blk_alloc ?_ _)); exact BK542.out)) : gb542 ≠ gb543)); have n14_ := Aside0.mk ((by rw [hg]; exact Nat.ne_of_gt (blk_lt (g := gb542) (o := .cells #[.bool false, .slice none 0 0] 25 (0, 0)) (by (with_reducible repeat (first | refine blk_drewN ?_ _ | refine blk_drew ?_ | refine blk_alloc ?_ _)); exact BK542.out)) : gb543 ≠ gb542)); clear HO536; clear HO540; clear BK528; clear BK529; clear BK542; clear HB; have HO536 := n0_; have HO540 := n1_; have BK528 := n2_; have BK529 := n3_; have BK542 := n4_; have HB := n5_; have BK543 := n6_; have GW543 := n7_; have GE543 := n8_; have NB528_543 := n9_; have NB543_528 := n10_; have NB529_543 := n11_; have NB543_529 := n12_; have NB542_543 := n13_; have NB543_542 := n14_; clear n0_ n1_ n2_ n3_ n4_ n5_ n6_ n7_ n8_ n9_ n10_ n11_ n12_ n13_ n14_; clear hb hbox hg; have hnb35 := NB542_528.out; have hnc35 := NB528_542.out; have hnb36 := NB542_529.out; have hnc36 := NB529_542.out; have hnb37 := NB542_543.out; have hnc37 := NB543_542.out; have hcz38_0 : w34.cell? ⟨gb542, 0, none⟩ = some (.bool false) := (blk_cell BK542.out 0).trans rfl; have hcz38_1 : w34.cell? ⟨gb542, 1, none⟩ = some (.slice none 0 0) := (blk_cell BK542.out 1).trans rfl; have hfz38_0 := blk_frozen BK542.out 0; have hfz38_1 := blk_frozen BK542.out 1; obtain ⟨Ao39, co39, eo39⟩ := Kd.R_slice HO536.out; subst eo39; have hnb40 := NB543_528.out; have hnc40 := NB528_543.out; have hnb41 := NB543_529.out; have hnc41 := NB529_543.out; have hcz42_0 : w34.cell? ⟨gb543, 0, none⟩ = some (.bool false) := (blk_cell BK543.out 0).trans rfl; have hcz42_1 : w34.cell? ⟨gb543, 1, none⟩ = some (.slice none 0 0) := (blk_cell BK543.out 1).trans rfl; have hfz42_0 := blk_frozen BK543.out 0; have hfz42_1 := blk_frozen BK543.out 1; obtain ⟨Ao43, co43, eo43⟩ := Kd.R_slice HO540.out; subst eo43; have hcz44_0 : w34.cell? ⟨gb529, 0, none⟩ = some (.bool a1_0) := (blk_cell BK529.out 0).trans rfl; have hcz44_1 : w34.cell? ⟨gb529, 1, none⟩ = some (.slice A1_1 l1_1.length c1_1) := (blk_cell BK529.out 1).trans rfl; have hfz44_0 := blk_frozen BK529.out 0; have hfz44_1 := blk_frozen BK529.out 1) | ((with_reducible refine gate_callee (f := 19) rfl ?_); refine goesL_ (some 27) rfl rfl Try.func19 (by kernel_rfl) rfl #[.agg #[.bool a1_0, .slice A1_1 l1_1.length c1_1]] rfl (by (try simp only [List.map_toArray, List.map_cons, List.map_nil]); first | done | rfl) ?_; (with_reducible refine (offcutlaw02_of.calls kj2 a1_0 _ _ l1_1 t544 _ ?side1 ?side2 A21.out).mono ?_); (case side1 => exact Kd.C_below HR1_1.out (by repeat (first | (with_reducible first | exact HB.out | apply below_alloc | apply pw_below_drewN | apply below_drew1 | refine below_set ?_ GE528.out | refine below_set ?_ GE529.out | refine below_set ?_ GE542.out | refine below_set ?_ GE543.out) | exact HB.out))); (case side2 => exact HC1_1.out); rintro e w45 ⟨rfl, hb⟩; refine ⟨_, rfl, ?_⟩; have n0_ := Aside0.mk (Kd.R_below (by (with_reducible repeat (first | apply Kd.R_alloc | apply Kd.R_drewN | apply Kd.R_drew)); exact (Kd.R_mono (Kd.R_mono (Kd.R_far (p := ⟨gb543, 1, none⟩) (Kd.R_far (p := ⟨gb543, 0, none⟩) (Kd.R_far (p := ⟨gb542, 1, none⟩) (Kd.R_far (p := ⟨gb542, 0, none⟩) (Kd.R_types (Kd.R_types HO536.out BK542.out (by decide)) BK543.out (by decide)) (fun _ hk => hk.1.2) (.bool t533)) (fun _ hk => hk.1.2) (.slice Ao39 t534.length co39)) (fun _ hk => hk.2) (.bool t537)) (fun _ hk => hk.2) (.slice Ao43 t538.length co43)) (fun _ h_ => h_.1)) (fun _ h_ => h_.1))) hb); have n1_ := Aside0.mk (Kd.R_below (by (with_reducible repeat (first | apply Kd.R_alloc | apply Kd.R_drewN | apply Kd.R_drew)); exact (Kd.R_mono (Kd.R_mono (Kd.R_far (p := ⟨gb543, 1, none⟩) (Kd.R_far (p := ⟨gb543, 0, none⟩) (Kd.R_far (p := ⟨gb542, 1, none⟩) (Kd.R_far (p := ⟨gb542, 0, none⟩) (Kd.R_types (Kd.R_types HO540.out BK542.out (by decide)) BK543.out (by decide)) (fun _ hk => hk.1.2) (.bool t533)) (fun _ hk => hk.1.2) (.slice Ao39 t534.length co39)) (fun _ hk => hk.2) (.bool t537)) (fun _ hk => hk.2) (.slice Ao43 t538.length co43)) (fun _ h_ => h_.1)) (fun _ h_ => h_.1))) hb); have n2_ := Aside0.mk (blk_below (g := gb528) (o := .cells #[.bool a0_0, .slice A0_1 l0_1.length c0_1] 25 (0, 0)) (by (with_reducible repeat (first | refine blk_drewN ?_ _ | refine blk_drew ?_ | refine blk_alloc ?_ _)); refine blk_far ?_ NB528_543.out _; (with_reducible repeat (first | refine blk_drewN ?_ _ | refine blk_drew ?_ | refine blk_alloc ?_ _)); refine blk_far ?_ NB528_543.out _; (with_reducible repeat (first | refine blk_drewN ?_ _ | refine blk_drew ?_ | refine blk_alloc ?_ _)); refine blk_far ?_ NB528_542.out _; (with_reducible repeat (first | refine blk_drewN ?_ _ | refine blk_drew ?_ | refine blk_alloc ?_ _)); refine blk_far ?_ NB528_542.out _; (with_reducible repeat (first | refine blk_drewN ?_ _ | refine blk_drew ?_ | refine blk_alloc ?_ _)); exact BK528.out) hb); have n3_ := Aside0.mk (blk_below (g := gb529) (o := .cells #[.bool a1_0, .slice A1_1 l1_1.length c1_1] 25 (0, 0)) (by (with_reducible repeat (first | refine blk_drewN ?_ _ | refine blk_drew ?_ | refine blk_alloc ?_ _)); refine blk_far ?_ NB529_543.out _; (with_reducible repeat (first | refine blk_drewN ?_ _ | refine blk_drew ?_ | refine blk_alloc ?_ _)); refine blk_far ?_ NB529_543.out _; (with_reducible repeat (first | refine blk_drewN ?_ _ | refine blk_drew ?_ | refine blk_alloc ?_ _)); refine blk_far ?_ NB529_542.out _; (with_reducible repeat (first | refine blk_drewN ?_ _ | refine blk_drew ?_ | refine blk_alloc ?_ _)); refine blk_far ?_ NB529_542.out _; (with_reducible repeat (first | refine blk_drewN ?_ _ | refine blk_drew ?_ | refine blk_alloc ?_ _)); exact BK529.out) hb); have n4_ := Aside0.mk (blk_below (g := gb542) (o := .cells #[.bool t533, .slice Ao39 t534.length co39] 25 (0, 0)) (by (with_reducible repeat (first | refine blk_drewN ?_ _ | refine blk_drew ?_ | refine blk_alloc ?_ _)); refine blk_far ?_ NB542_543.out _; (with_reducible repeat (first | refine blk_drewN ?_ _ | refine blk_drew ?_ | refine blk_alloc ?_ _)); refine blk_far ?_ NB542_543.out _; (with_reducible repeat (first | refine blk_drewN ?_ _ | refine blk_drew ?_ | refine blk_alloc ?_ _)); refine blk_put (cs := #[.bool t533, .slice none 0 0]) ?_ 1 _ rfl; (with_reducible repeat (first | refine blk_drewN ?_ _ | refine blk_drew ?_ | refine blk_alloc ?_ _)); refine blk_put (cs := #[.bool false, .slice none 0 0]) ?_ 0 _ rfl; (with_reducible repeat (first | refine blk_drewN ?_ _ | refine blk_drew ?_ | refine blk_alloc ?_ _)); exact BK542.out) hb); have n5_ := Aside0.mk (blk_below (g := gb543) (o := .cells #[.bool t537, .slice Ao43 t538.length co43] 25 (0, 0)) (by (with_reducible repeat (first | refine blk_drewN ?_ _ | refine blk_drew ?_ | refine blk_alloc ?_ _)); refine blk_put (cs := #[.bool t537, .slice none 0 0]) ?_ 1 _ rfl; (with_reducible repeat (first | refine blk_drewN ?_ _ | refine blk_drew ?_ | refine blk_alloc ?_ _)); refine blk_put (cs := #[.bool false, .slice none 0 0]) ?_ 0 _ rfl; (with_reducible repeat (first | refine blk_drewN ?_ _ | refine blk_drew ?_ | refine blk_alloc ?_ _)); refine blk_far ?_ NB543_542.out _; (with_reducible repeat (first | refine blk_drewN ?_ _ | refine blk_drew ?_ | refine blk_alloc ?_ _)); refine blk_far ?_ NB543_542.out _; (with_reducible repeat (first | refine blk_drewN ?_ _ | refine blk_drew ?_ | refine blk_alloc ?_ _)); exact BK543.out) hb); have n6_ := Aside0.mk (below_step (by repeat (first | (with_reducible first | exact HB.out | apply below_alloc | apply pw_below_drewN | apply below_drew1 | refine below_set ?_ GE528.out | refine below_set ?_ GE529.out | refine below_set ?_ GE542.out | refine below_set ?_ GE543.out) | exact HB.out)) hb); clear HO536; clear HO540; clear BK528; clear BK529; clear BK542; clear BK543; clear HB; have HO536 := n0_; have HO540 := n1_; have BK528 := n2_; have BK529 := n3_; have BK542 := n4_; have BK543 := n5_; have HB := n6_; clear n0_ n1_ n2_ n3_ n4_ n5_ n6_; (try clear hb); have hcz46_0 : w45.cell? ⟨gb542, 0, none⟩ = some (.bool t533) := (blk_cell BK542.out 0).trans rfl; have hcz46_1 : w45.cell? ⟨gb542, 1, none⟩ = some (.slice Ao39 t534.length co39) := (blk_cell BK542.out 1).trans rfl; have hfz46_0 := blk_frozen BK542.out 0; have hfz46_1 := blk_frozen BK542.out 1) | ((with_reducible refine gate_callee (f := 20) rfl ?_); refine goesL_ (some 30) rfl rfl Try.func20 (by kernel_rfl) rfl #[.agg #[.bool t533, .slice Ao39 t534.length co39], .string (⟨#[48]⟩ : ByteArray)] rfl (by (try simp only [List.map_toArray, List.map_cons, List.map_nil]); first | done | rfl) ?_; (with_reducible refine (offcutlaw02_is.calls kj2 t533 _ _ t534 (⟨#[48]⟩ : ByteArray) true _ ?side1 ?side2 A23.out).mono ?_); (case side1 => repeat (first | exact (Kd.R_reads' HO536.out).2.2 | (with_reducible refine Kd.C_alloc ?_ _) | (with_reducible refine Kd.C_drewN ?_ _) | (with_reducible refine Kd.C_drew ?_))); (case side2 => exact (Kd.R_reads' HO536.out).2.1); rintro e w47 ⟨rfl, hb⟩; refine ⟨_, rfl, ?_⟩; have n0_ := Aside0.mk (Kd.R_below (by (with_reducible repeat (first | apply Kd.R_alloc | apply Kd.R_drewN | apply Kd.R_drew)); exact HO536.out) hb); have n1_ := Aside0.mk (Kd.R_below (by (with_reducible repeat (first | apply Kd.R_alloc | apply Kd.R_drewN | apply Kd.R_drew)); exact HO540.out) hb); have n2_ := Aside0.mk (blk_below (g := gb528) (o := .cells #[.bool a0_0, .slice A0_1 l0_1.length c0_1] 25 (0, 0)) (by (with_reducible repeat (first | refine blk_drewN ?_ _ | refine blk_drew ?_ | refine blk_alloc ?_ _)); exact BK528.out) hb); have n3_ := Aside0.mk (blk_below (g := gb529) (o := .cells #[.bool a1_0, .slice A1_1 l1_1.length c1_1] 25 (0, 0)) (by (with_reducible repeat (first | refine blk_drewN ?_ _ | refine blk_drew ?_ | refine blk_alloc ?_ _)); exact BK529.out) hb); have n4_ := Aside0.mk (blk_below (g := gb542) (o := .cells #[.bool t533, .slice Ao39 t534.length co39] 25 (0, 0)) (by (with_reducible repeat (first | refine blk_drewN ?_ _ | refine blk_drew ?_ | refine blk_alloc ?_ _)); exact BK542.out) hb); have n5_ := Aside0.mk (blk_below (g := gb543) (o := .cells #[.bool t537, .slice Ao43 t538.length co43] 25 (0, 0)) (by (with_reducible repeat (first | refine blk_drewN ?_ _ | refine blk_drew ?_ | refine blk_alloc ?_ _)); exact BK543.out) hb); have n6_ := Aside0.mk (below_step (by repeat (first | (with_reducible first | exact HB.out | apply below_alloc | apply pw_below_drewN | apply below_drew1 | refine below_set ?_ GE528.out | refine below_set ?_ GE529.out | refine below_set ?_ GE542.out | refine below_set ?_ GE543.out) | exact HB.out)) hb); clear HO536; clear HO540; clear BK528; clear BK529; clear BK542; clear BK543; clear HB; have HO536 := n0_; have HO540 := n1_; have BK528 := n2_; have BK529 := n3_; have BK542 := n4_; have BK543 := n5_; have HB := n6_; clear n0_ n1_ n2_ n3_ n4_ n5_ n6_; (try clear hb); have hcz48_0 : w47.cell? ⟨gb543, 0, none⟩ = some (.bool t537) := (blk_cell BK543.out 0).trans rfl; have hcz48_1 : w47.cell? ⟨gb543, 1, none⟩ = some (.slice Ao43 t538.length co43) := (blk_cell BK543.out 1).trans rfl; have hfz48_0 := blk_frozen BK543.out 0; have hfz48_1 := blk_frozen BK543.out 1) | (go_at_call 20; (with_reducible refine (offcutlaw02_is.calls kj2 t537 _ _ t538 (⟨#[48]⟩ : ByteArray) true _ ?side1 ?side2 A25.out).mono ?_); (case side1 => repeat (first | exact (Kd.R_reads' HO540.out).2.2 | (with_reducible refine Kd.C_alloc ?_ _) | (with_reducible refine Kd.C_drewN ?_ _) | (with_reducible refine Kd.C_drew ?_))); (case side2 => exact (Kd.R_reads' HO540.out).2.1); rintro e w49 ⟨rfl, hb⟩; have n0_ := Aside0.mk (Kd.R_below (by (with_reducible repeat (first | apply Kd.R_alloc | apply Kd.R_drewN | apply Kd.R_drew)); exact HO536.out) hb); have n1_ := Aside0.mk (Kd.R_below (by (with_reducible repeat (first | apply Kd.R_alloc | apply Kd.R_drewN | apply Kd.R_drew)); exact HO540.out) hb); have n2_ := Aside0.mk (blk_below (g := gb528) (o := .cells #[.bool a0_0, .slice A0_1 l0_1.length c0_1] 25 (0, 0)) (by (with_reducible repeat (first | refine blk_drewN ?_ _ | refine blk_drew ?_ | refine blk_alloc ?_ _)); exact BK528.out) hb); have n3_ := Aside0.mk (blk_below (g := gb529) (o := .cells #[.bool a1_0, .slice A1_1 l1_1.length c1_1] 25 (0, 0)) (by (with_reducible repeat (first | refine blk_drewN ?_ _ | refine blk_drew ?_ | refine blk_alloc ?_ _)); exact BK529.out) hb); have n4_ := Aside0.mk (blk_below (g := gb542) (o := .cells #[.bool t533, .slice Ao39 t534.length co39] 25 (0, 0)) (by (with_reducible repeat (first | refine blk_drewN ?_ _ | refine blk_drew ?_ | refine blk_alloc ?_ _)); exact BK542.out) hb); have n5_ := Aside0.mk (blk_below (g := gb543) (o := .cells #[.bool t537, .slice Ao43 t538.length co43] 25 (0, 0)) (by (with_reducible repeat (first | refine blk_drewN ?_ _ | refine blk_drew ?_ | refine blk_alloc ?_ _)); exact BK543.out) hb); have n6_ := Aside0.mk (below_step (by repeat (first | (with_reducible first | exact HB.out | apply below_alloc | apply pw_below_drewN | apply below_drew1 | refine below_set ?_ GE528.out | refine below_set ?_ GE529.out | refine below_set ?_ GE542.out | refine below_set ?_ GE543.out) | exact HB.out)) hb); clear HO536; clear HO540; clear BK528; clear BK529; clear BK542; clear BK543; clear HB; have HO536 := n0_; have HO540 := n1_; have BK528 := n2_; have BK529 := n3_; have BK542 := n4_; have BK543 := n5_; have HB := n6_; clear n0_ n1_ n2_ n3_ n4_ n5_ n6_; (try clear hb)) | (go_at_call 18; (with_reducible refine (offcutlaw02_awake.calls kj2  t547 _ HRT.out A28.out).mono ?_); rintro e w50 ⟨rfl, hb⟩; have n0_ := Aside0.mk (Kd.R_below (by (with_reducible repeat (first | apply Kd.R_alloc | apply Kd.R_drewN | apply Kd.R_drew)); exact HO536.out) hb); have n1_ := Aside0.mk (Kd.R_below (by (with_reducible repeat (first | apply Kd.R_alloc | apply Kd.R_drewN | apply Kd.R_drew)); exact HO540.out) hb); have n2_ := Aside0.mk (blk_below (g := gb528) (o := .cells #[.bool a0_0, .slice A0_1 l0_1.length c0_1] 25 (0, 0)) (by (with_reducible repeat (first | refine blk_drewN ?_ _ | refine blk_drew ?_ | refine blk_alloc ?_ _)); exact BK528.out) hb); have n3_ := Aside0.mk (blk_below (g := gb529) (o := .cells #[.bool a1_0, .slice A1_1 l1_1.length c1_1] 25 (0, 0)) (by (with_reducible repeat (first | refine blk_drewN ?_ _ | refine blk_drew ?_ | refine blk_alloc ?_ _)); exact BK529.out) hb); have n4_ := Aside0.mk (blk_below (g := gb542) (o := .cells #[.bool t533, .slice Ao39 t534.length co39] 25 (0, 0)) (by (with_reducible repeat (first | refine blk_drewN ?_ _ | refine blk_drew ?_ | refine blk_alloc ?_ _)); exact BK542.out) hb); have n5_ := Aside0.mk (blk_below (g := gb543) (o := .cells #[.bool t537, .slice Ao43 t538.length co43] 25 (0, 0)) (by (with_reducible repeat (first | refine blk_drewN ?_ _ | refine blk_drew ?_ | refine blk_alloc ?_ _)); exact BK543.out) hb); have n6_ := Aside0.mk (below_step (by repeat (first | (with_reducible first | exact HB.out | apply below_alloc | apply pw_below_drewN | apply below_drew1 | refine below_set ?_ GE528.out | refine below_set ?_ GE529.out | refine below_set ?_ GE542.out | refine below_set ?_ GE543.out) | exact HB.out)) hb); clear HO536; clear HO540; clear BK528; clear BK529; clear BK542; clear BK543; clear HB; have HO536 := n0_; have HO540 := n1_; have BK528 := n2_; have BK529 := n3_; have BK542 := n4_; have BK543 := n5_; have HB := n6_; clear n0_ n1_ n2_ n3_ n4_ n5_ n6_; (try clear hb)))
                go_ret
                exact ⟨by first | rfl | (simp [errW_none, errW_some] <;> rfl) | (simp [*, errW_none, errW_some] <;> rfl), by repeat (first | (with_reducible first | exact HB.out | apply below_alloc | apply pw_below_drewN | apply below_drew1 | refine below_set ?_ GE528.out | refine below_set ?_ GE529.out | refine below_set ?_ GE542.out | refine below_set ?_ GE543.out) | exact HB.out)⟩
              · rw [if_neg c27] at H
                have c27b0 : (t541 == 5) = false := beq_eq_false_iff_ne.mpr c27
                have c27b1 : (t541 != 5) = true := bne_iff_ne.mpr c27
                obtain rfl := Option.some.inj H
                exact absurd HRT.out (by decide)
            · replace c26 := Bool.eq_false_iff.mpr c26
              subst c26
              have H1 : (some false) = some r := by rw [if_neg (show ¬ (false = true) by decide)] at H; exact H
              clear H
              have H := H1
              clear H1
              obtain rfl := Option.some.inj H
              exact absurd HRT.out (by decide)
          · replace c24 := Bool.eq_false_iff.mpr c24
            subst c24
            have H1 : (some false) = some r := by rw [if_neg (show ¬ (false = true) by decide)] at H; exact H
            clear H
            have H := H1
            clear H1
            obtain rfl := Option.some.inj H
            exact absurd HRT.out (by decide)
        · rw [if_neg c22] at H
          have c22b0 : (t544.toList == ([48] : List UInt8)) = false := beq_eq_false_iff_ne.mpr c22
          have c22b1 : (t544.toList != ([48] : List UInt8)) = true := bne_iff_ne.mpr c22
          replace H := Option.bind_eq_some_iff.mp H
          obtain ⟨t548, A1120, H⟩ := H
          replace H : ((offcutlaw02_of.f kj2 a1_0 l1_1).bind fun t549 => ((offcutref02_Floor.f kj2 t548 t549).bind fun bt550 => ((offcutlaw02_is.f kj2 t533 t534 bt550.1).bind fun t552 => (if t552 = true then ((offcutlaw02_is.f kj2 t537 t538 bt550.2).bind fun t553 => (if t553 = true then (if t541 = 0 then ((offcutlaw02_awake.f kj2).bind fun t554 => (some t554)) else (some false)) else (some false))) else (some false))))) = some r := H
          have A112 := Aside0.mk A1120
          clear A1120
          replace H := Option.bind_eq_some_iff.mp H
          obtain ⟨t549, A1130, H⟩ := H
          replace H : ((offcutref02_Floor.f kj2 t548 t549).bind fun bt550 => ((offcutlaw02_is.f kj2 t533 t534 bt550.1).bind fun t552 => (if t552 = true then ((offcutlaw02_is.f kj2 t537 t538 bt550.2).bind fun t553 => (if t553 = true then (if t541 = 0 then ((offcutlaw02_awake.f kj2).bind fun t554 => (some t554)) else (some false)) else (some false))) else (some false)))) = some r := H
          have A113 := Aside0.mk A1130
          clear A1130
          replace H := Option.bind_eq_some_iff.mp H
          obtain ⟨⟨t550, t551⟩, A1140, H⟩ := H
          replace H : ((offcutlaw02_is.f kj2 t533 t534 t550).bind fun t552 => (if t552 = true then ((offcutlaw02_is.f kj2 t537 t538 t551).bind fun t553 => (if t553 = true then (if t541 = 0 then ((offcutlaw02_awake.f kj2).bind fun t554 => (some t554)) else (some false)) else (some false))) else (some false))) = some r := H
          have A114 := Aside0.mk A1140
          clear A1140
          replace H := Option.bind_eq_some_iff.mp H
          obtain ⟨t552, A1150, H⟩ := H
          replace H : (if t552 = true then ((offcutlaw02_is.f kj2 t537 t538 t551).bind fun t553 => (if t553 = true then (if t541 = 0 then ((offcutlaw02_awake.f kj2).bind fun t554 => (some t554)) else (some false)) else (some false))) else (some false)) = some r := H
          have A115 := Aside0.mk A1150
          clear A1150
          by_cases c116 : t552 = true
          · subst c116
            have H1 : ((offcutlaw02_is.f kj2 t537 t538 t551).bind fun t553 => (if t553 = true then (if t541 = 0 then ((offcutlaw02_awake.f kj2).bind fun t554 => (some t554)) else (some false)) else (some false))) = some r := by rw [if_pos rfl] at H; exact H
            clear H
            have H := H1
            clear H1
            replace H := Option.bind_eq_some_iff.mp H
            obtain ⟨t553, A1170, H⟩ := H
            replace H : (if t553 = true then (if t541 = 0 then ((offcutlaw02_awake.f kj2).bind fun t554 => (some t554)) else (some false)) else (some false)) = some r := H
            have A117 := Aside0.mk A1170
            clear A1170
            by_cases c118 : t553 = true
            · subst c118
              have H1 : (if t541 = 0 then ((offcutlaw02_awake.f kj2).bind fun t554 => (some t554)) else (some false)) = some r := by rw [if_pos rfl] at H; exact H
              clear H
              have H := H1
              clear H1
              by_cases c119 : t541 = 0
              · rw [if_pos c119] at H
                have c119b0 : (t541 == 0) = true := beq_iff_eq.mpr c119
                have c119b1 : (t541 != 0) = false := bne_eq_false_iff_eq.mpr c119
                clear c119
                replace H := Option.bind_eq_some_iff.mp H
                obtain ⟨t554, A1200, H⟩ := H
                replace H : (some t554) = some r := H
                have A120 := Aside0.mk A1200
                clear A1200
                obtain rfl := Option.some.inj H
                have hnb121 := NB528_529.out
                have hnc121 := NB529_528.out
                have hcz122_0 : wc.cell? ⟨gb528, 0, none⟩ = some (.bool a0_0) := (blk_cell BK528.out 0).trans rfl
                have hcz122_1 : wc.cell? ⟨gb528, 1, none⟩ = some (.slice A0_1 l0_1.length c0_1) := (blk_cell BK528.out 1).trans rfl
                have hfz122_0 := blk_frozen BK528.out 0
                have hfz122_1 := blk_frozen BK528.out 1
                have hcz123_0 : wc.cell? ⟨gb529, 0, none⟩ = some (.bool a1_0) := (blk_cell BK529.out 0).trans rfl
                have hcz123_1 : wc.cell? ⟨gb529, 1, none⟩ = some (.slice A1_1 l1_1.length c1_1) := (blk_cell BK529.out 1).trans rfl
                have hfz123_0 := blk_frozen BK529.out 0
                have hfz123_1 := blk_frozen BK529.out 1
                try go_wp2_with (first | ((with_reducible refine gate_callee (f := 34) rfl ?_); refine goesL_ (some 22) rfl rfl Try.func34 (by kernel_rfl) rfl #[.agg #[.bool a0_0, .slice A0_1 l0_1.length c0_1], .agg #[.bool a1_0, .slice A1_1 l1_1.length c1_1]] rfl (by (try simp only [List.map_toArray, List.map_cons, List.map_nil]); first | done | rfl) ?_; (with_reducible refine (whole_Floor.calls kj2 a0_0 _ _ l0_1 a1_0 _ _ l1_1 t533 t534 t537 t538 t541 _ ?side1 ?side2 ?side3 ?side4 A20.out).mono ?_); (case side1 => repeat (first | exact (Kd.C_below HR0_1.out HB.out) | (with_reducible refine Kd.C_alloc ?_ _) | (with_reducible refine Kd.C_drewN ?_ _) | (with_reducible refine Kd.C_drew ?_))); (case side2 => exact HC0_1.out); (case side3 => repeat (first | exact (Kd.C_below HR1_1.out HB.out) | (with_reducible refine Kd.C_alloc ?_ _) | (with_reducible refine Kd.C_drewN ?_ _) | (with_reducible refine Kd.C_drew ?_))); (case side4 => exact HC1_1.out); rintro e w124 ⟨v535, v539, rfl, ho0, ho1, hb⟩; refine ⟨_, rfl, ?_⟩; have n0_ := Aside0.mk (Kd.R_lower ho0 (below_size (by repeat (first | (with_reducible first | exact HB.out | apply below_alloc | apply pw_below_drewN | apply below_drew1 | refine below_set ?_ GE528.out | refine below_set ?_ GE529.out) | exact HB.out)))); have n1_ := Aside0.mk (Kd.R_lower ho1 (below_size (by repeat (first | (with_reducible first | exact HB.out | apply below_alloc | apply pw_below_drewN | apply below_drew1 | refine below_set ?_ GE528.out | refine below_set ?_ GE529.out) | exact HB.out)))); have n2_ := Aside0.mk (blk_below (g := gb528) (o := .cells #[.bool a0_0, .slice A0_1 l0_1.length c0_1] 25 (0, 0)) (by (with_reducible repeat (first | refine blk_drewN ?_ _ | refine blk_drew ?_ | refine blk_alloc ?_ _)); exact BK528.out) hb); have n3_ := Aside0.mk (blk_below (g := gb529) (o := .cells #[.bool a1_0, .slice A1_1 l1_1.length c1_1] 25 (0, 0)) (by (with_reducible repeat (first | refine blk_drewN ?_ _ | refine blk_drew ?_ | refine blk_alloc ?_ _)); exact BK529.out) hb); have n4_ := Aside0.mk (below_step (by repeat (first | (with_reducible first | exact HB.out | apply below_alloc | apply pw_below_drewN | apply below_drew1 | refine below_set ?_ GE528.out | refine below_set ?_ GE529.out) | exact HB.out)) hb); clear BK528; clear BK529; clear HB; have HO536 := n0_; have HO540 := n1_; have BK528 := n2_; have BK529 := n3_; have HB := n4_; clear n0_ n1_ n2_ n3_ n4_; (try clear hb); (try clear ho0); (try clear ho1)) | ((with_reducible refine gate_dst (N := 5) rfl ?_); refine box_event ?hg (N := 5) ?hd (cs := #[.bool false, .slice none 0 0]) (t := 25) ?hr ?_; (case hd => rfl); (case hg => rfl); (case hr => first | (go_simp; done) | (go_simp; rfl)); intro gb542 hg w125 hbox hb; have n0_ := Aside0.mk (Kd.R_below (by (with_reducible repeat (first | apply Kd.R_alloc | apply Kd.R_drewN | apply Kd.R_drew)); exact HO536.out) hb); have n1_ := Aside0.mk (Kd.R_below (by (with_reducible repeat (first | apply Kd.R_alloc | apply Kd.R_drewN | apply Kd.R_drew)); exact HO540.out) hb); have n2_ := Aside0.mk (blk_below (g := gb528) (o := .cells #[.bool a0_0, .slice A0_1 l0_1.length c0_1] 25 (0, 0)) (by (with_reducible repeat (first | refine blk_drewN ?_ _ | refine blk_drew ?_ | refine blk_alloc ?_ _)); exact BK528.out) hb); have n3_ := Aside0.mk (blk_below (g := gb529) (o := .cells #[.bool a1_0, .slice A1_1 l1_1.length c1_1] 25 (0, 0)) (by (with_reducible repeat (first | refine blk_drewN ?_ _ | refine blk_drew ?_ | refine blk_alloc ?_ _)); exact BK529.out) hb); have n4_ := Aside0.mk (below_step (by repeat (first | (with_reducible first | exact HB.out | apply below_alloc | apply pw_below_drewN | apply below_drew1 | refine below_set ?_ GE528.out | refine below_set ?_ GE529.out) | exact HB.out)) hb); have n5_ := Aside0.mk (hbox); have n6_ := Aside0.mk ((by rw [hg]; exact (below_size (by repeat (first | (with_reducible first | exact HB.out | apply below_alloc | apply pw_below_drewN | apply below_drew1 | refine below_set ?_ GE528.out | refine below_set ?_ GE529.out) | exact HB.out))) : w.heap.size ≤ gb542)); have n7_ := Aside0.mk ((by rw [hg]; exact (below_size (by repeat (first | (with_reducible first | exact HB.out | apply below_alloc | apply pw_below_drewN | apply below_drew1 | refine below_set ?_ GE528.out | refine below_set ?_ GE529.out) | exact HB.out))) : w.heap.size ≤ gb542)); have n8_ := Aside0.mk ((by rw [hg]; exact Nat.ne_of_lt (blk_lt (g := gb528) (o := .cells #[.bool a0_0, .slice A0_1 l0_1.length c0_1] 25 (0, 0)) (by (with_reducible repeat (first | refine blk_drewN ?_ _ | refine blk_drew ?_ | refine blk_alloc ?_ _)); exact BK528.out)) : gb528 ≠ gb542)); have n9_ := Aside0.mk ((by rw [hg]; exact Nat.ne_of_gt (blk_lt (g := gb528) (o := .cells #[.bool a0_0, .slice A0_1 l0_1.length c0_1] 25 (0, 0)) (by (with_reducible repeat (first | refine blk_drewN ?_ _ | refine blk_drew ?_ | refine blk_alloc ?_ _)); exact BK528.out)) : gb542 ≠ gb528)); have n10_ := Aside0.mk ((by rw [hg]; exact Nat.ne_of_lt (blk_lt (g := gb529) (o := .cells #[.bool a1_0, .slice A1_1 l1_1.length c1_1] 25 (0, 0)) (by (with_reducible repeat (first | refine blk_drewN ?_ _ | refine blk_drew ?_ | refine blk_alloc ?_ _)); exact BK529.out)) : gb529 ≠ gb542)); have n11_ := Aside0.mk ((by rw [hg]; exact Nat.ne_of_gt (blk_lt (g := gb529) (o := .cells #[.bool a1_0, .slice A1_1 l1_1.length c1_1] 25 (0, 0)) (by (with_reducible repeat (first | refine blk_drewN ?_ _ | refine blk_drew ?_ | refine blk_alloc ?_ _)); exact BK529.out)) : gb542 ≠ gb529)); clear HO536; clear HO540; clear BK528; clear BK529; clear HB; have HO536 := n0_; have HO540 := n1_; have BK528 := n2_; have BK529 := n3_; have HB := n4_; have BK542 := n5_; have GW542 := n6_; have GE542 := n7_; have NB528_542 := n8_; have NB542_528 := n9_; have NB529_542 := n10_; have NB542_529 := n11_; clear n0_ n1_ n2_ n3_ n4_ n5_ n6_ n7_ n8_ n9_ n10_ n11_; clear hb hbox hg) | ((with_reducible refine gate_dst (N := 6) rfl ?_); refine box_event ?hg (N := 6) ?hd (cs := #[.bool false, .slice none 0 0]) (t := 25) ?hr ?_; (case hd => rfl); (case hg => rfl); (case hr => first | (go_simp; done) | (go_simp; rfl)); intro gb543 hg w126 hbox hb; have n0_ := Aside0.mk (Kd.R_below (by (with_reducible repeat (first | apply Kd.R_alloc | apply Kd.R_drewN | apply Kd.R_drew)); exact HO536.out) hb); have n1_ := Aside0.mk (Kd.R_below (by (with_reducible repeat (first | apply Kd.R_alloc | apply Kd.R_drewN | apply Kd.R_drew)); exact HO540.out) hb); have n2_ := Aside0.mk (blk_below (g := gb528) (o := .cells #[.bool a0_0, .slice A0_1 l0_1.length c0_1] 25 (0, 0)) (by (with_reducible repeat (first | refine blk_drewN ?_ _ | refine blk_drew ?_ | refine blk_alloc ?_ _)); exact BK528.out) hb); have n3_ := Aside0.mk (blk_below (g := gb529) (o := .cells #[.bool a1_0, .slice A1_1 l1_1.length c1_1] 25 (0, 0)) (by (with_reducible repeat (first | refine blk_drewN ?_ _ | refine blk_drew ?_ | refine blk_alloc ?_ _)); exact BK529.out) hb); have n4_ := Aside0.mk (blk_below (g := gb542) (o := .cells #[.bool false, .slice none 0 0] 25 (0, 0)) (by (with_reducible repeat (first | refine blk_drewN ?_ _ | refine blk_drew ?_ | refine blk_alloc ?_ _)); exact BK542.out) hb); have n5_ := Aside0.mk (below_step (by repeat (first | (with_reducible first | exact HB.out | apply below_alloc | apply pw_below_drewN | apply below_drew1 | refine below_set ?_ GE528.out | refine below_set ?_ GE529.out | refine below_set ?_ GE542.out) | exact HB.out)) hb); have n6_ := Aside0.mk (hbox); have n7_ := Aside0.mk ((by rw [hg]; exact (below_size (by repeat (first | (with_reducible first | exact HB.out | apply below_alloc | apply pw_below_drewN | apply below_drew1 | refine below_set ?_ GE528.out | refine below_set ?_ GE529.out | refine below_set ?_ GE542.out) | exact HB.out))) : w.heap.size ≤ gb543)); have n8_ := Aside0.mk ((by rw [hg]; exact (below_size (by repeat (first | (with_reducible first | exact HB.out | apply below_alloc | apply pw_below_drewN | apply below_drew1 | refine below_set ?_ GE528.out | refine below_set ?_ GE529.out | refine below_set ?_ GE542.out) | exact HB.out))) : w.heap.size ≤ gb543)); have n9_ := Aside0.mk ((by rw [hg]; exact Nat.ne_of_lt (blk_lt (g := gb528) (o := .cells #[.bool a0_0, .slice A0_1 l0_1.length c0_1] 25 (0, 0)) (by (with_reducible repeat (first | refine blk_drewN ?_ _ | refine blk_drew ?_ | refine blk_alloc ?_ _)); exact BK528.out)) : gb528 ≠ gb543)); have n10_ := Aside0.mk ((by rw [hg]; exact Nat.ne_of_gt (blk_lt (g := gb528) (o := .cells #[.bool a0_0, .slice A0_1 l0_1.length c0_1] 25 (0, 0)) (by (with_reducible repeat (first | refine blk_drewN ?_ _ | refine blk_drew ?_ | refine blk_alloc ?_ _)); exact BK528.out)) : gb543 ≠ gb528)); have n11_ := Aside0.mk ((by rw [hg]; exact Nat.ne_of_lt (blk_lt (g := gb529) (o := .cells #[.bool a1_0, .slice A1_1 l1_1.length c1_1] 25 (0, 0)) (by (with_reducible repeat (first | refine blk_drewN ?_ _ | refine blk_drew ?_ | refine blk_alloc ?_ _)); exact BK529.out)) : gb529 ≠ gb543)); have n12_ := Aside0.mk ((by rw [hg]; exact Nat.ne_of_gt (blk_lt (g := gb529) (o := .cells #[.bool a1_0, .slice A1_1 l1_1.length c1_1] 25 (0, 0)) (by (with_reducible repeat (first | refine blk_drewN ?_ _ | refine blk_drew ?_ | refine blk_alloc ?_ _)); exact BK529.out)) : gb543 ≠ gb529)); have n13_ := Aside0.mk ((by rw [hg]; exact Nat.ne_of_lt (blk_lt (g := gb542) (o := .cells #[.bool false, .slice none 0 0] 25 (0, 0)) (by (with_reducible repeat (first | refine blk_drewN ?_ _ | refine blk_drew ?_ | refine blk_alloc ?_ _)); exact BK542.out)) : gb542 ≠ gb543)); have n14_ := Aside0.mk ((by rw [hg]; exact Nat.ne_of_gt (blk_lt (g := gb542) (o := .cells #[.bool false, .slice none 0 0] 25 (0, 0)) (by (with_reducible repeat (first | refine blk_drewN ?_ _ | refine blk_drew ?_ | refine blk_alloc ?_ _)); exact BK542.out)) : gb543 ≠ gb542)); clear HO536; clear HO540; clear BK528; clear BK529; clear BK542; clear HB; have HO536 := n0_; have HO540 := n1_; have BK528 := n2_; have BK529 := n3_; have BK542 := n4_; have HB := n5_; have BK543 := n6_; have GW543 := n7_; have GE543 := n8_; have NB528_543 := n9_; have NB543_528 := n10_; have NB529_543 := n11_; have NB543_529 := n12_; have NB542_543 := n13_; have NB543_542 := n14_; clear n0_ n1_ n2_ n3_ n4_ n5_ n6_ n7_ n8_ n9_ n10_ n11_ n12_ n13_ n14_; clear hb hbox hg; have hnb127 := NB542_528.out; have hnc127 := NB528_542.out; have hnb128 := NB542_529.out; have hnc128 := NB529_542.out; have hnb129 := NB542_543.out; have hnc129 := NB543_542.out; have hcz130_0 : w126.cell? ⟨gb542, 0, none⟩ = some (.bool false) := (blk_cell BK542.out 0).trans rfl; have hcz130_1 : w126.cell? ⟨gb542, 1, none⟩ = some (.slice none 0 0) := (blk_cell BK542.out 1).trans rfl; have hfz130_0 := blk_frozen BK542.out 0; have hfz130_1 := blk_frozen BK542.out 1; obtain ⟨Ao131, co131, eo131⟩ := Kd.R_slice HO536.out; subst eo131; have hnb132 := NB543_528.out; have hnc132 := NB528_543.out; have hnb133 := NB543_529.out; have hnc133 := NB529_543.out; have hcz134_0 : w126.cell? ⟨gb543, 0, none⟩ = some (.bool false) := (blk_cell BK543.out 0).trans rfl; have hcz134_1 : w126.cell? ⟨gb543, 1, none⟩ = some (.slice none 0 0) := (blk_cell BK543.out 1).trans rfl; have hfz134_0 := blk_frozen BK543.out 0; have hfz134_1 := blk_frozen BK543.out 1; obtain ⟨Ao135, co135, eo135⟩ := Kd.R_slice HO540.out; subst eo135; have hcz136_0 : w126.cell? ⟨gb529, 0, none⟩ = some (.bool a1_0) := (blk_cell BK529.out 0).trans rfl; have hcz136_1 : w126.cell? ⟨gb529, 1, none⟩ = some (.slice A1_1 l1_1.length c1_1) := (blk_cell BK529.out 1).trans rfl; have hfz136_0 := blk_frozen BK529.out 0; have hfz136_1 := blk_frozen BK529.out 1) | ((with_reducible refine gate_callee (f := 19) rfl ?_); refine goesL_ (some 27) rfl rfl Try.func19 (by kernel_rfl) rfl #[.agg #[.bool a1_0, .slice A1_1 l1_1.length c1_1]] rfl (by (try simp only [List.map_toArray, List.map_cons, List.map_nil]); first | done | rfl) ?_; (with_reducible refine (offcutlaw02_of.calls kj2 a1_0 _ _ l1_1 t544 _ ?side1 ?side2 A21.out).mono ?_); (case side1 => exact Kd.C_below HR1_1.out (by repeat (first | (with_reducible first | exact HB.out | apply below_alloc | apply pw_below_drewN | apply below_drew1 | refine below_set ?_ GE528.out | refine below_set ?_ GE529.out | refine below_set ?_ GE542.out | refine below_set ?_ GE543.out) | exact HB.out))); (case side2 => exact HC1_1.out); rintro e w137 ⟨rfl, hb⟩; refine ⟨_, rfl, ?_⟩; have n0_ := Aside0.mk (Kd.R_below (by (with_reducible repeat (first | apply Kd.R_alloc | apply Kd.R_drewN | apply Kd.R_drew)); exact (Kd.R_mono (Kd.R_mono (Kd.R_far (p := ⟨gb543, 1, none⟩) (Kd.R_far (p := ⟨gb543, 0, none⟩) (Kd.R_far (p := ⟨gb542, 1, none⟩) (Kd.R_far (p := ⟨gb542, 0, none⟩) (Kd.R_types (Kd.R_types HO536.out BK542.out (by decide)) BK543.out (by decide)) (fun _ hk => hk.1.2) (.bool t533)) (fun _ hk => hk.1.2) (.slice Ao131 t534.length co131)) (fun _ hk => hk.2) (.bool t537)) (fun _ hk => hk.2) (.slice Ao135 t538.length co135)) (fun _ h_ => h_.1)) (fun _ h_ => h_.1))) hb); have n1_ := Aside0.mk (Kd.R_below (by (with_reducible repeat (first | apply Kd.R_alloc | apply Kd.R_drewN | apply Kd.R_drew)); exact (Kd.R_mono (Kd.R_mono (Kd.R_far (p := ⟨gb543, 1, none⟩) (Kd.R_far (p := ⟨gb543, 0, none⟩) (Kd.R_far (p := ⟨gb542, 1, none⟩) (Kd.R_far (p := ⟨gb542, 0, none⟩) (Kd.R_types (Kd.R_types HO540.out BK542.out (by decide)) BK543.out (by decide)) (fun _ hk => hk.1.2) (.bool t533)) (fun _ hk => hk.1.2) (.slice Ao131 t534.length co131)) (fun _ hk => hk.2) (.bool t537)) (fun _ hk => hk.2) (.slice Ao135 t538.length co135)) (fun _ h_ => h_.1)) (fun _ h_ => h_.1))) hb); have n2_ := Aside0.mk (blk_below (g := gb528) (o := .cells #[.bool a0_0, .slice A0_1 l0_1.length c0_1] 25 (0, 0)) (by (with_reducible repeat (first | refine blk_drewN ?_ _ | refine blk_drew ?_ | refine blk_alloc ?_ _)); refine blk_far ?_ NB528_543.out _; (with_reducible repeat (first | refine blk_drewN ?_ _ | refine blk_drew ?_ | refine blk_alloc ?_ _)); refine blk_far ?_ NB528_543.out _; (with_reducible repeat (first | refine blk_drewN ?_ _ | refine blk_drew ?_ | refine blk_alloc ?_ _)); refine blk_far ?_ NB528_542.out _; (with_reducible repeat (first | refine blk_drewN ?_ _ | refine blk_drew ?_ | refine blk_alloc ?_ _)); refine blk_far ?_ NB528_542.out _; (with_reducible repeat (first | refine blk_drewN ?_ _ | refine blk_drew ?_ | refine blk_alloc ?_ _)); exact BK528.out) hb); have n3_ := Aside0.mk (blk_below (g := gb529) (o := .cells #[.bool a1_0, .slice A1_1 l1_1.length c1_1] 25 (0, 0)) (by (with_reducible repeat (first | refine blk_drewN ?_ _ | refine blk_drew ?_ | refine blk_alloc ?_ _)); refine blk_far ?_ NB529_543.out _; (with_reducible repeat (first | refine blk_drewN ?_ _ | refine blk_drew ?_ | refine blk_alloc ?_ _)); refine blk_far ?_ NB529_543.out _; (with_reducible repeat (first | refine blk_drewN ?_ _ | refine blk_drew ?_ | refine blk_alloc ?_ _)); refine blk_far ?_ NB529_542.out _; (with_reducible repeat (first | refine blk_drewN ?_ _ | refine blk_drew ?_ | refine blk_alloc ?_ _)); refine blk_far ?_ NB529_542.out _; (with_reducible repeat (first | refine blk_drewN ?_ _ | refine blk_drew ?_ | refine blk_alloc ?_ _)); exact BK529.out) hb); have n4_ := Aside0.mk (blk_below (g := gb542) (o := .cells #[.bool t533, .slice Ao131 t534.length co131] 25 (0, 0)) (by (with_reducible repeat (first | refine blk_drewN ?_ _ | refine blk_drew ?_ | refine blk_alloc ?_ _)); refine blk_far ?_ NB542_543.out _; (with_reducible repeat (first | refine blk_drewN ?_ _ | refine blk_drew ?_ | refine blk_alloc ?_ _)); refine blk_far ?_ NB542_543.out _; (with_reducible repeat (first | refine blk_drewN ?_ _ | refine blk_drew ?_ | refine blk_alloc ?_ _)); refine blk_put (cs := #[.bool t533, .slice none 0 0]) ?_ 1 _ rfl; (with_reducible repeat (first | refine blk_drewN ?_ _ | refine blk_drew ?_ | refine blk_alloc ?_ _)); refine blk_put (cs := #[.bool false, .slice none 0 0]) ?_ 0 _ rfl; (with_reducible repeat (first | refine blk_drewN ?_ _ | refine blk_drew ?_ | refine blk_alloc ?_ _)); exact BK542.out) hb); have n5_ := Aside0.mk (blk_below (g := gb543) (o := .cells #[.bool t537, .slice Ao135 t538.length co135] 25 (0, 0)) (by (with_reducible repeat (first | refine blk_drewN ?_ _ | refine blk_drew ?_ | refine blk_alloc ?_ _)); refine blk_put (cs := #[.bool t537, .slice none 0 0]) ?_ 1 _ rfl; (with_reducible repeat (first | refine blk_drewN ?_ _ | refine blk_drew ?_ | refine blk_alloc ?_ _)); refine blk_put (cs := #[.bool false, .slice none 0 0]) ?_ 0 _ rfl; (with_reducible repeat (first | refine blk_drewN ?_ _ | refine blk_drew ?_ | refine blk_alloc ?_ _)); refine blk_far ?_ NB543_542.out _; (with_reducible repeat (first | refine blk_drewN ?_ _ | refine blk_drew ?_ | refine blk_alloc ?_ _)); refine blk_far ?_ NB543_542.out _; (with_reducible repeat (first | refine blk_drewN ?_ _ | refine blk_drew ?_ | refine blk_alloc ?_ _)); exact BK543.out) hb); have n6_ := Aside0.mk (below_step (by repeat (first | (with_reducible first | exact HB.out | apply below_alloc | apply pw_below_drewN | apply below_drew1 | refine below_set ?_ GE528.out | refine below_set ?_ GE529.out | refine below_set ?_ GE542.out | refine below_set ?_ GE543.out) | exact HB.out)) hb); clear HO536; clear HO540; clear BK528; clear BK529; clear BK542; clear BK543; clear HB; have HO536 := n0_; have HO540 := n1_; have BK528 := n2_; have BK529 := n3_; have BK542 := n4_; have BK543 := n5_; have HB := n6_; clear n0_ n1_ n2_ n3_ n4_ n5_ n6_; (try clear hb)))
                have n0_ := Aside0.mk (Kd.R_drew HO536.out)
                have n1_ := Aside0.mk (Kd.R_drew HO540.out)
                have n2_ := Aside0.mk (blk_drew BK528.out)
                have n3_ := Aside0.mk (blk_drew BK529.out)
                have n4_ := Aside0.mk (blk_drew BK542.out)
                have n5_ := Aside0.mk (blk_drew BK543.out)
                have n6_ := Aside0.mk (below_drew1 HB.out)
                clear HO536
                clear HO540
                clear BK528
                clear BK529
                clear BK542
                clear BK543
                clear HB
                have HO536 := n0_
                have HO540 := n1_
                have BK528 := n2_
                have BK529 := n3_
                have BK542 := n4_
                have BK543 := n5_
                have HB := n6_
                clear n0_ n1_ n2_ n3_ n4_ n5_ n6_
                refine start_ (n := 10) (S := fun w' => w'.cell? ⟨gb528, 0, none⟩ = some (.bool a0_0) ∧ w'.cell? ⟨gb528, 1, none⟩ = some (.slice A0_1 l0_1.length c0_1) ∧ w'.cell? ⟨gb529, 0, none⟩ = some (.bool a1_0) ∧ w'.cell? ⟨gb529, 1, none⟩ = some (.slice A1_1 l1_1.length c1_1)) (ds := []) #[false, false, false, false, false, false, false, false, false, false] (by kernel_rfl) rfl rfl ⟨(blk_cell BK528.out 0).trans rfl, (blk_cell BK528.out 1).trans rfl, (blk_cell BK529.out 0).trans rfl, (blk_cell BK529.out 1).trans rfl⟩ (fun hHeld => ?_); refine with_tabW offcutlaw02_WholeFloors.tab6 offcutlaw02_WholeFloors.bits6 (fun HT_ HW_ => ?_)
                generalize w137.drew = w138 at HO536 HO540 BK528 BK529 BK542 BK543 HB hHeld ⊢
                refine take_ (i := 0) (N := some 43) (v := ?_) (a' := ?_) #[true, false, false, false, false, false, false, false, false, false] rfl rfl (take_ofW HT_.out HW_.out (by kernel_rfl)) (fun _ _ _ h => h) (Or.inl ⟨by rfl, ?_⟩) hHeld ?_ ?_
                rotate_left
                · rintro w' ⟨s0, s1, s2, s3⟩
                  go_simp
                  with_reducible rfl
                rotate_left
                · simp only [Act.put, List.setIfInBounds_toArray, List.set_cons_zero, List.set_cons_succ, i64_w, i32_w]
                  rfl
                refine take_ (i := 2) (N := some 45) (v := ?_) (a' := ?_) #[true, false, true, false, false, false, false, false, false, false] rfl rfl (take_ofW HT_.out HW_.out (by kernel_rfl)) (fun _ _ _ h => h) (Or.inl ⟨by rfl, ?_⟩) hHeld ?_ ?_
                rotate_left
                · rintro w' ⟨s0, s1, s2, s3⟩
                  go_simp
                  with_reducible rfl
                rotate_left
                · simp only [Act.put, List.setIfInBounds_toArray, List.set_cons_zero, List.set_cons_succ, i64_w, i32_w]
                  rfl
                refine one_ (i := 1) (N := some 44) #[true, true, true, false, false, false, false, false, false, false] rfl rfl (one_of HT_.out (by kernel_rfl)) (by decide) (fun K hK => ?_)
                refine goes_ Try.func19 (by kernel_rfl) rfl #[.agg #[.bool a0_0, .slice A0_1 l0_1.length c0_1]] (by rfl) rfl rfl (by (try simp only [List.map_toArray, List.map_cons, List.map_nil]); first | done | rfl) ?_
                with_reducible refine (offcutlaw02_of.calls kj2 a0_0 _ _ l0_1 t548 _ ?side1 ?side2 A112.out).mono ?_
                (case side1 => exact (Kd.C_below HR0_1.out HB.out))
                (case side2 => exact HC0_1.out)
                rintro e w139 ⟨rfl, hb⟩
                refine ⟨_, rfl, ?_⟩
                have n0_ := Aside0.mk (Kd.R_below HO536.out hb)
                have n1_ := Aside0.mk (Kd.R_below HO540.out hb)
                have n2_ := Aside0.mk (blk_below (g := gb528) (o := .cells #[.bool a0_0, .slice A0_1 l0_1.length c0_1] 25 (0, 0)) BK528.out hb)
                have n3_ := Aside0.mk (blk_below (g := gb529) (o := .cells #[.bool a1_0, .slice A1_1 l1_1.length c1_1] 25 (0, 0)) BK529.out hb)
                have n4_ := Aside0.mk (blk_below (g := gb542) (o := .cells #[.bool t533, .slice Ao131 t534.length co131] 25 (0, 0)) BK542.out hb)
                have n5_ := Aside0.mk (blk_below (g := gb543) (o := .cells #[.bool t537, .slice Ao135 t538.length co135] 25 (0, 0)) BK543.out hb)
                have n6_ := Aside0.mk (below_step HB.out hb)
                clear HO536
                clear HO540
                clear BK528
                clear BK529
                clear BK542
                clear BK543
                clear HB
                have HO536 := n0_
                have HO540 := n1_
                have BK528 := n2_
                have BK529 := n3_
                have BK542 := n4_
                have BK543 := n5_
                have HB := n6_
                clear n0_ n1_ n2_ n3_ n4_ n5_ n6_
                (try clear hb)
                refine hK.out _ _ ⟨(blk_cell BK528.out 0).trans rfl, (blk_cell BK528.out 1).trans rfl, (blk_cell BK529.out 0).trans rfl, (blk_cell BK529.out 1).trans rfl⟩ (fun hHeld => ?_)
                clear hK K
                refine norm_ (a' := ?_) ?_ ?_
                rotate_left
                · show Act.put _ (some 44) _ = _
                  simp only [Act.put, List.setIfInBounds_toArray, List.set_cons_zero, List.set_cons_succ, i64_w, i32_w]
                  rfl
                refine one_ (i := 3) (N := some 46) #[true, true, true, true, false, false, false, false, false, false] rfl rfl (one_of HT_.out (by kernel_rfl)) (by decide) (fun K hK => ?_)
                refine goes_ Try.func19 (by kernel_rfl) rfl #[.agg #[.bool a1_0, .slice A1_1 l1_1.length c1_1]] (by rfl) rfl rfl (by (try simp only [List.map_toArray, List.map_cons, List.map_nil]); first | done | rfl) ?_
                with_reducible refine (offcutlaw02_of.calls kj2 a1_0 _ _ l1_1 t549 _ ?side1 ?side2 A113.out).mono ?_
                (case side1 => exact (Kd.C_below HR1_1.out HB.out))
                (case side2 => exact HC1_1.out)
                rintro e w140 ⟨rfl, hb⟩
                refine ⟨_, rfl, ?_⟩
                have n0_ := Aside0.mk (Kd.R_below HO536.out hb)
                have n1_ := Aside0.mk (Kd.R_below HO540.out hb)
                have n2_ := Aside0.mk (blk_below (g := gb528) (o := .cells #[.bool a0_0, .slice A0_1 l0_1.length c0_1] 25 (0, 0)) BK528.out hb)
                have n3_ := Aside0.mk (blk_below (g := gb529) (o := .cells #[.bool a1_0, .slice A1_1 l1_1.length c1_1] 25 (0, 0)) BK529.out hb)
                have n4_ := Aside0.mk (blk_below (g := gb542) (o := .cells #[.bool t533, .slice Ao131 t534.length co131] 25 (0, 0)) BK542.out hb)
                have n5_ := Aside0.mk (blk_below (g := gb543) (o := .cells #[.bool t537, .slice Ao135 t538.length co135] 25 (0, 0)) BK543.out hb)
                have n6_ := Aside0.mk (below_step HB.out hb)
                clear HO536
                clear HO540
                clear BK528
                clear BK529
                clear BK542
                clear BK543
                clear HB
                have HO536 := n0_
                have HO540 := n1_
                have BK528 := n2_
                have BK529 := n3_
                have BK542 := n4_
                have BK543 := n5_
                have HB := n6_
                clear n0_ n1_ n2_ n3_ n4_ n5_ n6_
                (try clear hb)
                refine hK.out _ _ ⟨(blk_cell BK528.out 0).trans rfl, (blk_cell BK528.out 1).trans rfl, (blk_cell BK529.out 0).trans rfl, (blk_cell BK529.out 1).trans rfl⟩ (fun hHeld => ?_)
                clear hK K
                refine norm_ (a' := ?_) ?_ ?_
                rotate_left
                · show Act.put _ (some 46) _ = _
                  simp only [Act.put, List.setIfInBounds_toArray, List.set_cons_zero, List.set_cons_succ, i64_w, i32_w]
                  rfl
                refine one_ (i := 4) (N := some 47) #[true, true, true, true, true, false, false, false, false, false] rfl rfl (one_of HT_.out (by kernel_rfl)) (by decide) (fun K hK => ?_)
                refine goes_ Try.func35 (by kernel_rfl) rfl #[.string t548, .string t549] (by rfl) rfl rfl (by (try simp only [List.map_toArray, List.map_cons, List.map_nil]); first | done | rfl) ?_
                with_reducible refine (offcutref02_Floor.calls kj2 t548 t549 t550 t551 _ A114.out).mono ?_
                rintro e w141 ⟨rfl, hb⟩
                refine ⟨_, rfl, ?_⟩
                have n0_ := Aside0.mk (Kd.R_below HO536.out hb)
                have n1_ := Aside0.mk (Kd.R_below HO540.out hb)
                have n2_ := Aside0.mk (blk_below (g := gb528) (o := .cells #[.bool a0_0, .slice A0_1 l0_1.length c0_1] 25 (0, 0)) BK528.out hb)
                have n3_ := Aside0.mk (blk_below (g := gb529) (o := .cells #[.bool a1_0, .slice A1_1 l1_1.length c1_1] 25 (0, 0)) BK529.out hb)
                have n4_ := Aside0.mk (blk_below (g := gb542) (o := .cells #[.bool t533, .slice Ao131 t534.length co131] 25 (0, 0)) BK542.out hb)
                have n5_ := Aside0.mk (blk_below (g := gb543) (o := .cells #[.bool t537, .slice Ao135 t538.length co135] 25 (0, 0)) BK543.out hb)
                have n6_ := Aside0.mk (below_step HB.out hb)
                clear HO536
                clear HO540
                clear BK528
                clear BK529
                clear BK542
                clear BK543
                clear HB
                have HO536 := n0_
                have HO540 := n1_
                have BK528 := n2_
                have BK529 := n3_
                have BK542 := n4_
                have BK543 := n5_
                have HB := n6_
                clear n0_ n1_ n2_ n3_ n4_ n5_ n6_
                (try clear hb)
                refine hK.out _ _ ⟨(blk_cell BK528.out 0).trans rfl, (blk_cell BK528.out 1).trans rfl, (blk_cell BK529.out 0).trans rfl, (blk_cell BK529.out 1).trans rfl⟩ (fun hHeld => ?_)
                clear hK K
                refine norm_ (a' := ?_) ?_ ?_
                rotate_left
                · show Act.put _ (some 47) _ = _
                  simp only [Act.put, List.setIfInBounds_toArray, List.set_cons_zero, List.set_cons_succ, i64_w, i32_w]
                  rfl
                refine pure_ (i := 5) (N := some 42) (v := ?_) (a' := ?_) #[true, true, true, true, true, true, false, false, false, false] rfl rfl (any_of HT_.out (by kernel_rfl)) (fun _ _ _ h => h) (Or.inl ⟨by rfl, ?_⟩) ?_ ?_
                rotate_left
                · intro w'
                  go_simp
                  with_reducible rfl
                rotate_left
                · simp only [Act.put, List.setIfInBounds_toArray, List.set_cons_zero, List.set_cons_succ, i64_w, i32_w]
                  rfl
                refine pure_ (i := 6) (N := some 48) (v := ?_) (a' := ?_) #[true, true, true, true, true, true, true, false, false, false] rfl rfl (any_of HT_.out (by kernel_rfl)) (fun _ _ _ h => h) (Or.inl ⟨by rfl, ?_⟩) ?_ ?_
                rotate_left
                · intro w'
                  go_simp
                  with_reducible rfl
                rotate_left
                · simp only [Act.put, List.setIfInBounds_toArray, List.set_cons_zero, List.set_cons_succ, i64_w, i32_w]
                  rfl
                refine pure_ (i := 7) (N := some 49) (v := ?_) (a' := ?_) #[true, true, true, true, true, true, true, true, false, false] rfl rfl (any_of HT_.out (by kernel_rfl)) (fun _ _ _ h => h) (Or.inl ⟨by rfl, ?_⟩) ?_ ?_
                rotate_left
                · intro w'
                  go_simp
                  with_reducible rfl
                rotate_left
                · simp only [Act.put, List.setIfInBounds_toArray, List.set_cons_zero, List.set_cons_succ, i64_w, i32_w]
                  rfl
                refine pure_ (i := 8) (N := some 8) (v := ?_) (a' := ?_) #[true, true, true, true, true, true, true, true, true, false] rfl rfl (any_of HT_.out (by kernel_rfl)) (fun _ _ _ h => h) (Or.inl ⟨by rfl, ?_⟩) ?_ ?_
                rotate_left
                · intro w'
                  go_simp
                  with_reducible rfl
                rotate_left
                · simp only [Act.put, List.setIfInBounds_toArray, List.set_cons_zero, List.set_cons_succ, i64_w, i32_w]
                  rfl
                refine pure_ (i := 9) (N := some 9) (v := ?_) (a' := ?_) #[true, true, true, true, true, true, true, true, true, true] rfl rfl (any_of HT_.out (by kernel_rfl)) (fun _ _ _ h => h) (Or.inl ⟨by rfl, ?_⟩) ?_ ?_
                rotate_left
                · intro w'
                  go_simp
                  with_reducible rfl
                rotate_left
                · simp only [Act.put, List.setIfInBounds_toArray, List.set_cons_zero, List.set_cons_succ, i64_w, i32_w]
                  rfl
                refine done_ (done_of HT_.out (by kernel_rfl)) ?_
                have hcz142_0 : w141.cell? ⟨gb542, 0, none⟩ = some (.bool t533) := (blk_cell BK542.out 0).trans rfl
                have hcz142_1 : w141.cell? ⟨gb542, 1, none⟩ = some (.slice Ao131 t534.length co131) := (blk_cell BK542.out 1).trans rfl
                have hfz142_0 := blk_frozen BK542.out 0
                have hfz142_1 := blk_frozen BK542.out 1
                try go_wp2_with (first | ((with_reducible refine gate_callee (f := 20) rfl ?_); refine goesL_ (some 52) rfl rfl Try.func20 (by kernel_rfl) rfl #[.agg #[.bool t533, .slice Ao131 t534.length co131], .string t550] rfl (by (try simp only [List.map_toArray, List.map_cons, List.map_nil]); first | done | rfl) ?_; (with_reducible refine (offcutlaw02_is.calls kj2 t533 _ _ t534 t550 true _ ?side1 ?side2 A115.out).mono ?_); (case side1 => repeat (first | exact (Kd.R_reads' HO536.out).2.2 | (with_reducible refine Kd.C_alloc ?_ _) | (with_reducible refine Kd.C_drewN ?_ _) | (with_reducible refine Kd.C_drew ?_))); (case side2 => exact (Kd.R_reads' HO536.out).2.1); rintro e w143 ⟨rfl, hb⟩; refine ⟨_, rfl, ?_⟩; have n0_ := Aside0.mk (Kd.R_below (by (with_reducible repeat (first | apply Kd.R_alloc | apply Kd.R_drewN | apply Kd.R_drew)); exact HO536.out) hb); have n1_ := Aside0.mk (Kd.R_below (by (with_reducible repeat (first | apply Kd.R_alloc | apply Kd.R_drewN | apply Kd.R_drew)); exact HO540.out) hb); have n2_ := Aside0.mk (blk_below (g := gb528) (o := .cells #[.bool a0_0, .slice A0_1 l0_1.length c0_1] 25 (0, 0)) (by (with_reducible repeat (first | refine blk_drewN ?_ _ | refine blk_drew ?_ | refine blk_alloc ?_ _)); exact BK528.out) hb); have n3_ := Aside0.mk (blk_below (g := gb529) (o := .cells #[.bool a1_0, .slice A1_1 l1_1.length c1_1] 25 (0, 0)) (by (with_reducible repeat (first | refine blk_drewN ?_ _ | refine blk_drew ?_ | refine blk_alloc ?_ _)); exact BK529.out) hb); have n4_ := Aside0.mk (blk_below (g := gb542) (o := .cells #[.bool t533, .slice Ao131 t534.length co131] 25 (0, 0)) (by (with_reducible repeat (first | refine blk_drewN ?_ _ | refine blk_drew ?_ | refine blk_alloc ?_ _)); exact BK542.out) hb); have n5_ := Aside0.mk (blk_below (g := gb543) (o := .cells #[.bool t537, .slice Ao135 t538.length co135] 25 (0, 0)) (by (with_reducible repeat (first | refine blk_drewN ?_ _ | refine blk_drew ?_ | refine blk_alloc ?_ _)); exact BK543.out) hb); have n6_ := Aside0.mk (below_step (by repeat (first | (with_reducible first | exact HB.out | apply below_alloc | apply pw_below_drewN | apply below_drew1 | refine below_set ?_ GE528.out | refine below_set ?_ GE529.out | refine below_set ?_ GE542.out | refine below_set ?_ GE543.out) | exact HB.out)) hb); clear HO536; clear HO540; clear BK528; clear BK529; clear BK542; clear BK543; clear HB; have HO536 := n0_; have HO540 := n1_; have BK528 := n2_; have BK529 := n3_; have BK542 := n4_; have BK543 := n5_; have HB := n6_; clear n0_ n1_ n2_ n3_ n4_ n5_ n6_; (try clear hb); have hcz144_0 : w143.cell? ⟨gb543, 0, none⟩ = some (.bool t537) := (blk_cell BK543.out 0).trans rfl; have hcz144_1 : w143.cell? ⟨gb543, 1, none⟩ = some (.slice Ao135 t538.length co135) := (blk_cell BK543.out 1).trans rfl; have hfz144_0 := blk_frozen BK543.out 0; have hfz144_1 := blk_frozen BK543.out 1) | (go_at_call 20; (with_reducible refine (offcutlaw02_is.calls kj2 t537 _ _ t538 t551 true _ ?side1 ?side2 A117.out).mono ?_); (case side1 => repeat (first | exact (Kd.R_reads' HO540.out).2.2 | (with_reducible refine Kd.C_alloc ?_ _) | (with_reducible refine Kd.C_drewN ?_ _) | (with_reducible refine Kd.C_drew ?_))); (case side2 => exact (Kd.R_reads' HO540.out).2.1); rintro e w145 ⟨rfl, hb⟩; have n0_ := Aside0.mk (Kd.R_below (by (with_reducible repeat (first | apply Kd.R_alloc | apply Kd.R_drewN | apply Kd.R_drew)); exact HO536.out) hb); have n1_ := Aside0.mk (Kd.R_below (by (with_reducible repeat (first | apply Kd.R_alloc | apply Kd.R_drewN | apply Kd.R_drew)); exact HO540.out) hb); have n2_ := Aside0.mk (blk_below (g := gb528) (o := .cells #[.bool a0_0, .slice A0_1 l0_1.length c0_1] 25 (0, 0)) (by (with_reducible repeat (first | refine blk_drewN ?_ _ | refine blk_drew ?_ | refine blk_alloc ?_ _)); exact BK528.out) hb); have n3_ := Aside0.mk (blk_below (g := gb529) (o := .cells #[.bool a1_0, .slice A1_1 l1_1.length c1_1] 25 (0, 0)) (by (with_reducible repeat (first | refine blk_drewN ?_ _ | refine blk_drew ?_ | refine blk_alloc ?_ _)); exact BK529.out) hb); have n4_ := Aside0.mk (blk_below (g := gb542) (o := .cells #[.bool t533, .slice Ao131 t534.length co131] 25 (0, 0)) (by (with_reducible repeat (first | refine blk_drewN ?_ _ | refine blk_drew ?_ | refine blk_alloc ?_ _)); exact BK542.out) hb); have n5_ := Aside0.mk (blk_below (g := gb543) (o := .cells #[.bool t537, .slice Ao135 t538.length co135] 25 (0, 0)) (by (with_reducible repeat (first | refine blk_drewN ?_ _ | refine blk_drew ?_ | refine blk_alloc ?_ _)); exact BK543.out) hb); have n6_ := Aside0.mk (below_step (by repeat (first | (with_reducible first | exact HB.out | apply below_alloc | apply pw_below_drewN | apply below_drew1 | refine below_set ?_ GE528.out | refine below_set ?_ GE529.out | refine below_set ?_ GE542.out | refine below_set ?_ GE543.out) | exact HB.out)) hb); clear HO536; clear HO540; clear BK528; clear BK529; clear BK542; clear BK543; clear HB; have HO536 := n0_; have HO540 := n1_; have BK528 := n2_; have BK529 := n3_; have BK542 := n4_; have BK543 := n5_; have HB := n6_; clear n0_ n1_ n2_ n3_ n4_ n5_ n6_; (try clear hb)) | (go_at_call 18; (with_reducible refine (offcutlaw02_awake.calls kj2  t554 _ HRT.out A120.out).mono ?_); rintro e w146 ⟨rfl, hb⟩; have n0_ := Aside0.mk (Kd.R_below (by (with_reducible repeat (first | apply Kd.R_alloc | apply Kd.R_drewN | apply Kd.R_drew)); exact HO536.out) hb); have n1_ := Aside0.mk (Kd.R_below (by (with_reducible repeat (first | apply Kd.R_alloc | apply Kd.R_drewN | apply Kd.R_drew)); exact HO540.out) hb); have n2_ := Aside0.mk (blk_below (g := gb528) (o := .cells #[.bool a0_0, .slice A0_1 l0_1.length c0_1] 25 (0, 0)) (by (with_reducible repeat (first | refine blk_drewN ?_ _ | refine blk_drew ?_ | refine blk_alloc ?_ _)); exact BK528.out) hb); have n3_ := Aside0.mk (blk_below (g := gb529) (o := .cells #[.bool a1_0, .slice A1_1 l1_1.length c1_1] 25 (0, 0)) (by (with_reducible repeat (first | refine blk_drewN ?_ _ | refine blk_drew ?_ | refine blk_alloc ?_ _)); exact BK529.out) hb); have n4_ := Aside0.mk (blk_below (g := gb542) (o := .cells #[.bool t533, .slice Ao131 t534.length co131] 25 (0, 0)) (by (with_reducible repeat (first | refine blk_drewN ?_ _ | refine blk_drew ?_ | refine blk_alloc ?_ _)); exact BK542.out) hb); have n5_ := Aside0.mk (blk_below (g := gb543) (o := .cells #[.bool t537, .slice Ao135 t538.length co135] 25 (0, 0)) (by (with_reducible repeat (first | refine blk_drewN ?_ _ | refine blk_drew ?_ | refine blk_alloc ?_ _)); exact BK543.out) hb); have n6_ := Aside0.mk (below_step (by repeat (first | (with_reducible first | exact HB.out | apply below_alloc | apply pw_below_drewN | apply below_drew1 | refine below_set ?_ GE528.out | refine below_set ?_ GE529.out | refine below_set ?_ GE542.out | refine below_set ?_ GE543.out) | exact HB.out)) hb); clear HO536; clear HO540; clear BK528; clear BK529; clear BK542; clear BK543; clear HB; have HO536 := n0_; have HO540 := n1_; have BK528 := n2_; have BK529 := n3_; have BK542 := n4_; have BK543 := n5_; have HB := n6_; clear n0_ n1_ n2_ n3_ n4_ n5_ n6_; (try clear hb)))
                go_ret
                exact ⟨by first | rfl | (simp [errW_none, errW_some] <;> rfl) | (simp [*, errW_none, errW_some] <;> rfl), by repeat (first | (with_reducible first | exact HB.out | apply below_alloc | apply pw_below_drewN | apply below_drew1 | refine below_set ?_ GE528.out | refine below_set ?_ GE529.out | refine below_set ?_ GE542.out | refine below_set ?_ GE543.out) | exact HB.out)⟩
              · rw [if_neg c119] at H
                have c119b0 : (t541 == 0) = false := beq_eq_false_iff_ne.mpr c119
                have c119b1 : (t541 != 0) = true := bne_iff_ne.mpr c119
                obtain rfl := Option.some.inj H
                exact absurd HRT.out (by decide)
            · replace c118 := Bool.eq_false_iff.mpr c118
              subst c118
              have H1 : (some false) = some r := by rw [if_neg (show ¬ (false = true) by decide)] at H; exact H
              clear H
              have H := H1
              clear H1
              obtain rfl := Option.some.inj H
              exact absurd HRT.out (by decide)
          · replace c116 := Bool.eq_false_iff.mpr c116
            subst c116
            have H1 : (some false) = some r := by rw [if_neg (show ¬ (false = true) by decide)] at H; exact H
            clear H
            have H := H1
            clear H1
            obtain rfl := Option.some.inj H
            exact absurd HRT.out (by decide)

end Go.Proofs.Ytjpkljkkcbaohaa.PR
