import Derived.Test.YtjpkljkkcbaohaaPRg0
import Derived.Test.YtjpkljkkcbaohaaPRg16
import Derived.Test.YtjpkljkkcbaohaaPRg23
import Derived.Test.YtjpkljkkcbaohaaPRg28
import Derived.Test.YtjpkljkkcbaohaaPRg32
import Derived.Test.YtjpkljkkcbaohaaPRg41
namespace Go.Proofs.Ytjpkljkkcbaohaa.PR
open Go.RowKit Go.Proofs.YtjpkljkkcbaohaaW.PrintWords Go.Proofs.YtjpkljkkcbaohaaW.PrintLast Go.Proofs.YtjpkljkkcbaohaaW.PrintMore
attribute [local go_sem] max2_int min2_int max_two min_two max_three min_three max_four min_four   -- for this text's walks alone
set_option linter.unusedVariables false
set_option linter.unusedSimpArgs false

/-! ### offcutlaw02_WholeSums: function 3 -/
def offcutlaw02_WholeSums.j0 : Nat → Bool → Bool → List Int → Bool → List Int → Option (Bool)
  | 0, _, _, _, _, _ => none
  | k + 1, x14, x452000, x452001, x453000, x453001 => if x14 = true then ((offcutlaw02_awake.f k).bind fun t455 => (some t455)) else ((offcutlaw02_of.f k x452000 x452001).bind fun t456 => ((offcutlaw02_of.f k x453000 x453001).bind fun t457 => ((whole_Add.f k x452000 x452001 x453000 x453001).bind fun bt458 => ((offcutref02_Add.f k t456 t457).bind fun t462 => ((offcutlaw02_is.f k bt458.1 bt458.2 t462).bind fun t463 => (if t463 = true then ((whole_Sub.f k x452000 x452001 x453000 x453001).bind fun bt464 => ((offcutref02_Neg.f t457).bind fun t468 => ((offcutref02_Add.f k t456 t468).bind fun t469 => ((offcutlaw02_is.f k bt464.1 bt464.2 t469).bind fun t470 => (if t470 = true then ((whole_Mul.f k x452000 x452001 x453000 x453001).bind fun bt471 => ((offcutref02_Mul.f k t456 t457).bind fun t475 => ((offcutlaw02_is.f k bt471.1 bt471.2 t475).bind fun t476 => (if t476 = true then ((whole_Neg.f k x452000 x452001).bind fun bt477 => ((offcutref02_Neg.f t456).bind fun t481 => ((offcutlaw02_is.f k bt477.1 bt477.2 t481).bind fun t482 => (if t482 = true then ((offcutlaw02_of.f k x452000 x452001).bind fun t483 => (if t483.toList = t456.toList then ((offcutlaw02_awake.f k).bind fun t484 => (some t484)) else (some false))) else (some false))))) else (some false))))) else (some false)))))) else (some false)))))))
def offcutlaw02_WholeSums.f (k : Nat) (a0_0 : Bool) (l0_1 : List Int) (a1_0 : Bool) (l1_1 : List Int) : Option (Bool) := (offcutlaw02_few.f a0_0 l0_1).bind fun t453 => (if t453 = true then ((offcutlaw02_few.f a1_0 l1_1).bind fun t454 => (offcutlaw02_WholeSums.j0 k (!t454) a0_0 l0_1 a1_0 l1_1)) else (offcutlaw02_WholeSums.j0 k true a0_0 l0_1 a1_0 l1_1))
theorem offcutlaw02_WholeSums.mono_l : ∀ k, (∀ y0 y1 y2 y3 y4, LeO (offcutlaw02_WholeSums.j0 k y0 y1 y2 y3 y4) (offcutlaw02_WholeSums.j0 (k + 1) y0 y1 y2 y3 y4))
  | 0 => fun _ _ _ _ _ r h => by simp [offcutlaw02_WholeSums.j0] at h
  | k + 1 => by
    have ih0 := offcutlaw02_WholeSums.mono_l k
    · intro y0 y1 y2 y3 y4
      unfold offcutlaw02_WholeSums.j0
      repeat' first
      | (with_reducible exact ih0 _ _ _ _ _)
      | (with_reducible exact offcutlaw02_awake.mono _)
      | (with_reducible exact offcutlaw02_is.mono _ _ _ _)
      | (with_reducible exact offcutlaw02_of.mono _ _ _)
      | (with_reducible exact offcutref02_Add.mono _ _ _)
      | (with_reducible exact offcutref02_Mul.mono _ _ _)
      | (with_reducible exact whole_Add.mono _ _ _ _ _)
      | (with_reducible exact whole_Mul.mono _ _ _ _ _)
      | (with_reducible exact whole_Neg.mono _ _ _)
      | (with_reducible exact whole_Sub.mono _ _ _ _ _)
      | (with_reducible exact LeO.refl _)
      | (with_reducible exact LeO.none _)
      | (with_reducible refine LeO.ite ?_ ?_)
      | (with_reducible refine LeO.bind ?_ (fun _ => ?_))
      | exact ih0 _ _ _ _ _
      | exact offcutlaw02_awake.mono _
      | exact offcutlaw02_is.mono _ _ _ _
      | exact offcutlaw02_of.mono _ _ _
      | exact offcutref02_Add.mono _ _ _
      | exact offcutref02_Mul.mono _ _ _
      | exact whole_Add.mono _ _ _ _ _
      | exact whole_Mul.mono _ _ _ _ _
      | exact whole_Neg.mono _ _ _
      | exact whole_Sub.mono _ _ _ _ _
      | exact LeO.none _
      | refine LeO.ite ?_ ?_
      | refine LeO.bind ?_ (fun _ => ?_)
theorem offcutlaw02_WholeSums.mono : ∀ a0 a1 a2 a3 k, LeO (offcutlaw02_WholeSums.f k a0 a1 a2 a3) (offcutlaw02_WholeSums.f (k + 1) a0 a1 a2 a3) := by
  intro a0 a1 a2 a3 k
  have ih0 := offcutlaw02_WholeSums.mono_l k
  unfold offcutlaw02_WholeSums.f
  repeat' first
      | (with_reducible exact ih0 _ _ _ _ _)
      | (with_reducible exact offcutlaw02_awake.mono _)
      | (with_reducible exact offcutlaw02_is.mono _ _ _ _)
      | (with_reducible exact offcutlaw02_of.mono _ _ _)
      | (with_reducible exact offcutref02_Add.mono _ _ _)
      | (with_reducible exact offcutref02_Mul.mono _ _ _)
      | (with_reducible exact whole_Add.mono _ _ _ _ _)
      | (with_reducible exact whole_Mul.mono _ _ _ _ _)
      | (with_reducible exact whole_Neg.mono _ _ _)
      | (with_reducible exact whole_Sub.mono _ _ _ _ _)
      | (with_reducible exact LeO.refl _)
      | (with_reducible exact LeO.none _)
      | (with_reducible refine LeO.ite ?_ ?_)
      | (with_reducible refine LeO.bind ?_ (fun _ => ?_))
      | exact ih0 _ _ _ _ _
      | exact offcutlaw02_awake.mono _
      | exact offcutlaw02_is.mono _ _ _ _
      | exact offcutlaw02_of.mono _ _ _
      | exact offcutref02_Add.mono _ _ _
      | exact offcutref02_Mul.mono _ _ _
      | exact whole_Add.mono _ _ _ _ _
      | exact whole_Mul.mono _ _ _ _ _
      | exact whole_Neg.mono _ _ _
      | exact whole_Sub.mono _ _ _ _ _
      | exact LeO.none _
      | refine LeO.ite ?_ ?_
      | refine LeO.bind ?_ (fun _ => ?_)
set_option maxHeartbeats 8000000 in
set_option maxRecDepth 100000 in
theorem offcutlaw02_WholeSums.calls (k : Nat) (a0_0 : Bool) (A0_1 : Option Addr) (c0_1 : Nat) (l0_1 : List Int) (a1_0 : Bool) (A1_1 : Option Addr) (c1_1 : Nat) (l1_1 : List Int) (r : Bool) (w : World) (hr0_1 : Kd.C (Kd.int .u32) w A0_1 l0_1.length l0_1) (hc0_1 : l0_1.length ≤ c0_1) (hr1_1 : Kd.C (Kd.int .u32) w A1_1 l1_1.length l1_1) (hc1_1 : l1_1.length ≤ c1_1) (hrt : r = true) (h : offcutlaw02_WholeSums.f k a0_0 l0_1 a1_0 l1_1 = some r) :
    Calls Try.prog 3 #[.agg #[.bool a0_0, .slice A0_1 l0_1.length c0_1], .agg #[.bool a1_0, .slice A1_1 l1_1.length c1_1]] w fun e w' => e = .returned (.bool r) ∧ Below w.heap.size w w' := by
  have hu25 := Try.underlying25
  have HRT := Aside0.mk hrt
  clear hrt
  have HR0_1 := Aside0.mk hr0_1
  have HC0_1 := Aside0.mk hc0_1
  clear hr0_1 hc0_1
  have HR1_1 := Aside0.mk hr1_1
  have HC1_1 := Aside0.mk hc1_1
  clear hr1_1 hc1_1
  have HB := Aside0.mk (Below.refl w.heap.size w)
  have H : ((offcutlaw02_few.f a0_0 l0_1).bind fun t453 => (if t453 = true then ((offcutlaw02_few.f a1_0 l1_1).bind fun t454 => (offcutlaw02_WholeSums.j0 k (!t454) a0_0 l0_1 a1_0 l1_1)) else (offcutlaw02_WholeSums.j0 k true a0_0 l0_1 a1_0 l1_1))) = some r := h
  clear h
  have HC3 := Aside0.mk H
  clear H
  go_enter Try.func3, Try.ntmps3
  go_upto_region 1 with (first | ((with_reducible refine gate_dst (N := 2) rfl ?_); refine box_event ?hg (N := 2) ?hd (cs := #[.bool a0_0, .slice A0_1 l0_1.length c0_1]) (t := 25) ?hr ?_; (case hd => rfl); (case hg => rfl); (case hr => first | (go_simp; done) | (go_simp; rfl)); intro gb451 hg w4 hbox hb; have n0_ := Aside0.mk (below_step (by repeat (first | (with_reducible first | exact HB.out | apply below_alloc | apply pw_below_drewN | apply below_drew1) | exact HB.out)) hb); have n1_ := Aside0.mk (hbox); have n2_ := Aside0.mk ((by rw [hg]; exact (below_size (by repeat (first | (with_reducible first | exact HB.out | apply below_alloc | apply pw_below_drewN | apply below_drew1) | exact HB.out))) : w.heap.size ≤ gb451)); have n3_ := Aside0.mk ((by rw [hg]; exact (below_size (by repeat (first | (with_reducible first | exact HB.out | apply below_alloc | apply pw_below_drewN | apply below_drew1) | exact HB.out))) : w.heap.size ≤ gb451)); clear HB; have HB := n0_; have BK451 := n1_; have GW451 := n2_; have GE451 := n3_; clear n0_ n1_ n2_ n3_; clear hb hbox hg) | ((with_reducible refine gate_dst (N := 3) rfl ?_); refine box_event ?hg (N := 3) ?hd (cs := #[.bool a1_0, .slice A1_1 l1_1.length c1_1]) (t := 25) ?hr ?_; (case hd => rfl); (case hg => rfl); (case hr => first | (go_simp; done) | (go_simp; rfl)); intro gb452 hg w5 hbox hb; have n0_ := Aside0.mk (blk_below (g := gb451) (o := .cells #[.bool a0_0, .slice A0_1 l0_1.length c0_1] 25 (0, 0)) (by (with_reducible repeat (first | refine blk_drewN ?_ _ | refine blk_drew ?_ | refine blk_alloc ?_ _)); exact BK451.out) hb); have n1_ := Aside0.mk (below_step (by repeat (first | (with_reducible first | exact HB.out | apply below_alloc | apply pw_below_drewN | apply below_drew1 | refine below_set ?_ GE451.out) | exact HB.out)) hb); have n2_ := Aside0.mk (hbox); have n3_ := Aside0.mk ((by rw [hg]; exact (below_size (by repeat (first | (with_reducible first | exact HB.out | apply below_alloc | apply pw_below_drewN | apply below_drew1 | refine below_set ?_ GE451.out) | exact HB.out))) : w.heap.size ≤ gb452)); have n4_ := Aside0.mk ((by rw [hg]; exact (below_size (by repeat (first | (with_reducible first | exact HB.out | apply below_alloc | apply pw_below_drewN | apply below_drew1 | refine below_set ?_ GE451.out) | exact HB.out))) : w.heap.size ≤ gb452)); have n5_ := Aside0.mk ((by rw [hg]; exact Nat.ne_of_lt (blk_lt (g := gb451) (o := .cells #[.bool a0_0, .slice A0_1 l0_1.length c0_1] 25 (0, 0)) (by (with_reducible repeat (first | refine blk_drewN ?_ _ | refine blk_drew ?_ | refine blk_alloc ?_ _)); exact BK451.out)) : gb451 ≠ gb452)); have n6_ := Aside0.mk ((by rw [hg]; exact Nat.ne_of_gt (blk_lt (g := gb451) (o := .cells #[.bool a0_0, .slice A0_1 l0_1.length c0_1] 25 (0, 0)) (by (with_reducible repeat (first | refine blk_drewN ?_ _ | refine blk_drew ?_ | refine blk_alloc ?_ _)); exact BK451.out)) : gb452 ≠ gb451)); clear BK451; clear HB; have BK451 := n0_; have HB := n1_; have BK452 := n2_; have GW452 := n3_; have GE452 := n4_; have NB451_452 := n5_; have NB452_451 := n6_; clear n0_ n1_ n2_ n3_ n4_ n5_ n6_; clear hb hbox hg))
  (try simp only [Act.put, List.setIfInBounds_toArray, List.set_cons_zero, List.set_cons_succ])
  go_cut [14] (fun v14 wc => ∃ (kq : Nat) (x14_2 : Bool), v14 = .bool x14_2 ∧ Aside0 (offcutlaw02_WholeSums.j0 kq x14_2 a0_0 l0_1 a1_0 l1_1 = some r) ∧ Aside0 (kq ≤ k) ∧ Aside0 (wc.heap[gb451]? = some (.cells #[.bool a0_0, (.slice A0_1 l0_1.length c0_1)] 25 (0, 0))) ∧ Aside0 (wc.heap[gb452]? = some (.cells #[.bool a1_0, (.slice A1_1 l1_1.length c1_1)] 25 (0, 0))) ∧ Aside0 (Below w.heap.size w wc))
  case first =>
    have H := HC3.out
    clear HC3
    replace H := Option.bind_eq_some_iff.mp H
    obtain ⟨t453, A60, H⟩ := H
    replace H : (if t453 = true then ((offcutlaw02_few.f a1_0 l1_1).bind fun t454 => (offcutlaw02_WholeSums.j0 k (!t454) a0_0 l0_1 a1_0 l1_1)) else (offcutlaw02_WholeSums.j0 k true a0_0 l0_1 a1_0 l1_1)) = some r := H
    have A6 := Aside0.mk A60
    clear A60
    by_cases c7 : t453 = true
    · subst c7
      have H1 : ((offcutlaw02_few.f a1_0 l1_1).bind fun t454 => (offcutlaw02_WholeSums.j0 k (!t454) a0_0 l0_1 a1_0 l1_1)) = some r := by rw [if_pos rfl] at H; exact H
      clear H
      have H := H1
      clear H1
      replace H := Option.bind_eq_some_iff.mp H
      obtain ⟨t454, A80, H⟩ := H
      replace H : (offcutlaw02_WholeSums.j0 k (!t454) a0_0 l0_1 a1_0 l1_1) = some r := H
      have A8 := Aside0.mk A80
      clear A80
      have H' := Aside0.mk H
      clear H
      have hnb9 := NB451_452.out
      have hnc9 := NB452_451.out
      have hcz10_0 : w5.cell? ⟨gb451, 0, none⟩ = some (.bool a0_0) := (blk_cell BK451.out 0).trans rfl
      have hcz10_1 : w5.cell? ⟨gb451, 1, none⟩ = some (.slice A0_1 l0_1.length c0_1) := (blk_cell BK451.out 1).trans rfl
      have hfz10_0 := blk_frozen BK451.out 0
      have hfz10_1 := blk_frozen BK451.out 1
      go_wp2_with (first | ((with_reducible refine gate_callee (f := 17) rfl ?_); refine goesL_ (some 8) rfl rfl Try.func17 (by kernel_rfl) rfl #[.agg #[.bool a0_0, .slice A0_1 l0_1.length c0_1]] rfl (by (try simp only [List.map_toArray, List.map_cons, List.map_nil]); first | done | rfl | (simp only [List.length_drop, List.length_take]; rfl)) ?_; (with_reducible refine (offcutlaw02_few.calls a0_0 _ _ l0_1 true _ ?side1 ?side2 A6.out).mono ?_); (case side1 => repeat (first | exact (Kd.C_below HR0_1.out HB.out) | (with_reducible refine Kd.C_alloc ?_ _) | (with_reducible refine Kd.C_drewN ?_ _) | (with_reducible refine Kd.C_drew ?_))); (case side2 => exact HC0_1.out); rintro e w11 ⟨rfl, hb⟩; refine ⟨_, rfl, ?_⟩; have n0_ := Aside0.mk (blk_below (g := gb451) (o := .cells #[.bool a0_0, .slice A0_1 l0_1.length c0_1] 25 (0, 0)) (by (with_reducible repeat (first | refine blk_drewN ?_ _ | refine blk_drew ?_ | refine blk_alloc ?_ _)); exact BK451.out) hb); have n1_ := Aside0.mk (blk_below (g := gb452) (o := .cells #[.bool a1_0, .slice A1_1 l1_1.length c1_1] 25 (0, 0)) (by (with_reducible repeat (first | refine blk_drewN ?_ _ | refine blk_drew ?_ | refine blk_alloc ?_ _)); exact BK452.out) hb); have n2_ := Aside0.mk (below_step (by repeat (first | (with_reducible first | exact HB.out | apply below_alloc | apply pw_below_drewN | apply below_drew1 | refine below_set ?_ GE451.out | refine below_set ?_ GE452.out) | exact HB.out)) hb); clear BK451; clear BK452; clear HB; have BK451 := n0_; have BK452 := n1_; have HB := n2_; clear n0_ n1_ n2_; (try clear hb); have hcz12_0 : w11.cell? ⟨gb452, 0, none⟩ = some (.bool a1_0) := (blk_cell BK452.out 0).trans rfl; have hcz12_1 : w11.cell? ⟨gb452, 1, none⟩ = some (.slice A1_1 l1_1.length c1_1) := (blk_cell BK452.out 1).trans rfl; have hfz12_0 := blk_frozen BK452.out 0; have hfz12_1 := blk_frozen BK452.out 1) | (go_at_call 17; (with_reducible refine (offcutlaw02_few.calls a1_0 _ _ l1_1 t454 _ ?side1 ?side2 A8.out).mono ?_); (case side1 => repeat (first | exact (Kd.C_below HR1_1.out HB.out) | (with_reducible refine Kd.C_alloc ?_ _) | (with_reducible refine Kd.C_drewN ?_ _) | (with_reducible refine Kd.C_drew ?_))); (case side2 => exact HC1_1.out); rintro e w13 ⟨rfl, hb⟩; have n0_ := Aside0.mk (blk_below (g := gb451) (o := .cells #[.bool a0_0, .slice A0_1 l0_1.length c0_1] 25 (0, 0)) (by (with_reducible repeat (first | refine blk_drewN ?_ _ | refine blk_drew ?_ | refine blk_alloc ?_ _)); exact BK451.out) hb); have n1_ := Aside0.mk (blk_below (g := gb452) (o := .cells #[.bool a1_0, .slice A1_1 l1_1.length c1_1] 25 (0, 0)) (by (with_reducible repeat (first | refine blk_drewN ?_ _ | refine blk_drew ?_ | refine blk_alloc ?_ _)); exact BK452.out) hb); have n2_ := Aside0.mk (below_step (by repeat (first | (with_reducible first | exact HB.out | apply below_alloc | apply pw_below_drewN | apply below_drew1 | refine below_set ?_ GE451.out | refine below_set ?_ GE452.out) | exact HB.out)) hb); clear BK451; clear BK452; clear HB; have BK451 := n0_; have BK452 := n1_; have HB := n2_; clear n0_ n1_ n2_; (try clear hb)))
      go_meet
      case rel => exact ⟨_, (!t454), (by first | rfl | (simp; done) | (simp [*]; done)), H', ⟨by first | omega | exact Nat.le_refl _⟩, ⟨by (with_reducible repeat (first | refine blk_drewN ?_ _ | refine blk_drew ?_ | refine blk_alloc ?_ _)); exact BK451.out⟩, ⟨by (with_reducible repeat (first | refine blk_drewN ?_ _ | refine blk_drew ?_ | refine blk_alloc ?_ _)); exact BK452.out⟩, ⟨by repeat (first | (with_reducible first | exact HB.out | apply below_alloc | apply pw_below_drewN | apply below_drew1 | refine below_set ?_ GE451.out | refine below_set ?_ GE452.out) | exact HB.out)⟩⟩
    · replace c7 := Bool.eq_false_iff.mpr c7
      subst c7
      have H1 : (offcutlaw02_WholeSums.j0 k true a0_0 l0_1 a1_0 l1_1) = some r := by rw [if_neg (show ¬ (false = true) by decide)] at H; exact H
      clear H
      have H := H1
      clear H1
      have H' := Aside0.mk H
      clear H
      have hnb14 := NB451_452.out
      have hnc14 := NB452_451.out
      have hcz15_0 : w5.cell? ⟨gb451, 0, none⟩ = some (.bool a0_0) := (blk_cell BK451.out 0).trans rfl
      have hcz15_1 : w5.cell? ⟨gb451, 1, none⟩ = some (.slice A0_1 l0_1.length c0_1) := (blk_cell BK451.out 1).trans rfl
      have hfz15_0 := blk_frozen BK451.out 0
      have hfz15_1 := blk_frozen BK451.out 1
      go_wp2_with (first | ((with_reducible refine gate_callee (f := 17) rfl ?_); refine goesL_ (some 8) rfl rfl Try.func17 (by kernel_rfl) rfl #[.agg #[.bool a0_0, .slice A0_1 l0_1.length c0_1]] rfl (by (try simp only [List.map_toArray, List.map_cons, List.map_nil]); first | done | rfl | (simp only [List.length_drop, List.length_take]; rfl)) ?_; (with_reducible refine (offcutlaw02_few.calls a0_0 _ _ l0_1 false _ ?side1 ?side2 A6.out).mono ?_); (case side1 => repeat (first | exact (Kd.C_below HR0_1.out HB.out) | (with_reducible refine Kd.C_alloc ?_ _) | (with_reducible refine Kd.C_drewN ?_ _) | (with_reducible refine Kd.C_drew ?_))); (case side2 => exact HC0_1.out); rintro e w16 ⟨rfl, hb⟩; refine ⟨_, rfl, ?_⟩; have n0_ := Aside0.mk (blk_below (g := gb451) (o := .cells #[.bool a0_0, .slice A0_1 l0_1.length c0_1] 25 (0, 0)) (by (with_reducible repeat (first | refine blk_drewN ?_ _ | refine blk_drew ?_ | refine blk_alloc ?_ _)); exact BK451.out) hb); have n1_ := Aside0.mk (blk_below (g := gb452) (o := .cells #[.bool a1_0, .slice A1_1 l1_1.length c1_1] 25 (0, 0)) (by (with_reducible repeat (first | refine blk_drewN ?_ _ | refine blk_drew ?_ | refine blk_alloc ?_ _)); exact BK452.out) hb); have n2_ := Aside0.mk (below_step (by repeat (first | (with_reducible first | exact HB.out | apply below_alloc | apply pw_below_drewN | apply below_drew1 | refine below_set ?_ GE451.out | refine below_set ?_ GE452.out) | exact HB.out)) hb); clear BK451; clear BK452; clear HB; have BK451 := n0_; have BK452 := n1_; have HB := n2_; clear n0_ n1_ n2_; (try clear hb)))
      go_meet
      case rel => exact ⟨_, (true), (by first | rfl | (simp; done) | (simp [*]; done)), H', ⟨by first | omega | exact Nat.le_refl _⟩, ⟨by (with_reducible repeat (first | refine blk_drewN ?_ _ | refine blk_drew ?_ | refine blk_alloc ?_ _)); exact BK451.out⟩, ⟨by (with_reducible repeat (first | refine blk_drewN ?_ _ | refine blk_drew ?_ | refine blk_alloc ?_ _)); exact BK452.out⟩, ⟨by repeat (first | (with_reducible first | exact HB.out | apply below_alloc | apply pw_below_drewN | apply below_drew1 | refine below_set ?_ GE451.out | refine below_set ?_ GE452.out) | exact HB.out)⟩⟩
  case rest =>
    clear HC3
    try clear c1
    try clear p2
    try clear c3
    try clear c7
    try clear c9
    try clear c14
    try clear hcz10_0
    try clear hcz10_1
    try clear hcz12_0
    try clear hcz12_1
    try clear hcz15_0
    try clear hcz15_1
    try clear hfz10_0
    try clear hfz10_1
    try clear hfz12_0
    try clear hfz12_1
    try clear hfz15_0
    try clear hfz15_1
    obtain ⟨kq, x14_2, rfl, HA, HJ2, BK451, BK452, HB⟩ := hcut
    cases kq with
    | zero => exact absurd HA.out (by simp [offcutlaw02_WholeSums.j0])
    | succ kj2 =>
      have H := HA.out
      clear HA
      simp only [offcutlaw02_WholeSums.j0] at H
      by_cases c17 : x14_2 = true
      · subst c17
        have H1 : ((offcutlaw02_awake.f kj2).bind fun t455 => (some t455)) = some r := by rw [if_pos rfl] at H; exact H
        clear H
        have H := H1
        clear H1
        replace H := Option.bind_eq_some_iff.mp H
        obtain ⟨t455, A180, H⟩ := H
        replace H : (some t455) = some r := H
        have A18 := Aside0.mk A180
        clear A180
        obtain rfl := Option.some.inj H
        go_wp2_with (first | ((with_reducible refine gate_callee (f := 18) rfl ?_); refine goesL_ (some 15) rfl rfl Try.func18 (by kernel_rfl) rfl #[] rfl (by (try simp only [List.map_toArray, List.map_cons, List.map_nil]); first | done | rfl | (simp only [List.length_drop, List.length_take]; rfl)) ?_; (with_reducible refine (offcutlaw02_awake.calls kj2  t455 _ HRT.out A18.out).mono ?_); rintro e w19 ⟨rfl, hb⟩; refine ⟨_, rfl, ?_⟩; have n0_ := Aside0.mk (blk_below (g := gb451) (o := .cells #[.bool a0_0, .slice A0_1 l0_1.length c0_1] 25 (0, 0)) (by (with_reducible repeat (first | refine blk_drewN ?_ _ | refine blk_drew ?_ | refine blk_alloc ?_ _)); exact BK451.out) hb); have n1_ := Aside0.mk (blk_below (g := gb452) (o := .cells #[.bool a1_0, .slice A1_1 l1_1.length c1_1] 25 (0, 0)) (by (with_reducible repeat (first | refine blk_drewN ?_ _ | refine blk_drew ?_ | refine blk_alloc ?_ _)); exact BK452.out) hb); have n2_ := Aside0.mk (below_step (by repeat (first | (with_reducible first | exact HB.out | apply below_alloc | apply pw_below_drewN | apply below_drew1 | refine below_set ?_ GE451.out | refine below_set ?_ GE452.out) | exact HB.out)) hb); clear BK451; clear BK452; clear HB; have BK451 := n0_; have BK452 := n1_; have HB := n2_; clear n0_ n1_ n2_; (try clear hb)))
        go_ret
        exact ⟨by first | rfl | (simp [errW_none, errW_some] <;> rfl) | (simp [*, errW_none, errW_some] <;> rfl), by repeat (first | (with_reducible first | exact HB.out | apply below_alloc | apply pw_below_drewN | apply below_drew1 | refine below_set ?_ GE451.out | refine below_set ?_ GE452.out) | exact HB.out)⟩
      · replace c17 := Bool.eq_false_iff.mpr c17
        subst c17
        have H1 : ((offcutlaw02_of.f kj2 a0_0 l0_1).bind fun t456 => ((offcutlaw02_of.f kj2 a1_0 l1_1).bind fun t457 => ((whole_Add.f kj2 a0_0 l0_1 a1_0 l1_1).bind fun bt458 => ((offcutref02_Add.f kj2 t456 t457).bind fun t462 => ((offcutlaw02_is.f kj2 bt458.1 bt458.2 t462).bind fun t463 => (if t463 = true then ((whole_Sub.f kj2 a0_0 l0_1 a1_0 l1_1).bind fun bt464 => ((offcutref02_Neg.f t457).bind fun t468 => ((offcutref02_Add.f kj2 t456 t468).bind fun t469 => ((offcutlaw02_is.f kj2 bt464.1 bt464.2 t469).bind fun t470 => (if t470 = true then ((whole_Mul.f kj2 a0_0 l0_1 a1_0 l1_1).bind fun bt471 => ((offcutref02_Mul.f kj2 t456 t457).bind fun t475 => ((offcutlaw02_is.f kj2 bt471.1 bt471.2 t475).bind fun t476 => (if t476 = true then ((whole_Neg.f kj2 a0_0 l0_1).bind fun bt477 => ((offcutref02_Neg.f t456).bind fun t481 => ((offcutlaw02_is.f kj2 bt477.1 bt477.2 t481).bind fun t482 => (if t482 = true then ((offcutlaw02_of.f kj2 a0_0 l0_1).bind fun t483 => (if t483.toList = t456.toList then ((offcutlaw02_awake.f kj2).bind fun t484 => (some t484)) else (some false))) else (some false))))) else (some false))))) else (some false)))))) else (some false))))))) = some r := by rw [if_neg (show ¬ (false = true) by decide)] at H; exact H
        clear H
        have H := H1
        clear H1
        replace H := Option.bind_eq_some_iff.mp H
        obtain ⟨t456, A200, H⟩ := H
        replace H : ((offcutlaw02_of.f kj2 a1_0 l1_1).bind fun t457 => ((whole_Add.f kj2 a0_0 l0_1 a1_0 l1_1).bind fun bt458 => ((offcutref02_Add.f kj2 t456 t457).bind fun t462 => ((offcutlaw02_is.f kj2 bt458.1 bt458.2 t462).bind fun t463 => (if t463 = true then ((whole_Sub.f kj2 a0_0 l0_1 a1_0 l1_1).bind fun bt464 => ((offcutref02_Neg.f t457).bind fun t468 => ((offcutref02_Add.f kj2 t456 t468).bind fun t469 => ((offcutlaw02_is.f kj2 bt464.1 bt464.2 t469).bind fun t470 => (if t470 = true then ((whole_Mul.f kj2 a0_0 l0_1 a1_0 l1_1).bind fun bt471 => ((offcutref02_Mul.f kj2 t456 t457).bind fun t475 => ((offcutlaw02_is.f kj2 bt471.1 bt471.2 t475).bind fun t476 => (if t476 = true then ((whole_Neg.f kj2 a0_0 l0_1).bind fun bt477 => ((offcutref02_Neg.f t456).bind fun t481 => ((offcutlaw02_is.f kj2 bt477.1 bt477.2 t481).bind fun t482 => (if t482 = true then ((offcutlaw02_of.f kj2 a0_0 l0_1).bind fun t483 => (if t483.toList = t456.toList then ((offcutlaw02_awake.f kj2).bind fun t484 => (some t484)) else (some false))) else (some false))))) else (some false))))) else (some false)))))) else (some false)))))) = some r := H
        have A20 := Aside0.mk A200
        clear A200
        replace H := Option.bind_eq_some_iff.mp H
        obtain ⟨t457, A210, H⟩ := H
        replace H : ((whole_Add.f kj2 a0_0 l0_1 a1_0 l1_1).bind fun bt458 => ((offcutref02_Add.f kj2 t456 t457).bind fun t462 => ((offcutlaw02_is.f kj2 bt458.1 bt458.2 t462).bind fun t463 => (if t463 = true then ((whole_Sub.f kj2 a0_0 l0_1 a1_0 l1_1).bind fun bt464 => ((offcutref02_Neg.f t457).bind fun t468 => ((offcutref02_Add.f kj2 t456 t468).bind fun t469 => ((offcutlaw02_is.f kj2 bt464.1 bt464.2 t469).bind fun t470 => (if t470 = true then ((whole_Mul.f kj2 a0_0 l0_1 a1_0 l1_1).bind fun bt471 => ((offcutref02_Mul.f kj2 t456 t457).bind fun t475 => ((offcutlaw02_is.f kj2 bt471.1 bt471.2 t475).bind fun t476 => (if t476 = true then ((whole_Neg.f kj2 a0_0 l0_1).bind fun bt477 => ((offcutref02_Neg.f t456).bind fun t481 => ((offcutlaw02_is.f kj2 bt477.1 bt477.2 t481).bind fun t482 => (if t482 = true then ((offcutlaw02_of.f kj2 a0_0 l0_1).bind fun t483 => (if t483.toList = t456.toList then ((offcutlaw02_awake.f kj2).bind fun t484 => (some t484)) else (some false))) else (some false))))) else (some false))))) else (some false)))))) else (some false))))) = some r := H
        have A21 := Aside0.mk A210
        clear A210
        replace H := Option.bind_eq_some_iff.mp H
        obtain ⟨⟨t458, t459⟩, A220, H⟩ := H
        replace H : ((offcutref02_Add.f kj2 t456 t457).bind fun t462 => ((offcutlaw02_is.f kj2 t458 t459 t462).bind fun t463 => (if t463 = true then ((whole_Sub.f kj2 a0_0 l0_1 a1_0 l1_1).bind fun bt464 => ((offcutref02_Neg.f t457).bind fun t468 => ((offcutref02_Add.f kj2 t456 t468).bind fun t469 => ((offcutlaw02_is.f kj2 bt464.1 bt464.2 t469).bind fun t470 => (if t470 = true then ((whole_Mul.f kj2 a0_0 l0_1 a1_0 l1_1).bind fun bt471 => ((offcutref02_Mul.f kj2 t456 t457).bind fun t475 => ((offcutlaw02_is.f kj2 bt471.1 bt471.2 t475).bind fun t476 => (if t476 = true then ((whole_Neg.f kj2 a0_0 l0_1).bind fun bt477 => ((offcutref02_Neg.f t456).bind fun t481 => ((offcutlaw02_is.f kj2 bt477.1 bt477.2 t481).bind fun t482 => (if t482 = true then ((offcutlaw02_of.f kj2 a0_0 l0_1).bind fun t483 => (if t483.toList = t456.toList then ((offcutlaw02_awake.f kj2).bind fun t484 => (some t484)) else (some false))) else (some false))))) else (some false))))) else (some false)))))) else (some false)))) = some r := H
        have A22 := Aside0.mk A220
        clear A220
        replace H := Option.bind_eq_some_iff.mp H
        obtain ⟨t462, A230, H⟩ := H
        replace H : ((offcutlaw02_is.f kj2 t458 t459 t462).bind fun t463 => (if t463 = true then ((whole_Sub.f kj2 a0_0 l0_1 a1_0 l1_1).bind fun bt464 => ((offcutref02_Neg.f t457).bind fun t468 => ((offcutref02_Add.f kj2 t456 t468).bind fun t469 => ((offcutlaw02_is.f kj2 bt464.1 bt464.2 t469).bind fun t470 => (if t470 = true then ((whole_Mul.f kj2 a0_0 l0_1 a1_0 l1_1).bind fun bt471 => ((offcutref02_Mul.f kj2 t456 t457).bind fun t475 => ((offcutlaw02_is.f kj2 bt471.1 bt471.2 t475).bind fun t476 => (if t476 = true then ((whole_Neg.f kj2 a0_0 l0_1).bind fun bt477 => ((offcutref02_Neg.f t456).bind fun t481 => ((offcutlaw02_is.f kj2 bt477.1 bt477.2 t481).bind fun t482 => (if t482 = true then ((offcutlaw02_of.f kj2 a0_0 l0_1).bind fun t483 => (if t483.toList = t456.toList then ((offcutlaw02_awake.f kj2).bind fun t484 => (some t484)) else (some false))) else (some false))))) else (some false))))) else (some false)))))) else (some false))) = some r := H
        have A23 := Aside0.mk A230
        clear A230
        replace H := Option.bind_eq_some_iff.mp H
        obtain ⟨t463, A240, H⟩ := H
        replace H : (if t463 = true then ((whole_Sub.f kj2 a0_0 l0_1 a1_0 l1_1).bind fun bt464 => ((offcutref02_Neg.f t457).bind fun t468 => ((offcutref02_Add.f kj2 t456 t468).bind fun t469 => ((offcutlaw02_is.f kj2 bt464.1 bt464.2 t469).bind fun t470 => (if t470 = true then ((whole_Mul.f kj2 a0_0 l0_1 a1_0 l1_1).bind fun bt471 => ((offcutref02_Mul.f kj2 t456 t457).bind fun t475 => ((offcutlaw02_is.f kj2 bt471.1 bt471.2 t475).bind fun t476 => (if t476 = true then ((whole_Neg.f kj2 a0_0 l0_1).bind fun bt477 => ((offcutref02_Neg.f t456).bind fun t481 => ((offcutlaw02_is.f kj2 bt477.1 bt477.2 t481).bind fun t482 => (if t482 = true then ((offcutlaw02_of.f kj2 a0_0 l0_1).bind fun t483 => (if t483.toList = t456.toList then ((offcutlaw02_awake.f kj2).bind fun t484 => (some t484)) else (some false))) else (some false))))) else (some false))))) else (some false)))))) else (some false)) = some r := H
        have A24 := Aside0.mk A240
        clear A240
        by_cases c25 : t463 = true
        · subst c25
          have H1 : ((whole_Sub.f kj2 a0_0 l0_1 a1_0 l1_1).bind fun bt464 => ((offcutref02_Neg.f t457).bind fun t468 => ((offcutref02_Add.f kj2 t456 t468).bind fun t469 => ((offcutlaw02_is.f kj2 bt464.1 bt464.2 t469).bind fun t470 => (if t470 = true then ((whole_Mul.f kj2 a0_0 l0_1 a1_0 l1_1).bind fun bt471 => ((offcutref02_Mul.f kj2 t456 t457).bind fun t475 => ((offcutlaw02_is.f kj2 bt471.1 bt471.2 t475).bind fun t476 => (if t476 = true then ((whole_Neg.f kj2 a0_0 l0_1).bind fun bt477 => ((offcutref02_Neg.f t456).bind fun t481 => ((offcutlaw02_is.f kj2 bt477.1 bt477.2 t481).bind fun t482 => (if t482 = true then ((offcutlaw02_of.f kj2 a0_0 l0_1).bind fun t483 => (if t483.toList = t456.toList then ((offcutlaw02_awake.f kj2).bind fun t484 => (some t484)) else (some false))) else (some false))))) else (some false))))) else (some false)))))) = some r := by rw [if_pos rfl] at H; exact H
          clear H
          have H := H1
          clear H1
          replace H := Option.bind_eq_some_iff.mp H
          obtain ⟨⟨t464, t465⟩, A260, H⟩ := H
          replace H : ((offcutref02_Neg.f t457).bind fun t468 => ((offcutref02_Add.f kj2 t456 t468).bind fun t469 => ((offcutlaw02_is.f kj2 t464 t465 t469).bind fun t470 => (if t470 = true then ((whole_Mul.f kj2 a0_0 l0_1 a1_0 l1_1).bind fun bt471 => ((offcutref02_Mul.f kj2 t456 t457).bind fun t475 => ((offcutlaw02_is.f kj2 bt471.1 bt471.2 t475).bind fun t476 => (if t476 = true then ((whole_Neg.f kj2 a0_0 l0_1).bind fun bt477 => ((offcutref02_Neg.f t456).bind fun t481 => ((offcutlaw02_is.f kj2 bt477.1 bt477.2 t481).bind fun t482 => (if t482 = true then ((offcutlaw02_of.f kj2 a0_0 l0_1).bind fun t483 => (if t483.toList = t456.toList then ((offcutlaw02_awake.f kj2).bind fun t484 => (some t484)) else (some false))) else (some false))))) else (some false))))) else (some false))))) = some r := H
          have A26 := Aside0.mk A260
          clear A260
          replace H := Option.bind_eq_some_iff.mp H
          obtain ⟨t468, A270, H⟩ := H
          replace H : ((offcutref02_Add.f kj2 t456 t468).bind fun t469 => ((offcutlaw02_is.f kj2 t464 t465 t469).bind fun t470 => (if t470 = true then ((whole_Mul.f kj2 a0_0 l0_1 a1_0 l1_1).bind fun bt471 => ((offcutref02_Mul.f kj2 t456 t457).bind fun t475 => ((offcutlaw02_is.f kj2 bt471.1 bt471.2 t475).bind fun t476 => (if t476 = true then ((whole_Neg.f kj2 a0_0 l0_1).bind fun bt477 => ((offcutref02_Neg.f t456).bind fun t481 => ((offcutlaw02_is.f kj2 bt477.1 bt477.2 t481).bind fun t482 => (if t482 = true then ((offcutlaw02_of.f kj2 a0_0 l0_1).bind fun t483 => (if t483.toList = t456.toList then ((offcutlaw02_awake.f kj2).bind fun t484 => (some t484)) else (some false))) else (some false))))) else (some false))))) else (some false)))) = some r := H
          have A27 := Aside0.mk A270
          clear A270
          replace H := Option.bind_eq_some_iff.mp H
          obtain ⟨t469, A280, H⟩ := H
          replace H : ((offcutlaw02_is.f kj2 t464 t465 t469).bind fun t470 => (if t470 = true then ((whole_Mul.f kj2 a0_0 l0_1 a1_0 l1_1).bind fun bt471 => ((offcutref02_Mul.f kj2 t456 t457).bind fun t475 => ((offcutlaw02_is.f kj2 bt471.1 bt471.2 t475).bind fun t476 => (if t476 = true then ((whole_Neg.f kj2 a0_0 l0_1).bind fun bt477 => ((offcutref02_Neg.f t456).bind fun t481 => ((offcutlaw02_is.f kj2 bt477.1 bt477.2 t481).bind fun t482 => (if t482 = true then ((offcutlaw02_of.f kj2 a0_0 l0_1).bind fun t483 => (if t483.toList = t456.toList then ((offcutlaw02_awake.f kj2).bind fun t484 => (some t484)) else (some false))) else (some false))))) else (some false))))) else (some false))) = some r := H
          have A28 := Aside0.mk A280
          clear A280
          replace H := Option.bind_eq_some_iff.mp H
          obtain ⟨t470, A290, H⟩ := H
          replace H : (if t470 = true then ((whole_Mul.f kj2 a0_0 l0_1 a1_0 l1_1).bind fun bt471 => ((offcutref02_Mul.f kj2 t456 t457).bind fun t475 => ((offcutlaw02_is.f kj2 bt471.1 bt471.2 t475).bind fun t476 => (if t476 = true then ((whole_Neg.f kj2 a0_0 l0_1).bind fun bt477 => ((offcutref02_Neg.f t456).bind fun t481 => ((offcutlaw02_is.f kj2 bt477.1 bt477.2 t481).bind fun t482 => (if t482 = true then ((offcutlaw02_of.f kj2 a0_0 l0_1).bind fun t483 => (if t483.toList = t456.toList then ((offcutlaw02_awake.f kj2).bind fun t484 => (some t484)) else (some false))) else (some false))))) else (some false))))) else (some false)) = some r := H
          have A29 := Aside0.mk A290
          clear A290
          by_cases c30 : t470 = true
          · subst c30
            have H1 : ((whole_Mul.f kj2 a0_0 l0_1 a1_0 l1_1).bind fun bt471 => ((offcutref02_Mul.f kj2 t456 t457).bind fun t475 => ((offcutlaw02_is.f kj2 bt471.1 bt471.2 t475).bind fun t476 => (if t476 = true then ((whole_Neg.f kj2 a0_0 l0_1).bind fun bt477 => ((offcutref02_Neg.f t456).bind fun t481 => ((offcutlaw02_is.f kj2 bt477.1 bt477.2 t481).bind fun t482 => (if t482 = true then ((offcutlaw02_of.f kj2 a0_0 l0_1).bind fun t483 => (if t483.toList = t456.toList then ((offcutlaw02_awake.f kj2).bind fun t484 => (some t484)) else (some false))) else (some false))))) else (some false))))) = some r := by rw [if_pos rfl] at H; exact H
            clear H
            have H := H1
            clear H1
            replace H := Option.bind_eq_some_iff.mp H
            obtain ⟨⟨t471, t472⟩, A310, H⟩ := H
            replace H : ((offcutref02_Mul.f kj2 t456 t457).bind fun t475 => ((offcutlaw02_is.f kj2 t471 t472 t475).bind fun t476 => (if t476 = true then ((whole_Neg.f kj2 a0_0 l0_1).bind fun bt477 => ((offcutref02_Neg.f t456).bind fun t481 => ((offcutlaw02_is.f kj2 bt477.1 bt477.2 t481).bind fun t482 => (if t482 = true then ((offcutlaw02_of.f kj2 a0_0 l0_1).bind fun t483 => (if t483.toList = t456.toList then ((offcutlaw02_awake.f kj2).bind fun t484 => (some t484)) else (some false))) else (some false))))) else (some false)))) = some r := H
            have A31 := Aside0.mk A310
            clear A310
            replace H := Option.bind_eq_some_iff.mp H
            obtain ⟨t475, A320, H⟩ := H
            replace H : ((offcutlaw02_is.f kj2 t471 t472 t475).bind fun t476 => (if t476 = true then ((whole_Neg.f kj2 a0_0 l0_1).bind fun bt477 => ((offcutref02_Neg.f t456).bind fun t481 => ((offcutlaw02_is.f kj2 bt477.1 bt477.2 t481).bind fun t482 => (if t482 = true then ((offcutlaw02_of.f kj2 a0_0 l0_1).bind fun t483 => (if t483.toList = t456.toList then ((offcutlaw02_awake.f kj2).bind fun t484 => (some t484)) else (some false))) else (some false))))) else (some false))) = some r := H
            have A32 := Aside0.mk A320
            clear A320
            replace H := Option.bind_eq_some_iff.mp H
            obtain ⟨t476, A330, H⟩ := H
            replace H : (if t476 = true then ((whole_Neg.f kj2 a0_0 l0_1).bind fun bt477 => ((offcutref02_Neg.f t456).bind fun t481 => ((offcutlaw02_is.f kj2 bt477.1 bt477.2 t481).bind fun t482 => (if t482 = true then ((offcutlaw02_of.f kj2 a0_0 l0_1).bind fun t483 => (if t483.toList = t456.toList then ((offcutlaw02_awake.f kj2).bind fun t484 => (some t484)) else (some false))) else (some false))))) else (some false)) = some r := H
            have A33 := Aside0.mk A330
            clear A330
            by_cases c34 : t476 = true
            · subst c34
              have H1 : ((whole_Neg.f kj2 a0_0 l0_1).bind fun bt477 => ((offcutref02_Neg.f t456).bind fun t481 => ((offcutlaw02_is.f kj2 bt477.1 bt477.2 t481).bind fun t482 => (if t482 = true then ((offcutlaw02_of.f kj2 a0_0 l0_1).bind fun t483 => (if t483.toList = t456.toList then ((offcutlaw02_awake.f kj2).bind fun t484 => (some t484)) else (some false))) else (some false))))) = some r := by rw [if_pos rfl] at H; exact H
              clear H
              have H := H1
              clear H1
              replace H := Option.bind_eq_some_iff.mp H
              obtain ⟨⟨t477, t478⟩, A350, H⟩ := H
              replace H : ((offcutref02_Neg.f t456).bind fun t481 => ((offcutlaw02_is.f kj2 t477 t478 t481).bind fun t482 => (if t482 = true then ((offcutlaw02_of.f kj2 a0_0 l0_1).bind fun t483 => (if t483.toList = t456.toList then ((offcutlaw02_awake.f kj2).bind fun t484 => (some t484)) else (some false))) else (some false)))) = some r := H
              have A35 := Aside0.mk A350
              clear A350
              replace H := Option.bind_eq_some_iff.mp H
              obtain ⟨t481, A360, H⟩ := H
              replace H : ((offcutlaw02_is.f kj2 t477 t478 t481).bind fun t482 => (if t482 = true then ((offcutlaw02_of.f kj2 a0_0 l0_1).bind fun t483 => (if t483.toList = t456.toList then ((offcutlaw02_awake.f kj2).bind fun t484 => (some t484)) else (some false))) else (some false))) = some r := H
              have A36 := Aside0.mk A360
              clear A360
              replace H := Option.bind_eq_some_iff.mp H
              obtain ⟨t482, A370, H⟩ := H
              replace H : (if t482 = true then ((offcutlaw02_of.f kj2 a0_0 l0_1).bind fun t483 => (if t483.toList = t456.toList then ((offcutlaw02_awake.f kj2).bind fun t484 => (some t484)) else (some false))) else (some false)) = some r := H
              have A37 := Aside0.mk A370
              clear A370
              by_cases c38 : t482 = true
              · subst c38
                have H1 : ((offcutlaw02_of.f kj2 a0_0 l0_1).bind fun t483 => (if t483.toList = t456.toList then ((offcutlaw02_awake.f kj2).bind fun t484 => (some t484)) else (some false))) = some r := by rw [if_pos rfl] at H; exact H
                clear H
                have H := H1
                clear H1
                replace H := Option.bind_eq_some_iff.mp H
                obtain ⟨t483, A390, H⟩ := H
                replace H : (if t483.toList = t456.toList then ((offcutlaw02_awake.f kj2).bind fun t484 => (some t484)) else (some false)) = some r := H
                have A39 := Aside0.mk A390
                clear A390
                by_cases c40 : t483.toList = t456.toList
                · rw [if_pos c40] at H
                  have c40b0 : (t483.toList == t456.toList) = true := beq_iff_eq.mpr c40
                  have c40b1 : (t483.toList != t456.toList) = false := bne_eq_false_iff_eq.mpr c40
                  clear c40
                  replace H := Option.bind_eq_some_iff.mp H
                  obtain ⟨t484, A410, H⟩ := H
                  replace H : (some t484) = some r := H
                  have A41 := Aside0.mk A410
                  clear A410
                  obtain rfl := Option.some.inj H
                  try go_wp2
                  have n0_ := Aside0.mk (blk_drew BK451.out)
                  have n1_ := Aside0.mk (blk_drew BK452.out)
                  have n2_ := Aside0.mk (below_drew1 HB.out)
                  clear BK451
                  clear BK452
                  clear HB
                  have BK451 := n0_
                  have BK452 := n1_
                  have HB := n2_
                  clear n0_ n1_ n2_
                  refine start_ (n := 6) (S := fun w' => w'.cell? ⟨gb451, 0, none⟩ = some (.bool a0_0) ∧ w'.cell? ⟨gb451, 1, none⟩ = some (.slice A0_1 l0_1.length c0_1) ∧ w'.cell? ⟨gb452, 0, none⟩ = some (.bool a1_0) ∧ w'.cell? ⟨gb452, 1, none⟩ = some (.slice A1_1 l1_1.length c1_1)) (ds := []) #[false, false, false, false, false, false] (by kernel_rfl) rfl rfl ⟨(blk_cell BK451.out 0).trans rfl, (blk_cell BK451.out 1).trans rfl, (blk_cell BK452.out 0).trans rfl, (blk_cell BK452.out 1).trans rfl⟩ (fun hHeld => ?_)
                  generalize wc.drew = w42 at BK451 BK452 HB hHeld ⊢
                  refine take_ (i := 0) (N := some 16) (v := ?_) (a' := ?_) #[true, false, false, false, false, false] rfl rfl (by kernel_rfl) (fun _ _ _ h => h) (Or.inl ⟨by rfl, ?_⟩) hHeld ?_ ?_
                  rotate_left
                  · rintro w' ⟨s0, s1, s2, s3⟩
                    go_simp
                    with_reducible rfl
                  rotate_left
                  · simp only [Act.put, List.setIfInBounds_toArray, List.set_cons_zero, List.set_cons_succ, i64_w, i32_w]
                    rfl
                  refine take_ (i := 2) (N := some 18) (v := ?_) (a' := ?_) #[true, false, true, false, false, false] rfl rfl (by kernel_rfl) (fun _ _ _ h => h) (Or.inl ⟨by rfl, ?_⟩) hHeld ?_ ?_
                  rotate_left
                  · rintro w' ⟨s0, s1, s2, s3⟩
                    go_simp
                    with_reducible rfl
                  rotate_left
                  · simp only [Act.put, List.setIfInBounds_toArray, List.set_cons_zero, List.set_cons_succ, i64_w, i32_w]
                    rfl
                  refine one_ (i := 1) (N := some 17) #[true, true, true, false, false, false] rfl rfl (by kernel_rfl) (by decide) (fun K hK => ?_)
                  refine goes_ Try.func19 (by kernel_rfl) rfl #[.agg #[.bool a0_0, .slice A0_1 l0_1.length c0_1]] (by rfl) rfl rfl (by (try simp only [List.map_toArray, List.map_cons, List.map_nil]); first | done | rfl | (simp only [List.length_drop, List.length_take]; rfl)) ?_
                  with_reducible refine (offcutlaw02_of.calls kj2 a0_0 _ _ l0_1 t456 _ ?side1 ?side2 A20.out).mono ?_
                  (case side1 => repeat (first | exact (Kd.C_below HR0_1.out HB.out) | (with_reducible refine Kd.C_alloc ?_ _) | (with_reducible refine Kd.C_drewN ?_ _) | (with_reducible refine Kd.C_drew ?_)))
                  (case side2 => exact HC0_1.out)
                  rintro e w43 ⟨rfl, hb⟩
                  refine ⟨_, rfl, ?_⟩
                  have n0_ := Aside0.mk (blk_below (g := gb451) (o := .cells #[.bool a0_0, .slice A0_1 l0_1.length c0_1] 25 (0, 0)) (by (with_reducible repeat (first | refine blk_drewN ?_ _ | refine blk_drew ?_ | refine blk_alloc ?_ _)); exact BK451.out) hb)
                  have n1_ := Aside0.mk (blk_below (g := gb452) (o := .cells #[.bool a1_0, .slice A1_1 l1_1.length c1_1] 25 (0, 0)) (by (with_reducible repeat (first | refine blk_drewN ?_ _ | refine blk_drew ?_ | refine blk_alloc ?_ _)); exact BK452.out) hb)
                  have n2_ := Aside0.mk (below_step (by repeat (first | (with_reducible first | exact HB.out | apply below_alloc | apply pw_below_drewN | apply below_drew1 | refine below_set ?_ GE451.out | refine below_set ?_ GE452.out) | exact HB.out)) hb)
                  clear BK451
                  clear BK452
                  clear HB
                  have BK451 := n0_
                  have BK452 := n1_
                  have HB := n2_
                  clear n0_ n1_ n2_
                  (try clear hb)
                  refine hK.out _ _ ⟨(blk_cell BK451.out 0).trans rfl, (blk_cell BK451.out 1).trans rfl, (blk_cell BK452.out 0).trans rfl, (blk_cell BK452.out 1).trans rfl⟩ (fun hHeld => ?_)
                  clear hK K
                  refine norm_ (a' := ?_) ?_ ?_
                  rotate_left
                  · show Act.put _ (some 17) _ = _
                    simp only [Act.put, List.setIfInBounds_toArray, List.set_cons_zero, List.set_cons_succ, i64_w, i32_w]
                    rfl
                  refine one_ (i := 3) (N := some 19) #[true, true, true, true, false, false] rfl rfl (by kernel_rfl) (by decide) (fun K hK => ?_)
                  refine goes_ Try.func19 (by kernel_rfl) rfl #[.agg #[.bool a1_0, .slice A1_1 l1_1.length c1_1]] (by rfl) rfl rfl (by (try simp only [List.map_toArray, List.map_cons, List.map_nil]); first | done | rfl | (simp only [List.length_drop, List.length_take]; rfl)) ?_
                  with_reducible refine (offcutlaw02_of.calls kj2 a1_0 _ _ l1_1 t457 _ ?side1 ?side2 A21.out).mono ?_
                  (case side1 => repeat (first | exact (Kd.C_below HR1_1.out HB.out) | (with_reducible refine Kd.C_alloc ?_ _) | (with_reducible refine Kd.C_drewN ?_ _) | (with_reducible refine Kd.C_drew ?_)))
                  (case side2 => exact HC1_1.out)
                  rintro e w44 ⟨rfl, hb⟩
                  refine ⟨_, rfl, ?_⟩
                  have n0_ := Aside0.mk (blk_below (g := gb451) (o := .cells #[.bool a0_0, .slice A0_1 l0_1.length c0_1] 25 (0, 0)) (by (with_reducible repeat (first | refine blk_drewN ?_ _ | refine blk_drew ?_ | refine blk_alloc ?_ _)); exact BK451.out) hb)
                  have n1_ := Aside0.mk (blk_below (g := gb452) (o := .cells #[.bool a1_0, .slice A1_1 l1_1.length c1_1] 25 (0, 0)) (by (with_reducible repeat (first | refine blk_drewN ?_ _ | refine blk_drew ?_ | refine blk_alloc ?_ _)); exact BK452.out) hb)
                  have n2_ := Aside0.mk (below_step (by repeat (first | (with_reducible first | exact HB.out | apply below_alloc | apply pw_below_drewN | apply below_drew1 | refine below_set ?_ GE451.out | refine below_set ?_ GE452.out) | exact HB.out)) hb)
                  clear BK451
                  clear BK452
                  clear HB
                  have BK451 := n0_
                  have BK452 := n1_
                  have HB := n2_
                  clear n0_ n1_ n2_
                  (try clear hb)
                  refine hK.out _ _ ⟨(blk_cell BK451.out 0).trans rfl, (blk_cell BK451.out 1).trans rfl, (blk_cell BK452.out 0).trans rfl, (blk_cell BK452.out 1).trans rfl⟩ (fun hHeld => ?_)
                  clear hK K
                  refine norm_ (a' := ?_) ?_ ?_
                  rotate_left
                  · show Act.put _ (some 19) _ = _
                    simp only [Act.put, List.setIfInBounds_toArray, List.set_cons_zero, List.set_cons_succ, i64_w, i32_w]
                    rfl
                  refine pure_ (i := 4) (N := some 5) (v := ?_) (a' := ?_) #[true, true, true, true, true, false] rfl rfl (by kernel_rfl) (fun _ _ _ h => h) (Or.inl ⟨by rfl, ?_⟩) ?_ ?_
                  rotate_left
                  · intro w'
                    go_simp
                    with_reducible rfl
                  rotate_left
                  · simp only [Act.put, List.setIfInBounds_toArray, List.set_cons_zero, List.set_cons_succ, i64_w, i32_w]
                    rfl
                  refine pure_ (i := 5) (N := some 6) (v := ?_) (a' := ?_) #[true, true, true, true, true, true] rfl rfl (by kernel_rfl) (fun _ _ _ h => h) (Or.inl ⟨by rfl, ?_⟩) ?_ ?_
                  rotate_left
                  · intro w'
                    go_simp
                    with_reducible rfl
                  rotate_left
                  · simp only [Act.put, List.setIfInBounds_toArray, List.set_cons_zero, List.set_cons_succ, i64_w, i32_w]
                    rfl
                  refine done_ (by kernel_rfl) ?_
                  have hnb45 := NB451_452.out
                  have hnc45 := NB452_451.out
                  have hcz46_0 : w44.cell? ⟨gb451, 0, none⟩ = some (.bool a0_0) := (blk_cell BK451.out 0).trans rfl
                  have hcz46_1 : w44.cell? ⟨gb451, 1, none⟩ = some (.slice A0_1 l0_1.length c0_1) := (blk_cell BK451.out 1).trans rfl
                  have hfz46_0 := blk_frozen BK451.out 0
                  have hfz46_1 := blk_frozen BK451.out 1
                  have hcz47_0 : w44.cell? ⟨gb452, 0, none⟩ = some (.bool a1_0) := (blk_cell BK452.out 0).trans rfl
                  have hcz47_1 : w44.cell? ⟨gb452, 1, none⟩ = some (.slice A1_1 l1_1.length c1_1) := (blk_cell BK452.out 1).trans rfl
                  have hfz47_0 := blk_frozen BK452.out 0
                  have hfz47_1 := blk_frozen BK452.out 1
                  try go_wp2_with (first | ((with_reducible refine gate_callee (f := 21) rfl ?_); refine goesL_ (some 22) rfl rfl Try.func21 (by kernel_rfl) rfl #[.agg #[.bool a0_0, .slice A0_1 l0_1.length c0_1], .agg #[.bool a1_0, .slice A1_1 l1_1.length c1_1]] rfl (by (try simp only [List.map_toArray, List.map_cons, List.map_nil]); first | done | rfl | (simp only [List.length_drop, List.length_take]; rfl)) ?_; (with_reducible refine (whole_Add.calls kj2 a0_0 _ _ l0_1 a1_0 _ _ l1_1 t458 t459 _ ?side1 ?side2 ?side3 ?side4 A22.out).mono ?_); (case side1 => repeat (first | exact (Kd.C_below HR0_1.out HB.out) | (with_reducible refine Kd.C_alloc ?_ _) | (with_reducible refine Kd.C_drewN ?_ _) | (with_reducible refine Kd.C_drew ?_))); (case side2 => exact HC0_1.out); (case side3 => repeat (first | exact (Kd.C_below HR1_1.out HB.out) | (with_reducible refine Kd.C_alloc ?_ _) | (with_reducible refine Kd.C_drewN ?_ _) | (with_reducible refine Kd.C_drew ?_))); (case side4 => exact HC1_1.out); rintro e w48 ⟨v460, rfl, ho0, hb⟩; refine ⟨_, rfl, ?_⟩; have n0_ := Aside0.mk (Kd.R_lower ho0 (below_size (by repeat (first | (with_reducible first | exact HB.out | apply below_alloc | apply pw_below_drewN | apply below_drew1 | refine below_set ?_ GE451.out | refine below_set ?_ GE452.out) | exact HB.out)))); have n1_ := Aside0.mk (blk_below (g := gb451) (o := .cells #[.bool a0_0, .slice A0_1 l0_1.length c0_1] 25 (0, 0)) (by (with_reducible repeat (first | refine blk_drewN ?_ _ | refine blk_drew ?_ | refine blk_alloc ?_ _)); exact BK451.out) hb); have n2_ := Aside0.mk (blk_below (g := gb452) (o := .cells #[.bool a1_0, .slice A1_1 l1_1.length c1_1] 25 (0, 0)) (by (with_reducible repeat (first | refine blk_drewN ?_ _ | refine blk_drew ?_ | refine blk_alloc ?_ _)); exact BK452.out) hb); have n3_ := Aside0.mk (below_step (by repeat (first | (with_reducible first | exact HB.out | apply below_alloc | apply pw_below_drewN | apply below_drew1 | refine below_set ?_ GE451.out | refine below_set ?_ GE452.out) | exact HB.out)) hb); clear BK451; clear BK452; clear HB; have HO461 := n0_; have BK451 := n1_; have BK452 := n2_; have HB := n3_; clear n0_ n1_ n2_ n3_; (try clear hb); (try clear ho0)) | ((with_reducible refine gate_callee (f := 22) rfl ?_); refine goesL_ (some 25) rfl rfl Try.func22 (by kernel_rfl) rfl #[.string t456, .string t457] rfl (by (try simp only [List.map_toArray, List.map_cons, List.map_nil]); first | done | rfl | (simp only [List.length_drop, List.length_take]; rfl)) ?_; (with_reducible refine (offcutref02_Add.calls kj2 t456 t457 t462 _ A23.out).mono ?_); rintro e w' ⟨rfl, ⟨nd, rfl⟩⟩; refine ⟨_, rfl, ?_⟩; obtain ⟨Ao49, co49, eo49⟩ := Kd.R_slice HO461.out; subst eo49) | ((with_reducible refine gate_callee (f := 20) rfl ?_); refine goesL_ (some 26) rfl rfl Try.func20 (by kernel_rfl) rfl #[.agg #[.bool t458, .slice Ao49 t459.length co49], .string t462] rfl (by (try simp only [List.map_toArray, List.map_cons, List.map_nil]); first | done | rfl | (simp only [List.length_drop, List.length_take]; rfl)) ?_; (with_reducible refine (offcutlaw02_is.calls kj2 t458 _ _ t459 t462 true _ ?side1 ?side2 A24.out).mono ?_); (case side1 => repeat (first | exact (Kd.R_reads' HO461.out).2.2 | (with_reducible refine Kd.C_alloc ?_ _) | (with_reducible refine Kd.C_drewN ?_ _) | (with_reducible refine Kd.C_drew ?_))); (case side2 => exact (Kd.R_reads' HO461.out).2.1); rintro e w50 ⟨rfl, hb⟩; refine ⟨_, rfl, ?_⟩; have n0_ := Aside0.mk (Kd.R_below (by (with_reducible repeat (first | apply Kd.R_alloc | apply Kd.R_drewN | apply Kd.R_drew)); exact HO461.out) hb); have n1_ := Aside0.mk (blk_below (g := gb451) (o := .cells #[.bool a0_0, .slice A0_1 l0_1.length c0_1] 25 (0, 0)) (by (with_reducible repeat (first | refine blk_drewN ?_ _ | refine blk_drew ?_ | refine blk_alloc ?_ _)); exact BK451.out) hb); have n2_ := Aside0.mk (blk_below (g := gb452) (o := .cells #[.bool a1_0, .slice A1_1 l1_1.length c1_1] 25 (0, 0)) (by (with_reducible repeat (first | refine blk_drewN ?_ _ | refine blk_drew ?_ | refine blk_alloc ?_ _)); exact BK452.out) hb); have n3_ := Aside0.mk (below_step (by repeat (first | (with_reducible first | exact HB.out | apply below_alloc | apply pw_below_drewN | apply below_drew1 | refine below_set ?_ GE451.out | refine below_set ?_ GE452.out) | exact HB.out)) hb); clear HO461; clear BK451; clear BK452; clear HB; have HO461 := n0_; have BK451 := n1_; have BK452 := n2_; have HB := n3_; clear n0_ n1_ n2_ n3_; (try clear hb); have hcz51_0 : w50.cell? ⟨gb451, 0, none⟩ = some (.bool a0_0) := (blk_cell BK451.out 0).trans rfl; have hcz51_1 : w50.cell? ⟨gb451, 1, none⟩ = some (.slice A0_1 l0_1.length c0_1) := (blk_cell BK451.out 1).trans rfl; have hfz51_0 := blk_frozen BK451.out 0; have hfz51_1 := blk_frozen BK451.out 1; have hcz52_0 : w50.cell? ⟨gb452, 0, none⟩ = some (.bool a1_0) := (blk_cell BK452.out 0).trans rfl; have hcz52_1 : w50.cell? ⟨gb452, 1, none⟩ = some (.slice A1_1 l1_1.length c1_1) := (blk_cell BK452.out 1).trans rfl; have hfz52_0 := blk_frozen BK452.out 0; have hfz52_1 := blk_frozen BK452.out 1) | (go_at_call 23; (with_reducible refine (whole_Sub.calls kj2 a0_0 _ _ l0_1 a1_0 _ _ l1_1 t464 t465 _ ?side1 ?side2 ?side3 ?side4 A26.out).mono ?_); (case side1 => repeat (first | exact (Kd.C_below HR0_1.out HB.out) | (with_reducible refine Kd.C_alloc ?_ _) | (with_reducible refine Kd.C_drewN ?_ _) | (with_reducible refine Kd.C_drew ?_))); (case side2 => exact HC0_1.out); (case side3 => repeat (first | exact (Kd.C_below HR1_1.out HB.out) | (with_reducible refine Kd.C_alloc ?_ _) | (with_reducible refine Kd.C_drewN ?_ _) | (with_reducible refine Kd.C_drew ?_))); (case side4 => exact HC1_1.out); rintro e w53 ⟨v466, rfl, ho0, hb⟩; have n0_ := Aside0.mk (Kd.R_elder' (by (with_reducible repeat (first | apply Kd.R_alloc | apply Kd.R_drewN | apply Kd.R_drew)); exact HO461.out) (Kd.R_base ho0) hb); have n1_ := Aside0.mk (Kd.R_lower (Kd.R_new' ho0 (Kd.R_lt (by (with_reducible repeat (first | apply Kd.R_alloc | apply Kd.R_drewN | apply Kd.R_drew)); exact HO461.out))) (below_size (by repeat (first | (with_reducible first | exact HB.out | apply below_alloc | apply pw_below_drewN | apply below_drew1 | refine below_set ?_ GE451.out | refine below_set ?_ GE452.out) | exact HB.out)))); have n2_ := Aside0.mk (blk_below (g := gb451) (o := .cells #[.bool a0_0, .slice A0_1 l0_1.length c0_1] 25 (0, 0)) (by (with_reducible repeat (first | refine blk_drewN ?_ _ | refine blk_drew ?_ | refine blk_alloc ?_ _)); exact BK451.out) hb); have n3_ := Aside0.mk (blk_below (g := gb452) (o := .cells #[.bool a1_0, .slice A1_1 l1_1.length c1_1] 25 (0, 0)) (by (with_reducible repeat (first | refine blk_drewN ?_ _ | refine blk_drew ?_ | refine blk_alloc ?_ _)); exact BK452.out) hb); have n4_ := Aside0.mk (below_step (by repeat (first | (with_reducible first | exact HB.out | apply below_alloc | apply pw_below_drewN | apply below_drew1 | refine below_set ?_ GE451.out | refine below_set ?_ GE452.out) | exact HB.out)) hb); clear HO461; clear BK451; clear BK452; clear HB; have HO461 := n0_; have HO467 := n1_; have BK451 := n2_; have BK452 := n3_; have HB := n4_; clear n0_ n1_ n2_ n3_ n4_; (try clear hb); (try clear ho0)) | (go_at_call 24; (with_reducible refine (offcutref02_Neg.calls t457 t468 _ A27.out).mono ?_); rintro e w' ⟨rfl, ⟨nd, rfl⟩⟩) | (go_at_call 22; (with_reducible refine (offcutref02_Add.calls kj2 t456 t468 t469 _ A28.out).mono ?_); rintro e w' ⟨rfl, ⟨nd, rfl⟩⟩; obtain ⟨Ao54, co54, eo54⟩ := Kd.R_slice HO467.out; subst eo54) | (go_at_call 20; (with_reducible refine (offcutlaw02_is.calls kj2 t464 _ _ t465 t469 true _ ?side1 ?side2 A29.out).mono ?_); (case side1 => repeat (first | exact (Kd.R_reads' HO467.out).2.2 | (with_reducible refine Kd.C_alloc ?_ _) | (with_reducible refine Kd.C_drewN ?_ _) | (with_reducible refine Kd.C_drew ?_))); (case side2 => exact (Kd.R_reads' HO467.out).2.1); rintro e w55 ⟨rfl, hb⟩; have n0_ := Aside0.mk (Kd.R_below (by (with_reducible repeat (first | apply Kd.R_alloc | apply Kd.R_drewN | apply Kd.R_drew)); exact HO461.out) hb); have n1_ := Aside0.mk (Kd.R_below (by (with_reducible repeat (first | apply Kd.R_alloc | apply Kd.R_drewN | apply Kd.R_drew)); exact HO467.out) hb); have n2_ := Aside0.mk (blk_below (g := gb451) (o := .cells #[.bool a0_0, .slice A0_1 l0_1.length c0_1] 25 (0, 0)) (by (with_reducible repeat (first | refine blk_drewN ?_ _ | refine blk_drew ?_ | refine blk_alloc ?_ _)); exact BK451.out) hb); have n3_ := Aside0.mk (blk_below (g := gb452) (o := .cells #[.bool a1_0, .slice A1_1 l1_1.length c1_1] 25 (0, 0)) (by (with_reducible repeat (first | refine blk_drewN ?_ _ | refine blk_drew ?_ | refine blk_alloc ?_ _)); exact BK452.out) hb); have n4_ := Aside0.mk (below_step (by repeat (first | (with_reducible first | exact HB.out | apply below_alloc | apply pw_below_drewN | apply below_drew1 | refine below_set ?_ GE451.out | refine below_set ?_ GE452.out) | exact HB.out)) hb); clear HO461; clear HO467; clear BK451; clear BK452; clear HB; have HO461 := n0_; have HO467 := n1_; have BK451 := n2_; have BK452 := n3_; have HB := n4_; clear n0_ n1_ n2_ n3_ n4_; (try clear hb); have hcz56_0 : w55.cell? ⟨gb451, 0, none⟩ = some (.bool a0_0) := (blk_cell BK451.out 0).trans rfl; have hcz56_1 : w55.cell? ⟨gb451, 1, none⟩ = some (.slice A0_1 l0_1.length c0_1) := (blk_cell BK451.out 1).trans rfl; have hfz56_0 := blk_frozen BK451.out 0; have hfz56_1 := blk_frozen BK451.out 1; have hcz57_0 : w55.cell? ⟨gb452, 0, none⟩ = some (.bool a1_0) := (blk_cell BK452.out 0).trans rfl; have hcz57_1 : w55.cell? ⟨gb452, 1, none⟩ = some (.slice A1_1 l1_1.length c1_1) := (blk_cell BK452.out 1).trans rfl; have hfz57_0 := blk_frozen BK452.out 0; have hfz57_1 := blk_frozen BK452.out 1) | (go_at_call 25; (with_reducible refine (whole_Mul.calls kj2 a0_0 _ _ l0_1 a1_0 _ _ l1_1 t471 t472 _ ?side1 ?side2 ?side3 ?side4 A31.out).mono ?_); (case side1 => repeat (first | exact (Kd.C_below HR0_1.out HB.out) | (with_reducible refine Kd.C_alloc ?_ _) | (with_reducible refine Kd.C_drewN ?_ _) | (with_reducible refine Kd.C_drew ?_))); (case side2 => exact HC0_1.out); (case side3 => repeat (first | exact (Kd.C_below HR1_1.out HB.out) | (with_reducible refine Kd.C_alloc ?_ _) | (with_reducible refine Kd.C_drewN ?_ _) | (with_reducible refine Kd.C_drew ?_))); (case side4 => exact HC1_1.out); rintro e w58 ⟨v473, rfl, ho0, hb⟩; have n0_ := Aside0.mk (Kd.R_elder' (by (with_reducible repeat (first | apply Kd.R_alloc | apply Kd.R_drewN | apply Kd.R_drew)); exact HO461.out) (Kd.R_base ho0) hb); have n1_ := Aside0.mk (Kd.R_elder' (by (with_reducible repeat (first | apply Kd.R_alloc | apply Kd.R_drewN | apply Kd.R_drew)); exact HO467.out) (Kd.R_base ho0) hb); have n2_ := Aside0.mk (Kd.R_lower (Kd.R_new' (Kd.R_new' ho0 (Kd.R_lt (by (with_reducible repeat (first | apply Kd.R_alloc | apply Kd.R_drewN | apply Kd.R_drew)); exact HO461.out))) (Kd.R_lt (by (with_reducible repeat (first | apply Kd.R_alloc | apply Kd.R_drewN | apply Kd.R_drew)); exact HO467.out))) (below_size (by repeat (first | (with_reducible first | exact HB.out | apply below_alloc | apply pw_below_drewN | apply below_drew1 | refine below_set ?_ GE451.out | refine below_set ?_ GE452.out) | exact HB.out)))); have n3_ := Aside0.mk (blk_below (g := gb451) (o := .cells #[.bool a0_0, .slice A0_1 l0_1.length c0_1] 25 (0, 0)) (by (with_reducible repeat (first | refine blk_drewN ?_ _ | refine blk_drew ?_ | refine blk_alloc ?_ _)); exact BK451.out) hb); have n4_ := Aside0.mk (blk_below (g := gb452) (o := .cells #[.bool a1_0, .slice A1_1 l1_1.length c1_1] 25 (0, 0)) (by (with_reducible repeat (first | refine blk_drewN ?_ _ | refine blk_drew ?_ | refine blk_alloc ?_ _)); exact BK452.out) hb); have n5_ := Aside0.mk (below_step (by repeat (first | (with_reducible first | exact HB.out | apply below_alloc | apply pw_below_drewN | apply below_drew1 | refine below_set ?_ GE451.out | refine below_set ?_ GE452.out) | exact HB.out)) hb); clear HO461; clear HO467; clear BK451; clear BK452; clear HB; have HO461 := n0_; have HO467 := n1_; have HO474 := n2_; have BK451 := n3_; have BK452 := n4_; have HB := n5_; clear n0_ n1_ n2_ n3_ n4_ n5_; (try clear hb); (try clear ho0)) | (go_at_call 26; (with_reducible refine (offcutref02_Mul.calls kj2 t456 t457 t475 _ A32.out).mono ?_); rintro e w59 ⟨rfl, hb⟩; have n0_ := Aside0.mk (Kd.R_below (by (with_reducible repeat (first | apply Kd.R_alloc | apply Kd.R_drewN | apply Kd.R_drew)); exact HO461.out) hb); have n1_ := Aside0.mk (Kd.R_below (by (with_reducible repeat (first | apply Kd.R_alloc | apply Kd.R_drewN | apply Kd.R_drew)); exact HO467.out) hb); have n2_ := Aside0.mk (Kd.R_below (by (with_reducible repeat (first | apply Kd.R_alloc | apply Kd.R_drewN | apply Kd.R_drew)); exact HO474.out) hb); have n3_ := Aside0.mk (blk_below (g := gb451) (o := .cells #[.bool a0_0, .slice A0_1 l0_1.length c0_1] 25 (0, 0)) (by (with_reducible repeat (first | refine blk_drewN ?_ _ | refine blk_drew ?_ | refine blk_alloc ?_ _)); exact BK451.out) hb); have n4_ := Aside0.mk (blk_below (g := gb452) (o := .cells #[.bool a1_0, .slice A1_1 l1_1.length c1_1] 25 (0, 0)) (by (with_reducible repeat (first | refine blk_drewN ?_ _ | refine blk_drew ?_ | refine blk_alloc ?_ _)); exact BK452.out) hb); have n5_ := Aside0.mk (below_step (by repeat (first | (with_reducible first | exact HB.out | apply below_alloc | apply pw_below_drewN | apply below_drew1 | refine below_set ?_ GE451.out | refine below_set ?_ GE452.out) | exact HB.out)) hb); clear HO461; clear HO467; clear HO474; clear BK451; clear BK452; clear HB; have HO461 := n0_; have HO467 := n1_; have HO474 := n2_; have BK451 := n3_; have BK452 := n4_; have HB := n5_; clear n0_ n1_ n2_ n3_ n4_ n5_; (try clear hb); obtain ⟨Ao60, co60, eo60⟩ := Kd.R_slice HO474.out; subst eo60) | (go_at_call 20; (with_reducible refine (offcutlaw02_is.calls kj2 t471 _ _ t472 t475 true _ ?side1 ?side2 A33.out).mono ?_); (case side1 => repeat (first | exact (Kd.R_reads' HO474.out).2.2 | (with_reducible refine Kd.C_alloc ?_ _) | (with_reducible refine Kd.C_drewN ?_ _) | (with_reducible refine Kd.C_drew ?_))); (case side2 => exact (Kd.R_reads' HO474.out).2.1); rintro e w61 ⟨rfl, hb⟩; have n0_ := Aside0.mk (Kd.R_below (by (with_reducible repeat (first | apply Kd.R_alloc | apply Kd.R_drewN | apply Kd.R_drew)); exact HO461.out) hb); have n1_ := Aside0.mk (Kd.R_below (by (with_reducible repeat (first | apply Kd.R_alloc | apply Kd.R_drewN | apply Kd.R_drew)); exact HO467.out) hb); have n2_ := Aside0.mk (Kd.R_below (by (with_reducible repeat (first | apply Kd.R_alloc | apply Kd.R_drewN | apply Kd.R_drew)); exact HO474.out) hb); have n3_ := Aside0.mk (blk_below (g := gb451) (o := .cells #[.bool a0_0, .slice A0_1 l0_1.length c0_1] 25 (0, 0)) (by (with_reducible repeat (first | refine blk_drewN ?_ _ | refine blk_drew ?_ | refine blk_alloc ?_ _)); exact BK451.out) hb); have n4_ := Aside0.mk (blk_below (g := gb452) (o := .cells #[.bool a1_0, .slice A1_1 l1_1.length c1_1] 25 (0, 0)) (by (with_reducible repeat (first | refine blk_drewN ?_ _ | refine blk_drew ?_ | refine blk_alloc ?_ _)); exact BK452.out) hb); have n5_ := Aside0.mk (below_step (by repeat (first | (with_reducible first | exact HB.out | apply below_alloc | apply pw_below_drewN | apply below_drew1 | refine below_set ?_ GE451.out | refine below_set ?_ GE452.out) | exact HB.out)) hb); clear HO461; clear HO467; clear HO474; clear BK451; clear BK452; clear HB; have HO461 := n0_; have HO467 := n1_; have HO474 := n2_; have BK451 := n3_; have BK452 := n4_; have HB := n5_; clear n0_ n1_ n2_ n3_ n4_ n5_; (try clear hb); have hcz62_0 : w61.cell? ⟨gb451, 0, none⟩ = some (.bool a0_0) := (blk_cell BK451.out 0).trans rfl; have hcz62_1 : w61.cell? ⟨gb451, 1, none⟩ = some (.slice A0_1 l0_1.length c0_1) := (blk_cell BK451.out 1).trans rfl; have hfz62_0 := blk_frozen BK451.out 0; have hfz62_1 := blk_frozen BK451.out 1) | (go_at_call 27; (with_reducible refine (whole_Neg.calls kj2 a0_0 _ _ l0_1 t477 t478 _ ?side1 ?side2 A35.out).mono ?_); (case side1 => repeat (first | exact (Kd.C_below HR0_1.out HB.out) | (with_reducible refine Kd.C_alloc ?_ _) | (with_reducible refine Kd.C_drewN ?_ _) | (with_reducible refine Kd.C_drew ?_))); (case side2 => exact HC0_1.out); rintro e w63 ⟨v479, rfl, ho0, hb⟩; have n0_ := Aside0.mk (Kd.R_elder' (by (with_reducible repeat (first | apply Kd.R_alloc | apply Kd.R_drewN | apply Kd.R_drew)); exact HO461.out) (Kd.R_base ho0) hb); have n1_ := Aside0.mk (Kd.R_elder' (by (with_reducible repeat (first | apply Kd.R_alloc | apply Kd.R_drewN | apply Kd.R_drew)); exact HO467.out) (Kd.R_base ho0) hb); have n2_ := Aside0.mk (Kd.R_elder' (by (with_reducible repeat (first | apply Kd.R_alloc | apply Kd.R_drewN | apply Kd.R_drew)); exact HO474.out) (Kd.R_base ho0) hb); have n3_ := Aside0.mk (Kd.R_lower (Kd.R_new' (Kd.R_new' (Kd.R_new' ho0 (Kd.R_lt (by (with_reducible repeat (first | apply Kd.R_alloc | apply Kd.R_drewN | apply Kd.R_drew)); exact HO461.out))) (Kd.R_lt (by (with_reducible repeat (first | apply Kd.R_alloc | apply Kd.R_drewN | apply Kd.R_drew)); exact HO467.out))) (Kd.R_lt (by (with_reducible repeat (first | apply Kd.R_alloc | apply Kd.R_drewN | apply Kd.R_drew)); exact HO474.out))) (below_size (by repeat (first | (with_reducible first | exact HB.out | apply below_alloc | apply pw_below_drewN | apply below_drew1 | refine below_set ?_ GE451.out | refine below_set ?_ GE452.out) | exact HB.out)))); have n4_ := Aside0.mk (blk_below (g := gb451) (o := .cells #[.bool a0_0, .slice A0_1 l0_1.length c0_1] 25 (0, 0)) (by (with_reducible repeat (first | refine blk_drewN ?_ _ | refine blk_drew ?_ | refine blk_alloc ?_ _)); exact BK451.out) hb); have n5_ := Aside0.mk (blk_below (g := gb452) (o := .cells #[.bool a1_0, .slice A1_1 l1_1.length c1_1] 25 (0, 0)) (by (with_reducible repeat (first | refine blk_drewN ?_ _ | refine blk_drew ?_ | refine blk_alloc ?_ _)); exact BK452.out) hb); have n6_ := Aside0.mk (below_step (by repeat (first | (with_reducible first | exact HB.out | apply below_alloc | apply pw_below_drewN | apply below_drew1 | refine below_set ?_ GE451.out | refine below_set ?_ GE452.out) | exact HB.out)) hb); clear HO461; clear HO467; clear HO474; clear BK451; clear BK452; clear HB; have HO461 := n0_; have HO467 := n1_; have HO474 := n2_; have HO480 := n3_; have BK451 := n4_; have BK452 := n5_; have HB := n6_; clear n0_ n1_ n2_ n3_ n4_ n5_ n6_; (try clear hb); (try clear ho0)) | (go_at_call 24; (with_reducible refine (offcutref02_Neg.calls t456 t481 _ A36.out).mono ?_); rintro e w' ⟨rfl, ⟨nd, rfl⟩⟩; obtain ⟨Ao64, co64, eo64⟩ := Kd.R_slice HO480.out; subst eo64) | (go_at_call 20; (with_reducible refine (offcutlaw02_is.calls kj2 t477 _ _ t478 t481 true _ ?side1 ?side2 A37.out).mono ?_); (case side1 => repeat (first | exact (Kd.R_reads' HO480.out).2.2 | (with_reducible refine Kd.C_alloc ?_ _) | (with_reducible refine Kd.C_drewN ?_ _) | (with_reducible refine Kd.C_drew ?_))); (case side2 => exact (Kd.R_reads' HO480.out).2.1); rintro e w65 ⟨rfl, hb⟩; have n0_ := Aside0.mk (Kd.R_below (by (with_reducible repeat (first | apply Kd.R_alloc | apply Kd.R_drewN | apply Kd.R_drew)); exact HO461.out) hb); have n1_ := Aside0.mk (Kd.R_below (by (with_reducible repeat (first | apply Kd.R_alloc | apply Kd.R_drewN | apply Kd.R_drew)); exact HO467.out) hb); have n2_ := Aside0.mk (Kd.R_below (by (with_reducible repeat (first | apply Kd.R_alloc | apply Kd.R_drewN | apply Kd.R_drew)); exact HO474.out) hb); have n3_ := Aside0.mk (Kd.R_below (by (with_reducible repeat (first | apply Kd.R_alloc | apply Kd.R_drewN | apply Kd.R_drew)); exact HO480.out) hb); have n4_ := Aside0.mk (blk_below (g := gb451) (o := .cells #[.bool a0_0, .slice A0_1 l0_1.length c0_1] 25 (0, 0)) (by (with_reducible repeat (first | refine blk_drewN ?_ _ | refine blk_drew ?_ | refine blk_alloc ?_ _)); exact BK451.out) hb); have n5_ := Aside0.mk (blk_below (g := gb452) (o := .cells #[.bool a1_0, .slice A1_1 l1_1.length c1_1] 25 (0, 0)) (by (with_reducible repeat (first | refine blk_drewN ?_ _ | refine blk_drew ?_ | refine blk_alloc ?_ _)); exact BK452.out) hb); have n6_ := Aside0.mk (below_step (by repeat (first | (with_reducible first | exact HB.out | apply below_alloc | apply pw_below_drewN | apply below_drew1 | refine below_set ?_ GE451.out | refine below_set ?_ GE452.out) | exact HB.out)) hb); clear HO461; clear HO467; clear HO474; clear HO480; clear BK451; clear BK452; clear HB; have HO461 := n0_; have HO467 := n1_; have HO474 := n2_; have HO480 := n3_; have BK451 := n4_; have BK452 := n5_; have HB := n6_; clear n0_ n1_ n2_ n3_ n4_ n5_ n6_; (try clear hb); have hcz66_0 : w65.cell? ⟨gb451, 0, none⟩ = some (.bool a0_0) := (blk_cell BK451.out 0).trans rfl; have hcz66_1 : w65.cell? ⟨gb451, 1, none⟩ = some (.slice A0_1 l0_1.length c0_1) := (blk_cell BK451.out 1).trans rfl; have hfz66_0 := blk_frozen BK451.out 0; have hfz66_1 := blk_frozen BK451.out 1) | (go_at_call 19; (with_reducible refine (offcutlaw02_of.calls kj2 a0_0 _ _ l0_1 t483 _ ?side1 ?side2 A39.out).mono ?_); (case side1 => repeat (first | exact (Kd.C_below HR0_1.out HB.out) | (with_reducible refine Kd.C_alloc ?_ _) | (with_reducible refine Kd.C_drewN ?_ _) | (with_reducible refine Kd.C_drew ?_))); (case side2 => exact HC0_1.out); rintro e w67 ⟨rfl, hb⟩; have n0_ := Aside0.mk (Kd.R_below (by (with_reducible repeat (first | apply Kd.R_alloc | apply Kd.R_drewN | apply Kd.R_drew)); exact HO461.out) hb); have n1_ := Aside0.mk (Kd.R_below (by (with_reducible repeat (first | apply Kd.R_alloc | apply Kd.R_drewN | apply Kd.R_drew)); exact HO467.out) hb); have n2_ := Aside0.mk (Kd.R_below (by (with_reducible repeat (first | apply Kd.R_alloc | apply Kd.R_drewN | apply Kd.R_drew)); exact HO474.out) hb); have n3_ := Aside0.mk (Kd.R_below (by (with_reducible repeat (first | apply Kd.R_alloc | apply Kd.R_drewN | apply Kd.R_drew)); exact HO480.out) hb); have n4_ := Aside0.mk (blk_below (g := gb451) (o := .cells #[.bool a0_0, .slice A0_1 l0_1.length c0_1] 25 (0, 0)) (by (with_reducible repeat (first | refine blk_drewN ?_ _ | refine blk_drew ?_ | refine blk_alloc ?_ _)); exact BK451.out) hb); have n5_ := Aside0.mk (blk_below (g := gb452) (o := .cells #[.bool a1_0, .slice A1_1 l1_1.length c1_1] 25 (0, 0)) (by (with_reducible repeat (first | refine blk_drewN ?_ _ | refine blk_drew ?_ | refine blk_alloc ?_ _)); exact BK452.out) hb); have n6_ := Aside0.mk (below_step (by repeat (first | (with_reducible first | exact HB.out | apply below_alloc | apply pw_below_drewN | apply below_drew1 | refine below_set ?_ GE451.out | refine below_set ?_ GE452.out) | exact HB.out)) hb); clear HO461; clear HO467; clear HO474; clear HO480; clear BK451; clear BK452; clear HB; have HO461 := n0_; have HO467 := n1_; have HO474 := n2_; have HO480 := n3_; have BK451 := n4_; have BK452 := n5_; have HB := n6_; clear n0_ n1_ n2_ n3_ n4_ n5_ n6_; (try clear hb)) | (go_at_call 18; (with_reducible refine (offcutlaw02_awake.calls kj2  t484 _ HRT.out A41.out).mono ?_); rintro e w68 ⟨rfl, hb⟩; have n0_ := Aside0.mk (Kd.R_below (by (with_reducible repeat (first | apply Kd.R_alloc | apply Kd.R_drewN | apply Kd.R_drew)); exact HO461.out) hb); have n1_ := Aside0.mk (Kd.R_below (by (with_reducible repeat (first | apply Kd.R_alloc | apply Kd.R_drewN | apply Kd.R_drew)); exact HO467.out) hb); have n2_ := Aside0.mk (Kd.R_below (by (with_reducible repeat (first | apply Kd.R_alloc | apply Kd.R_drewN | apply Kd.R_drew)); exact HO474.out) hb); have n3_ := Aside0.mk (Kd.R_below (by (with_reducible repeat (first | apply Kd.R_alloc | apply Kd.R_drewN | apply Kd.R_drew)); exact HO480.out) hb); have n4_ := Aside0.mk (blk_below (g := gb451) (o := .cells #[.bool a0_0, .slice A0_1 l0_1.length c0_1] 25 (0, 0)) (by (with_reducible repeat (first | refine blk_drewN ?_ _ | refine blk_drew ?_ | refine blk_alloc ?_ _)); exact BK451.out) hb); have n5_ := Aside0.mk (blk_below (g := gb452) (o := .cells #[.bool a1_0, .slice A1_1 l1_1.length c1_1] 25 (0, 0)) (by (with_reducible repeat (first | refine blk_drewN ?_ _ | refine blk_drew ?_ | refine blk_alloc ?_ _)); exact BK452.out) hb); have n6_ := Aside0.mk (below_step (by repeat (first | (with_reducible first | exact HB.out | apply below_alloc | apply pw_below_drewN | apply below_drew1 | refine below_set ?_ GE451.out | refine below_set ?_ GE452.out) | exact HB.out)) hb); clear HO461; clear HO467; clear HO474; clear HO480; clear BK451; clear BK452; clear HB; have HO461 := n0_; have HO467 := n1_; have HO474 := n2_; have HO480 := n3_; have BK451 := n4_; have BK452 := n5_; have HB := n6_; clear n0_ n1_ n2_ n3_ n4_ n5_ n6_; (try clear hb)))
                  go_ret
                  exact ⟨by first | rfl | (simp [errW_none, errW_some] <;> rfl) | (simp [*, errW_none, errW_some] <;> rfl), by repeat (first | (with_reducible first | exact HB.out | apply below_alloc | apply pw_below_drewN | apply below_drew1 | refine below_set ?_ GE451.out | refine below_set ?_ GE452.out) | exact HB.out)⟩
                · rw [if_neg c40] at H
                  have c40b0 : (t483.toList == t456.toList) = false := beq_eq_false_iff_ne.mpr c40
                  have c40b1 : (t483.toList != t456.toList) = true := bne_iff_ne.mpr c40
                  obtain rfl := Option.some.inj H
                  exact absurd HRT.out (by decide)
              · replace c38 := Bool.eq_false_iff.mpr c38
                subst c38
                have H1 : (some false) = some r := by rw [if_neg (show ¬ (false = true) by decide)] at H; exact H
                clear H
                have H := H1
                clear H1
                obtain rfl := Option.some.inj H
                exact absurd HRT.out (by decide)
            · replace c34 := Bool.eq_false_iff.mpr c34
              subst c34
              have H1 : (some false) = some r := by rw [if_neg (show ¬ (false = true) by decide)] at H; exact H
              clear H
              have H := H1
              clear H1
              obtain rfl := Option.some.inj H
              exact absurd HRT.out (by decide)
          · replace c30 := Bool.eq_false_iff.mpr c30
            subst c30
            have H1 : (some false) = some r := by rw [if_neg (show ¬ (false = true) by decide)] at H; exact H
            clear H
            have H := H1
            clear H1
            obtain rfl := Option.some.inj H
            exact absurd HRT.out (by decide)
        · replace c25 := Bool.eq_false_iff.mpr c25
          subst c25
          have H1 : (some false) = some r := by rw [if_neg (show ¬ (false = true) by decide)] at H; exact H
          clear H
          have H := H1
          clear H1
          obtain rfl := Option.some.inj H
          exact absurd HRT.out (by decide)

end Go.Proofs.Ytjpkljkkcbaohaa.PR
