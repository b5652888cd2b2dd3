import Derived.Test.YtjpkljkkcbaohaaPRg0
import Derived.Test.YtjpkljkkcbaohaaPRg9
import Derived.Test.YtjpkljkkcbaohaaPRg16
import Derived.Test.YtjpkljkkcbaohaaPRg28
import Derived.Test.YtjpkljkkcbaohaaPRg32
import Derived.Test.YtjpkljkkcbaohaaPRx49
import Derived.Test.YtjpkljkkcbaohaaPRx56
namespace Go.Proofs.Ytjpkljkkcbaohaa.PR
open Go.RowKit Go.Proofs.YtjpkljkkcbaohaaW.PrintWords Go.Proofs.YtjpkljkkcbaohaaW.PrintLast Go.Proofs.YtjpkljkkcbaohaaW.PrintMore
attribute [local go_sem] max2_int min2_int max_two min_two max_three min_three max_four min_four   -- for this text's walks alone
set_option linter.unusedVariables false
set_option linter.unusedSimpArgs false

/-! ### offcutlaw02_WholeSmall: function 8 -/
mutual
def offcutlaw02_WholeSmall.j0 : Nat → Int → Int → Bool → Bool → Bool → List Int → Bool → List Int → Option (Bool)
  | 0, _, _, _, _, _, _, _, _ => none
  | k + 1, x0, x6, x7, x8, x639000, x639001, x646000, x646001 => if (x7 != x8) = true then (offcutlaw02_WholeSmall.j1 k true x639000 x639001) else (if x8 = true then (if x6 = x0 then ((whole_Right.f x646000 x646001).bind fun t648 => (offcutlaw02_WholeSmall.j1 k (!t648) x639000 x639001)) else (offcutlaw02_WholeSmall.j1 k true x639000 x639001)) else (if x6 = 0 then ((whole_Right.f x646000 x646001).bind fun t649 => (offcutlaw02_WholeSmall.j1 k (!t649) x639000 x639001)) else (offcutlaw02_WholeSmall.j1 k true x639000 x639001)))
def offcutlaw02_WholeSmall.j1 : Nat → Bool → Bool → List Int → Option (Bool)
  | 0, _, _, _ => none
  | k + 1, x51, x639000, x639001 => if x51 = true then (some false) else ((whole_Small.f k x639000 x639001).bind fun bt650 => (if bt650.2 = true then ((whole_Of.f k bt650.1).bind fun bt652 => ((offcutlaw02_of.f k bt652.1 bt652.2).bind fun t656 => ((offcutlaw02_of.f k x639000 x639001).bind fun t657 => (if t656.toList = t657.toList then ((offcutlaw02_awake.f k).bind fun t658 => (some t658)) else (some false))))) else (if bt650.1 = 0 then ((offcutlaw02_of.f k x639000 x639001).bind fun t659 => ((offcutref02_Less.f k t659 (⟨#[52, 54, 49, 49, 54, 56, 54, 48, 49, 56, 52, 50, 55, 51, 56, 55, 57, 48, 52]⟩ : ByteArray)).bind fun t660 => (if t660 = true then ((offcutlaw02_of.f k x639000 x639001).bind fun t661 => ((offcutref02_Less.f k t661 (⟨#[45, 52, 54, 49, 49, 54, 56, 54, 48, 49, 56, 52, 50, 55, 51, 56, 55, 57, 48, 52]⟩ : ByteArray)).bind fun t662 => (if t662 = true then ((offcutlaw02_awake.f k).bind fun t663 => (some t663)) else (some false)))) else ((offcutlaw02_awake.f k).bind fun t664 => (some t664))))) else (some false))))
end
def offcutlaw02_WholeSmall.f (k : Nat) (a0 : Int) (a1_0 : Bool) (l1_1 : List Int) : Option (Bool) := (offcutlaw02_few.f a1_0 l1_1).bind fun t639 => (if t639 = true then ((whole_Of.f k a0).bind fun bt641 => ((whole_Small.f k bt641.1 bt641.2).bind fun bt646 => (if a0 ≥ (-4611686018427387904) then (offcutlaw02_WholeSmall.j0 k a0 bt646.1 bt646.2 (decide (a0 < 4611686018427387904)) a1_0 l1_1 bt641.1 bt641.2) else (offcutlaw02_WholeSmall.j0 k a0 bt646.1 bt646.2 false a1_0 l1_1 bt641.1 bt641.2)))) else ((offcutlaw02_awake.f k).bind fun t640 => (some t640)))
theorem offcutlaw02_WholeSmall.mono_l : ∀ k, (∀ y0 y1 y2 y3 y4 y5 y6 y7, LeO (offcutlaw02_WholeSmall.j0 k y0 y1 y2 y3 y4 y5 y6 y7) (offcutlaw02_WholeSmall.j0 (k + 1) y0 y1 y2 y3 y4 y5 y6 y7)) ∧ (∀ y0 y1 y2, LeO (offcutlaw02_WholeSmall.j1 k y0 y1 y2) (offcutlaw02_WholeSmall.j1 (k + 1) y0 y1 y2))
  | 0 => ⟨fun _ _ _ _ _ _ _ _ r h => by simp [offcutlaw02_WholeSmall.j0] at h, fun _ _ _ r h => by simp [offcutlaw02_WholeSmall.j1] at h⟩
  | k + 1 => by
    obtain ⟨ih0, ih1⟩ := offcutlaw02_WholeSmall.mono_l k
    refine ⟨?_, ?_⟩
    · intro y0 y1 y2 y3 y4 y5 y6 y7
      unfold offcutlaw02_WholeSmall.j0
      repeat' first
      | (with_reducible exact ih0 _ _ _ _ _ _ _ _)
      | (with_reducible exact ih1 _ _ _)
      | (with_reducible exact offcutlaw02_awake.mono _)
      | (with_reducible exact offcutlaw02_of.mono _ _ _)
      | (with_reducible exact offcutref02_Less.mono _ _ _)
      | (with_reducible exact whole_Of.mono _ _)
      | (with_reducible exact whole_Small.mono _ _ _)
      | (with_reducible exact LeO.refl _)
      | (with_reducible exact LeO.none _)
      | (with_reducible refine LeO.ite ?_ ?_)
      | (with_reducible refine LeO.bind ?_ (fun _ => ?_))
      | exact ih0 _ _ _ _ _ _ _ _
      | exact ih1 _ _ _
      | exact offcutlaw02_awake.mono _
      | exact offcutlaw02_of.mono _ _ _
      | exact offcutref02_Less.mono _ _ _
      | exact whole_Of.mono _ _
      | exact whole_Small.mono _ _ _
      | exact LeO.none _
      | refine LeO.ite ?_ ?_
      | refine LeO.bind ?_ (fun _ => ?_)
    · intro y0 y1 y2
      unfold offcutlaw02_WholeSmall.j1
      repeat' first
      | (with_reducible exact ih0 _ _ _ _ _ _ _ _)
      | (with_reducible exact ih1 _ _ _)
      | (with_reducible exact offcutlaw02_awake.mono _)
      | (with_reducible exact offcutlaw02_of.mono _ _ _)
      | (with_reducible exact offcutref02_Less.mono _ _ _)
      | (with_reducible exact whole_Of.mono _ _)
      | (with_reducible exact whole_Small.mono _ _ _)
      | (with_reducible exact LeO.refl _)
      | (with_reducible exact LeO.none _)
      | (with_reducible refine LeO.ite ?_ ?_)
      | (with_reducible refine LeO.bind ?_ (fun _ => ?_))
      | exact ih0 _ _ _ _ _ _ _ _
      | exact ih1 _ _ _
      | exact offcutlaw02_awake.mono _
      | exact offcutlaw02_of.mono _ _ _
      | exact offcutref02_Less.mono _ _ _
      | exact whole_Of.mono _ _
      | exact whole_Small.mono _ _ _
      | exact LeO.none _
      | refine LeO.ite ?_ ?_
      | refine LeO.bind ?_ (fun _ => ?_)
theorem offcutlaw02_WholeSmall.mono : ∀ a0 a1 a2 k, LeO (offcutlaw02_WholeSmall.f k a0 a1 a2) (offcutlaw02_WholeSmall.f (k + 1) a0 a1 a2) := by
  intro a0 a1 a2 k
  obtain ⟨ih0, ih1⟩ := offcutlaw02_WholeSmall.mono_l k
  unfold offcutlaw02_WholeSmall.f
  repeat' first
      | (with_reducible exact ih0 _ _ _ _ _ _ _ _)
      | (with_reducible exact ih1 _ _ _)
      | (with_reducible exact offcutlaw02_awake.mono _)
      | (with_reducible exact offcutlaw02_of.mono _ _ _)
      | (with_reducible exact offcutref02_Less.mono _ _ _)
      | (with_reducible exact whole_Of.mono _ _)
      | (with_reducible exact whole_Small.mono _ _ _)
      | (with_reducible exact LeO.refl _)
      | (with_reducible exact LeO.none _)
      | (with_reducible refine LeO.ite ?_ ?_)
      | (with_reducible refine LeO.bind ?_ (fun _ => ?_))
      | exact ih0 _ _ _ _ _ _ _ _
      | exact ih1 _ _ _
      | exact offcutlaw02_awake.mono _
      | exact offcutlaw02_of.mono _ _ _
      | exact offcutref02_Less.mono _ _ _
      | exact whole_Of.mono _ _
      | exact whole_Small.mono _ _ _
      | exact LeO.none _
      | refine LeO.ite ?_ ?_
      | refine LeO.bind ?_ (fun _ => ?_)
def offcutlaw02_WholeSmall.T10 : Bool × List (List Nat × List Nat) := (true, [([], []), ([0], [0]), ([1, 1], [1]), ([], []), ([3, 2], [3]), ([2, 4], [2, 4]), ([5, 4], [5]), ([6, 6], [6]), ([6, 7], [6, 7]), ([8, 7, 0, 1, 2, 3, 4, 5, 6, 7, 8], [8])])
def offcutlaw02_WholeSmall.B10 : List Nat := [0, 1, 3, 0, 15, 31, 63, 127, 255, 511]
theorem offcutlaw02_WholeSmall.tab10 : rtab .any (opsOf Try.f8 10) = offcutlaw02_WholeSmall.T10 := by kernel_rfl
theorem offcutlaw02_WholeSmall.bits10 : waitsOk offcutlaw02_WholeSmall.T10.2 offcutlaw02_WholeSmall.B10 = true := by kernel_rfl
set_option maxHeartbeats 8000000 in
set_option maxRecDepth 100000 in
theorem offcutlaw02_WholeSmall.calls (k : Nat) (a0 : Int) (a1_0 : Bool) (A1_1 : Option Addr) (c1_1 : Nat) (l1_1 : List Int) (r : Bool) (w : World) (hr1_1 : Kd.C (Kd.int .u32) w A1_1 l1_1.length l1_1) (hc1_1 : l1_1.length ≤ c1_1) (hrt : r = true) (h : offcutlaw02_WholeSmall.f k a0 a1_0 l1_1 = some r) :
    Calls Try.prog 8 #[.int .i64 a0, .agg #[.bool a1_0, .slice A1_1 l1_1.length c1_1]] w fun e w' => e = .returned (.bool r) ∧ Below w.heap.size w w' := by
  have hu25 := Try.underlying25
  have HRT := Aside0.mk hrt
  clear hrt
  have HR1_1 := Aside0.mk hr1_1
  have HC1_1 := Aside0.mk hc1_1
  clear hr1_1 hc1_1
  have HB := Aside0.mk (Below.refl w.heap.size w)
  have H : ((offcutlaw02_few.f a1_0 l1_1).bind fun t639 => (if t639 = true then ((whole_Of.f k a0).bind fun bt641 => ((whole_Small.f k bt641.1 bt641.2).bind fun bt646 => (if a0 ≥ (-4611686018427387904) then (offcutlaw02_WholeSmall.j0 k a0 bt646.1 bt646.2 (decide (a0 < 4611686018427387904)) a1_0 l1_1 bt641.1 bt641.2) else (offcutlaw02_WholeSmall.j0 k a0 bt646.1 bt646.2 false a1_0 l1_1 bt641.1 bt641.2)))) else ((offcutlaw02_awake.f k).bind fun t640 => (some t640)))) = some r := h
  clear h
  replace H := Option.bind_eq_some_iff.mp H
  obtain ⟨t639, A30, H⟩ := H
  replace H : (if t639 = true then ((whole_Of.f k a0).bind fun bt641 => ((whole_Small.f k bt641.1 bt641.2).bind fun bt646 => (if a0 ≥ (-4611686018427387904) then (offcutlaw02_WholeSmall.j0 k a0 bt646.1 bt646.2 (decide (a0 < 4611686018427387904)) a1_0 l1_1 bt641.1 bt641.2) else (offcutlaw02_WholeSmall.j0 k a0 bt646.1 bt646.2 false a1_0 l1_1 bt641.1 bt641.2)))) else ((offcutlaw02_awake.f k).bind fun t640 => (some t640))) = some r := H
  have A3 := Aside0.mk A30
  clear A30
  by_cases c4 : t639 = true
  · subst c4
    have H1 : ((whole_Of.f k a0).bind fun bt641 => ((whole_Small.f k bt641.1 bt641.2).bind fun bt646 => (if a0 ≥ (-4611686018427387904) then (offcutlaw02_WholeSmall.j0 k a0 bt646.1 bt646.2 (decide (a0 < 4611686018427387904)) a1_0 l1_1 bt641.1 bt641.2) else (offcutlaw02_WholeSmall.j0 k a0 bt646.1 bt646.2 false a1_0 l1_1 bt641.1 bt641.2)))) = some r := by rw [if_pos rfl] at H; exact H
    clear H
    have H := H1
    clear H1
    replace H := Option.bind_eq_some_iff.mp H
    obtain ⟨⟨t641, t642⟩, A50, H⟩ := H
    replace H : ((whole_Small.f k t641 t642).bind fun bt646 => (if a0 ≥ (-4611686018427387904) then (offcutlaw02_WholeSmall.j0 k a0 bt646.1 bt646.2 (decide (a0 < 4611686018427387904)) a1_0 l1_1 t641 t642) else (offcutlaw02_WholeSmall.j0 k a0 bt646.1 bt646.2 false a1_0 l1_1 t641 t642))) = some r := H
    have A5 := Aside0.mk A50
    clear A50
    replace H := Option.bind_eq_some_iff.mp H
    obtain ⟨⟨t646, t647⟩, A60, H⟩ := H
    replace H : (if a0 ≥ (-4611686018427387904) then (offcutlaw02_WholeSmall.j0 k a0 t646 t647 (decide (a0 < 4611686018427387904)) a1_0 l1_1 t641 t642) else (offcutlaw02_WholeSmall.j0 k a0 t646 t647 false a1_0 l1_1 t641 t642)) = some r := H
    have A6 := Aside0.mk A60
    clear A60
    have HC7 := Aside0.mk H
    clear H
    go_enter Try.func8, Try.ntmps8
    go_upto_region 5 with (first | ((with_reducible refine gate_dst (N := 3) rfl ?_); refine box_event ?hg (N := 3) ?hd (cs := #[.bool a1_0, .slice A1_1 l1_1.length c1_1]) (t := 25) ?hr ?_; (case hd => rfl); (case hg => rfl); (case hr => first | (go_simp; done) | (go_simp; rfl)); intro gb638 hg w8 hbox hb; have n0_ := Aside0.mk (below_step (by repeat (first | (with_reducible first | exact HB.out | apply below_alloc | apply pw_below_drewN | apply below_drew1) | exact HB.out)) hb); have n1_ := Aside0.mk (hbox); have n2_ := Aside0.mk ((by rw [hg]; exact (below_size (by repeat (first | (with_reducible first | exact HB.out | apply below_alloc | apply pw_below_drewN | apply below_drew1) | exact HB.out))) : w.heap.size ≤ gb638)); have n3_ := Aside0.mk ((by rw [hg]; exact (below_size (by repeat (first | (with_reducible first | exact HB.out | apply below_alloc | apply pw_below_drewN | apply below_drew1) | exact HB.out))) : w.heap.size ≤ gb638)); clear HB; have HB := n0_; have BK638 := n1_; have GW638 := n2_; have GE638 := n3_; clear n0_ n1_ n2_ n3_; clear hb hbox hg; have hcz9_0 : w8.cell? ⟨gb638, 0, none⟩ = some (.bool a1_0) := (blk_cell BK638.out 0).trans rfl; have hcz9_1 : w8.cell? ⟨gb638, 1, none⟩ = some (.slice A1_1 l1_1.length c1_1) := (blk_cell BK638.out 1).trans rfl; have hfz9_0 := blk_frozen BK638.out 0; have hfz9_1 := blk_frozen BK638.out 1) | ((with_reducible refine gate_callee (f := 17) rfl ?_); refine goesL_ (some 12) rfl rfl Try.func17 (by kernel_rfl) rfl #[.agg #[.bool a1_0, .slice A1_1 l1_1.length c1_1]] rfl (by (try simp only [List.map_toArray, List.map_cons, List.map_nil]); first | done | rfl | (simp only [List.length_drop, List.length_take]; rfl)) ?_; (with_reducible refine (offcutlaw02_few.calls a1_0 _ _ l1_1 true _ ?side1 ?side2 A3.out).mono ?_); (case side1 => repeat (first | exact (Kd.C_below HR1_1.out HB.out) | (with_reducible refine Kd.C_alloc ?_ _) | (with_reducible refine Kd.C_drewN ?_ _) | (with_reducible refine Kd.C_drew ?_))); (case side2 => exact HC1_1.out); rintro e w10 ⟨rfl, hb⟩; refine ⟨_, rfl, ?_⟩; have n0_ := Aside0.mk (blk_below (g := gb638) (o := .cells #[.bool a1_0, .slice A1_1 l1_1.length c1_1] 25 (0, 0)) (by (with_reducible repeat (first | refine blk_drewN ?_ _ | refine blk_drew ?_ | refine blk_alloc ?_ _)); exact BK638.out) hb); have n1_ := Aside0.mk (below_step (by repeat (first | (with_reducible first | exact HB.out | apply below_alloc | apply pw_below_drewN | apply below_drew1 | refine below_set ?_ GE638.out) | exact HB.out)) hb); clear BK638; clear HB; have BK638 := n0_; have HB := n1_; clear n0_ n1_; (try clear hb)) | ((with_reducible refine gate_callee (f := 37) rfl ?_); refine goesL_ (some 16) rfl rfl Try.func37 (by kernel_rfl) rfl #[.int .i64 a0] rfl (by (try simp only [List.map_toArray, List.map_cons, List.map_nil]); first | done | rfl | (simp only [List.length_drop, List.length_take]; rfl)) ?_; (with_reducible refine (whole_Of.calls k a0 t641 t642 _ A5.out).mono ?_); rintro e w11 ⟨v643, rfl, ho0, hb⟩; refine ⟨_, rfl, ?_⟩; have n0_ := Aside0.mk (Kd.R_lower ho0 (below_size (by repeat (first | (with_reducible first | exact HB.out | apply below_alloc | apply pw_below_drewN | apply below_drew1 | refine below_set ?_ GE638.out) | exact HB.out)))); have n1_ := Aside0.mk (blk_below (g := gb638) (o := .cells #[.bool a1_0, .slice A1_1 l1_1.length c1_1] 25 (0, 0)) (by (with_reducible repeat (first | refine blk_drewN ?_ _ | refine blk_drew ?_ | refine blk_alloc ?_ _)); exact BK638.out) hb); have n2_ := Aside0.mk (below_step (by repeat (first | (with_reducible first | exact HB.out | apply below_alloc | apply pw_below_drewN | apply below_drew1 | refine below_set ?_ GE638.out) | exact HB.out)) hb); clear BK638; clear HB; have HO644 := n0_; have BK638 := n1_; have HB := n2_; clear n0_ n1_ n2_; (try clear hb); (try clear ho0)) | ((with_reducible refine gate_dst (N := 5) rfl ?_); refine box_event ?hg (N := 5) ?hd (cs := #[.bool false, .slice none 0 0]) (t := 25) ?hr ?_; (case hd => rfl); (case hg => rfl); (case hr => first | (go_simp; done) | (go_simp; rfl)); intro gb645 hg w12 hbox hb; have n0_ := Aside0.mk (Kd.R_below (by (with_reducible repeat (first | apply Kd.R_alloc | apply Kd.R_drewN | apply Kd.R_drew)); exact HO644.out) hb); have n1_ := Aside0.mk (blk_below (g := gb638) (o := .cells #[.bool a1_0, .slice A1_1 l1_1.length c1_1] 25 (0, 0)) (by (with_reducible repeat (first | refine blk_drewN ?_ _ | refine blk_drew ?_ | refine blk_alloc ?_ _)); exact BK638.out) hb); have n2_ := Aside0.mk (below_step (by repeat (first | (with_reducible first | exact HB.out | apply below_alloc | apply pw_below_drewN | apply below_drew1 | refine below_set ?_ GE638.out) | exact HB.out)) hb); have n3_ := Aside0.mk (hbox); have n4_ := Aside0.mk ((by rw [hg]; exact (below_size (by repeat (first | (with_reducible first | exact HB.out | apply below_alloc | apply pw_below_drewN | apply below_drew1 | refine below_set ?_ GE638.out) | exact HB.out))) : w.heap.size ≤ gb645)); have n5_ := Aside0.mk ((by rw [hg]; exact (below_size (by repeat (first | (with_reducible first | exact HB.out | apply below_alloc | apply pw_below_drewN | apply below_drew1 | refine below_set ?_ GE638.out) | exact HB.out))) : w.heap.size ≤ gb645)); have n6_ := Aside0.mk ((by rw [hg]; exact Nat.ne_of_lt (blk_lt (g := gb638) (o := .cells #[.bool a1_0, .slice A1_1 l1_1.length c1_1] 25 (0, 0)) (by (with_reducible repeat (first | refine blk_drewN ?_ _ | refine blk_drew ?_ | refine blk_alloc ?_ _)); exact BK638.out)) : gb638 ≠ gb645)); have n7_ := Aside0.mk ((by rw [hg]; exact Nat.ne_of_gt (blk_lt (g := gb638) (o := .cells #[.bool a1_0, .slice A1_1 l1_1.length c1_1] 25 (0, 0)) (by (with_reducible repeat (first | refine blk_drewN ?_ _ | refine blk_drew ?_ | refine blk_alloc ?_ _)); exact BK638.out)) : gb645 ≠ gb638)); clear HO644; clear BK638; clear HB; have HO644 := n0_; have BK638 := n1_; have HB := n2_; have BK645 := n3_; have GW645 := n4_; have GE645 := n5_; have NB638_645 := n6_; have NB645_638 := n7_; clear n0_ n1_ n2_ n3_ n4_ n5_ n6_ n7_; clear hb hbox hg; have hnb13 := NB645_638.out; have hnc13 := NB638_645.out; have hcz14_0 : w12.cell? ⟨gb645, 0, none⟩ = some (.bool false) := (blk_cell BK645.out 0).trans rfl; have hcz14_1 : w12.cell? ⟨gb645, 1, none⟩ = some (.slice none 0 0) := (blk_cell BK645.out 1).trans rfl; have hfz14_0 := blk_frozen BK645.out 0; have hfz14_1 := blk_frozen BK645.out 1; obtain ⟨Ao15, co15, eo15⟩ := Kd.R_slice HO644.out; subst eo15) | ((with_reducible refine gate_callee (f := 38) rfl ?_); refine goesL_ (some 19) rfl rfl Try.func38 (by kernel_rfl) rfl #[.agg #[.bool t641, .slice Ao15 t642.length co15]] rfl (by (try simp only [List.map_toArray, List.map_cons, List.map_nil]); first | done | rfl | (simp only [List.length_drop, List.length_take]; rfl)) ?_; (with_reducible refine (whole_Small.calls k t641 _ _ t642 t646 t647 _ ?side1 ?side2 A6.out).mono ?_); (case side1 => refine (Kd.R_reads' (e := 37) (base := w.heap.size) (ok := fun k_ => True) (n := t642.length) (c := co15) ?_).2.2; exact (by (with_reducible repeat (first | apply Kd.R_alloc | apply Kd.R_drewN | apply Kd.R_drew)); exact (Kd.R_mono (Kd.R_far (p := ⟨gb645, 1, none⟩) (Kd.R_far (p := ⟨gb645, 0, none⟩) (Kd.R_types HO644.out BK645.out (by decide)) (fun _ hk => hk.2) (.bool t641)) (fun _ hk => hk.2) (.slice Ao15 t642.length co15)) (fun _ h_ => h_.1)))); (case side2 => exact (Kd.R_reads' HO644.out).2.1); rintro e w16 ⟨rfl, hb⟩; refine ⟨_, rfl, ?_⟩; have n0_ := Aside0.mk (Kd.R_below (by (with_reducible repeat (first | apply Kd.R_alloc | apply Kd.R_drewN | apply Kd.R_drew)); exact (Kd.R_mono (Kd.R_far (p := ⟨gb645, 1, none⟩) (Kd.R_far (p := ⟨gb645, 0, none⟩) (Kd.R_types HO644.out BK645.out (by decide)) (fun _ hk => hk.2) (.bool t641)) (fun _ hk => hk.2) (.slice Ao15 t642.length co15)) (fun _ h_ => h_.1))) hb); have n1_ := Aside0.mk (blk_below (g := gb638) (o := .cells #[.bool a1_0, .slice A1_1 l1_1.length c1_1] 25 (0, 0)) (by (with_reducible repeat (first | refine blk_drewN ?_ _ | refine blk_drew ?_ | refine blk_alloc ?_ _)); refine blk_far ?_ NB638_645.out _; (with_reducible repeat (first | refine blk_drewN ?_ _ | refine blk_drew ?_ | refine blk_alloc ?_ _)); refine blk_far ?_ NB638_645.out _; (with_reducible repeat (first | refine blk_drewN ?_ _ | refine blk_drew ?_ | refine blk_alloc ?_ _)); exact BK638.out) hb); have n2_ := Aside0.mk (blk_below (g := gb645) (o := .cells #[.bool t641, .slice Ao15 t642.length co15] 25 (0, 0)) (by (with_reducible repeat (first | refine blk_drewN ?_ _ | refine blk_drew ?_ | refine blk_alloc ?_ _)); refine blk_put (cs := #[.bool t641, .slice none 0 0]) ?_ 1 _ rfl; (with_reducible repeat (first | refine blk_drewN ?_ _ | refine blk_drew ?_ | refine blk_alloc ?_ _)); refine blk_put (cs := #[.bool false, .slice none 0 0]) ?_ 0 _ rfl; (with_reducible repeat (first | refine blk_drewN ?_ _ | refine blk_drew ?_ | refine blk_alloc ?_ _)); exact BK645.out) hb); have n3_ := Aside0.mk (below_step (by repeat (first | (with_reducible first | exact HB.out | apply below_alloc | apply pw_below_drewN | apply below_drew1 | refine below_set ?_ GE638.out | refine below_set ?_ GE645.out) | exact HB.out)) hb); clear HO644; clear BK638; clear BK645; clear HB; have HO644 := n0_; have BK638 := n1_; have BK645 := n2_; have HB := n3_; clear n0_ n1_ n2_ n3_; (try clear hb)))
    (try simp only [Act.put, List.setIfInBounds_toArray, List.set_cons_zero, List.set_cons_succ])
    go_cut [8] (fun v8 wc => ∃ (kq : Nat) (x8_6 : Bool), v8 = .bool x8_6 ∧ Aside0 (offcutlaw02_WholeSmall.j0 kq a0 t646 t647 x8_6 a1_0 l1_1 t641 t642 = some r) ∧ Aside0 (kq ≤ k) ∧ Aside0 (Kd.R (Kd.int .u32) 37 wc w.heap.size (fun _ => True) (.slice Ao15 t642.length co15) t642) ∧ Aside0 (wc.heap[gb638]? = some (.cells #[.bool a1_0, (.slice A1_1 l1_1.length c1_1)] 25 (0, 0))) ∧ Aside0 (wc.heap[gb645]? = some (.cells #[.bool t641, (.slice Ao15 t642.length co15)] 25 (0, 0))) ∧ Aside0 (Below w.heap.size w wc))
    case first =>
      have H := HC7.out
      clear HC7
      by_cases c17 : a0 ≥ (-4611686018427387904)
      · rw [if_pos c17] at H
        have c17b0 : decide ((-4611686018427387904) ≤ a0) = true := decide_eq_true c17
        clear c17
        (first | rw [c17b0] | (simp only [i64_w, i32_w]; rw [c17b0]) | skip)
        have H' := Aside0.mk H
        clear H
        go_wp2
        go_meet
        case rel => exact ⟨_, (decide (a0 < 4611686018427387904)), (by first | rfl | (simp; done) | (simp [*]; done)), H', ⟨by first | omega | exact Nat.le_refl _⟩, ⟨by (with_reducible repeat (first | apply Kd.R_alloc | apply Kd.R_drewN | apply Kd.R_drew)); exact HO644.out⟩, ⟨by (with_reducible repeat (first | refine blk_drewN ?_ _ | refine blk_drew ?_ | refine blk_alloc ?_ _)); exact BK638.out⟩, ⟨by (with_reducible repeat (first | refine blk_drewN ?_ _ | refine blk_drew ?_ | refine blk_alloc ?_ _)); exact BK645.out⟩, ⟨by repeat (first | (with_reducible first | exact HB.out | apply below_alloc | apply pw_below_drewN | apply below_drew1 | refine below_set ?_ GE638.out | refine below_set ?_ GE645.out) | exact HB.out)⟩⟩
      · rw [if_neg c17] at H
        have c17b0 : decide ((-4611686018427387904) ≤ a0) = false := decide_eq_false c17
        clear c17
        (first | rw [c17b0] | (simp only [i64_w, i32_w]; rw [c17b0]) | skip)
        have H' := Aside0.mk H
        clear H
        go_wp2
        go_meet
        case rel => exact ⟨_, (false), (by first | rfl | (simp; done) | (simp [*]; done)), H', ⟨by first | omega | exact Nat.le_refl _⟩, ⟨by (with_reducible repeat (first | apply Kd.R_alloc | apply Kd.R_drewN | apply Kd.R_drew)); exact HO644.out⟩, ⟨by (with_reducible repeat (first | refine blk_drewN ?_ _ | refine blk_drew ?_ | refine blk_alloc ?_ _)); exact BK638.out⟩, ⟨by (with_reducible repeat (first | refine blk_drewN ?_ _ | refine blk_drew ?_ | refine blk_alloc ?_ _)); exact BK645.out⟩, ⟨by repeat (first | (with_reducible first | exact HB.out | apply below_alloc | apply pw_below_drewN | apply below_drew1 | refine below_set ?_ GE638.out | refine below_set ?_ GE645.out) | exact HB.out)⟩⟩
    case rest =>
      clear HC7
      try clear c1
      try clear p2
      try clear c3
      try clear c4
      try clear c8
      try clear c13
      try clear c17
      try clear c17b0
      try clear hcz14_0
      try clear hcz14_1
      try clear hcz9_0
      try clear hcz9_1
      try clear hfz14_0
      try clear hfz14_1
      try clear hfz9_0
      try clear hfz9_1
      obtain ⟨kq, x8_6, rfl, HA, HJ6, HO_646001, BK638, BK645, HB⟩ := hcut
      cases kq with
      | zero => exact absurd HA.out (by simp [offcutlaw02_WholeSmall.j0])
      | succ kj6 =>
        have H := HA.out
        clear HA
        simp only [offcutlaw02_WholeSmall.j0] at H
        have HC18 := Aside0.mk H
        clear H
        go_upto_region 6 with (fail)
        go_cut [51] (fun v51 wc => ∃ (kq : Nat) (x51_17 : Bool), v51 = .bool x51_17 ∧ Aside0 (offcutlaw02_WholeSmall.j1 kq x51_17 a1_0 l1_1 = some r) ∧ Aside0 (kq ≤ kj6) ∧ Aside0 (Kd.R (Kd.int .u32) 37 wc w.heap.size (fun _ => True) (.slice Ao15 t642.length co15) t642) ∧ Aside0 (wc.heap[gb638]? = some (.cells #[.bool a1_0, (.slice A1_1 l1_1.length c1_1)] 25 (0, 0))) ∧ Aside0 (wc.heap[gb645]? = some (.cells #[.bool t641, (.slice Ao15 t642.length co15)] 25 (0, 0))) ∧ Aside0 (Below w.heap.size w wc))
        case first =>
          have H := HC18.out
          clear HC18
          by_cases c19 : (t647 != x8_6) = true
          · rw [if_pos c19] at H
            have c19b0 : (t647 != x8_6) = true := c19
            (try (have c19b1 : decide (t647 = x8_6) = false := by simpa using c19))
            (try (have c19b2 : (t647 == x8_6) = false := by simpa using c19))
            (try (have c19b3 : ¬ (t647 = x8_6) := by simpa using c19))
            clear c19
            (first | rw [c19b0] | (simp only [i64_w, i32_w]; rw [c19b0]) | skip)
            have H' := Aside0.mk H
            clear H
            go_wp2
            go_meet
            case rel => exact ⟨_, (true), (by first | rfl | (simp; done) | (simp [*]; done)), H', ⟨by have := HJ6.out; first | omega | exact Nat.le_refl _⟩, ⟨by (with_reducible repeat (first | apply Kd.R_alloc | apply Kd.R_drewN | apply Kd.R_drew)); exact HO_646001.out⟩, ⟨by (with_reducible repeat (first | refine blk_drewN ?_ _ | refine blk_drew ?_ | refine blk_alloc ?_ _)); exact BK638.out⟩, ⟨by (with_reducible repeat (first | refine blk_drewN ?_ _ | refine blk_drew ?_ | refine blk_alloc ?_ _)); exact BK645.out⟩, ⟨by repeat (first | (with_reducible first | exact HB.out | apply below_alloc | apply pw_below_drewN | apply below_drew1 | refine below_set ?_ GE638.out | refine below_set ?_ GE645.out) | exact HB.out)⟩⟩
          · rw [if_neg c19] at H
            have c19b0 : (t647 != x8_6) = false := by simpa using c19
            (try (have c19b1 : decide (t647 = x8_6) = true := by simpa using c19))
            (try (have c19b2 : (t647 == x8_6) = true := by simpa using c19))
            clear c19
            (first | rw [c19b0] | (simp only [i64_w, i32_w]; rw [c19b0]) | skip)
            by_cases c20 : x8_6 = true
            · subst c20
              have H1 : (if t646 = a0 then ((whole_Right.f t641 t642).bind fun t648 => (offcutlaw02_WholeSmall.j1 kj6 (!t648) a1_0 l1_1)) else (offcutlaw02_WholeSmall.j1 kj6 true a1_0 l1_1)) = some r := by rw [if_pos rfl] at H; exact H
              clear H
              have H := H1
              clear H1
              by_cases c21 : t646 = a0
              · rw [if_pos c21] at H
                have c21b0 : (t646 == a0) = true := beq_iff_eq.mpr c21
                have c21b1 : (t646 != a0) = false := bne_eq_false_iff_eq.mpr c21
                clear c21
                replace H := Option.bind_eq_some_iff.mp H
                obtain ⟨t648, A220, H⟩ := H
                replace H : (offcutlaw02_WholeSmall.j1 kj6 (!t648) a1_0 l1_1) = some r := H
                have A22 := Aside0.mk A220
                clear A220
                have H' := Aside0.mk H
                clear H
                have hnb23 := NB645_638.out
                have hnc23 := NB638_645.out
                have hcz24_0 : wc.cell? ⟨gb645, 0, none⟩ = some (.bool t641) := (blk_cell BK645.out 0).trans rfl
                have hcz24_1 : wc.cell? ⟨gb645, 1, none⟩ = some (.slice Ao15 t642.length co15) := (blk_cell BK645.out 1).trans rfl
                have hfz24_0 := blk_frozen BK645.out 0
                have hfz24_1 := blk_frozen BK645.out 1
                go_wp2_with (first | (go_at_call 32; (with_reducible refine (whole_Right.calls t641 _ _ t642 t648 _ ?side1 ?side2 A22.out).mono ?_); (case side1 => repeat (first | exact (Kd.R_reads' HO_646001.out).2.2 | (with_reducible refine Kd.C_alloc ?_ _) | (with_reducible refine Kd.C_drewN ?_ _) | (with_reducible refine Kd.C_drew ?_))); (case side2 => exact (Kd.R_reads' HO_646001.out).2.1); rintro e w25 ⟨rfl, hb⟩; have n0_ := Aside0.mk (Kd.R_below (by (with_reducible repeat (first | apply Kd.R_alloc | apply Kd.R_drewN | apply Kd.R_drew)); exact HO_646001.out) hb); have n1_ := Aside0.mk (blk_below (g := gb638) (o := .cells #[.bool a1_0, .slice A1_1 l1_1.length c1_1] 25 (0, 0)) (by (with_reducible repeat (first | refine blk_drewN ?_ _ | refine blk_drew ?_ | refine blk_alloc ?_ _)); exact BK638.out) hb); have n2_ := Aside0.mk (blk_below (g := gb645) (o := .cells #[.bool t641, .slice Ao15 t642.length co15] 25 (0, 0)) (by (with_reducible repeat (first | refine blk_drewN ?_ _ | refine blk_drew ?_ | refine blk_alloc ?_ _)); exact BK645.out) hb); have n3_ := Aside0.mk (below_step (by repeat (first | (with_reducible first | exact HB.out | apply below_alloc | apply pw_below_drewN | apply below_drew1 | refine below_set ?_ GE638.out | refine below_set ?_ GE645.out) | exact HB.out)) hb); clear HO_646001; clear BK638; clear BK645; clear HB; have HO_646001 := n0_; have BK638 := n1_; have BK645 := n2_; have HB := n3_; clear n0_ n1_ n2_ n3_; (try clear hb)))
                go_meet
                case rel => exact ⟨_, (!t648), (by first | rfl | (simp; done) | (simp [*]; done)), H', ⟨by have := HJ6.out; first | omega | exact Nat.le_refl _⟩, ⟨by (with_reducible repeat (first | apply Kd.R_alloc | apply Kd.R_drewN | apply Kd.R_drew)); exact HO_646001.out⟩, ⟨by (with_reducible repeat (first | refine blk_drewN ?_ _ | refine blk_drew ?_ | refine blk_alloc ?_ _)); exact BK638.out⟩, ⟨by (with_reducible repeat (first | refine blk_drewN ?_ _ | refine blk_drew ?_ | refine blk_alloc ?_ _)); exact BK645.out⟩, ⟨by repeat (first | (with_reducible first | exact HB.out | apply below_alloc | apply pw_below_drewN | apply below_drew1 | refine below_set ?_ GE638.out | refine below_set ?_ GE645.out) | exact HB.out)⟩⟩
              · rw [if_neg c21] at H
                have c21b0 : (t646 == a0) = false := beq_eq_false_iff_ne.mpr c21
                have c21b1 : (t646 != a0) = true := bne_iff_ne.mpr c21
                have H' := Aside0.mk H
                clear H
                go_wp2
                go_meet
                case rel => exact ⟨_, (true), (by first | rfl | (simp; done) | (simp [*]; done)), H', ⟨by have := HJ6.out; first | omega | exact Nat.le_refl _⟩, ⟨by (with_reducible repeat (first | apply Kd.R_alloc | apply Kd.R_drewN | apply Kd.R_drew)); exact HO_646001.out⟩, ⟨by (with_reducible repeat (first | refine blk_drewN ?_ _ | refine blk_drew ?_ | refine blk_alloc ?_ _)); exact BK638.out⟩, ⟨by (with_reducible repeat (first | refine blk_drewN ?_ _ | refine blk_drew ?_ | refine blk_alloc ?_ _)); exact BK645.out⟩, ⟨by repeat (first | (with_reducible first | exact HB.out | apply below_alloc | apply pw_below_drewN | apply below_drew1 | refine below_set ?_ GE638.out | refine below_set ?_ GE645.out) | exact HB.out)⟩⟩
            · replace c20 := Bool.eq_false_iff.mpr c20
              subst c20
              have H1 : (if t646 = 0 then ((whole_Right.f t641 t642).bind fun t649 => (offcutlaw02_WholeSmall.j1 kj6 (!t649) a1_0 l1_1)) else (offcutlaw02_WholeSmall.j1 kj6 true a1_0 l1_1)) = some r := by rw [if_neg (show ¬ (false = true) by decide)] at H; exact H
              clear H
              have H := H1
              clear H1
              by_cases c26 : t646 = 0
              · rw [if_pos c26] at H
                have c26b0 : (t646 == 0) = true := beq_iff_eq.mpr c26
                have c26b1 : (t646 != 0) = false := bne_eq_false_iff_eq.mpr c26
                clear c26
                replace H := Option.bind_eq_some_iff.mp H
                obtain ⟨t649, A270, H⟩ := H
                replace H : (offcutlaw02_WholeSmall.j1 kj6 (!t649) a1_0 l1_1) = some r := H
                have A27 := Aside0.mk A270
                clear A270
                have H' := Aside0.mk H
                clear H
                have hnb28 := NB645_638.out
                have hnc28 := NB638_645.out
                have hcz29_0 : wc.cell? ⟨gb645, 0, none⟩ = some (.bool t641) := (blk_cell BK645.out 0).trans rfl
                have hcz29_1 : wc.cell? ⟨gb645, 1, none⟩ = some (.slice Ao15 t642.length co15) := (blk_cell BK645.out 1).trans rfl
                have hfz29_0 := blk_frozen BK645.out 0
                have hfz29_1 := blk_frozen BK645.out 1
                go_wp2_with (first | (go_at_call 32; (with_reducible refine (whole_Right.calls t641 _ _ t642 t649 _ ?side1 ?side2 A27.out).mono ?_); (case side1 => repeat (first | exact (Kd.R_reads' HO_646001.out).2.2 | (with_reducible refine Kd.C_alloc ?_ _) | (with_reducible refine Kd.C_drewN ?_ _) | (with_reducible refine Kd.C_drew ?_))); (case side2 => exact (Kd.R_reads' HO_646001.out).2.1); rintro e w30 ⟨rfl, hb⟩; have n0_ := Aside0.mk (Kd.R_below (by (with_reducible repeat (first | apply Kd.R_alloc | apply Kd.R_drewN | apply Kd.R_drew)); exact HO_646001.out) hb); have n1_ := Aside0.mk (blk_below (g := gb638) (o := .cells #[.bool a1_0, .slice A1_1 l1_1.length c1_1] 25 (0, 0)) (by (with_reducible repeat (first | refine blk_drewN ?_ _ | refine blk_drew ?_ | refine blk_alloc ?_ _)); exact BK638.out) hb); have n2_ := Aside0.mk (blk_below (g := gb645) (o := .cells #[.bool t641, .slice Ao15 t642.length co15] 25 (0, 0)) (by (with_reducible repeat (first | refine blk_drewN ?_ _ | refine blk_drew ?_ | refine blk_alloc ?_ _)); exact BK645.out) hb); have n3_ := Aside0.mk (below_step (by repeat (first | (with_reducible first | exact HB.out | apply below_alloc | apply pw_below_drewN | apply below_drew1 | refine below_set ?_ GE638.out | refine below_set ?_ GE645.out) | exact HB.out)) hb); clear HO_646001; clear BK638; clear BK645; clear HB; have HO_646001 := n0_; have BK638 := n1_; have BK645 := n2_; have HB := n3_; clear n0_ n1_ n2_ n3_; (try clear hb)))
                go_meet
                case rel => exact ⟨_, (!t649), (by first | rfl | (simp; done) | (simp [*]; done)), H', ⟨by have := HJ6.out; first | omega | exact Nat.le_refl _⟩, ⟨by (with_reducible repeat (first | apply Kd.R_alloc | apply Kd.R_drewN | apply Kd.R_drew)); exact HO_646001.out⟩, ⟨by (with_reducible repeat (first | refine blk_drewN ?_ _ | refine blk_drew ?_ | refine blk_alloc ?_ _)); exact BK638.out⟩, ⟨by (with_reducible repeat (first | refine blk_drewN ?_ _ | refine blk_drew ?_ | refine blk_alloc ?_ _)); exact BK645.out⟩, ⟨by repeat (first | (with_reducible first | exact HB.out | apply below_alloc | apply pw_below_drewN | apply below_drew1 | refine below_set ?_ GE638.out | refine below_set ?_ GE645.out) | exact HB.out)⟩⟩
              · rw [if_neg c26] at H
                have c26b0 : (t646 == 0) = false := beq_eq_false_iff_ne.mpr c26
                have c26b1 : (t646 != 0) = true := bne_iff_ne.mpr c26
                have H' := Aside0.mk H
                clear H
                go_wp2
                go_meet
                case rel => exact ⟨_, (true), (by first | rfl | (simp; done) | (simp [*]; done)), H', ⟨by have := HJ6.out; first | omega | exact Nat.le_refl _⟩, ⟨by (with_reducible repeat (first | apply Kd.R_alloc | apply Kd.R_drewN | apply Kd.R_drew)); exact HO_646001.out⟩, ⟨by (with_reducible repeat (first | refine blk_drewN ?_ _ | refine blk_drew ?_ | refine blk_alloc ?_ _)); exact BK638.out⟩, ⟨by (with_reducible repeat (first | refine blk_drewN ?_ _ | refine blk_drew ?_ | refine blk_alloc ?_ _)); exact BK645.out⟩, ⟨by repeat (first | (with_reducible first | exact HB.out | apply below_alloc | apply pw_below_drewN | apply below_drew1 | refine below_set ?_ GE638.out | refine below_set ?_ GE645.out) | exact HB.out)⟩⟩
        case rest =>
          clear HC18
          try clear c1
          try clear c2
          try clear p2
          try clear c3
          try clear c4
          try clear c8
          try clear c13
          try clear c17
          try clear c17b0
          try clear c19
          try clear c19b0
          try clear c19b1
          try clear c19b2
          try clear c20
          try clear c21
          try clear c21b0
          try clear c21b1
          try clear c23
          try clear c26
          try clear c26b0
          try clear c26b1
          try clear c28
          try clear hcz14_0
          try clear hcz14_1
          try clear hcz24_0
          try clear hcz24_1
          try clear hcz29_0
          try clear hcz29_1
          try clear hcz9_0
          try clear hcz9_1
          try clear hfz14_0
          try clear hfz14_1
          try clear hfz24_0
          try clear hfz24_1
          try clear hfz29_0
          try clear hfz29_1
          try clear hfz9_0
          try clear hfz9_1
          try clear p2
          obtain ⟨kq, x51_17, rfl, HA, HJ17, HO_646001, BK638, BK645, HB⟩ := hcut
          cases kq with
          | zero => exact absurd HA.out (by simp [offcutlaw02_WholeSmall.j1])
          | succ kj17 =>
            have H := HA.out
            clear HA
            simp only [offcutlaw02_WholeSmall.j1] at H
            by_cases c31 : x51_17 = true
            · subst c31
              have H1 : (some false) = some r := by rw [if_pos rfl] at H; exact H
              clear H
              have H := H1
              clear H1
              obtain rfl := Option.some.inj H
              exact absurd HRT.out (by decide)
            · replace c31 := Bool.eq_false_iff.mpr c31
              subst c31
              have H1 : ((whole_Small.f kj17 a1_0 l1_1).bind fun bt650 => (if bt650.2 = true then ((whole_Of.f kj17 bt650.1).bind fun bt652 => ((offcutlaw02_of.f kj17 bt652.1 bt652.2).bind fun t656 => ((offcutlaw02_of.f kj17 a1_0 l1_1).bind fun t657 => (if t656.toList = t657.toList then ((offcutlaw02_awake.f kj17).bind fun t658 => (some t658)) else (some false))))) else (if bt650.1 = 0 then ((offcutlaw02_of.f kj17 a1_0 l1_1).bind fun t659 => ((offcutref02_Less.f kj17 t659 (⟨#[52, 54, 49, 49, 54, 56, 54, 48, 49, 56, 52, 50, 55, 51, 56, 55, 57, 48, 52]⟩ : ByteArray)).bind fun t660 => (if t660 = true then ((offcutlaw02_of.f kj17 a1_0 l1_1).bind fun t661 => ((offcutref02_Less.f kj17 t661 (⟨#[45, 52, 54, 49, 49, 54, 56, 54, 48, 49, 56, 52, 50, 55, 51, 56, 55, 57, 48, 52]⟩ : ByteArray)).bind fun t662 => (if t662 = true then ((offcutlaw02_awake.f kj17).bind fun t663 => (some t663)) else (some false)))) else ((offcutlaw02_awake.f kj17).bind fun t664 => (some t664))))) else (some false)))) = some r := by rw [if_neg (show ¬ (false = true) by decide)] at H; exact H
              clear H
              have H := H1
              clear H1
              replace H := Option.bind_eq_some_iff.mp H
              obtain ⟨⟨t650, t651⟩, A320, H⟩ := H
              replace H : (if t651 = true then ((whole_Of.f kj17 t650).bind fun bt652 => ((offcutlaw02_of.f kj17 bt652.1 bt652.2).bind fun t656 => ((offcutlaw02_of.f kj17 a1_0 l1_1).bind fun t657 => (if t656.toList = t657.toList then ((offcutlaw02_awake.f kj17).bind fun t658 => (some t658)) else (some false))))) else (if t650 = 0 then ((offcutlaw02_of.f kj17 a1_0 l1_1).bind fun t659 => ((offcutref02_Less.f kj17 t659 (⟨#[52, 54, 49, 49, 54, 56, 54, 48, 49, 56, 52, 50, 55, 51, 56, 55, 57, 48, 52]⟩ : ByteArray)).bind fun t660 => (if t660 = true then ((offcutlaw02_of.f kj17 a1_0 l1_1).bind fun t661 => ((offcutref02_Less.f kj17 t661 (⟨#[45, 52, 54, 49, 49, 54, 56, 54, 48, 49, 56, 52, 50, 55, 51, 56, 55, 57, 48, 52]⟩ : ByteArray)).bind fun t662 => (if t662 = true then ((offcutlaw02_awake.f kj17).bind fun t663 => (some t663)) else (some false)))) else ((offcutlaw02_awake.f kj17).bind fun t664 => (some t664))))) else (some false))) = some r := H
              have A32 := Aside0.mk A320
              clear A320
              by_cases c33 : t651 = true
              · subst c33
                have H1 : ((whole_Of.f kj17 t650).bind fun bt652 => ((offcutlaw02_of.f kj17 bt652.1 bt652.2).bind fun t656 => ((offcutlaw02_of.f kj17 a1_0 l1_1).bind fun t657 => (if t656.toList = t657.toList then ((offcutlaw02_awake.f kj17).bind fun t658 => (some t658)) else (some false))))) = some r := by rw [if_pos rfl] at H; exact H
                clear H
                have H := H1
                clear H1
                replace H := Option.bind_eq_some_iff.mp H
                obtain ⟨⟨t652, t653⟩, A340, H⟩ := H
                replace H : ((offcutlaw02_of.f kj17 t652 t653).bind fun t656 => ((offcutlaw02_of.f kj17 a1_0 l1_1).bind fun t657 => (if t656.toList = t657.toList then ((offcutlaw02_awake.f kj17).bind fun t658 => (some t658)) else (some false)))) = some r := H
                have A34 := Aside0.mk A340
                clear A340
                replace H := Option.bind_eq_some_iff.mp H
                obtain ⟨t656, A350, H⟩ := H
                replace H : ((offcutlaw02_of.f kj17 a1_0 l1_1).bind fun t657 => (if t656.toList = t657.toList then ((offcutlaw02_awake.f kj17).bind fun t658 => (some t658)) else (some false))) = some r := H
                have A35 := Aside0.mk A350
                clear A350
                replace H := Option.bind_eq_some_iff.mp H
                obtain ⟨t657, A360, H⟩ := H
                replace H : (if t656.toList = t657.toList then ((offcutlaw02_awake.f kj17).bind fun t658 => (some t658)) else (some false)) = some r := H
                have A36 := Aside0.mk A360
                clear A360
                by_cases c37 : t656.toList = t657.toList
                · rw [if_pos c37] at H
                  have c37b0 : (t656.toList == t657.toList) = true := beq_iff_eq.mpr c37
                  have c37b1 : (t656.toList != t657.toList) = false := bne_eq_false_iff_eq.mpr c37
                  clear c37
                  replace H := Option.bind_eq_some_iff.mp H
                  obtain ⟨t658, A380, H⟩ := H
                  replace H : (some t658) = some r := H
                  have A38 := Aside0.mk A380
                  clear A380
                  obtain rfl := Option.some.inj H
                  have hnb39 := NB638_645.out
                  have hnc39 := NB645_638.out
                  have hcz40_0 : wc.cell? ⟨gb638, 0, none⟩ = some (.bool a1_0) := (blk_cell BK638.out 0).trans rfl
                  have hcz40_1 : wc.cell? ⟨gb638, 1, none⟩ = some (.slice A1_1 l1_1.length c1_1) := (blk_cell BK638.out 1).trans rfl
                  have hfz40_0 := blk_frozen BK638.out 0
                  have hfz40_1 := blk_frozen BK638.out 1
                  try go_wp2_with (first | ((with_reducible refine gate_callee (f := 38) rfl ?_); refine goesL_ (some 54) rfl rfl Try.func38 (by kernel_rfl) rfl #[.agg #[.bool a1_0, .slice A1_1 l1_1.length c1_1]] rfl (by (try simp only [List.map_toArray, List.map_cons, List.map_nil]); first | done | rfl | (simp only [List.length_drop, List.length_take]; rfl)) ?_; (with_reducible refine (whole_Small.calls kj17 a1_0 _ _ l1_1 t650 true _ ?side1 ?side2 A32.out).mono ?_); (case side1 => repeat (first | exact (Kd.C_below HR1_1.out HB.out) | (with_reducible refine Kd.C_alloc ?_ _) | (with_reducible refine Kd.C_drewN ?_ _) | (with_reducible refine Kd.C_drew ?_))); (case side2 => exact HC1_1.out); rintro e w41 ⟨rfl, hb⟩; refine ⟨_, rfl, ?_⟩; have n0_ := Aside0.mk (Kd.R_below (by (with_reducible repeat (first | apply Kd.R_alloc | apply Kd.R_drewN | apply Kd.R_drew)); exact HO_646001.out) hb); have n1_ := Aside0.mk (blk_below (g := gb638) (o := .cells #[.bool a1_0, .slice A1_1 l1_1.length c1_1] 25 (0, 0)) (by (with_reducible repeat (first | refine blk_drewN ?_ _ | refine blk_drew ?_ | refine blk_alloc ?_ _)); exact BK638.out) hb); have n2_ := Aside0.mk (blk_below (g := gb645) (o := .cells #[.bool t641, .slice Ao15 t642.length co15] 25 (0, 0)) (by (with_reducible repeat (first | refine blk_drewN ?_ _ | refine blk_drew ?_ | refine blk_alloc ?_ _)); exact BK645.out) hb); have n3_ := Aside0.mk (below_step (by repeat (first | (with_reducible first | exact HB.out | apply below_alloc | apply pw_below_drewN | apply below_drew1 | refine below_set ?_ GE638.out | refine below_set ?_ GE645.out) | exact HB.out)) hb); clear HO_646001; clear BK638; clear BK645; clear HB; have HO_646001 := n0_; have BK638 := n1_; have BK645 := n2_; have HB := n3_; clear n0_ n1_ n2_ n3_; (try clear hb)))
                  have n0_ := Aside0.mk (Kd.R_drew HO_646001.out)
                  have n1_ := Aside0.mk (blk_drew BK638.out)
                  have n2_ := Aside0.mk (blk_drew BK645.out)
                  have n3_ := Aside0.mk (below_drew1 HB.out)
                  clear HO_646001
                  clear BK638
                  clear BK645
                  clear HB
                  have HO_646001 := n0_
                  have BK638 := n1_
                  have BK645 := n2_
                  have HB := n3_
                  clear n0_ n1_ n2_ n3_
                  refine start_ (n := 10) (S := fun w' => w'.cell? ⟨gb638, 0, none⟩ = some (.bool a1_0) ∧ w'.cell? ⟨gb638, 1, none⟩ = some (.slice A1_1 l1_1.length c1_1)) (ds := []) #[false, false, false, false, false, false, false, false, false, false] (by kernel_rfl) rfl rfl ⟨(blk_cell BK638.out 0).trans rfl, (blk_cell BK638.out 1).trans rfl⟩ (fun hHeld => ?_); refine with_tabW offcutlaw02_WholeSmall.tab10 offcutlaw02_WholeSmall.bits10 (fun HT_ HW_ => ?_)
                  generalize w41.drew = w42 at HO_646001 BK638 BK645 HB hHeld ⊢
                  refine pure_ (i := 0) (N := some 58) (v := ?_) (a' := ?_) #[true, false, false, false, false, false, false, false, false, false] rfl rfl (any_of HT_.out (by kernel_rfl)) (fun _ _ _ h => h) (Or.inl ⟨by rfl, ?_⟩) ?_ ?_
                  rotate_left
                  · intro w'
                    go_simp
                    with_reducible rfl
                  rotate_left
                  · simp only [Act.put, List.setIfInBounds_toArray, List.set_cons_zero, List.set_cons_succ, i64_w, i32_w]
                    rfl
                  refine take_ (i := 3) (N := some 61) (v := ?_) (a' := ?_) #[true, false, false, true, false, false, false, false, false, false] rfl rfl (take_ofW HT_.out HW_.out (by kernel_rfl)) (fun _ _ _ h => h) (Or.inl ⟨by rfl, ?_⟩) hHeld ?_ ?_
                  rotate_left
                  · rintro w' ⟨s0, s1⟩
                    go_simp
                    with_reducible rfl
                  rotate_left
                  · simp only [Act.put, List.setIfInBounds_toArray, List.set_cons_zero, List.set_cons_succ, i64_w, i32_w]
                    rfl
                  refine one_ (i := 1) (N := some 59) #[true, true, false, true, false, false, false, false, false, false] rfl rfl (one_of HT_.out (by kernel_rfl)) (by decide) (fun K hK => ?_)
                  refine goes_ Try.func37 (by kernel_rfl) rfl #[.int .i64 t650] (by rfl) rfl rfl (by (try simp only [List.map_toArray, List.map_cons, List.map_nil]); first | done | rfl | (simp only [List.length_drop, List.length_take]; rfl)) ?_
                  with_reducible refine (whole_Of.calls kj17 t650 t652 t653 _ A34.out).mono ?_
                  rintro e w43 ⟨v654, rfl, ho0, hb⟩
                  refine ⟨_, rfl, ?_⟩
                  have n0_ := Aside0.mk (Kd.R_elder' (by (with_reducible repeat (first | apply Kd.R_alloc | apply Kd.R_drewN | apply Kd.R_drew)); exact HO_646001.out) (Kd.R_base ho0) hb)
                  have n1_ := Aside0.mk (Kd.R_lower (Kd.R_new' ho0 (Kd.R_lt (by (with_reducible repeat (first | apply Kd.R_alloc | apply Kd.R_drewN | apply Kd.R_drew)); exact HO_646001.out))) (below_size (by repeat (first | (with_reducible first | exact HB.out | apply below_alloc | apply pw_below_drewN | apply below_drew1 | refine below_set ?_ GE638.out | refine below_set ?_ GE645.out) | exact HB.out))))
                  have n2_ := Aside0.mk (blk_below (g := gb638) (o := .cells #[.bool a1_0, .slice A1_1 l1_1.length c1_1] 25 (0, 0)) (by (with_reducible repeat (first | refine blk_drewN ?_ _ | refine blk_drew ?_ | refine blk_alloc ?_ _)); exact BK638.out) hb)
                  have n3_ := Aside0.mk (blk_below (g := gb645) (o := .cells #[.bool t641, .slice Ao15 t642.length co15] 25 (0, 0)) (by (with_reducible repeat (first | refine blk_drewN ?_ _ | refine blk_drew ?_ | refine blk_alloc ?_ _)); exact BK645.out) hb)
                  have n4_ := Aside0.mk (below_step (by repeat (first | (with_reducible first | exact HB.out | apply below_alloc | apply pw_below_drewN | apply below_drew1 | refine below_set ?_ GE638.out | refine below_set ?_ GE645.out) | exact HB.out)) hb)
                  clear HO_646001
                  clear BK638
                  clear BK645
                  clear HB
                  have HO_646001 := n0_
                  have HO655 := n1_
                  have BK638 := n2_
                  have BK645 := n3_
                  have HB := n4_
                  clear n0_ n1_ n2_ n3_ n4_
                  (try clear hb)
                  (try clear ho0)
                  obtain ⟨Ao44, co44, eo44⟩ := Kd.R_slice HO655.out
                  (first | subst eo44 | (injection eo44 with f1_ f2_ f3_; have f4_ := f1_.symm; have f5_ := f3_.symm; clear f1_ f2_ f3_; subst f4_; subst f5_))
                  refine hK.out _ _ ⟨(blk_cell BK638.out 0).trans rfl, (blk_cell BK638.out 1).trans rfl⟩ (fun hHeld => ?_)
                  clear hK K
                  refine norm_ (a' := ?_) ?_ ?_
                  rotate_left
                  · show Act.put _ (some 59) _ = _
                    simp only [Act.put, List.setIfInBounds_toArray, List.set_cons_zero, List.set_cons_succ, i64_w, i32_w]
                    rfl
                  refine one_ (i := 2) (N := some 60) #[true, true, true, true, false, false, false, false, false, false] rfl rfl (one_of HT_.out (by kernel_rfl)) (by decide) (fun K hK => ?_)
                  refine goes_ Try.func19 (by kernel_rfl) rfl #[.agg #[.bool t652, .slice Ao44 t653.length co44]] (by rfl) rfl rfl (by (try simp only [List.map_toArray, List.map_cons, List.map_nil]); first | done | rfl | (simp only [List.length_drop, List.length_take]; rfl)) ?_
                  with_reducible refine (offcutlaw02_of.calls kj17 t652 _ _ t653 t656 _ ?side1 ?side2 A35.out).mono ?_
                  (case side1 => repeat (first | exact (Kd.R_reads' HO655.out).2.2 | (with_reducible refine Kd.C_alloc ?_ _) | (with_reducible refine Kd.C_drewN ?_ _) | (with_reducible refine Kd.C_drew ?_)))
                  (case side2 => exact (Kd.R_reads' HO655.out).2.1)
                  rintro e w45 ⟨rfl, hb⟩
                  refine ⟨_, rfl, ?_⟩
                  have n0_ := Aside0.mk (Kd.R_below (by (with_reducible repeat (first | apply Kd.R_alloc | apply Kd.R_drewN | apply Kd.R_drew)); exact HO_646001.out) hb)
                  have n1_ := Aside0.mk (Kd.R_below (by (with_reducible repeat (first | apply Kd.R_alloc | apply Kd.R_drewN | apply Kd.R_drew)); exact HO655.out) hb)
                  have n2_ := Aside0.mk (blk_below (g := gb638) (o := .cells #[.bool a1_0, .slice A1_1 l1_1.length c1_1] 25 (0, 0)) (by (with_reducible repeat (first | refine blk_drewN ?_ _ | refine blk_drew ?_ | refine blk_alloc ?_ _)); exact BK638.out) hb)
                  have n3_ := Aside0.mk (blk_below (g := gb645) (o := .cells #[.bool t641, .slice Ao15 t642.length co15] 25 (0, 0)) (by (with_reducible repeat (first | refine blk_drewN ?_ _ | refine blk_drew ?_ | refine blk_alloc ?_ _)); exact BK645.out) hb)
                  have n4_ := Aside0.mk (below_step (by repeat (first | (with_reducible first | exact HB.out | apply below_alloc | apply pw_below_drewN | apply below_drew1 | refine below_set ?_ GE638.out | refine below_set ?_ GE645.out) | exact HB.out)) hb)
                  clear HO_646001
                  clear HO655
                  clear BK638
                  clear BK645
                  clear HB
                  have HO_646001 := n0_
                  have HO655 := n1_
                  have BK638 := n2_
                  have BK645 := n3_
                  have HB := n4_
                  clear n0_ n1_ n2_ n3_ n4_
                  (try clear hb)
                  refine hK.out _ _ ⟨(blk_cell BK638.out 0).trans rfl, (blk_cell BK638.out 1).trans rfl⟩ (fun hHeld => ?_)
                  clear hK K
                  refine norm_ (a' := ?_) ?_ ?_
                  rotate_left
                  · show Act.put _ (some 60) _ = _
                    simp only [Act.put, List.setIfInBounds_toArray, List.set_cons_zero, List.set_cons_succ, i64_w, i32_w]
                    rfl
                  refine one_ (i := 4) (N := some 62) #[true, true, true, true, true, false, false, false, false, false] rfl rfl (one_of HT_.out (by kernel_rfl)) (by decide) (fun K hK => ?_)
                  refine goes_ Try.func19 (by kernel_rfl) rfl #[.agg #[.bool a1_0, .slice A1_1 l1_1.length c1_1]] (by rfl) rfl rfl (by (try simp only [List.map_toArray, List.map_cons, List.map_nil]); first | done | rfl | (simp only [List.length_drop, List.length_take]; rfl)) ?_
                  with_reducible refine (offcutlaw02_of.calls kj17 a1_0 _ _ l1_1 t657 _ ?side1 ?side2 A36.out).mono ?_
                  (case side1 => repeat (first | exact (Kd.C_below HR1_1.out HB.out) | (with_reducible refine Kd.C_alloc ?_ _) | (with_reducible refine Kd.C_drewN ?_ _) | (with_reducible refine Kd.C_drew ?_)))
                  (case side2 => exact HC1_1.out)
                  rintro e w46 ⟨rfl, hb⟩
                  refine ⟨_, rfl, ?_⟩
                  have n0_ := Aside0.mk (Kd.R_below (by (with_reducible repeat (first | apply Kd.R_alloc | apply Kd.R_drewN | apply Kd.R_drew)); exact HO_646001.out) hb)
                  have n1_ := Aside0.mk (Kd.R_below (by (with_reducible repeat (first | apply Kd.R_alloc | apply Kd.R_drewN | apply Kd.R_drew)); exact HO655.out) hb)
                  have n2_ := Aside0.mk (blk_below (g := gb638) (o := .cells #[.bool a1_0, .slice A1_1 l1_1.length c1_1] 25 (0, 0)) (by (with_reducible repeat (first | refine blk_drewN ?_ _ | refine blk_drew ?_ | refine blk_alloc ?_ _)); exact BK638.out) hb)
                  have n3_ := Aside0.mk (blk_below (g := gb645) (o := .cells #[.bool t641, .slice Ao15 t642.length co15] 25 (0, 0)) (by (with_reducible repeat (first | refine blk_drewN ?_ _ | refine blk_drew ?_ | refine blk_alloc ?_ _)); exact BK645.out) hb)
                  have n4_ := Aside0.mk (below_step (by repeat (first | (with_reducible first | exact HB.out | apply below_alloc | apply pw_below_drewN | apply below_drew1 | refine below_set ?_ GE638.out | refine below_set ?_ GE645.out) | exact HB.out)) hb)
                  clear HO_646001
                  clear HO655
                  clear BK638
                  clear BK645
                  clear HB
                  have HO_646001 := n0_
                  have HO655 := n1_
                  have BK638 := n2_
                  have BK645 := n3_
                  have HB := n4_
                  clear n0_ n1_ n2_ n3_ n4_
                  (try clear hb)
                  refine hK.out _ _ ⟨(blk_cell BK638.out 0).trans rfl, (blk_cell BK638.out 1).trans rfl⟩ (fun hHeld => ?_)
                  clear hK K
                  refine norm_ (a' := ?_) ?_ ?_
                  rotate_left
                  · show Act.put _ (some 62) _ = _
                    simp only [Act.put, List.setIfInBounds_toArray, List.set_cons_zero, List.set_cons_succ, i64_w, i32_w]
                    rfl
                  refine pure_ (i := 5) (N := some 63) (v := ?_) (a' := ?_) #[true, true, true, true, true, true, false, false, false, false] rfl rfl (any_of HT_.out (by kernel_rfl)) (fun _ _ _ h => h) (Or.inl ⟨by rfl, ?_⟩) ?_ ?_
                  rotate_left
                  · intro w'
                    go_simp
                    with_reducible rfl
                  rotate_left
                  · simp only [Act.put, List.setIfInBounds_toArray, List.set_cons_zero, List.set_cons_succ, i64_w, i32_w]
                    rfl
                  refine pure_ (i := 6) (N := some 64) (v := ?_) (a' := ?_) #[true, true, true, true, true, true, true, false, false, false] rfl rfl (any_of HT_.out (by kernel_rfl)) (fun _ _ _ h => h) (Or.inl ⟨by rfl, ?_⟩) ?_ ?_
                  rotate_left
                  · intro w'
                    go_simp
                    with_reducible rfl
                  rotate_left
                  · simp only [Act.put, List.setIfInBounds_toArray, List.set_cons_zero, List.set_cons_succ, i64_w, i32_w]
                    rfl
                  refine one_ (i := 7) (N := some 65) #[true, true, true, true, true, true, true, true, false, false] rfl rfl (one_of HT_.out (by kernel_rfl)) (by decide) (fun K hK => ?_)
                  refine goes_ Try.func18 (by kernel_rfl) rfl #[] (by rfl) rfl rfl (by (try simp only [List.map_toArray, List.map_cons, List.map_nil]); first | done | rfl | (simp only [List.length_drop, List.length_take]; rfl)) ?_
                  with_reducible refine (offcutlaw02_awake.calls kj17  t658 _ HRT.out A38.out).mono ?_
                  rintro e w47 ⟨rfl, hb⟩
                  refine ⟨_, rfl, ?_⟩
                  have n0_ := Aside0.mk (Kd.R_below (by (with_reducible repeat (first | apply Kd.R_alloc | apply Kd.R_drewN | apply Kd.R_drew)); exact HO_646001.out) hb)
                  have n1_ := Aside0.mk (Kd.R_below (by (with_reducible repeat (first | apply Kd.R_alloc | apply Kd.R_drewN | apply Kd.R_drew)); exact HO655.out) hb)
                  have n2_ := Aside0.mk (blk_below (g := gb638) (o := .cells #[.bool a1_0, .slice A1_1 l1_1.length c1_1] 25 (0, 0)) (by (with_reducible repeat (first | refine blk_drewN ?_ _ | refine blk_drew ?_ | refine blk_alloc ?_ _)); exact BK638.out) hb)
                  have n3_ := Aside0.mk (blk_below (g := gb645) (o := .cells #[.bool t641, .slice Ao15 t642.length co15] 25 (0, 0)) (by (with_reducible repeat (first | refine blk_drewN ?_ _ | refine blk_drew ?_ | refine blk_alloc ?_ _)); exact BK645.out) hb)
                  have n4_ := Aside0.mk (below_step (by repeat (first | (with_reducible first | exact HB.out | apply below_alloc | apply pw_below_drewN | apply below_drew1 | refine below_set ?_ GE638.out | refine below_set ?_ GE645.out) | exact HB.out)) hb)
                  clear HO_646001
                  clear HO655
                  clear BK638
                  clear BK645
                  clear HB
                  have HO_646001 := n0_
                  have HO655 := n1_
                  have BK638 := n2_
                  have BK645 := n3_
                  have HB := n4_
                  clear n0_ n1_ n2_ n3_ n4_
                  (try clear hb)
                  refine hK.out _ _ ⟨(blk_cell BK638.out 0).trans rfl, (blk_cell BK638.out 1).trans rfl⟩ (fun hHeld => ?_)
                  clear hK K
                  refine norm_ (a' := ?_) ?_ ?_
                  rotate_left
                  · show Act.put _ (some 65) _ = _
                    simp only [Act.put, List.setIfInBounds_toArray, List.set_cons_zero, List.set_cons_succ, i64_w, i32_w]
                    rfl
                  refine pure_ (i := 8) (N := some 66) (v := ?_) (a' := ?_) #[true, true, true, true, true, true, true, true, true, false] rfl rfl (any_of HT_.out (by kernel_rfl)) (fun _ _ _ h => h) (Or.inl ⟨by rfl, ?_⟩) ?_ ?_
                  rotate_left
                  · intro w'
                    go_simp
                    with_reducible rfl
                  rotate_left
                  · simp only [Act.put, List.setIfInBounds_toArray, List.set_cons_zero, List.set_cons_succ, i64_w, i32_w]
                    rfl
                  refine pure_ (i := 9) (N := some 4) (v := ?_) (a' := ?_) #[true, true, true, true, true, true, true, true, true, true] rfl rfl (any_of HT_.out (by kernel_rfl)) (fun _ _ _ h => h) (Or.inl ⟨by rfl, ?_⟩) ?_ ?_
                  rotate_left
                  · intro w'
                    go_simp
                    with_reducible rfl
                  rotate_left
                  · simp only [Act.put, List.setIfInBounds_toArray, List.set_cons_zero, List.set_cons_succ, i64_w, i32_w]
                    rfl
                  refine done_ (done_of HT_.out (by kernel_rfl)) ?_
                  try go_wp2
                  go_ret
                  exact ⟨by first | rfl | (simp [errW_none, errW_some] <;> rfl) | (simp [*, errW_none, errW_some] <;> rfl), by repeat (first | (with_reducible first | exact HB.out | apply below_alloc | apply pw_below_drewN | apply below_drew1 | refine below_set ?_ GE638.out | refine below_set ?_ GE645.out) | exact HB.out)⟩
                · rw [if_neg c37] at H
                  have c37b0 : (t656.toList == t657.toList) = false := beq_eq_false_iff_ne.mpr c37
                  have c37b1 : (t656.toList != t657.toList) = true := bne_iff_ne.mpr c37
                  obtain rfl := Option.some.inj H
                  exact absurd HRT.out (by decide)
              · replace c33 := Bool.eq_false_iff.mpr c33
                subst c33
                have H1 : (if t650 = 0 then ((offcutlaw02_of.f kj17 a1_0 l1_1).bind fun t659 => ((offcutref02_Less.f kj17 t659 (⟨#[52, 54, 49, 49, 54, 56, 54, 48, 49, 56, 52, 50, 55, 51, 56, 55, 57, 48, 52]⟩ : ByteArray)).bind fun t660 => (if t660 = true then ((offcutlaw02_of.f kj17 a1_0 l1_1).bind fun t661 => ((offcutref02_Less.f kj17 t661 (⟨#[45, 52, 54, 49, 49, 54, 56, 54, 48, 49, 56, 52, 50, 55, 51, 56, 55, 57, 48, 52]⟩ : ByteArray)).bind fun t662 => (if t662 = true then ((offcutlaw02_awake.f kj17).bind fun t663 => (some t663)) else (some false)))) else ((offcutlaw02_awake.f kj17).bind fun t664 => (some t664))))) else (some false)) = some r := by rw [if_neg (show ¬ (false = true) by decide)] at H; exact H
                clear H
                have H := H1
                clear H1
                by_cases c56 : t650 = 0
                · rw [if_pos c56] at H
                  have c56b0 : (t650 == 0) = true := beq_iff_eq.mpr c56
                  have c56b1 : (t650 != 0) = false := bne_eq_false_iff_eq.mpr c56
                  clear c56
                  replace H := Option.bind_eq_some_iff.mp H
                  obtain ⟨t659, A570, H⟩ := H
                  replace H : ((offcutref02_Less.f kj17 t659 (⟨#[52, 54, 49, 49, 54, 56, 54, 48, 49, 56, 52, 50, 55, 51, 56, 55, 57, 48, 52]⟩ : ByteArray)).bind fun t660 => (if t660 = true then ((offcutlaw02_of.f kj17 a1_0 l1_1).bind fun t661 => ((offcutref02_Less.f kj17 t661 (⟨#[45, 52, 54, 49, 49, 54, 56, 54, 48, 49, 56, 52, 50, 55, 51, 56, 55, 57, 48, 52]⟩ : ByteArray)).bind fun t662 => (if t662 = true then ((offcutlaw02_awake.f kj17).bind fun t663 => (some t663)) else (some false)))) else ((offcutlaw02_awake.f kj17).bind fun t664 => (some t664)))) = some r := H
                  have A57 := Aside0.mk A570
                  clear A570
                  replace H := Option.bind_eq_some_iff.mp H
                  obtain ⟨t660, A580, H⟩ := H
                  replace H : (if t660 = true then ((offcutlaw02_of.f kj17 a1_0 l1_1).bind fun t661 => ((offcutref02_Less.f kj17 t661 (⟨#[45, 52, 54, 49, 49, 54, 56, 54, 48, 49, 56, 52, 50, 55, 51, 56, 55, 57, 48, 52]⟩ : ByteArray)).bind fun t662 => (if t662 = true then ((offcutlaw02_awake.f kj17).bind fun t663 => (some t663)) else (some false)))) else ((offcutlaw02_awake.f kj17).bind fun t664 => (some t664))) = some r := H
                  have A58 := Aside0.mk A580
                  clear A580
                  by_cases c59 : t660 = true
                  · subst c59
                    have H1 : ((offcutlaw02_of.f kj17 a1_0 l1_1).bind fun t661 => ((offcutref02_Less.f kj17 t661 (⟨#[45, 52, 54, 49, 49, 54, 56, 54, 48, 49, 56, 52, 50, 55, 51, 56, 55, 57, 48, 52]⟩ : ByteArray)).bind fun t662 => (if t662 = true then ((offcutlaw02_awake.f kj17).bind fun t663 => (some t663)) else (some false)))) = some r := by rw [if_pos rfl] at H; exact H
                    clear H
                    have H := H1
                    clear H1
                    replace H := Option.bind_eq_some_iff.mp H
                    obtain ⟨t661, A600, H⟩ := H
                    replace H : ((offcutref02_Less.f kj17 t661 (⟨#[45, 52, 54, 49, 49, 54, 56, 54, 48, 49, 56, 52, 50, 55, 51, 56, 55, 57, 48, 52]⟩ : ByteArray)).bind fun t662 => (if t662 = true then ((offcutlaw02_awake.f kj17).bind fun t663 => (some t663)) else (some false))) = some r := H
                    have A60 := Aside0.mk A600
                    clear A600
                    replace H := Option.bind_eq_some_iff.mp H
                    obtain ⟨t662, A610, H⟩ := H
                    replace H : (if t662 = true then ((offcutlaw02_awake.f kj17).bind fun t663 => (some t663)) else (some false)) = some r := H
                    have A61 := Aside0.mk A610
                    clear A610
                    by_cases c62 : t662 = true
                    · subst c62
                      have H1 : ((offcutlaw02_awake.f kj17).bind fun t663 => (some t663)) = some r := by rw [if_pos rfl] at H; exact H
                      clear H
                      have H := H1
                      clear H1
                      replace H := Option.bind_eq_some_iff.mp H
                      obtain ⟨t663, A630, H⟩ := H
                      replace H : (some t663) = some r := H
                      have A63 := Aside0.mk A630
                      clear A630
                      obtain rfl := Option.some.inj H
                      have hnb64 := NB638_645.out
                      have hnc64 := NB645_638.out
                      have hcz65_0 : wc.cell? ⟨gb638, 0, none⟩ = some (.bool a1_0) := (blk_cell BK638.out 0).trans rfl
                      have hcz65_1 : wc.cell? ⟨gb638, 1, none⟩ = some (.slice A1_1 l1_1.length c1_1) := (blk_cell BK638.out 1).trans rfl
                      have hfz65_0 := blk_frozen BK638.out 0
                      have hfz65_1 := blk_frozen BK638.out 1
                      go_wp2_with (first | ((with_reducible refine gate_callee (f := 38) rfl ?_); refine goesL_ (some 54) rfl rfl Try.func38 (by kernel_rfl) rfl #[.agg #[.bool a1_0, .slice A1_1 l1_1.length c1_1]] rfl (by (try simp only [List.map_toArray, List.map_cons, List.map_nil]); first | done | rfl | (simp only [List.length_drop, List.length_take]; rfl)) ?_; (with_reducible refine (whole_Small.calls kj17 a1_0 _ _ l1_1 t650 false _ ?side1 ?side2 A32.out).mono ?_); (case side1 => repeat (first | exact (Kd.C_below HR1_1.out HB.out) | (with_reducible refine Kd.C_alloc ?_ _) | (with_reducible refine Kd.C_drewN ?_ _) | (with_reducible refine Kd.C_drew ?_))); (case side2 => exact HC1_1.out); rintro e w66 ⟨rfl, hb⟩; refine ⟨_, rfl, ?_⟩; have n0_ := Aside0.mk (Kd.R_below (by (with_reducible repeat (first | apply Kd.R_alloc | apply Kd.R_drewN | apply Kd.R_drew)); exact HO_646001.out) hb); have n1_ := Aside0.mk (blk_below (g := gb638) (o := .cells #[.bool a1_0, .slice A1_1 l1_1.length c1_1] 25 (0, 0)) (by (with_reducible repeat (first | refine blk_drewN ?_ _ | refine blk_drew ?_ | refine blk_alloc ?_ _)); exact BK638.out) hb); have n2_ := Aside0.mk (blk_below (g := gb645) (o := .cells #[.bool t641, .slice Ao15 t642.length co15] 25 (0, 0)) (by (with_reducible repeat (first | refine blk_drewN ?_ _ | refine blk_drew ?_ | refine blk_alloc ?_ _)); exact BK645.out) hb); have n3_ := Aside0.mk (below_step (by repeat (first | (with_reducible first | exact HB.out | apply below_alloc | apply pw_below_drewN | apply below_drew1 | refine below_set ?_ GE638.out | refine below_set ?_ GE645.out) | exact HB.out)) hb); clear HO_646001; clear BK638; clear BK645; clear HB; have HO_646001 := n0_; have BK638 := n1_; have BK645 := n2_; have HB := n3_; clear n0_ n1_ n2_ n3_; (try clear hb); have hcz67_0 : w66.cell? ⟨gb638, 0, none⟩ = some (.bool a1_0) := (blk_cell BK638.out 0).trans rfl; have hcz67_1 : w66.cell? ⟨gb638, 1, none⟩ = some (.slice A1_1 l1_1.length c1_1) := (blk_cell BK638.out 1).trans rfl; have hfz67_0 := blk_frozen BK638.out 0; have hfz67_1 := blk_frozen BK638.out 1) | (go_at_call 19; (with_reducible refine (offcutlaw02_of.calls kj17 a1_0 _ _ l1_1 t659 _ ?side1 ?side2 A57.out).mono ?_); (all_goals clear A57); (case side1 => repeat (first | exact (Kd.C_below HR1_1.out HB.out) | (with_reducible refine Kd.C_alloc ?_ _) | (with_reducible refine Kd.C_drewN ?_ _) | (with_reducible refine Kd.C_drew ?_))); (case side2 => exact HC1_1.out); rintro e w68 ⟨rfl, hb⟩; have n0_ := Aside0.mk (Kd.R_below (by (with_reducible repeat (first | apply Kd.R_alloc | apply Kd.R_drewN | apply Kd.R_drew)); exact HO_646001.out) hb); have n1_ := Aside0.mk (blk_below (g := gb638) (o := .cells #[.bool a1_0, .slice A1_1 l1_1.length c1_1] 25 (0, 0)) (by (with_reducible repeat (first | refine blk_drewN ?_ _ | refine blk_drew ?_ | refine blk_alloc ?_ _)); exact BK638.out) hb); have n2_ := Aside0.mk (blk_below (g := gb645) (o := .cells #[.bool t641, .slice Ao15 t642.length co15] 25 (0, 0)) (by (with_reducible repeat (first | refine blk_drewN ?_ _ | refine blk_drew ?_ | refine blk_alloc ?_ _)); exact BK645.out) hb); have n3_ := Aside0.mk (below_step (by repeat (first | (with_reducible first | exact HB.out | apply below_alloc | apply pw_below_drewN | apply below_drew1 | refine below_set ?_ GE638.out | refine below_set ?_ GE645.out) | exact HB.out)) hb); clear HO_646001; clear BK638; clear BK645; clear HB; have HO_646001 := n0_; have BK638 := n1_; have BK645 := n2_; have HB := n3_; clear n0_ n1_ n2_ n3_; (try clear hb)) | (go_at_call 28; (with_reducible refine (offcutref02_Less.calls kj17 t659 (⟨#[52, 54, 49, 49, 54, 56, 54, 48, 49, 56, 52, 50, 55, 51, 56, 55, 57, 48, 52]⟩ : ByteArray) true _ A58.out).mono ?_); rintro e w' ⟨rfl, ⟨nd, rfl⟩⟩; have hcz69_0 : w68.cell? ⟨gb638, 0, none⟩ = some (.bool a1_0) := (blk_cell BK638.out 0).trans rfl; have hcz69_1 : w68.cell? ⟨gb638, 1, none⟩ = some (.slice A1_1 l1_1.length c1_1) := (blk_cell BK638.out 1).trans rfl; have hfz69_0 := blk_frozen BK638.out 0; have hfz69_1 := blk_frozen BK638.out 1) | (go_at_call 19; (with_reducible refine (offcutlaw02_of.calls kj17 a1_0 _ _ l1_1 t661 _ ?side1 ?side2 A60.out).mono ?_); (case side1 => repeat (first | exact (Kd.C_below HR1_1.out (by repeat (first | (with_reducible first | exact HB.out | apply below_alloc | apply pw_below_drewN | apply below_drew1 | refine below_set ?_ GE638.out | refine below_set ?_ GE645.out) | exact HB.out))) | (with_reducible refine Kd.C_alloc ?_ _) | (with_reducible refine Kd.C_drewN ?_ _) | (with_reducible refine Kd.C_drew ?_))); (case side2 => exact HC1_1.out); rintro e w70 ⟨rfl, hb⟩; have n0_ := Aside0.mk (Kd.R_below (by (with_reducible repeat (first | apply Kd.R_alloc | apply Kd.R_drewN | apply Kd.R_drew)); exact HO_646001.out) hb); have n1_ := Aside0.mk (blk_below (g := gb638) (o := .cells #[.bool a1_0, .slice A1_1 l1_1.length c1_1] 25 (0, 0)) (by (with_reducible repeat (first | refine blk_drewN ?_ _ | refine blk_drew ?_ | refine blk_alloc ?_ _)); exact BK638.out) hb); have n2_ := Aside0.mk (blk_below (g := gb645) (o := .cells #[.bool t641, .slice Ao15 t642.length co15] 25 (0, 0)) (by (with_reducible repeat (first | refine blk_drewN ?_ _ | refine blk_drew ?_ | refine blk_alloc ?_ _)); exact BK645.out) hb); have n3_ := Aside0.mk (below_step (by repeat (first | (with_reducible first | exact HB.out | apply below_alloc | apply pw_below_drewN | apply below_drew1 | refine below_set ?_ GE638.out | refine below_set ?_ GE645.out) | exact HB.out)) hb); clear HO_646001; clear BK638; clear BK645; clear HB; have HO_646001 := n0_; have BK638 := n1_; have BK645 := n2_; have HB := n3_; clear n0_ n1_ n2_ n3_; (try clear hb)) | (go_at_call 28; (with_reducible refine (offcutref02_Less.calls kj17 t661 (⟨#[45, 52, 54, 49, 49, 54, 56, 54, 48, 49, 56, 52, 50, 55, 51, 56, 55, 57, 48, 52]⟩ : ByteArray) true _ A61.out).mono ?_); rintro e w' ⟨rfl, ⟨nd, rfl⟩⟩) | (go_at_call 18; (with_reducible refine (offcutlaw02_awake.calls kj17  t663 _ HRT.out A63.out).mono ?_); rintro e w71 ⟨rfl, hb⟩; have n0_ := Aside0.mk (Kd.R_below (by (with_reducible repeat (first | apply Kd.R_alloc | apply Kd.R_drewN | apply Kd.R_drew)); exact HO_646001.out) hb); have n1_ := Aside0.mk (blk_below (g := gb638) (o := .cells #[.bool a1_0, .slice A1_1 l1_1.length c1_1] 25 (0, 0)) (by (with_reducible repeat (first | refine blk_drewN ?_ _ | refine blk_drew ?_ | refine blk_alloc ?_ _)); exact BK638.out) hb); have n2_ := Aside0.mk (blk_below (g := gb645) (o := .cells #[.bool t641, .slice Ao15 t642.length co15] 25 (0, 0)) (by (with_reducible repeat (first | refine blk_drewN ?_ _ | refine blk_drew ?_ | refine blk_alloc ?_ _)); exact BK645.out) hb); have n3_ := Aside0.mk (below_step (by repeat (first | (with_reducible first | exact HB.out | apply below_alloc | apply pw_below_drewN | apply below_drew1 | refine below_set ?_ GE638.out | refine below_set ?_ GE645.out) | exact HB.out)) hb); clear HO_646001; clear BK638; clear BK645; clear HB; have HO_646001 := n0_; have BK638 := n1_; have BK645 := n2_; have HB := n3_; clear n0_ n1_ n2_ n3_; (try clear hb)))
                      go_ret
                      exact ⟨by first | rfl | (simp [errW_none, errW_some] <;> rfl) | (simp [*, errW_none, errW_some] <;> rfl), by repeat (first | (with_reducible first | exact HB.out | apply below_alloc | apply pw_below_drewN | apply below_drew1 | refine below_set ?_ GE638.out | refine below_set ?_ GE645.out) | exact HB.out)⟩
                    · replace c62 := Bool.eq_false_iff.mpr c62
                      subst c62
                      have H1 : (some false) = some r := by rw [if_neg (show ¬ (false = true) by decide)] at H; exact H
                      clear H
                      have H := H1
                      clear H1
                      obtain rfl := Option.some.inj H
                      exact absurd HRT.out (by decide)
                  · replace c59 := Bool.eq_false_iff.mpr c59
                    subst c59
                    have H1 : ((offcutlaw02_awake.f kj17).bind fun t664 => (some t664)) = some r := by rw [if_neg (show ¬ (false = true) by decide)] at H; exact H
                    clear H
                    have H := H1
                    clear H1
                    replace H := Option.bind_eq_some_iff.mp H
                    obtain ⟨t664, A790, H⟩ := H
                    replace H : (some t664) = some r := H
                    have A79 := Aside0.mk A790
                    clear A790
                    obtain rfl := Option.some.inj H
                    have hnb80 := NB638_645.out
                    have hnc80 := NB645_638.out
                    have hcz81_0 : wc.cell? ⟨gb638, 0, none⟩ = some (.bool a1_0) := (blk_cell BK638.out 0).trans rfl
                    have hcz81_1 : wc.cell? ⟨gb638, 1, none⟩ = some (.slice A1_1 l1_1.length c1_1) := (blk_cell BK638.out 1).trans rfl
                    have hfz81_0 := blk_frozen BK638.out 0
                    have hfz81_1 := blk_frozen BK638.out 1
                    go_wp2_with (first | ((with_reducible refine gate_callee (f := 38) rfl ?_); refine goesL_ (some 54) rfl rfl Try.func38 (by kernel_rfl) rfl #[.agg #[.bool a1_0, .slice A1_1 l1_1.length c1_1]] rfl (by (try simp only [List.map_toArray, List.map_cons, List.map_nil]); first | done | rfl | (simp only [List.length_drop, List.length_take]; rfl)) ?_; (with_reducible refine (whole_Small.calls kj17 a1_0 _ _ l1_1 t650 false _ ?side1 ?side2 A32.out).mono ?_); (case side1 => repeat (first | exact (Kd.C_below HR1_1.out HB.out) | (with_reducible refine Kd.C_alloc ?_ _) | (with_reducible refine Kd.C_drewN ?_ _) | (with_reducible refine Kd.C_drew ?_))); (case side2 => exact HC1_1.out); rintro e w82 ⟨rfl, hb⟩; refine ⟨_, rfl, ?_⟩; have n0_ := Aside0.mk (Kd.R_below (by (with_reducible repeat (first | apply Kd.R_alloc | apply Kd.R_drewN | apply Kd.R_drew)); exact HO_646001.out) hb); have n1_ := Aside0.mk (blk_below (g := gb638) (o := .cells #[.bool a1_0, .slice A1_1 l1_1.length c1_1] 25 (0, 0)) (by (with_reducible repeat (first | refine blk_drewN ?_ _ | refine blk_drew ?_ | refine blk_alloc ?_ _)); exact BK638.out) hb); have n2_ := Aside0.mk (blk_below (g := gb645) (o := .cells #[.bool t641, .slice Ao15 t642.length co15] 25 (0, 0)) (by (with_reducible repeat (first | refine blk_drewN ?_ _ | refine blk_drew ?_ | refine blk_alloc ?_ _)); exact BK645.out) hb); have n3_ := Aside0.mk (below_step (by repeat (first | (with_reducible first | exact HB.out | apply below_alloc | apply pw_below_drewN | apply below_drew1 | refine below_set ?_ GE638.out | refine below_set ?_ GE645.out) | exact HB.out)) hb); clear HO_646001; clear BK638; clear BK645; clear HB; have HO_646001 := n0_; have BK638 := n1_; have BK645 := n2_; have HB := n3_; clear n0_ n1_ n2_ n3_; (try clear hb); have hcz83_0 : w82.cell? ⟨gb638, 0, none⟩ = some (.bool a1_0) := (blk_cell BK638.out 0).trans rfl; have hcz83_1 : w82.cell? ⟨gb638, 1, none⟩ = some (.slice A1_1 l1_1.length c1_1) := (blk_cell BK638.out 1).trans rfl; have hfz83_0 := blk_frozen BK638.out 0; have hfz83_1 := blk_frozen BK638.out 1) | (go_at_call 19; (with_reducible refine (offcutlaw02_of.calls kj17 a1_0 _ _ l1_1 t659 _ ?side1 ?side2 A57.out).mono ?_); (case side1 => repeat (first | exact (Kd.C_below HR1_1.out HB.out) | (with_reducible refine Kd.C_alloc ?_ _) | (with_reducible refine Kd.C_drewN ?_ _) | (with_reducible refine Kd.C_drew ?_))); (case side2 => exact HC1_1.out); rintro e w84 ⟨rfl, hb⟩; have n0_ := Aside0.mk (Kd.R_below (by (with_reducible repeat (first | apply Kd.R_alloc | apply Kd.R_drewN | apply Kd.R_drew)); exact HO_646001.out) hb); have n1_ := Aside0.mk (blk_below (g := gb638) (o := .cells #[.bool a1_0, .slice A1_1 l1_1.length c1_1] 25 (0, 0)) (by (with_reducible repeat (first | refine blk_drewN ?_ _ | refine blk_drew ?_ | refine blk_alloc ?_ _)); exact BK638.out) hb); have n2_ := Aside0.mk (blk_below (g := gb645) (o := .cells #[.bool t641, .slice Ao15 t642.length co15] 25 (0, 0)) (by (with_reducible repeat (first | refine blk_drewN ?_ _ | refine blk_drew ?_ | refine blk_alloc ?_ _)); exact BK645.out) hb); have n3_ := Aside0.mk (below_step (by repeat (first | (with_reducible first | exact HB.out | apply below_alloc | apply pw_below_drewN | apply below_drew1 | refine below_set ?_ GE638.out | refine below_set ?_ GE645.out) | exact HB.out)) hb); clear HO_646001; clear BK638; clear BK645; clear HB; have HO_646001 := n0_; have BK638 := n1_; have BK645 := n2_; have HB := n3_; clear n0_ n1_ n2_ n3_; (try clear hb)) | (go_at_call 28; (with_reducible refine (offcutref02_Less.calls kj17 t659 (⟨#[52, 54, 49, 49, 54, 56, 54, 48, 49, 56, 52, 50, 55, 51, 56, 55, 57, 48, 52]⟩ : ByteArray) false _ A58.out).mono ?_); rintro e w' ⟨rfl, ⟨nd, rfl⟩⟩) | (go_at_call 18; (with_reducible refine (offcutlaw02_awake.calls kj17  t664 _ HRT.out A79.out).mono ?_); rintro e w85 ⟨rfl, hb⟩; have n0_ := Aside0.mk (Kd.R_below (by (with_reducible repeat (first | apply Kd.R_alloc | apply Kd.R_drewN | apply Kd.R_drew)); exact HO_646001.out) hb); have n1_ := Aside0.mk (blk_below (g := gb638) (o := .cells #[.bool a1_0, .slice A1_1 l1_1.length c1_1] 25 (0, 0)) (by (with_reducible repeat (first | refine blk_drewN ?_ _ | refine blk_drew ?_ | refine blk_alloc ?_ _)); exact BK638.out) hb); have n2_ := Aside0.mk (blk_below (g := gb645) (o := .cells #[.bool t641, .slice Ao15 t642.length co15] 25 (0, 0)) (by (with_reducible repeat (first | refine blk_drewN ?_ _ | refine blk_drew ?_ | refine blk_alloc ?_ _)); exact BK645.out) hb); have n3_ := Aside0.mk (below_step (by repeat (first | (with_reducible first | exact HB.out | apply below_alloc | apply pw_below_drewN | apply below_drew1 | refine below_set ?_ GE638.out | refine below_set ?_ GE645.out) | exact HB.out)) hb); clear HO_646001; clear BK638; clear BK645; clear HB; have HO_646001 := n0_; have BK638 := n1_; have BK645 := n2_; have HB := n3_; clear n0_ n1_ n2_ n3_; (try clear hb)))
                    go_ret
                    exact ⟨by first | rfl | (simp [errW_none, errW_some] <;> rfl) | (simp [*, errW_none, errW_some] <;> rfl), by repeat (first | (with_reducible first | exact HB.out | apply below_alloc | apply pw_below_drewN | apply below_drew1 | refine below_set ?_ GE638.out | refine below_set ?_ GE645.out) | exact HB.out)⟩
                · rw [if_neg c56] at H
                  have c56b0 : (t650 == 0) = false := beq_eq_false_iff_ne.mpr c56
                  have c56b1 : (t650 != 0) = true := bne_iff_ne.mpr c56
                  obtain rfl := Option.some.inj H
                  exact absurd HRT.out (by decide)
  · replace c4 := Bool.eq_false_iff.mpr c4
    subst c4
    have H1 : ((offcutlaw02_awake.f k).bind fun t640 => (some t640)) = some r := by rw [if_neg (show ¬ (false = true) by decide)] at H; exact H
    clear H
    have H := H1
    clear H1
    replace H := Option.bind_eq_some_iff.mp H
    obtain ⟨t640, A890, H⟩ := H
    replace H : (some t640) = some r := H
    have A89 := Aside0.mk A890
    clear A890
    obtain rfl := Option.some.inj H
    go_enter Try.func8, Try.ntmps8
    go_wp2_with (first | ((with_reducible refine gate_dst (N := 3) rfl ?_); refine box_event ?hg (N := 3) ?hd (cs := #[.bool a1_0, .slice A1_1 l1_1.length c1_1]) (t := 25) ?hr ?_; (case hd => rfl); (case hg => rfl); (case hr => first | (go_simp; done) | (go_simp; rfl)); intro gb638 hg w90 hbox hb; have n0_ := Aside0.mk (below_step (by repeat (first | (with_reducible first | exact HB.out | apply below_alloc | apply pw_below_drewN | apply below_drew1) | exact HB.out)) hb); have n1_ := Aside0.mk (hbox); have n2_ := Aside0.mk ((by rw [hg]; exact (below_size (by repeat (first | (with_reducible first | exact HB.out | apply below_alloc | apply pw_below_drewN | apply below_drew1) | exact HB.out))) : w.heap.size ≤ gb638)); have n3_ := Aside0.mk ((by rw [hg]; exact (below_size (by repeat (first | (with_reducible first | exact HB.out | apply below_alloc | apply pw_below_drewN | apply below_drew1) | exact HB.out))) : w.heap.size ≤ gb638)); clear HB; have HB := n0_; have BK638 := n1_; have GW638 := n2_; have GE638 := n3_; clear n0_ n1_ n2_ n3_; clear hb hbox hg; have hcz91_0 : w90.cell? ⟨gb638, 0, none⟩ = some (.bool a1_0) := (blk_cell BK638.out 0).trans rfl; have hcz91_1 : w90.cell? ⟨gb638, 1, none⟩ = some (.slice A1_1 l1_1.length c1_1) := (blk_cell BK638.out 1).trans rfl; have hfz91_0 := blk_frozen BK638.out 0; have hfz91_1 := blk_frozen BK638.out 1) | ((with_reducible refine gate_callee (f := 17) rfl ?_); refine goesL_ (some 12) rfl rfl Try.func17 (by kernel_rfl) rfl #[.agg #[.bool a1_0, .slice A1_1 l1_1.length c1_1]] rfl (by (try simp only [List.map_toArray, List.map_cons, List.map_nil]); first | done | rfl | (simp only [List.length_drop, List.length_take]; rfl)) ?_; (with_reducible refine (offcutlaw02_few.calls a1_0 _ _ l1_1 false _ ?side1 ?side2 A3.out).mono ?_); (case side1 => repeat (first | exact (Kd.C_below HR1_1.out HB.out) | (with_reducible refine Kd.C_alloc ?_ _) | (with_reducible refine Kd.C_drewN ?_ _) | (with_reducible refine Kd.C_drew ?_))); (case side2 => exact HC1_1.out); rintro e w92 ⟨rfl, hb⟩; refine ⟨_, rfl, ?_⟩; have n0_ := Aside0.mk (blk_below (g := gb638) (o := .cells #[.bool a1_0, .slice A1_1 l1_1.length c1_1] 25 (0, 0)) (by (with_reducible repeat (first | refine blk_drewN ?_ _ | refine blk_drew ?_ | refine blk_alloc ?_ _)); exact BK638.out) hb); have n1_ := Aside0.mk (below_step (by repeat (first | (with_reducible first | exact HB.out | apply below_alloc | apply pw_below_drewN | apply below_drew1 | refine below_set ?_ GE638.out) | exact HB.out)) hb); clear BK638; clear HB; have BK638 := n0_; have HB := n1_; clear n0_ n1_; (try clear hb)) | ((with_reducible refine gate_callee (f := 18) rfl ?_); refine goesL_ (some 14) rfl rfl Try.func18 (by kernel_rfl) rfl #[] rfl (by (try simp only [List.map_toArray, List.map_cons, List.map_nil]); first | done | rfl | (simp only [List.length_drop, List.length_take]; rfl)) ?_; (with_reducible refine (offcutlaw02_awake.calls k  t640 _ HRT.out A89.out).mono ?_); rintro e w93 ⟨rfl, hb⟩; refine ⟨_, rfl, ?_⟩; have n0_ := Aside0.mk (blk_below (g := gb638) (o := .cells #[.bool a1_0, .slice A1_1 l1_1.length c1_1] 25 (0, 0)) (by (with_reducible repeat (first | refine blk_drewN ?_ _ | refine blk_drew ?_ | refine blk_alloc ?_ _)); exact BK638.out) hb); have n1_ := Aside0.mk (below_step (by repeat (first | (with_reducible first | exact HB.out | apply below_alloc | apply pw_below_drewN | apply below_drew1 | refine below_set ?_ GE638.out) | exact HB.out)) hb); clear BK638; clear HB; have BK638 := n0_; have HB := n1_; clear n0_ n1_; (try clear hb)))
    go_ret
    exact ⟨by first | rfl | (simp [errW_none, errW_some] <;> rfl) | (simp [*, errW_none, errW_some] <;> rfl), by repeat (first | (with_reducible first | exact HB.out | apply below_alloc | apply pw_below_drewN | apply below_drew1 | refine below_set ?_ GE638.out) | exact HB.out)⟩

end Go.Proofs.Ytjpkljkkcbaohaa.PR
