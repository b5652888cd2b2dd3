import Derived.Test.YtjpkljkkcbaohaaPRg0
import Derived.Test.YtjpkljkkcbaohaaPRg28
import Derived.Test.YtjpkljkkcbaohaaPRg32
import Derived.Test.YtjpkljkkcbaohaaPRg58
namespace Go.Proofs.Ytjpkljkkcbaohaa.PR
open Go.RowKit Go.Proofs.YtjpkljkkcbaohaaW.PrintWords Go.Proofs.YtjpkljkkcbaohaaW.PrintLast Go.Proofs.YtjpkljkkcbaohaaW.PrintMore
attribute [local go_sem] max2_int min2_int max_two min_two max_three min_three max_four min_four   -- for this text's walks alone
set_option linter.unusedVariables false
set_option linter.unusedSimpArgs false

/-! ### offcutlaw02_WholeTexts: function 9 -/
mutual
def offcutlaw02_WholeTexts.j0 : Nat → ByteArray → Bool → Bool → List Int → Option (Bool)
  | 0, _, _, _, _ => none
  | k + 1, x1, x21, x693000, x693001 => if x21 = true then ((offcutlaw02_awake.f k).bind fun t694 => (some t694)) else ((whole_Text.f k x693000 x693001).bind fun t695 => ((whole_Parse.f k t695).bind fun bt696 => ((offcutlaw02_of.f k x693000 x693001).bind fun t702 => (if t695.toList = t702.toList then ((offcutlaw02_is.f k bt696.1 bt696.2.1 t695).bind fun t703 => (if t703 = true then (offcutlaw02_WholeTexts.j1 k x1 (bt696.2.2 != 0)) else (offcutlaw02_WholeTexts.j1 k x1 true))) else (offcutlaw02_WholeTexts.j1 k x1 true)))))
def offcutlaw02_WholeTexts.j1 : Nat → ByteArray → Bool → Option (Bool)
  | 0, _, _ => none
  | k + 1, x1, x43 => if x43 = true then (some false) else (if x1.toList = ([] : List UInt8) then (offcutlaw02_WholeTexts.j2 k x1 x1 false false) else (if 0 < (x1.size : Int) then (offcutlaw02_WholeTexts.j2 k x1 x1 false ((bt x1 0) == 45)) else (none)))
def offcutlaw02_WholeTexts.j2 : Nat → ByteArray → ByteArray → Bool → Bool → Option (Bool)
  | 0, _, _, _, _ => none
  | k + 1, x1, x8, x9, x51 => if x51 = true then (if 1 ≤ (x1.size : Int) then (offcutlaw02_WholeTexts.j3 k x1 (x1.extract 1 x1.size) true) else (none)) else (offcutlaw02_WholeTexts.j3 k x1 x8 x9)
def offcutlaw02_WholeTexts.j3 : Nat → ByteArray → ByteArray → Bool → Option (Bool)
  | 0, _, _, _ => none
  | k + 1, x1, x8, x9 => (nat_Parse.f k x8).bind fun bt704 => ((whole_Parse.f k x1).bind fun bt708 => (if bt704.2 = 0 then ((offcutref01_Of.f k bt704.1).bind fun t716 => ((offcutref02_Made.f x9 t716).bind fun t717 => ((offcutlaw02_is.f k bt708.1 bt708.2.1 t717).bind fun t718 => (if t718 = true then (if bt708.2.2 = 0 then ((offcutlaw02_awake.f k).bind fun t719 => (some t719)) else (some false)) else (some false))))) else ((offcutlaw02_is.f k bt708.1 bt708.2.1 (⟨#[48]⟩ : ByteArray)).bind fun t714 => (if t714 = true then (if bt708.2.2 = bt704.2 then ((offcutlaw02_awake.f k).bind fun t715 => (some t715)) else (some false)) else (some false)))))
end
def offcutlaw02_WholeTexts.f (k : Nat) (a0_0 : Bool) (l0_1 : List Int) (a1 : ByteArray) : Option (Bool) := (offcutlaw02_few.f a0_0 l0_1).bind fun t693 => (if t693 = true then (offcutlaw02_WholeTexts.j0 k a1 (decide ((a1.size : Int) > 500)) a0_0 l0_1) else (offcutlaw02_WholeTexts.j0 k a1 true a0_0 l0_1))
theorem offcutlaw02_WholeTexts.mono_l : ∀ k, (∀ y0 y1 y2 y3, LeO (offcutlaw02_WholeTexts.j0 k y0 y1 y2 y3) (offcutlaw02_WholeTexts.j0 (k + 1) y0 y1 y2 y3)) ∧ (∀ y0 y1, LeO (offcutlaw02_WholeTexts.j1 k y0 y1) (offcutlaw02_WholeTexts.j1 (k + 1) y0 y1)) ∧ (∀ y0 y1 y2 y3, LeO (offcutlaw02_WholeTexts.j2 k y0 y1 y2 y3) (offcutlaw02_WholeTexts.j2 (k + 1) y0 y1 y2 y3)) ∧ (∀ y0 y1 y2, LeO (offcutlaw02_WholeTexts.j3 k y0 y1 y2) (offcutlaw02_WholeTexts.j3 (k + 1) y0 y1 y2))
  | 0 => ⟨fun _ _ _ _ r h => by simp [offcutlaw02_WholeTexts.j0] at h, fun _ _ r h => by simp [offcutlaw02_WholeTexts.j1] at h, fun _ _ _ _ r h => by simp [offcutlaw02_WholeTexts.j2] at h, fun _ _ _ r h => by simp [offcutlaw02_WholeTexts.j3] at h⟩
  | k + 1 => by
    obtain ⟨ih0, ih1, ih2, ih3⟩ := offcutlaw02_WholeTexts.mono_l k
    refine ⟨?_, ?_, ?_, ?_⟩
    · intro y0 y1 y2 y3
      unfold offcutlaw02_WholeTexts.j0
      repeat' first
      | (with_reducible exact ih0 _ _ _ _)
      | (with_reducible exact ih1 _ _)
      | (with_reducible exact ih2 _ _ _ _)
      | (with_reducible exact ih3 _ _ _)
      | (with_reducible exact nat_Parse.mono _ _)
      | (with_reducible exact offcutlaw02_awake.mono _)
      | (with_reducible exact offcutlaw02_is.mono _ _ _ _)
      | (with_reducible exact offcutlaw02_of.mono _ _ _)
      | (with_reducible exact offcutref01_Of.mono _ _)
      | (with_reducible exact whole_Parse.mono _ _)
      | (with_reducible exact whole_Text.mono _ _ _)
      | (with_reducible exact LeO.refl _)
      | (with_reducible exact LeO.none _)
      | (with_reducible refine LeO.ite ?_ ?_)
      | (with_reducible refine LeO.bind ?_ (fun _ => ?_))
      | exact ih0 _ _ _ _
      | exact ih1 _ _
      | exact ih2 _ _ _ _
      | exact ih3 _ _ _
      | exact nat_Parse.mono _ _
      | exact offcutlaw02_awake.mono _
      | exact offcutlaw02_is.mono _ _ _ _
      | exact offcutlaw02_of.mono _ _ _
      | exact offcutref01_Of.mono _ _
      | exact whole_Parse.mono _ _
      | exact whole_Text.mono _ _ _
      | exact LeO.none _
      | refine LeO.ite ?_ ?_
      | refine LeO.bind ?_ (fun _ => ?_)
    · intro y0 y1
      unfold offcutlaw02_WholeTexts.j1
      repeat' first
      | (with_reducible exact ih0 _ _ _ _)
      | (with_reducible exact ih1 _ _)
      | (with_reducible exact ih2 _ _ _ _)
      | (with_reducible exact ih3 _ _ _)
      | (with_reducible exact nat_Parse.mono _ _)
      | (with_reducible exact offcutlaw02_awake.mono _)
      | (with_reducible exact offcutlaw02_is.mono _ _ _ _)
      | (with_reducible exact offcutlaw02_of.mono _ _ _)
      | (with_reducible exact offcutref01_Of.mono _ _)
      | (with_reducible exact whole_Parse.mono _ _)
      | (with_reducible exact whole_Text.mono _ _ _)
      | (with_reducible exact LeO.refl _)
      | (with_reducible exact LeO.none _)
      | (with_reducible refine LeO.ite ?_ ?_)
      | (with_reducible refine LeO.bind ?_ (fun _ => ?_))
      | exact ih0 _ _ _ _
      | exact ih1 _ _
      | exact ih2 _ _ _ _
      | exact ih3 _ _ _
      | exact nat_Parse.mono _ _
      | exact offcutlaw02_awake.mono _
      | exact offcutlaw02_is.mono _ _ _ _
      | exact offcutlaw02_of.mono _ _ _
      | exact offcutref01_Of.mono _ _
      | exact whole_Parse.mono _ _
      | exact whole_Text.mono _ _ _
      | exact LeO.none _
      | refine LeO.ite ?_ ?_
      | refine LeO.bind ?_ (fun _ => ?_)
    · intro y0 y1 y2 y3
      unfold offcutlaw02_WholeTexts.j2
      repeat' first
      | (with_reducible exact ih0 _ _ _ _)
      | (with_reducible exact ih1 _ _)
      | (with_reducible exact ih2 _ _ _ _)
      | (with_reducible exact ih3 _ _ _)
      | (with_reducible exact nat_Parse.mono _ _)
      | (with_reducible exact offcutlaw02_awake.mono _)
      | (with_reducible exact offcutlaw02_is.mono _ _ _ _)
      | (with_reducible exact offcutlaw02_of.mono _ _ _)
      | (with_reducible exact offcutref01_Of.mono _ _)
      | (with_reducible exact whole_Parse.mono _ _)
      | (with_reducible exact whole_Text.mono _ _ _)
      | (with_reducible exact LeO.refl _)
      | (with_reducible exact LeO.none _)
      | (with_reducible refine LeO.ite ?_ ?_)
      | (with_reducible refine LeO.bind ?_ (fun _ => ?_))
      | exact ih0 _ _ _ _
      | exact ih1 _ _
      | exact ih2 _ _ _ _
      | exact ih3 _ _ _
      | exact nat_Parse.mono _ _
      | exact offcutlaw02_awake.mono _
      | exact offcutlaw02_is.mono _ _ _ _
      | exact offcutlaw02_of.mono _ _ _
      | exact offcutref01_Of.mono _ _
      | exact whole_Parse.mono _ _
      | exact whole_Text.mono _ _ _
      | exact LeO.none _
      | refine LeO.ite ?_ ?_
      | refine LeO.bind ?_ (fun _ => ?_)
    · intro y0 y1 y2
      unfold offcutlaw02_WholeTexts.j3
      repeat' first
      | (with_reducible exact ih0 _ _ _ _)
      | (with_reducible exact ih1 _ _)
      | (with_reducible exact ih2 _ _ _ _)
      | (with_reducible exact ih3 _ _ _)
      | (with_reducible exact nat_Parse.mono _ _)
      | (with_reducible exact offcutlaw02_awake.mono _)
      | (with_reducible exact offcutlaw02_is.mono _ _ _ _)
      | (with_reducible exact offcutlaw02_of.mono _ _ _)
      | (with_reducible exact offcutref01_Of.mono _ _)
      | (with_reducible exact whole_Parse.mono _ _)
      | (with_reducible exact whole_Text.mono _ _ _)
      | (with_reducible exact LeO.refl _)
      | (with_reducible exact LeO.none _)
      | (with_reducible refine LeO.ite ?_ ?_)
      | (with_reducible refine LeO.bind ?_ (fun _ => ?_))
      | exact ih0 _ _ _ _
      | exact ih1 _ _
      | exact ih2 _ _ _ _
      | exact ih3 _ _ _
      | exact nat_Parse.mono _ _
      | exact offcutlaw02_awake.mono _
      | exact offcutlaw02_is.mono _ _ _ _
      | exact offcutlaw02_of.mono _ _ _
      | exact offcutref01_Of.mono _ _
      | exact whole_Parse.mono _ _
      | exact whole_Text.mono _ _ _
      | exact LeO.none _
      | refine LeO.ite ?_ ?_
      | refine LeO.bind ?_ (fun _ => ?_)
theorem offcutlaw02_WholeTexts.mono : ∀ a0 a1 a2 k, LeO (offcutlaw02_WholeTexts.f k a0 a1 a2) (offcutlaw02_WholeTexts.f (k + 1) a0 a1 a2) := by
  intro a0 a1 a2 k
  obtain ⟨ih0, ih1, ih2, ih3⟩ := offcutlaw02_WholeTexts.mono_l k
  unfold offcutlaw02_WholeTexts.f
  repeat' first
      | (with_reducible exact ih0 _ _ _ _)
      | (with_reducible exact ih1 _ _)
      | (with_reducible exact ih2 _ _ _ _)
      | (with_reducible exact ih3 _ _ _)
      | (with_reducible exact nat_Parse.mono _ _)
      | (with_reducible exact offcutlaw02_awake.mono _)
      | (with_reducible exact offcutlaw02_is.mono _ _ _ _)
      | (with_reducible exact offcutlaw02_of.mono _ _ _)
      | (with_reducible exact offcutref01_Of.mono _ _)
      | (with_reducible exact whole_Parse.mono _ _)
      | (with_reducible exact whole_Text.mono _ _ _)
      | (with_reducible exact LeO.refl _)
      | (with_reducible exact LeO.none _)
      | (with_reducible refine LeO.ite ?_ ?_)
      | (with_reducible refine LeO.bind ?_ (fun _ => ?_))
      | exact ih0 _ _ _ _
      | exact ih1 _ _
      | exact ih2 _ _ _ _
      | exact ih3 _ _ _
      | exact nat_Parse.mono _ _
      | exact offcutlaw02_awake.mono _
      | exact offcutlaw02_is.mono _ _ _ _
      | exact offcutlaw02_of.mono _ _ _
      | exact offcutref01_Of.mono _ _
      | exact whole_Parse.mono _ _
      | exact whole_Text.mono _ _ _
      | exact LeO.none _
      | refine LeO.ite ?_ ?_
      | refine LeO.bind ?_ (fun _ => ?_)
def offcutlaw02_WholeTexts.T14 : Bool × List (List Nat × List Nat) := (true, [([], []), ([], []), ([], []), ([2], [2]), ([1, 3, 3], [1, 3]), ([0, 4, 4], [0, 4]), ([5, 5], [5]), ([6], [6]), ([7, 6], [6, 7]), ([6, 8], [6, 8]), ([9, 6], [9]), ([10, 10], [10]), ([10, 11], [10, 11]), ([12, 11, 0, 1, 2, 3, 4, 5, 6, 7, 8, 9, 10, 11, 12], [12])])
def offcutlaw02_WholeTexts.B14 : List Nat := [0, 0, 0, 4, 14, 31, 63, 127, 255, 511, 1023, 2047, 4095, 8191]
theorem offcutlaw02_WholeTexts.tab14 : rtab .any (opsOf Try.f9 14) = offcutlaw02_WholeTexts.T14 := by kernel_rfl
theorem offcutlaw02_WholeTexts.bits14 : waitsOk offcutlaw02_WholeTexts.T14.2 offcutlaw02_WholeTexts.B14 = true := by kernel_rfl
set_option maxHeartbeats 8000000 in
set_option maxRecDepth 100000 in
theorem offcutlaw02_WholeTexts.calls (k : Nat) (a0_0 : Bool) (A0_1 : Option Addr) (c0_1 : Nat) (l0_1 : List Int) (a1 : ByteArray) (r : Bool) (w : World) (hr0_1 : Kd.C (Kd.int .u32) w A0_1 l0_1.length l0_1) (hc0_1 : l0_1.length ≤ c0_1) (hrt : r = true) (h : offcutlaw02_WholeTexts.f k a0_0 l0_1 a1 = some r) :
    Calls Try.prog 9 #[.agg #[.bool a0_0, .slice A0_1 l0_1.length c0_1], .string a1] w fun e w' => e = .returned (.bool r) ∧ Below w.heap.size w w' := by
  have hu25 := Try.underlying25
  have HRT := Aside0.mk hrt
  clear hrt
  have HR0_1 := Aside0.mk hr0_1
  have HC0_1 := Aside0.mk hc0_1
  clear hr0_1 hc0_1
  have HB := Aside0.mk (Below.refl w.heap.size w)
  have H : ((offcutlaw02_few.f a0_0 l0_1).bind fun t693 => (if t693 = true then (offcutlaw02_WholeTexts.j0 k a1 (decide ((a1.size : Int) > 500)) a0_0 l0_1) else (offcutlaw02_WholeTexts.j0 k a1 true a0_0 l0_1))) = some r := h
  clear h
  have HC3 := Aside0.mk H
  clear H
  go_enter Try.func9, Try.ntmps9
  go_upto_region 1 with (first | ((with_reducible refine gate_dst (N := 2) rfl ?_); (try (refine gate_guard (by rfl) ?_; dsimp only)); refine box_event ?hg (N := 2) ?hd (cs := #[.bool a0_0, .slice A0_1 l0_1.length c0_1]) (t := 25) ?hr ?_; (case hd => rfl); (case hg => rfl); (case hr => first | (go_simp; done) | (go_simp; rfl)); intro gb692 hg w4 hbox hb; have n0_ := Aside0.mk (below_step (by repeat (first | (with_reducible first | exact HB.out | apply below_alloc | apply pw_below_drewN | apply below_drew1) | exact HB.out)) hb); have n1_ := Aside0.mk (hbox); have n2_ := Aside0.mk ((by rw [hg]; exact (below_size (by repeat (first | (with_reducible first | exact HB.out | apply below_alloc | apply pw_below_drewN | apply below_drew1) | exact HB.out))) : w.heap.size ≤ gb692)); have n3_ := Aside0.mk ((by rw [hg]; exact (below_size (by repeat (first | (with_reducible first | exact HB.out | apply below_alloc | apply pw_below_drewN | apply below_drew1) | exact HB.out))) : w.heap.size ≤ gb692)); clear HB; have HB := n0_; have BK692 := n1_; have GW692 := n2_; have GE692 := n3_; clear n0_ n1_ n2_ n3_; clear hb hbox hg))
  (try simp only [Act.put, List.setIfInBounds_toArray, List.set_cons_zero, List.set_cons_succ])
  go_cut [21] (fun v21 wc => ∃ (kq : Nat) (x21_2 : Bool), v21 = .bool x21_2 ∧ Aside0 (offcutlaw02_WholeTexts.j0 kq a1 x21_2 a0_0 l0_1 = some r) ∧ Aside0 (kq ≤ k) ∧ Aside0 (wc.heap[gb692]? = some (.cells #[.bool a0_0, (.slice A0_1 l0_1.length c0_1)] 25 (0, 0))) ∧ Aside0 (Below w.heap.size w wc))
  case first =>
    have H := HC3.out
    clear HC3
    replace H := Option.bind_eq_some_iff.mp H
    obtain ⟨t693, A50, H⟩ := H
    replace H : (if t693 = true then (offcutlaw02_WholeTexts.j0 k a1 (decide ((a1.size : Int) > 500)) a0_0 l0_1) else (offcutlaw02_WholeTexts.j0 k a1 true a0_0 l0_1)) = some r := H
    have A5 := Aside0.mk A50
    clear A50
    by_cases c6 : t693 = true
    · subst c6
      have H1 : (offcutlaw02_WholeTexts.j0 k a1 (decide ((a1.size : Int) > 500)) a0_0 l0_1) = some r := by rw [if_pos rfl] at H; exact H
      clear H
      have H := H1
      clear H1
      have H' := Aside0.mk H
      clear H
      have hcz7_0 : w4.cell? ⟨gb692, 0, none⟩ = some (.bool a0_0) := (blk_cell BK692.out 0).trans rfl
      have hcz7_1 : w4.cell? ⟨gb692, 1, none⟩ = some (.slice A0_1 l0_1.length c0_1) := (blk_cell BK692.out 1).trans rfl
      have hfz7_0 := blk_frozen BK692.out 0
      have hfz7_1 := blk_frozen BK692.out 1
      go_wp2_with (first | ((with_reducible refine gate_callee (f := 17) rfl ?_); refine goesL_ (some 15) rfl rfl Try.func17 (by kernel_rfl) rfl #[.agg #[.bool a0_0, .slice A0_1 l0_1.length c0_1]] rfl (by (try simp only [List.map_toArray, List.map_cons, List.map_nil]); first | done | rfl | (simp only [List.length_drop, List.length_take]; rfl)) ?_; (with_reducible refine (offcutlaw02_few.calls a0_0 _ _ l0_1 true _ ?side1 ?side2 A5.out).mono ?_); (case side1 => repeat (first | exact (Kd.C_below HR0_1.out HB.out) | (with_reducible refine Kd.C_alloc ?_ _) | (with_reducible refine Kd.C_drewN ?_ _) | (with_reducible refine Kd.C_drew ?_))); (case side2 => exact HC0_1.out); rintro e w8 ⟨rfl, hb⟩; refine ⟨_, rfl, ?_⟩; have n0_ := Aside0.mk (blk_below (g := gb692) (o := .cells #[.bool a0_0, .slice A0_1 l0_1.length c0_1] 25 (0, 0)) (by (with_reducible repeat (first | refine blk_drewN ?_ _ | refine blk_drew ?_ | refine blk_alloc ?_ _)); exact BK692.out) hb); have n1_ := Aside0.mk (below_step (by repeat (first | (with_reducible first | exact HB.out | apply below_alloc | apply pw_below_drewN | apply below_drew1 | refine below_set ?_ GE692.out) | exact HB.out)) hb); clear BK692; clear HB; have BK692 := n0_; have HB := n1_; clear n0_ n1_; (try clear hb)))
      go_meet
      case rel => exact ⟨_, (decide ((a1.size : Int) > 500)), (by first | rfl | (simp; done) | (simp [*]; done)), H', ⟨by first | omega | exact Nat.le_refl _⟩, ⟨by (with_reducible repeat (first | refine blk_drewN ?_ _ | refine blk_drew ?_ | refine blk_alloc ?_ _)); exact BK692.out⟩, ⟨by repeat (first | (with_reducible first | exact HB.out | apply below_alloc | apply pw_below_drewN | apply below_drew1 | refine below_set ?_ GE692.out) | exact HB.out)⟩⟩
    · replace c6 := Bool.eq_false_iff.mpr c6
      subst c6
      have H1 : (offcutlaw02_WholeTexts.j0 k a1 true a0_0 l0_1) = some r := by rw [if_neg (show ¬ (false = true) by decide)] at H; exact H
      clear H
      have H := H1
      clear H1
      have H' := Aside0.mk H
      clear H
      have hcz9_0 : w4.cell? ⟨gb692, 0, none⟩ = some (.bool a0_0) := (blk_cell BK692.out 0).trans rfl
      have hcz9_1 : w4.cell? ⟨gb692, 1, none⟩ = some (.slice A0_1 l0_1.length c0_1) := (blk_cell BK692.out 1).trans rfl
      have hfz9_0 := blk_frozen BK692.out 0
      have hfz9_1 := blk_frozen BK692.out 1
      go_wp2_with (first | ((with_reducible refine gate_callee (f := 17) rfl ?_); refine goesL_ (some 15) rfl rfl Try.func17 (by kernel_rfl) rfl #[.agg #[.bool a0_0, .slice A0_1 l0_1.length c0_1]] rfl (by (try simp only [List.map_toArray, List.map_cons, List.map_nil]); first | done | rfl | (simp only [List.length_drop, List.length_take]; rfl)) ?_; (with_reducible refine (offcutlaw02_few.calls a0_0 _ _ l0_1 false _ ?side1 ?side2 A5.out).mono ?_); (case side1 => repeat (first | exact (Kd.C_below HR0_1.out HB.out) | (with_reducible refine Kd.C_alloc ?_ _) | (with_reducible refine Kd.C_drewN ?_ _) | (with_reducible refine Kd.C_drew ?_))); (case side2 => exact HC0_1.out); rintro e w10 ⟨rfl, hb⟩; refine ⟨_, rfl, ?_⟩; have n0_ := Aside0.mk (blk_below (g := gb692) (o := .cells #[.bool a0_0, .slice A0_1 l0_1.length c0_1] 25 (0, 0)) (by (with_reducible repeat (first | refine blk_drewN ?_ _ | refine blk_drew ?_ | refine blk_alloc ?_ _)); exact BK692.out) hb); have n1_ := Aside0.mk (below_step (by repeat (first | (with_reducible first | exact HB.out | apply below_alloc | apply pw_below_drewN | apply below_drew1 | refine below_set ?_ GE692.out) | exact HB.out)) hb); clear BK692; clear HB; have BK692 := n0_; have HB := n1_; clear n0_ n1_; (try clear hb)))
      go_meet
      case rel => exact ⟨_, (true), (by first | rfl | (simp; done) | (simp [*]; done)), H', ⟨by first | omega | exact Nat.le_refl _⟩, ⟨by (with_reducible repeat (first | refine blk_drewN ?_ _ | refine blk_drew ?_ | refine blk_alloc ?_ _)); exact BK692.out⟩, ⟨by repeat (first | (with_reducible first | exact HB.out | apply below_alloc | apply pw_below_drewN | apply below_drew1 | refine below_set ?_ GE692.out) | exact HB.out)⟩⟩
  case rest =>
    clear HC3
    try clear c1
    try clear p2
    try clear c6
    try clear c9
    try clear hcz7_0
    try clear hcz7_1
    try clear hcz9_0
    try clear hcz9_1
    try clear hfz7_0
    try clear hfz7_1
    try clear hfz9_0
    try clear hfz9_1
    obtain ⟨kq, x21_2, rfl, HA, HJ2, BK692, HB⟩ := hcut
    cases kq with
    | zero => exact absurd HA.out (by simp [offcutlaw02_WholeTexts.j0])
    | succ kj2 =>
      have H := HA.out
      clear HA
      simp only [offcutlaw02_WholeTexts.j0] at H
      by_cases c11 : x21_2 = true
      · subst c11
        have H1 : ((offcutlaw02_awake.f kj2).bind fun t694 => (some t694)) = some r := by rw [if_pos rfl] at H; exact H
        clear H
        have H := H1
        clear H1
        replace H := Option.bind_eq_some_iff.mp H
        obtain ⟨t694, A120, H⟩ := H
        replace H : (some t694) = some r := H
        have A12 := Aside0.mk A120
        clear A120
        obtain rfl := Option.some.inj H
        go_wp2_with (first | ((with_reducible refine gate_callee (f := 18) rfl ?_); refine goesL_ (some 22) rfl rfl Try.func18 (by kernel_rfl) rfl #[] rfl (by (try simp only [List.map_toArray, List.map_cons, List.map_nil]); first | done | rfl | (simp only [List.length_drop, List.length_take]; rfl)) ?_; (with_reducible refine (offcutlaw02_awake.calls kj2  t694 _ HRT.out A12.out).mono ?_); rintro e w13 ⟨rfl, hb⟩; refine ⟨_, rfl, ?_⟩; have n0_ := Aside0.mk (blk_below (g := gb692) (o := .cells #[.bool a0_0, .slice A0_1 l0_1.length c0_1] 25 (0, 0)) (by (with_reducible repeat (first | refine blk_drewN ?_ _ | refine blk_drew ?_ | refine blk_alloc ?_ _)); exact BK692.out) hb); have n1_ := Aside0.mk (below_step (by repeat (first | (with_reducible first | exact HB.out | apply below_alloc | apply pw_below_drewN | apply below_drew1 | refine below_set ?_ GE692.out) | exact HB.out)) hb); clear BK692; clear HB; have BK692 := n0_; have HB := n1_; clear n0_ n1_; (try clear hb)))
        go_ret
        exact ⟨by first | rfl | (simp [errW_none, errW_some] <;> rfl) | (simp [*, errW_none, errW_some] <;> rfl), by repeat (first | (with_reducible first | exact HB.out | apply below_alloc | apply pw_below_drewN | apply below_drew1 | refine below_set ?_ GE692.out) | exact HB.out)⟩
      · replace c11 := Bool.eq_false_iff.mpr c11
        subst c11
        have H1 : ((whole_Text.f kj2 a0_0 l0_1).bind fun t695 => ((whole_Parse.f kj2 t695).bind fun bt696 => ((offcutlaw02_of.f kj2 a0_0 l0_1).bind fun t702 => (if t695.toList = t702.toList then ((offcutlaw02_is.f kj2 bt696.1 bt696.2.1 t695).bind fun t703 => (if t703 = true then (offcutlaw02_WholeTexts.j1 kj2 a1 (bt696.2.2 != 0)) else (offcutlaw02_WholeTexts.j1 kj2 a1 true))) else (offcutlaw02_WholeTexts.j1 kj2 a1 true))))) = some r := by rw [if_neg (show ¬ (false = true) by decide)] at H; exact H
        clear H
        have H := H1
        clear H1
        replace H := Option.bind_eq_some_iff.mp H
        obtain ⟨t695, A140, H⟩ := H
        replace H : ((whole_Parse.f kj2 t695).bind fun bt696 => ((offcutlaw02_of.f kj2 a0_0 l0_1).bind fun t702 => (if t695.toList = t702.toList then ((offcutlaw02_is.f kj2 bt696.1 bt696.2.1 t695).bind fun t703 => (if t703 = true then (offcutlaw02_WholeTexts.j1 kj2 a1 (bt696.2.2 != 0)) else (offcutlaw02_WholeTexts.j1 kj2 a1 true))) else (offcutlaw02_WholeTexts.j1 kj2 a1 true)))) = some r := H
        have A14 := Aside0.mk A140
        clear A140
        replace H := Option.bind_eq_some_iff.mp H
        obtain ⟨⟨t696, t697, t700⟩, A150, H⟩ := H
        replace H : ((offcutlaw02_of.f kj2 a0_0 l0_1).bind fun t702 => (if t695.toList = t702.toList then ((offcutlaw02_is.f kj2 t696 t697 t695).bind fun t703 => (if t703 = true then (offcutlaw02_WholeTexts.j1 kj2 a1 (t700 != 0)) else (offcutlaw02_WholeTexts.j1 kj2 a1 true))) else (offcutlaw02_WholeTexts.j1 kj2 a1 true))) = some r := H
        have A15 := Aside0.mk A150
        clear A150
        have HC16 := Aside0.mk H
        clear H
        have hcz17_0 : wc.cell? ⟨gb692, 0, none⟩ = some (.bool a0_0) := (blk_cell BK692.out 0).trans rfl
        have hcz17_1 : wc.cell? ⟨gb692, 1, none⟩ = some (.slice A0_1 l0_1.length c0_1) := (blk_cell BK692.out 1).trans rfl
        have hfz17_0 := blk_frozen BK692.out 0
        have hfz17_1 := blk_frozen BK692.out 1
        go_upto_region 5 with (first | ((with_reducible refine gate_callee (f := 39) rfl ?_); refine goesL_ (some 24) rfl rfl Try.func39 (by kernel_rfl) rfl #[.agg #[.bool a0_0, .slice A0_1 l0_1.length c0_1]] rfl (by (try simp only [List.map_toArray, List.map_cons, List.map_nil]); first | done | rfl | (simp only [List.length_drop, List.length_take]; rfl)) ?_; (with_reducible refine (whole_Text.calls kj2 a0_0 _ _ l0_1 t695 _ ?side1 ?side2 A14.out).mono ?_); (case side1 => repeat (first | exact (Kd.C_below HR0_1.out HB.out) | (with_reducible refine Kd.C_alloc ?_ _) | (with_reducible refine Kd.C_drewN ?_ _) | (with_reducible refine Kd.C_drew ?_))); (case side2 => exact HC0_1.out); rintro e w18 ⟨rfl, hb⟩; refine ⟨_, rfl, ?_⟩; have n0_ := Aside0.mk (blk_below (g := gb692) (o := .cells #[.bool a0_0, .slice A0_1 l0_1.length c0_1] 25 (0, 0)) (by (with_reducible repeat (first | refine blk_drewN ?_ _ | refine blk_drew ?_ | refine blk_alloc ?_ _)); exact BK692.out) hb); have n1_ := Aside0.mk (below_step (by repeat (first | (with_reducible first | exact HB.out | apply below_alloc | apply pw_below_drewN | apply below_drew1 | refine below_set ?_ GE692.out) | exact HB.out)) hb); clear BK692; clear HB; have BK692 := n0_; have HB := n1_; clear n0_ n1_; (try clear hb)) | ((with_reducible refine gate_callee (f := 40) rfl ?_); refine goesL_ (some 27) rfl rfl Try.func40 (by kernel_rfl) rfl #[.string t695] rfl (by (try simp only [List.map_toArray, List.map_cons, List.map_nil]); first | done | rfl | (simp only [List.length_drop, List.length_take]; rfl)) ?_; (with_reducible refine (whole_Parse.calls kj2 t695 t696 t697 t700 _ A15.out).mono ?_); rintro e w19 ⟨v698, rfl, ho0, hb⟩; refine ⟨_, rfl, ?_⟩; have n0_ := Aside0.mk (Kd.R_lower ho0 (below_size (by repeat (first | (with_reducible first | exact HB.out | apply below_alloc | apply pw_below_drewN | apply below_drew1 | refine below_set ?_ GE692.out) | exact HB.out)))); have n1_ := Aside0.mk (blk_below (g := gb692) (o := .cells #[.bool a0_0, .slice A0_1 l0_1.length c0_1] 25 (0, 0)) (by (with_reducible repeat (first | refine blk_drewN ?_ _ | refine blk_drew ?_ | refine blk_alloc ?_ _)); exact BK692.out) hb); have n2_ := Aside0.mk (below_step (by repeat (first | (with_reducible first | exact HB.out | apply below_alloc | apply pw_below_drewN | apply below_drew1 | refine below_set ?_ GE692.out) | exact HB.out)) hb); clear BK692; clear HB; have HO699 := n0_; have BK692 := n1_; have HB := n2_; clear n0_ n1_ n2_; (try clear hb); (try clear ho0)) | ((with_reducible refine gate_dst (N := 6) rfl ?_); (try (refine gate_guard (by rfl) ?_; dsimp only)); refine box_event ?hg (N := 6) ?hd (cs := #[.bool false, .slice none 0 0]) (t := 25) ?hr ?_; (case hd => rfl); (case hg => rfl); (case hr => first | (go_simp; done) | (go_simp; rfl)); intro gb701 hg w20 hbox hb; have n0_ := Aside0.mk (Kd.R_below (by (with_reducible repeat (first | apply Kd.R_alloc | apply Kd.R_drewN | apply Kd.R_drew)); exact HO699.out) hb); have n1_ := Aside0.mk (blk_below (g := gb692) (o := .cells #[.bool a0_0, .slice A0_1 l0_1.length c0_1] 25 (0, 0)) (by (with_reducible repeat (first | refine blk_drewN ?_ _ | refine blk_drew ?_ | refine blk_alloc ?_ _)); exact BK692.out) hb); have n2_ := Aside0.mk (below_step (by repeat (first | (with_reducible first | exact HB.out | apply below_alloc | apply pw_below_drewN | apply below_drew1 | refine below_set ?_ GE692.out) | exact HB.out)) hb); have n3_ := Aside0.mk (hbox); have n4_ := Aside0.mk ((by rw [hg]; exact (below_size (by repeat (first | (with_reducible first | exact HB.out | apply below_alloc | apply pw_below_drewN | apply below_drew1 | refine below_set ?_ GE692.out) | exact HB.out))) : w.heap.size ≤ gb701)); have n5_ := Aside0.mk ((by rw [hg]; exact (below_size (by repeat (first | (with_reducible first | exact HB.out | apply below_alloc | apply pw_below_drewN | apply below_drew1 | refine below_set ?_ GE692.out) | exact HB.out))) : w.heap.size ≤ gb701)); have n6_ := Aside0.mk ((by rw [hg]; exact Nat.ne_of_lt (blk_lt (g := gb692) (o := .cells #[.bool a0_0, .slice A0_1 l0_1.length c0_1] 25 (0, 0)) (by (with_reducible repeat (first | refine blk_drewN ?_ _ | refine blk_drew ?_ | refine blk_alloc ?_ _)); exact BK692.out)) : gb692 ≠ gb701)); have n7_ := Aside0.mk ((by rw [hg]; exact Nat.ne_of_gt (blk_lt (g := gb692) (o := .cells #[.bool a0_0, .slice A0_1 l0_1.length c0_1] 25 (0, 0)) (by (with_reducible repeat (first | refine blk_drewN ?_ _ | refine blk_drew ?_ | refine blk_alloc ?_ _)); exact BK692.out)) : gb701 ≠ gb692)); clear HO699; clear BK692; clear HB; have HO699 := n0_; have BK692 := n1_; have HB := n2_; have BK701 := n3_; have GW701 := n4_; have GE701 := n5_; have NB692_701 := n6_; have NB701_692 := n7_; clear n0_ n1_ n2_ n3_ n4_ n5_ n6_ n7_; clear hb hbox hg; have hnb21 := NB701_692.out; have hnc21 := NB692_701.out; have hcz22_0 : w20.cell? ⟨gb701, 0, none⟩ = some (.bool false) := (blk_cell BK701.out 0).trans rfl; have hcz22_1 : w20.cell? ⟨gb701, 1, none⟩ = some (.slice none 0 0) := (blk_cell BK701.out 1).trans rfl; have hfz22_0 := blk_frozen BK701.out 0; have hfz22_1 := blk_frozen BK701.out 1; obtain ⟨Ao23, co23, eo23⟩ := Kd.R_slice HO699.out; subst eo23))
        (try simp only [Act.put, List.setIfInBounds_toArray, List.set_cons_zero, List.set_cons_succ])
        go_cut [43] (fun v43 wc => ∃ (kq : Nat) (x43_15 : Bool), v43 = .bool x43_15 ∧ Aside0 (offcutlaw02_WholeTexts.j1 kq a1 x43_15 = some r) ∧ Aside0 (kq ≤ kj2) ∧ Aside0 (Kd.R (Kd.int .u32) 37 wc w.heap.size (fun _ => True) (.slice Ao23 t697.length co23) t697) ∧ Aside0 (wc.heap[gb692]? = some (.cells #[.bool a0_0, (.slice A0_1 l0_1.length c0_1)] 25 (0, 0))) ∧ Aside0 (wc.heap[gb701]? = some (.cells #[.bool t696, (.slice Ao23 t697.length co23)] 25 (0, 0))) ∧ Aside0 (Below w.heap.size w wc))
        case first =>
          have H := HC16.out
          clear HC16
          replace H := Option.bind_eq_some_iff.mp H
          obtain ⟨t702, A240, H⟩ := H
          replace H : (if t695.toList = t702.toList then ((offcutlaw02_is.f kj2 t696 t697 t695).bind fun t703 => (if t703 = true then (offcutlaw02_WholeTexts.j1 kj2 a1 (t700 != 0)) else (offcutlaw02_WholeTexts.j1 kj2 a1 true))) else (offcutlaw02_WholeTexts.j1 kj2 a1 true)) = some r := H
          have A24 := Aside0.mk A240
          clear A240
          by_cases c25 : t695.toList = t702.toList
          · rw [if_pos c25] at H
            have c25b0 : (t695.toList == t702.toList) = true := beq_iff_eq.mpr c25
            have c25b1 : (t695.toList != t702.toList) = false := bne_eq_false_iff_eq.mpr c25
            clear c25
            (first | rw [c25b0] | (simp only [i64_w, i32_w]; rw [c25b0]) | skip)
            replace H := Option.bind_eq_some_iff.mp H
            obtain ⟨t703, A260, H⟩ := H
            replace H : (if t703 = true then (offcutlaw02_WholeTexts.j1 kj2 a1 (t700 != 0)) else (offcutlaw02_WholeTexts.j1 kj2 a1 true)) = some r := H
            have A26 := Aside0.mk A260
            clear A260
            by_cases c27 : t703 = true
            · subst c27
              have H1 : (offcutlaw02_WholeTexts.j1 kj2 a1 (t700 != 0)) = some r := by rw [if_pos rfl] at H; exact H
              clear H
              have H := H1
              clear H1
              have H' := Aside0.mk H
              clear H
              have hnb28 := NB692_701.out
              have hnc28 := NB701_692.out
              have hcz29_0 : w20.cell? ⟨gb692, 0, none⟩ = some (.bool a0_0) := (blk_cell BK692.out 0).trans rfl
              have hcz29_1 : w20.cell? ⟨gb692, 1, none⟩ = some (.slice A0_1 l0_1.length c0_1) := (blk_cell BK692.out 1).trans rfl
              have hfz29_0 := blk_frozen BK692.out 0
              have hfz29_1 := blk_frozen BK692.out 1
              go_wp2_with (first | ((with_reducible refine gate_callee (f := 19) rfl ?_); refine goesL_ (some 32) rfl rfl Try.func19 (by kernel_rfl) rfl #[.agg #[.bool a0_0, .slice A0_1 l0_1.length c0_1]] rfl (by (try simp only [List.map_toArray, List.map_cons, List.map_nil]); first | done | rfl | (simp only [List.length_drop, List.length_take]; rfl)) ?_; (with_reducible refine (offcutlaw02_of.calls kj2 a0_0 _ _ l0_1 t702 _ ?side1 ?side2 A24.out).mono ?_); (case side1 => exact Kd.C_below HR0_1.out (by repeat (first | (with_reducible first | exact HB.out | apply below_alloc | apply pw_below_drewN | apply below_drew1 | refine below_set ?_ GE692.out | refine below_set ?_ GE701.out) | exact HB.out))); (case side2 => exact HC0_1.out); rintro e w30 ⟨rfl, hb⟩; refine ⟨_, rfl, ?_⟩; have n0_ := Aside0.mk (Kd.R_below (by (with_reducible repeat (first | apply Kd.R_alloc | apply Kd.R_drewN | apply Kd.R_drew)); exact (Kd.R_mono (Kd.R_far (p := ⟨gb701, 1, none⟩) (Kd.R_far (p := ⟨gb701, 0, none⟩) (Kd.R_types HO699.out BK701.out (by decide)) (fun _ hk => hk.2) (.bool t696)) (fun _ hk => hk.2) (.slice Ao23 t697.length co23)) (fun _ h_ => h_.1))) hb); have n1_ := Aside0.mk (blk_below (g := gb692) (o := .cells #[.bool a0_0, .slice A0_1 l0_1.length c0_1] 25 (0, 0)) (by (with_reducible repeat (first | refine blk_drewN ?_ _ | refine blk_drew ?_ | refine blk_alloc ?_ _)); refine blk_far ?_ NB692_701.out _; (with_reducible repeat (first | refine blk_drewN ?_ _ | refine blk_drew ?_ | refine blk_alloc ?_ _)); refine blk_far ?_ NB692_701.out _; (with_reducible repeat (first | refine blk_drewN ?_ _ | refine blk_drew ?_ | refine blk_alloc ?_ _)); exact BK692.out) hb); have n2_ := Aside0.mk (blk_below (g := gb701) (o := .cells #[.bool t696, .slice Ao23 t697.length co23] 25 (0, 0)) (by (with_reducible repeat (first | refine blk_drewN ?_ _ | refine blk_drew ?_ | refine blk_alloc ?_ _)); refine blk_put (cs := #[.bool t696, .slice none 0 0]) ?_ 1 _ rfl; (with_reducible repeat (first | refine blk_drewN ?_ _ | refine blk_drew ?_ | refine blk_alloc ?_ _)); refine blk_put (cs := #[.bool false, .slice none 0 0]) ?_ 0 _ rfl; (with_reducible repeat (first | refine blk_drewN ?_ _ | refine blk_drew ?_ | refine blk_alloc ?_ _)); exact BK701.out) hb); have n3_ := Aside0.mk (below_step (by repeat (first | (with_reducible first | exact HB.out | apply below_alloc | apply pw_below_drewN | apply below_drew1 | refine below_set ?_ GE692.out | refine below_set ?_ GE701.out) | exact HB.out)) hb); clear HO699; clear BK692; clear BK701; clear HB; have HO699 := n0_; have BK692 := n1_; have BK701 := n2_; have HB := n3_; clear n0_ n1_ n2_ n3_; (try clear hb); have hcz31_0 : w30.cell? ⟨gb701, 0, none⟩ = some (.bool t696) := (blk_cell BK701.out 0).trans rfl; have hcz31_1 : w30.cell? ⟨gb701, 1, none⟩ = some (.slice Ao23 t697.length co23) := (blk_cell BK701.out 1).trans rfl; have hfz31_0 := blk_frozen BK701.out 0; have hfz31_1 := blk_frozen BK701.out 1) | (go_at_call 20; (with_reducible refine (offcutlaw02_is.calls kj2 t696 _ _ t697 t695 true _ ?side1 ?side2 A26.out).mono ?_); (case side1 => repeat (first | exact (Kd.R_reads' HO699.out).2.2 | (with_reducible refine Kd.C_alloc ?_ _) | (with_reducible refine Kd.C_drewN ?_ _) | (with_reducible refine Kd.C_drew ?_))); (case side2 => exact (Kd.R_reads' HO699.out).2.1); rintro e w32 ⟨rfl, hb⟩; have n0_ := Aside0.mk (Kd.R_below (by (with_reducible repeat (first | apply Kd.R_alloc | apply Kd.R_drewN | apply Kd.R_drew)); exact HO699.out) hb); have n1_ := Aside0.mk (blk_below (g := gb692) (o := .cells #[.bool a0_0, .slice A0_1 l0_1.length c0_1] 25 (0, 0)) (by (with_reducible repeat (first | refine blk_drewN ?_ _ | refine blk_drew ?_ | refine blk_alloc ?_ _)); exact BK692.out) hb); have n2_ := Aside0.mk (blk_below (g := gb701) (o := .cells #[.bool t696, .slice Ao23 t697.length co23] 25 (0, 0)) (by (with_reducible repeat (first | refine blk_drewN ?_ _ | refine blk_drew ?_ | refine blk_alloc ?_ _)); exact BK701.out) hb); have n3_ := Aside0.mk (below_step (by repeat (first | (with_reducible first | exact HB.out | apply below_alloc | apply pw_below_drewN | apply below_drew1 | refine below_set ?_ GE692.out | refine below_set ?_ GE701.out) | exact HB.out)) hb); clear HO699; clear BK692; clear BK701; clear HB; have HO699 := n0_; have BK692 := n1_; have BK701 := n2_; have HB := n3_; clear n0_ n1_ n2_ n3_; (try clear hb)))
              go_meet
              case rel => exact ⟨_, ((t700 != 0)), (by first | rfl | (simp; done) | (simp [*]; done)), H', ⟨by have := HJ2.out; first | omega | exact Nat.le_refl _⟩, ⟨by (with_reducible repeat (first | apply Kd.R_alloc | apply Kd.R_drewN | apply Kd.R_drew)); exact HO699.out⟩, ⟨by (with_reducible repeat (first | refine blk_drewN ?_ _ | refine blk_drew ?_ | refine blk_alloc ?_ _)); exact BK692.out⟩, ⟨by (with_reducible repeat (first | refine blk_drewN ?_ _ | refine blk_drew ?_ | refine blk_alloc ?_ _)); exact BK701.out⟩, ⟨by repeat (first | (with_reducible first | exact HB.out | apply below_alloc | apply pw_below_drewN | apply below_drew1 | refine below_set ?_ GE692.out | refine below_set ?_ GE701.out) | exact HB.out)⟩⟩
            · replace c27 := Bool.eq_false_iff.mpr c27
              subst c27
              have H1 : (offcutlaw02_WholeTexts.j1 kj2 a1 true) = some r := by rw [if_neg (show ¬ (false = true) by decide)] at H; exact H
              clear H
              have H := H1
              clear H1
              have H' := Aside0.mk H
              clear H
              have hnb33 := NB692_701.out
              have hnc33 := NB701_692.out
              have hcz34_0 : w20.cell? ⟨gb692, 0, none⟩ = some (.bool a0_0) := (blk_cell BK692.out 0).trans rfl
              have hcz34_1 : w20.cell? ⟨gb692, 1, none⟩ = some (.slice A0_1 l0_1.length c0_1) := (blk_cell BK692.out 1).trans rfl
              have hfz34_0 := blk_frozen BK692.out 0
              have hfz34_1 := blk_frozen BK692.out 1
              go_wp2_with (first | ((with_reducible refine gate_callee (f := 19) rfl ?_); refine goesL_ (some 32) rfl rfl Try.func19 (by kernel_rfl) rfl #[.agg #[.bool a0_0, .slice A0_1 l0_1.length c0_1]] rfl (by (try simp only [List.map_toArray, List.map_cons, List.map_nil]); first | done | rfl | (simp only [List.length_drop, List.length_take]; rfl)) ?_; (with_reducible refine (offcutlaw02_of.calls kj2 a0_0 _ _ l0_1 t702 _ ?side1 ?side2 A24.out).mono ?_); (case side1 => exact Kd.C_below HR0_1.out (by repeat (first | (with_reducible first | exact HB.out | apply below_alloc | apply pw_below_drewN | apply below_drew1 | refine below_set ?_ GE692.out | refine below_set ?_ GE701.out) | exact HB.out))); (case side2 => exact HC0_1.out); rintro e w35 ⟨rfl, hb⟩; refine ⟨_, rfl, ?_⟩; have n0_ := Aside0.mk (Kd.R_below (by (with_reducible repeat (first | apply Kd.R_alloc | apply Kd.R_drewN | apply Kd.R_drew)); exact (Kd.R_mono (Kd.R_far (p := ⟨gb701, 1, none⟩) (Kd.R_far (p := ⟨gb701, 0, none⟩) (Kd.R_types HO699.out BK701.out (by decide)) (fun _ hk => hk.2) (.bool t696)) (fun _ hk => hk.2) (.slice Ao23 t697.length co23)) (fun _ h_ => h_.1))) hb); have n1_ := Aside0.mk (blk_below (g := gb692) (o := .cells #[.bool a0_0, .slice A0_1 l0_1.length c0_1] 25 (0, 0)) (by (with_reducible repeat (first | refine blk_drewN ?_ _ | refine blk_drew ?_ | refine blk_alloc ?_ _)); refine blk_far ?_ NB692_701.out _; (with_reducible repeat (first | refine blk_drewN ?_ _ | refine blk_drew ?_ | refine blk_alloc ?_ _)); refine blk_far ?_ NB692_701.out _; (with_reducible repeat (first | refine blk_drewN ?_ _ | refine blk_drew ?_ | refine blk_alloc ?_ _)); exact BK692.out) hb); have n2_ := Aside0.mk (blk_below (g := gb701) (o := .cells #[.bool t696, .slice Ao23 t697.length co23] 25 (0, 0)) (by (with_reducible repeat (first | refine blk_drewN ?_ _ | refine blk_drew ?_ | refine blk_alloc ?_ _)); refine blk_put (cs := #[.bool t696, .slice none 0 0]) ?_ 1 _ rfl; (with_reducible repeat (first | refine blk_drewN ?_ _ | refine blk_drew ?_ | refine blk_alloc ?_ _)); refine blk_put (cs := #[.bool false, .slice none 0 0]) ?_ 0 _ rfl; (with_reducible repeat (first | refine blk_drewN ?_ _ | refine blk_drew ?_ | refine blk_alloc ?_ _)); exact BK701.out) hb); have n3_ := Aside0.mk (below_step (by repeat (first | (with_reducible first | exact HB.out | apply below_alloc | apply pw_below_drewN | apply below_drew1 | refine below_set ?_ GE692.out | refine below_set ?_ GE701.out) | exact HB.out)) hb); clear HO699; clear BK692; clear BK701; clear HB; have HO699 := n0_; have BK692 := n1_; have BK701 := n2_; have HB := n3_; clear n0_ n1_ n2_ n3_; (try clear hb); have hcz36_0 : w35.cell? ⟨gb701, 0, none⟩ = some (.bool t696) := (blk_cell BK701.out 0).trans rfl; have hcz36_1 : w35.cell? ⟨gb701, 1, none⟩ = some (.slice Ao23 t697.length co23) := (blk_cell BK701.out 1).trans rfl; have hfz36_0 := blk_frozen BK701.out 0; have hfz36_1 := blk_frozen BK701.out 1) | (go_at_call 20; (with_reducible refine (offcutlaw02_is.calls kj2 t696 _ _ t697 t695 false _ ?side1 ?side2 A26.out).mono ?_); (case side1 => repeat (first | exact (Kd.R_reads' HO699.out).2.2 | (with_reducible refine Kd.C_alloc ?_ _) | (with_reducible refine Kd.C_drewN ?_ _) | (with_reducible refine Kd.C_drew ?_))); (case side2 => exact (Kd.R_reads' HO699.out).2.1); rintro e w37 ⟨rfl, hb⟩; have n0_ := Aside0.mk (Kd.R_below (by (with_reducible repeat (first | apply Kd.R_alloc | apply Kd.R_drewN | apply Kd.R_drew)); exact HO699.out) hb); have n1_ := Aside0.mk (blk_below (g := gb692) (o := .cells #[.bool a0_0, .slice A0_1 l0_1.length c0_1] 25 (0, 0)) (by (with_reducible repeat (first | refine blk_drewN ?_ _ | refine blk_drew ?_ | refine blk_alloc ?_ _)); exact BK692.out) hb); have n2_ := Aside0.mk (blk_below (g := gb701) (o := .cells #[.bool t696, .slice Ao23 t697.length co23] 25 (0, 0)) (by (with_reducible repeat (first | refine blk_drewN ?_ _ | refine blk_drew ?_ | refine blk_alloc ?_ _)); exact BK701.out) hb); have n3_ := Aside0.mk (below_step (by repeat (first | (with_reducible first | exact HB.out | apply below_alloc | apply pw_below_drewN | apply below_drew1 | refine below_set ?_ GE692.out | refine below_set ?_ GE701.out) | exact HB.out)) hb); clear HO699; clear BK692; clear BK701; clear HB; have HO699 := n0_; have BK692 := n1_; have BK701 := n2_; have HB := n3_; clear n0_ n1_ n2_ n3_; (try clear hb)))
              go_meet
              case rel => exact ⟨_, (true), (by first | rfl | (simp; done) | (simp [*]; done)), H', ⟨by have := HJ2.out; first | omega | exact Nat.le_refl _⟩, ⟨by (with_reducible repeat (first | apply Kd.R_alloc | apply Kd.R_drewN | apply Kd.R_drew)); exact HO699.out⟩, ⟨by (with_reducible repeat (first | refine blk_drewN ?_ _ | refine blk_drew ?_ | refine blk_alloc ?_ _)); exact BK692.out⟩, ⟨by (with_reducible repeat (first | refine blk_drewN ?_ _ | refine blk_drew ?_ | refine blk_alloc ?_ _)); exact BK701.out⟩, ⟨by repeat (first | (with_reducible first | exact HB.out | apply below_alloc | apply pw_below_drewN | apply below_drew1 | refine below_set ?_ GE692.out | refine below_set ?_ GE701.out) | exact HB.out)⟩⟩
          · rw [if_neg c25] at H
            have c25b0 : (t695.toList == t702.toList) = false := beq_eq_false_iff_ne.mpr c25
            have c25b1 : (t695.toList != t702.toList) = true := bne_iff_ne.mpr c25
            (first | rw [c25b0] | (simp only [i64_w, i32_w]; rw [c25b0]) | skip)
            have H' := Aside0.mk H
            clear H
            have hnb38 := NB692_701.out
            have hnc38 := NB701_692.out
            have hcz39_0 : w20.cell? ⟨gb692, 0, none⟩ = some (.bool a0_0) := (blk_cell BK692.out 0).trans rfl
            have hcz39_1 : w20.cell? ⟨gb692, 1, none⟩ = some (.slice A0_1 l0_1.length c0_1) := (blk_cell BK692.out 1).trans rfl
            have hfz39_0 := blk_frozen BK692.out 0
            have hfz39_1 := blk_frozen BK692.out 1
            go_wp2_with (first | ((with_reducible refine gate_callee (f := 19) rfl ?_); refine goesL_ (some 32) rfl rfl Try.func19 (by kernel_rfl) rfl #[.agg #[.bool a0_0, .slice A0_1 l0_1.length c0_1]] rfl (by (try simp only [List.map_toArray, List.map_cons, List.map_nil]); first | done | rfl | (simp only [List.length_drop, List.length_take]; rfl)) ?_; (with_reducible refine (offcutlaw02_of.calls kj2 a0_0 _ _ l0_1 t702 _ ?side1 ?side2 A24.out).mono ?_); (case side1 => exact Kd.C_below HR0_1.out (by repeat (first | (with_reducible first | exact HB.out | apply below_alloc | apply pw_below_drewN | apply below_drew1 | refine below_set ?_ GE692.out | refine below_set ?_ GE701.out) | exact HB.out))); (case side2 => exact HC0_1.out); rintro e w40 ⟨rfl, hb⟩; refine ⟨_, rfl, ?_⟩; have n0_ := Aside0.mk (Kd.R_below (by (with_reducible repeat (first | apply Kd.R_alloc | apply Kd.R_drewN | apply Kd.R_drew)); exact (Kd.R_mono (Kd.R_far (p := ⟨gb701, 1, none⟩) (Kd.R_far (p := ⟨gb701, 0, none⟩) (Kd.R_types HO699.out BK701.out (by decide)) (fun _ hk => hk.2) (.bool t696)) (fun _ hk => hk.2) (.slice Ao23 t697.length co23)) (fun _ h_ => h_.1))) hb); have n1_ := Aside0.mk (blk_below (g := gb692) (o := .cells #[.bool a0_0, .slice A0_1 l0_1.length c0_1] 25 (0, 0)) (by (with_reducible repeat (first | refine blk_drewN ?_ _ | refine blk_drew ?_ | refine blk_alloc ?_ _)); refine blk_far ?_ NB692_701.out _; (with_reducible repeat (first | refine blk_drewN ?_ _ | refine blk_drew ?_ | refine blk_alloc ?_ _)); refine blk_far ?_ NB692_701.out _; (with_reducible repeat (first | refine blk_drewN ?_ _ | refine blk_drew ?_ | refine blk_alloc ?_ _)); exact BK692.out) hb); have n2_ := Aside0.mk (blk_below (g := gb701) (o := .cells #[.bool t696, .slice Ao23 t697.length co23] 25 (0, 0)) (by (with_reducible repeat (first | refine blk_drewN ?_ _ | refine blk_drew ?_ | refine blk_alloc ?_ _)); refine blk_put (cs := #[.bool t696, .slice none 0 0]) ?_ 1 _ rfl; (with_reducible repeat (first | refine blk_drewN ?_ _ | refine blk_drew ?_ | refine blk_alloc ?_ _)); refine blk_put (cs := #[.bool false, .slice none 0 0]) ?_ 0 _ rfl; (with_reducible repeat (first | refine blk_drewN ?_ _ | refine blk_drew ?_ | refine blk_alloc ?_ _)); exact BK701.out) hb); have n3_ := Aside0.mk (below_step (by repeat (first | (with_reducible first | exact HB.out | apply below_alloc | apply pw_below_drewN | apply below_drew1 | refine below_set ?_ GE692.out | refine below_set ?_ GE701.out) | exact HB.out)) hb); clear HO699; clear BK692; clear BK701; clear HB; have HO699 := n0_; have BK692 := n1_; have BK701 := n2_; have HB := n3_; clear n0_ n1_ n2_ n3_; (try clear hb)))
            go_meet
            case rel => exact ⟨_, (true), (by first | rfl | (simp; done) | (simp [*]; done)), H', ⟨by have := HJ2.out; first | omega | exact Nat.le_refl _⟩, ⟨by (with_reducible repeat (first | apply Kd.R_alloc | apply Kd.R_drewN | apply Kd.R_drew)); exact HO699.out⟩, ⟨by (with_reducible repeat (first | refine blk_drewN ?_ _ | refine blk_drew ?_ | refine blk_alloc ?_ _)); exact BK692.out⟩, ⟨by (with_reducible repeat (first | refine blk_drewN ?_ _ | refine blk_drew ?_ | refine blk_alloc ?_ _)); exact BK701.out⟩, ⟨by repeat (first | (with_reducible first | exact HB.out | apply below_alloc | apply pw_below_drewN | apply below_drew1 | refine below_set ?_ GE692.out | refine below_set ?_ GE701.out) | exact HB.out)⟩⟩
        case rest =>
          clear HC16
          try clear c1
          try clear c2
          try clear p2
          try clear c3
          try clear c4
          try clear c6
          try clear c9
          try clear c11
          try clear c17
          try clear c18
          try clear c19
          try clear c21
          try clear c25
          try clear c25b0
          try clear c25b1
          try clear c27
          try clear c28
          try clear c33
          try clear c38
          try clear c39
          try clear c40
          try clear hcz17_0
          try clear hcz17_1
          try clear hcz22_0
          try clear hcz22_1
          try clear hcz29_0
          try clear hcz29_1
          try clear hcz31_0
          try clear hcz31_1
          try clear hcz34_0
          try clear hcz34_1
          try clear hcz36_0
          try clear hcz36_1
          try clear hcz39_0
          try clear hcz39_1
          try clear hcz7_0
          try clear hcz7_1
          try clear hcz9_0
          try clear hcz9_1
          try clear hfz17_0
          try clear hfz17_1
          try clear hfz22_0
          try clear hfz22_1
          try clear hfz29_0
          try clear hfz29_1
          try clear hfz31_0
          try clear hfz31_1
          try clear hfz34_0
          try clear hfz34_1
          try clear hfz36_0
          try clear hfz36_1
          try clear hfz39_0
          try clear hfz39_1
          try clear hfz7_0
          try clear hfz7_1
          try clear hfz9_0
          try clear hfz9_1
          try clear p2
          obtain ⟨kq, x43_15, rfl, HA, HJ15, HO_702001, BK692, BK701, HB⟩ := hcut
          cases kq with
          | zero => exact absurd HA.out (by simp [offcutlaw02_WholeTexts.j1])
          | succ kj15 =>
            have H := HA.out
            clear HA
            simp only [offcutlaw02_WholeTexts.j1] at H
            by_cases c41 : x43_15 = true
            · subst c41
              have H1 : (some false) = some r := by rw [if_pos rfl] at H; exact H
              clear H
              have H := H1
              clear H1
              obtain rfl := Option.some.inj H
              exact absurd HRT.out (by decide)
            · replace c41 := Bool.eq_false_iff.mpr c41
              subst c41
              have H1 : (if a1.toList = ([] : List UInt8) then (offcutlaw02_WholeTexts.j2 kj15 a1 a1 false false) else (if 0 < (a1.size : Int) then (offcutlaw02_WholeTexts.j2 kj15 a1 a1 false ((bt a1 0) == 45)) else (none))) = some r := by rw [if_neg (show ¬ (false = true) by decide)] at H; exact H
              clear H
              have H := H1
              clear H1
              have HC42 := Aside0.mk H
              clear H
              go_upto_region 8 with (fail)
              go_cut [51] (fun v51 wc => ∃ (kq : Nat) (x51_41 : Bool), v51 = .bool x51_41 ∧ Aside0 (offcutlaw02_WholeTexts.j2 kq a1 a1 false x51_41 = some r) ∧ Aside0 (kq ≤ kj15) ∧ Aside0 (Kd.R (Kd.int .u32) 37 wc w.heap.size (fun _ => True) (.slice Ao23 t697.length co23) t697) ∧ Aside0 (wc.heap[gb692]? = some (.cells #[.bool a0_0, (.slice A0_1 l0_1.length c0_1)] 25 (0, 0))) ∧ Aside0 (wc.heap[gb701]? = some (.cells #[.bool t696, (.slice Ao23 t697.length co23)] 25 (0, 0))) ∧ Aside0 (Below w.heap.size w wc))
              case first =>
                have H := HC42.out
                clear HC42
                by_cases c43 : a1.toList = ([] : List UInt8)
                · rw [if_pos c43] at H
                  have c43b0 : (a1.toList == ([] : List UInt8)) = true := beq_iff_eq.mpr c43
                  have c43b1 : (a1.toList != ([] : List UInt8)) = false := bne_eq_false_iff_eq.mpr c43
                  clear c43
                  (first | rw [c43b0] | (simp only [i64_w, i32_w]; rw [c43b0]) | skip)
                  have H' := Aside0.mk H
                  clear H
                  go_wp2
                  go_meet
                  case rel => exact ⟨_, (false), (by first | rfl | (simp; done) | (simp [*]; done)), H', ⟨by have := HJ2.out; have := HJ15.out; first | omega | exact Nat.le_refl _⟩, ⟨by (with_reducible repeat (first | apply Kd.R_alloc | apply Kd.R_drewN | apply Kd.R_drew)); exact HO_702001.out⟩, ⟨by (with_reducible repeat (first | refine blk_drewN ?_ _ | refine blk_drew ?_ | refine blk_alloc ?_ _)); exact BK692.out⟩, ⟨by (with_reducible repeat (first | refine blk_drewN ?_ _ | refine blk_drew ?_ | refine blk_alloc ?_ _)); exact BK701.out⟩, ⟨by repeat (first | (with_reducible first | exact HB.out | apply below_alloc | apply pw_below_drewN | apply below_drew1 | refine below_set ?_ GE692.out | refine below_set ?_ GE701.out) | exact HB.out)⟩⟩
                · rw [if_neg c43] at H
                  have c43b0 : (a1.toList == ([] : List UInt8)) = false := beq_eq_false_iff_ne.mpr c43
                  have c43b1 : (a1.toList != ([] : List UInt8)) = true := bne_iff_ne.mpr c43
                  (first | rw [c43b0] | (simp only [i64_w, i32_w]; rw [c43b0]) | skip)
                  by_cases c44 : 0 < (a1.size : Int)
                  · rw [if_pos c44] at H
                    have c44b0 : decide (0 < (a1.size : Int)) = true := decide_eq_true c44
                    have c44b1 : decide (0 < a1.size) = true := decide_eq_true (by omega)
                    clear c44
                    have H' := Aside0.mk H
                    clear H
                    have p45 : 0 ≤ (0 : Int) := (by omega)
                    have q45 : 0 < a1.size := (by have : (0 : Int) < (a1.size : Int) := of_decide_eq_true (by first | (with_reducible assumption) | assumption); omega)
                    have hx45 : ∀ h : 0 < a1.size, ((a1[0]'h).toNat : Int) = bt a1 0 := bt_at a1 0
                    clear p45
                    have qi45 : (0 < (a1.size : Int)) = True := eq_true (of_decide_eq_true (by first | (with_reducible assumption) | assumption))
                    replace q45 := eq_true q45
                    go_wp2
                    go_meet
                    case rel => exact ⟨_, (((bt a1 0) == 45)), (by first | rfl | (simp; done) | (simp [*]; done)), H', ⟨by have := HJ2.out; have := HJ15.out; first | omega | exact Nat.le_refl _⟩, ⟨by (with_reducible repeat (first | apply Kd.R_alloc | apply Kd.R_drewN | apply Kd.R_drew)); exact HO_702001.out⟩, ⟨by (with_reducible repeat (first | refine blk_drewN ?_ _ | refine blk_drew ?_ | refine blk_alloc ?_ _)); exact BK692.out⟩, ⟨by (with_reducible repeat (first | refine blk_drewN ?_ _ | refine blk_drew ?_ | refine blk_alloc ?_ _)); exact BK701.out⟩, ⟨by repeat (first | (with_reducible first | exact HB.out | apply below_alloc | apply pw_below_drewN | apply below_drew1 | refine below_set ?_ GE692.out | refine below_set ?_ GE701.out) | exact HB.out)⟩⟩
                  · rw [if_neg c44] at H
                    exact absurd H (by simp)
              case rest =>
                clear HC42
                try clear c1
                try clear c2
                try clear p2
                try clear c3
                try clear c4
                try clear p4
                try clear q4
                try clear hx4
                try clear qi4
                try clear c6
                try clear c9
                try clear c11
                try clear c17
                try clear c18
                try clear c19
                try clear c21
                try clear c25
                try clear c25b0
                try clear c25b1
                try clear c27
                try clear c28
                try clear c33
                try clear c38
                try clear c39
                try clear c40
                try clear c41
                try clear c43
                try clear c43b0
                try clear c43b1
                try clear c44
                try clear c44b0
                try clear c44b1
                try clear p45
                try clear q45
                try clear hx45
                try clear qi45
                try clear hcz17_0
                try clear hcz17_1
                try clear hcz22_0
                try clear hcz22_1
                try clear hcz29_0
                try clear hcz29_1
                try clear hcz31_0
                try clear hcz31_1
                try clear hcz34_0
                try clear hcz34_1
                try clear hcz36_0
                try clear hcz36_1
                try clear hcz39_0
                try clear hcz39_1
                try clear hcz7_0
                try clear hcz7_1
                try clear hcz9_0
                try clear hcz9_1
                try clear hfz17_0
                try clear hfz17_1
                try clear hfz22_0
                try clear hfz22_1
                try clear hfz29_0
                try clear hfz29_1
                try clear hfz31_0
                try clear hfz31_1
                try clear hfz34_0
                try clear hfz34_1
                try clear hfz36_0
                try clear hfz36_1
                try clear hfz39_0
                try clear hfz39_1
                try clear hfz7_0
                try clear hfz7_1
                try clear hfz9_0
                try clear hfz9_1
                try clear p2
                try clear p45
                try clear q45
                obtain ⟨kq, x51_41, rfl, HA, HJ41, HO_702001, BK692, BK701, HB⟩ := hcut
                cases kq with
                | zero => exact absurd HA.out (by simp [offcutlaw02_WholeTexts.j2])
                | succ kj41 =>
                  have H := HA.out
                  clear HA
                  simp only [offcutlaw02_WholeTexts.j2] at H
                  have HC46 := Aside0.mk H
                  clear H
                  go_upto_if 51 with (fail)
                  go_cut [8, 9] (fun v8 v9 wc => ∃ (kq : Nat) (x8_45 : ByteArray) (x9_45 : Bool), v8 = .string x8_45 ∧ v9 = .bool x9_45 ∧ Aside0 (offcutlaw02_WholeTexts.j3 kq a1 x8_45 x9_45 = some r) ∧ Aside0 (kq ≤ kj41) ∧ Aside0 (Kd.R (Kd.int .u32) 37 wc w.heap.size (fun _ => True) (.slice Ao23 t697.length co23) t697) ∧ Aside0 (wc.heap[gb692]? = some (.cells #[.bool a0_0, (.slice A0_1 l0_1.length c0_1)] 25 (0, 0))) ∧ Aside0 (wc.heap[gb701]? = some (.cells #[.bool t696, (.slice Ao23 t697.length co23)] 25 (0, 0))) ∧ Aside0 (Below w.heap.size w wc))
                  case first =>
                    have H := HC46.out
                    clear HC46
                    by_cases c47 : x51_41 = true
                    · subst c47
                      have H1 : (if 1 ≤ (a1.size : Int) then (offcutlaw02_WholeTexts.j3 kj41 a1 (a1.extract 1 a1.size) true) else (none)) = some r := by rw [if_pos rfl] at H; exact H
                      clear H
                      have H := H1
                      clear H1
                      by_cases c48 : 1 ≤ (a1.size : Int)
                      · rw [if_pos c48] at H
                        have c48b0 := eq_true c48
                        have c48b1 : decide (1 ≤ (a1.size : Int)) = true := decide_eq_true c48
                        clear c48
                        have H' := Aside0.mk H
                        clear H
                        go_wp2
                        go_meet
                        case rel => exact ⟨_, (a1.extract 1 a1.size), (true), (by first | rfl | (simp; done) | (simp [*]; done)), (by first | rfl | (simp; done) | (simp [*]; done)), H', ⟨by have := HJ2.out; have := HJ15.out; have := HJ41.out; first | omega | exact Nat.le_refl _⟩, ⟨by (with_reducible repeat (first | apply Kd.R_alloc | apply Kd.R_drewN | apply Kd.R_drew)); exact HO_702001.out⟩, ⟨by (with_reducible repeat (first | refine blk_drewN ?_ _ | refine blk_drew ?_ | refine blk_alloc ?_ _)); exact BK692.out⟩, ⟨by (with_reducible repeat (first | refine blk_drewN ?_ _ | refine blk_drew ?_ | refine blk_alloc ?_ _)); exact BK701.out⟩, ⟨by repeat (first | (with_reducible first | exact HB.out | apply below_alloc | apply pw_below_drewN | apply below_drew1 | refine below_set ?_ GE692.out | refine below_set ?_ GE701.out) | exact HB.out)⟩⟩
                      · rw [if_neg c48] at H
                        exact absurd H (by simp)
                    · replace c47 := Bool.eq_false_iff.mpr c47
                      subst c47
                      have H1 : (offcutlaw02_WholeTexts.j3 kj41 a1 a1 false) = some r := by rw [if_neg (show ¬ (false = true) by decide)] at H; exact H
                      clear H
                      have H := H1
                      clear H1
                      have H' := Aside0.mk H
                      clear H
                      go_wp2
                      go_meet
                      case rel => exact ⟨_, (a1), (false), (by first | rfl | (simp; done) | (simp [*]; done)), (by first | rfl | (simp; done) | (simp [*]; done)), H', ⟨by have := HJ2.out; have := HJ15.out; have := HJ41.out; first | omega | exact Nat.le_refl _⟩, ⟨by (with_reducible repeat (first | apply Kd.R_alloc | apply Kd.R_drewN | apply Kd.R_drew)); exact HO_702001.out⟩, ⟨by (with_reducible repeat (first | refine blk_drewN ?_ _ | refine blk_drew ?_ | refine blk_alloc ?_ _)); exact BK692.out⟩, ⟨by (with_reducible repeat (first | refine blk_drewN ?_ _ | refine blk_drew ?_ | refine blk_alloc ?_ _)); exact BK701.out⟩, ⟨by repeat (first | (with_reducible first | exact HB.out | apply below_alloc | apply pw_below_drewN | apply below_drew1 | refine below_set ?_ GE692.out | refine below_set ?_ GE701.out) | exact HB.out)⟩⟩
                  case rest =>
                    clear HC46
                    try clear c1
                    try clear c2
                    try clear p2
                    try clear c3
                    try clear c4
                    try clear p4
                    try clear q4
                    try clear hx4
                    try clear qi4
                    try clear c6
                    try clear c9
                    try clear c11
                    try clear c17
                    try clear c18
                    try clear c19
                    try clear c21
                    try clear c25
                    try clear c25b0
                    try clear c25b1
                    try clear c27
                    try clear c28
                    try clear c33
                    try clear c38
                    try clear c39
                    try clear c40
                    try clear c41
                    try clear c43
                    try clear c43b0
                    try clear c43b1
                    try clear c44
                    try clear c44b0
                    try clear c44b1
                    try clear p45
                    try clear q45
                    try clear hx45
                    try clear qi45
                    try clear c47
                    try clear c48
                    try clear c48b0
                    try clear c48b1
                    try clear hcz17_0
                    try clear hcz17_1
                    try clear hcz22_0
                    try clear hcz22_1
                    try clear hcz29_0
                    try clear hcz29_1
                    try clear hcz31_0
                    try clear hcz31_1
                    try clear hcz34_0
                    try clear hcz34_1
                    try clear hcz36_0
                    try clear hcz36_1
                    try clear hcz39_0
                    try clear hcz39_1
                    try clear hcz7_0
                    try clear hcz7_1
                    try clear hcz9_0
                    try clear hcz9_1
                    try clear hfz17_0
                    try clear hfz17_1
                    try clear hfz22_0
                    try clear hfz22_1
                    try clear hfz29_0
                    try clear hfz29_1
                    try clear hfz31_0
                    try clear hfz31_1
                    try clear hfz34_0
                    try clear hfz34_1
                    try clear hfz36_0
                    try clear hfz36_1
                    try clear hfz39_0
                    try clear hfz39_1
                    try clear hfz7_0
                    try clear hfz7_1
                    try clear hfz9_0
                    try clear hfz9_1
                    try clear p2
                    try clear p4
                    try clear p45
                    try clear q4
                    try clear q45
                    obtain ⟨kq, x8_45, x9_45, rfl, rfl, HA, HJ45, HO_702001, BK692, BK701, HB⟩ := hcut
                    cases kq with
                    | zero => exact absurd HA.out (by simp [offcutlaw02_WholeTexts.j3])
                    | succ kj45 =>
                      have H := HA.out
                      clear HA
                      simp only [offcutlaw02_WholeTexts.j3] at H
                      replace H := Option.bind_eq_some_iff.mp H
                      obtain ⟨⟨t704, t705⟩, A490, H⟩ := H
                      replace H : ((whole_Parse.f kj45 a1).bind fun bt708 => (if t705 = 0 then ((offcutref01_Of.f kj45 t704).bind fun t716 => ((offcutref02_Made.f x9_45 t716).bind fun t717 => ((offcutlaw02_is.f kj45 bt708.1 bt708.2.1 t717).bind fun t718 => (if t718 = true then (if bt708.2.2 = 0 then ((offcutlaw02_awake.f kj45).bind fun t719 => (some t719)) else (some false)) else (some false))))) else ((offcutlaw02_is.f kj45 bt708.1 bt708.2.1 (⟨#[48]⟩ : ByteArray)).bind fun t714 => (if t714 = true then (if bt708.2.2 = t705 then ((offcutlaw02_awake.f kj45).bind fun t715 => (some t715)) else (some false)) else (some false))))) = some r := H
                      have A49 := Aside0.mk A490
                      clear A490
                      replace H := Option.bind_eq_some_iff.mp H
                      obtain ⟨⟨t708, t709, t712⟩, A500, H⟩ := H
                      replace H : (if t705 = 0 then ((offcutref01_Of.f kj45 t704).bind fun t716 => ((offcutref02_Made.f x9_45 t716).bind fun t717 => ((offcutlaw02_is.f kj45 t708 t709 t717).bind fun t718 => (if t718 = true then (if t712 = 0 then ((offcutlaw02_awake.f kj45).bind fun t719 => (some t719)) else (some false)) else (some false))))) else ((offcutlaw02_is.f kj45 t708 t709 (⟨#[48]⟩ : ByteArray)).bind fun t714 => (if t714 = true then (if t712 = t705 then ((offcutlaw02_awake.f kj45).bind fun t715 => (some t715)) else (some false)) else (some false)))) = some r := H
                      have A50 := Aside0.mk A500
                      clear A500
                      by_cases c51 : t705 = 0
                      · rw [if_pos c51] at H
                        have c51b0 : (t705 == 0) = true := beq_iff_eq.mpr c51
                        have c51b1 : (t705 != 0) = false := bne_eq_false_iff_eq.mpr c51
                        clear c51
                        replace H := Option.bind_eq_some_iff.mp H
                        obtain ⟨t716, A520, H⟩ := H
                        replace H : ((offcutref02_Made.f x9_45 t716).bind fun t717 => ((offcutlaw02_is.f kj45 t708 t709 t717).bind fun t718 => (if t718 = true then (if t712 = 0 then ((offcutlaw02_awake.f kj45).bind fun t719 => (some t719)) else (some false)) else (some false)))) = some r := H
                        have A52 := Aside0.mk A520
                        clear A520
                        replace H := Option.bind_eq_some_iff.mp H
                        obtain ⟨t717, A530, H⟩ := H
                        replace H : ((offcutlaw02_is.f kj45 t708 t709 t717).bind fun t718 => (if t718 = true then (if t712 = 0 then ((offcutlaw02_awake.f kj45).bind fun t719 => (some t719)) else (some false)) else (some false))) = some r := H
                        have A53 := Aside0.mk A530
                        clear A530
                        replace H := Option.bind_eq_some_iff.mp H
                        obtain ⟨t718, A540, H⟩ := H
                        replace H : (if t718 = true then (if t712 = 0 then ((offcutlaw02_awake.f kj45).bind fun t719 => (some t719)) else (some false)) else (some false)) = some r := H
                        have A54 := Aside0.mk A540
                        clear A540
                        by_cases c55 : t718 = true
                        · subst c55
                          have H1 : (if t712 = 0 then ((offcutlaw02_awake.f kj45).bind fun t719 => (some t719)) else (some false)) = some r := by rw [if_pos rfl] at H; exact H
                          clear H
                          have H := H1
                          clear H1
                          by_cases c56 : t712 = 0
                          · rw [if_pos c56] at H
                            have c56b0 : (t712 == 0) = true := beq_iff_eq.mpr c56
                            have c56b1 : (t712 != 0) = false := bne_eq_false_iff_eq.mpr c56
                            clear c56
                            replace H := Option.bind_eq_some_iff.mp H
                            obtain ⟨t719, A570, H⟩ := H
                            replace H : (some t719) = some r := H
                            have A57 := Aside0.mk A570
                            clear A570
                            obtain rfl := Option.some.inj H
                            try go_wp2_with (first | ((with_reducible refine gate_callee (f := 41) rfl ?_); refine goesL_ (some 56) rfl rfl Try.func41 (by kernel_rfl) rfl #[.string x8_45] rfl (by (try simp only [List.map_toArray, List.map_cons, List.map_nil]); first | done | rfl | (simp only [List.length_drop, List.length_take]; rfl)) ?_; (with_reducible refine (nat_Parse.calls kj45 x8_45 t704 t705 _ A49.out).mono ?_); rintro e w58 ⟨v706, rfl, ho0, hb⟩; refine ⟨_, rfl, ?_⟩; have n0_ := Aside0.mk (Kd.R_elder' (by (with_reducible repeat (first | apply Kd.R_alloc | apply Kd.R_drewN | apply Kd.R_drew)); exact HO_702001.out) (Kd.R_base ho0) hb); have n1_ := Aside0.mk (Kd.R_lower (Kd.R_new' ho0 (Kd.R_lt (by (with_reducible repeat (first | apply Kd.R_alloc | apply Kd.R_drewN | apply Kd.R_drew)); exact HO_702001.out))) (below_size (by repeat (first | (with_reducible first | exact HB.out | apply below_alloc | apply pw_below_drewN | apply below_drew1 | refine below_set ?_ GE692.out | refine below_set ?_ GE701.out) | exact HB.out)))); have n2_ := Aside0.mk (blk_below (g := gb692) (o := .cells #[.bool a0_0, .slice A0_1 l0_1.length c0_1] 25 (0, 0)) (by (with_reducible repeat (first | refine blk_drewN ?_ _ | refine blk_drew ?_ | refine blk_alloc ?_ _)); exact BK692.out) hb); have n3_ := Aside0.mk (blk_below (g := gb701) (o := .cells #[.bool t696, .slice Ao23 t697.length co23] 25 (0, 0)) (by (with_reducible repeat (first | refine blk_drewN ?_ _ | refine blk_drew ?_ | refine blk_alloc ?_ _)); exact BK701.out) hb); have n4_ := Aside0.mk (below_step (by repeat (first | (with_reducible first | exact HB.out | apply below_alloc | apply pw_below_drewN | apply below_drew1 | refine below_set ?_ GE692.out | refine below_set ?_ GE701.out) | exact HB.out)) hb); clear HO_702001; clear BK692; clear BK701; clear HB; have HO_702001 := n0_; have HO707 := n1_; have BK692 := n2_; have BK701 := n3_; have HB := n4_; clear n0_ n1_ n2_ n3_ n4_; (try clear hb); (try clear ho0)) | ((with_reducible refine gate_callee (f := 40) rfl ?_); refine goesL_ (some 61) rfl rfl Try.func40 (by kernel_rfl) rfl #[.string a1] rfl (by (try simp only [List.map_toArray, List.map_cons, List.map_nil]); first | done | rfl | (simp only [List.length_drop, List.length_take]; rfl)) ?_; (with_reducible refine (whole_Parse.calls kj45 a1 t708 t709 t712 _ A50.out).mono ?_); rintro e w59 ⟨v710, rfl, ho0, hb⟩; refine ⟨_, rfl, ?_⟩; have n0_ := Aside0.mk (Kd.R_elder' (by (with_reducible repeat (first | apply Kd.R_alloc | apply Kd.R_drewN | apply Kd.R_drew)); exact HO_702001.out) (Kd.R_base ho0) hb); have n1_ := Aside0.mk (Kd.R_elder' (by (with_reducible repeat (first | apply Kd.R_alloc | apply Kd.R_drewN | apply Kd.R_drew)); exact HO707.out) (Kd.R_base ho0) hb); have n2_ := Aside0.mk (Kd.R_lower (Kd.R_new' (Kd.R_new' ho0 (Kd.R_lt (by (with_reducible repeat (first | apply Kd.R_alloc | apply Kd.R_drewN | apply Kd.R_drew)); exact HO_702001.out))) (Kd.R_lt (by (with_reducible repeat (first | apply Kd.R_alloc | apply Kd.R_drewN | apply Kd.R_drew)); exact HO707.out))) (below_size (by repeat (first | (with_reducible first | exact HB.out | apply below_alloc | apply pw_below_drewN | apply below_drew1 | refine below_set ?_ GE692.out | refine below_set ?_ GE701.out) | exact HB.out)))); have n3_ := Aside0.mk (blk_below (g := gb692) (o := .cells #[.bool a0_0, .slice A0_1 l0_1.length c0_1] 25 (0, 0)) (by (with_reducible repeat (first | refine blk_drewN ?_ _ | refine blk_drew ?_ | refine blk_alloc ?_ _)); exact BK692.out) hb); have n4_ := Aside0.mk (blk_below (g := gb701) (o := .cells #[.bool t696, .slice Ao23 t697.length co23] 25 (0, 0)) (by (with_reducible repeat (first | refine blk_drewN ?_ _ | refine blk_drew ?_ | refine blk_alloc ?_ _)); exact BK701.out) hb); have n5_ := Aside0.mk (below_step (by repeat (first | (with_reducible first | exact HB.out | apply below_alloc | apply pw_below_drewN | apply below_drew1 | refine below_set ?_ GE692.out | refine below_set ?_ GE701.out) | exact HB.out)) hb); clear HO_702001; clear HO707; clear BK692; clear BK701; clear HB; have HO_702001 := n0_; have HO707 := n1_; have HO711 := n2_; have BK692 := n3_; have BK701 := n4_; have HB := n5_; clear n0_ n1_ n2_ n3_ n4_ n5_; (try clear hb); (try clear ho0)) | ((with_reducible refine gate_dst (N := 12) rfl ?_); (try (refine gate_guard (by rfl) ?_; dsimp only)); refine box_event ?hg (N := 12) ?hd (cs := #[.bool false, .slice none 0 0]) (t := 25) ?hr ?_; (case hd => rfl); (case hg => rfl); (case hr => first | (go_simp; done) | (go_simp; rfl)); intro gb713 hg w60 hbox hb; have n0_ := Aside0.mk (Kd.R_below (by (with_reducible repeat (first | apply Kd.R_alloc | apply Kd.R_drewN | apply Kd.R_drew)); exact HO_702001.out) hb); have n1_ := Aside0.mk (Kd.R_below (by (with_reducible repeat (first | apply Kd.R_alloc | apply Kd.R_drewN | apply Kd.R_drew)); exact HO707.out) hb); have n2_ := Aside0.mk (Kd.R_below (by (with_reducible repeat (first | apply Kd.R_alloc | apply Kd.R_drewN | apply Kd.R_drew)); exact HO711.out) hb); have n3_ := Aside0.mk (blk_below (g := gb692) (o := .cells #[.bool a0_0, .slice A0_1 l0_1.length c0_1] 25 (0, 0)) (by (with_reducible repeat (first | refine blk_drewN ?_ _ | refine blk_drew ?_ | refine blk_alloc ?_ _)); exact BK692.out) hb); have n4_ := Aside0.mk (blk_below (g := gb701) (o := .cells #[.bool t696, .slice Ao23 t697.length co23] 25 (0, 0)) (by (with_reducible repeat (first | refine blk_drewN ?_ _ | refine blk_drew ?_ | refine blk_alloc ?_ _)); exact BK701.out) hb); have n5_ := Aside0.mk (below_step (by repeat (first | (with_reducible first | exact HB.out | apply below_alloc | apply pw_below_drewN | apply below_drew1 | refine below_set ?_ GE692.out | refine below_set ?_ GE701.out) | exact HB.out)) hb); have n6_ := Aside0.mk (hbox); have n7_ := Aside0.mk ((by rw [hg]; exact (below_size (by repeat (first | (with_reducible first | exact HB.out | apply below_alloc | apply pw_below_drewN | apply below_drew1 | refine below_set ?_ GE692.out | refine below_set ?_ GE701.out) | exact HB.out))) : w.heap.size ≤ gb713)); have n8_ := Aside0.mk ((by rw [hg]; exact (below_size (by repeat (first | (with_reducible first | exact HB.out | apply below_alloc | apply pw_below_drewN | apply below_drew1 | refine below_set ?_ GE692.out | refine below_set ?_ GE701.out) | exact HB.out))) : w.heap.size ≤ gb713)); have n9_ := Aside0.mk ((by rw [hg]; exact Nat.ne_of_lt (blk_lt (g := gb692) (o := .cells #[.bool a0_0, .slice A0_1 l0_1.length c0_1] 25 (0, 0)) (by (with_reducible repeat (first | refine blk_drewN ?_ _ | refine blk_drew ?_ | refine blk_alloc ?_ _)); exact BK692.out)) : gb692 ≠ gb713)); have n10_ := Aside0.mk ((by rw [hg]; exact Nat.ne_of_gt (blk_lt (g := gb692) (o := .cells #[.bool a0_0, .slice A0_1 l0_1.length c0_1] 25 (0, 0)) (by (with_reducible repeat (first | refine blk_drewN ?_ _ | refine blk_drew ?_ | refine blk_alloc ?_ _)); exact BK692.out)) : gb713 ≠ gb692)); have n11_ := Aside0.mk ((by rw [hg]; exact Nat.ne_of_lt (blk_lt (g := gb701) (o := .cells #[.bool t696, .slice Ao23 t697.length co23] 25 (0, 0)) (by (with_reducible repeat (first | refine blk_drewN ?_ _ | refine blk_drew ?_ | refine blk_alloc ?_ _)); exact BK701.out)) : gb701 ≠ gb713)); have n12_ := Aside0.mk ((by rw [hg]; exact Nat.ne_of_gt (blk_lt (g := gb701) (o := .cells #[.bool t696, .slice Ao23 t697.length co23] 25 (0, 0)) (by (with_reducible repeat (first | refine blk_drewN ?_ _ | refine blk_drew ?_ | refine blk_alloc ?_ _)); exact BK701.out)) : gb713 ≠ gb701)); clear HO_702001; clear HO707; clear HO711; clear BK692; clear BK701; clear HB; have HO_702001 := n0_; have HO707 := n1_; have HO711 := n2_; have BK692 := n3_; have BK701 := n4_; have HB := n5_; have BK713 := n6_; have GW713 := n7_; have GE713 := n8_; have NB692_713 := n9_; have NB713_692 := n10_; have NB701_713 := n11_; have NB713_701 := n12_; clear n0_ n1_ n2_ n3_ n4_ n5_ n6_ n7_ n8_ n9_ n10_ n11_ n12_; clear hb hbox hg; have hnb61 := NB713_692.out; have hnc61 := NB692_713.out; have hnb62 := NB713_701.out; have hnc62 := NB701_713.out; have hcz63_0 : w60.cell? ⟨gb713, 0, none⟩ = some (.bool false) := (blk_cell BK713.out 0).trans rfl; have hcz63_1 : w60.cell? ⟨gb713, 1, none⟩ = some (.slice none 0 0) := (blk_cell BK713.out 1).trans rfl; have hfz63_0 := blk_frozen BK713.out 0; have hfz63_1 := blk_frozen BK713.out 1; obtain ⟨Ao64, co64, eo64⟩ := Kd.R_slice HO711.out; subst eo64))
                            have n0_ : Aside0 (Kd.R (Kd.int .u32) 37 ((w60.setCell ⟨gb713, 0, none⟩ (.bool t708)).setCell ⟨gb713, 1, none⟩ (.slice Ao64 t709.length co64)) w.heap.size (fun k_ => some k_ ≠ (v706 : Value).ownBlock ∧ some k_ ≠ (.slice Ao64 t709.length co64 : Value).ownBlock) (.slice Ao23 t697.length co23) t697) := ⟨by (with_reducible repeat (first | apply Kd.R_alloc | apply Kd.R_drewN | apply Kd.R_drew)); exact Kd.R_mono (Kd.R_far (p := ⟨gb713, 1, none⟩) (Kd.R_far (p := ⟨gb713, 0, none⟩) (Kd.R_types HO_702001.out BK713.out (by decide)) (fun _ hk => hk.2) (.bool t708)) (fun _ hk => hk.2) (.slice Ao64 t709.length co64)) (fun _ hk => ⟨hk.1.1.2, hk.1.2⟩)⟩
                            have n1_ : Aside0 (Kd.R (Kd.int .u32) 37 ((w60.setCell ⟨gb713, 0, none⟩ (.bool t708)).setCell ⟨gb713, 1, none⟩ (.slice Ao64 t709.length co64)) w.heap.size (fun k_ => some k_ ≠ (.slice Ao23 t697.length co23 : Value).ownBlock ∧ some k_ ≠ (.slice Ao64 t709.length co64 : Value).ownBlock) v706 t704) := ⟨by (with_reducible repeat (first | apply Kd.R_alloc | apply Kd.R_drewN | apply Kd.R_drew)); exact Kd.R_mono (Kd.R_far (p := ⟨gb713, 1, none⟩) (Kd.R_far (p := ⟨gb713, 0, none⟩) (Kd.R_types HO707.out BK713.out (by decide)) (fun _ hk => hk.2) (.bool t708)) (fun _ hk => hk.2) (.slice Ao64 t709.length co64)) (fun _ hk => ⟨hk.1.1.2, hk.1.2⟩)⟩
                            have n2_ : Aside0 (Kd.R (Kd.int .u32) 37 ((w60.setCell ⟨gb713, 0, none⟩ (.bool t708)).setCell ⟨gb713, 1, none⟩ (.slice Ao64 t709.length co64)) w.heap.size (fun k_ => some k_ ≠ (.slice Ao23 t697.length co23 : Value).ownBlock ∧ some k_ ≠ (v706 : Value).ownBlock) (.slice Ao64 t709.length co64) t709) := ⟨by (with_reducible repeat (first | apply Kd.R_alloc | apply Kd.R_drewN | apply Kd.R_drew)); exact Kd.R_mono (Kd.R_far (p := ⟨gb713, 1, none⟩) (Kd.R_far (p := ⟨gb713, 0, none⟩) (Kd.R_types HO711.out BK713.out (by decide)) (fun _ hk => hk.2) (.bool t708)) (fun _ hk => hk.2) (.slice Ao64 t709.length co64)) (fun _ hk => ⟨hk.1.1.2, hk.1.2⟩)⟩
                            have n3_ : Aside0 (((w60.setCell ⟨gb713, 0, none⟩ (.bool t708)).setCell ⟨gb713, 1, none⟩ (.slice Ao64 t709.length co64)).heap[gb692]? = some (.cells #[.bool a0_0, .slice A0_1 l0_1.length c0_1] 25 (0, 0))) := ⟨by (with_reducible repeat (first | refine blk_drewN ?_ _ | refine blk_drew ?_ | refine blk_alloc ?_ _)); refine blk_far ?_ NB692_713.out _; (with_reducible repeat (first | refine blk_drewN ?_ _ | refine blk_drew ?_ | refine blk_alloc ?_ _)); refine blk_far ?_ NB692_713.out _; (with_reducible repeat (first | refine blk_drewN ?_ _ | refine blk_drew ?_ | refine blk_alloc ?_ _)); exact BK692.out⟩
                            have n4_ : Aside0 (((w60.setCell ⟨gb713, 0, none⟩ (.bool t708)).setCell ⟨gb713, 1, none⟩ (.slice Ao64 t709.length co64)).heap[gb701]? = some (.cells #[.bool t696, .slice Ao23 t697.length co23] 25 (0, 0))) := ⟨by (with_reducible repeat (first | refine blk_drewN ?_ _ | refine blk_drew ?_ | refine blk_alloc ?_ _)); refine blk_far ?_ NB701_713.out _; (with_reducible repeat (first | refine blk_drewN ?_ _ | refine blk_drew ?_ | refine blk_alloc ?_ _)); refine blk_far ?_ NB701_713.out _; (with_reducible repeat (first | refine blk_drewN ?_ _ | refine blk_drew ?_ | refine blk_alloc ?_ _)); exact BK701.out⟩
                            have n5_ : Aside0 (((w60.setCell ⟨gb713, 0, none⟩ (.bool t708)).setCell ⟨gb713, 1, none⟩ (.slice Ao64 t709.length co64)).heap[gb713]? = some (.cells #[.bool t708, .slice Ao64 t709.length co64] 25 (0, 0))) := ⟨by (with_reducible repeat (first | refine blk_drewN ?_ _ | refine blk_drew ?_ | refine blk_alloc ?_ _)); refine blk_put (cs := #[.bool t708, .slice none 0 0]) ?_ 1 _ rfl; (with_reducible repeat (first | refine blk_drewN ?_ _ | refine blk_drew ?_ | refine blk_alloc ?_ _)); refine blk_put (cs := #[.bool false, .slice none 0 0]) ?_ 0 _ rfl; (with_reducible repeat (first | refine blk_drewN ?_ _ | refine blk_drew ?_ | refine blk_alloc ?_ _)); exact BK713.out⟩
                            have n6_ : Aside0 (Below w.heap.size w ((w60.setCell ⟨gb713, 0, none⟩ (.bool t708)).setCell ⟨gb713, 1, none⟩ (.slice Ao64 t709.length co64))) := ⟨by repeat (first | (with_reducible first | exact HB.out | apply below_alloc | apply pw_below_drewN | apply below_drew1 | refine below_set ?_ GE692.out | refine below_set ?_ GE701.out | refine below_set ?_ GE713.out) | exact HB.out)⟩
                            (try clear HO_702001)
                            (try clear HO707)
                            (try clear HO711)
                            (try clear BK692)
                            (try clear BK701)
                            (try clear BK713)
                            (try clear HB)
                            generalize ((w60.setCell ⟨gb713, 0, none⟩ (.bool t708)).setCell ⟨gb713, 1, none⟩ (.slice Ao64 t709.length co64)) = w65 at n0_ n1_ n2_ n3_ n4_ n5_ n6_ ⊢
                            have HO_702001 := n0_
                            have HO707 := n1_
                            have HO711 := n2_
                            have BK692 := n3_
                            have BK701 := n4_
                            have BK713 := n5_
                            have HB := n6_
                            clear n0_ n1_ n2_ n3_ n4_ n5_ n6_
                            have n0_ := Aside0.mk (Kd.R_drew HO_702001.out)
                            have n1_ := Aside0.mk (Kd.R_drew HO707.out)
                            have n2_ := Aside0.mk (Kd.R_drew HO711.out)
                            have n3_ := Aside0.mk (blk_drew BK692.out)
                            have n4_ := Aside0.mk (blk_drew BK701.out)
                            have n5_ := Aside0.mk (blk_drew BK713.out)
                            have n6_ := Aside0.mk (below_drew1 HB.out)
                            clear HO_702001
                            clear HO707
                            clear HO711
                            clear BK692
                            clear BK701
                            clear BK713
                            clear HB
                            have HO_702001 := n0_
                            have HO707 := n1_
                            have HO711 := n2_
                            have BK692 := n3_
                            have BK701 := n4_
                            have BK713 := n5_
                            have HB := n6_
                            clear n0_ n1_ n2_ n3_ n4_ n5_ n6_
                            obtain ⟨Ao67, co67, eo67⟩ := Kd.R_slice HO707.out
                            (first | subst eo67 | (injection eo67 with f1_ f2_ f3_; have f4_ := f1_.symm; have f5_ := f3_.symm; clear f1_ f2_ f3_; subst f4_; subst f5_))
                            refine start_ (n := 14) (S := fun w' => w'.cell? ⟨gb713, 0, none⟩ = some (.bool t708) ∧ w'.cell? ⟨gb713, 1, none⟩ = some (.slice Ao64 t709.length co64)) (ds := []) #[false, false, false, false, false, false, false, false, false, false, false, false, false, false] (by kernel_rfl) rfl rfl ⟨(blk_cell BK713.out 0).trans rfl, (blk_cell BK713.out 1).trans rfl⟩ (fun hHeld => ?_); refine with_tabW offcutlaw02_WholeTexts.tab14 offcutlaw02_WholeTexts.bits14 (fun HT_ HW_ => ?_)
                            generalize w65.drew = w66 at HO_702001 HO707 HO711 BK692 BK701 BK713 HB hHeld ⊢
                            refine pure_ (i := 1) (N := some 77) (v := ?_) (a' := ?_) #[false, true, false, false, false, false, false, false, false, false, false, false, false, false] rfl rfl (any_of HT_.out (by kernel_rfl)) (fun _ _ _ h => h) (Or.inl ⟨by rfl, ?_⟩) ?_ ?_
                            rotate_left
                            · intro w'
                              go_simp
                              with_reducible rfl
                            rotate_left
                            · simp only [Act.put, List.setIfInBounds_toArray, List.set_cons_zero, List.set_cons_succ, i64_w, i32_w]
                              rfl
                            refine pure_ (i := 2) (N := some 78) (v := ?_) (a' := ?_) #[false, true, true, false, false, false, false, false, false, false, false, false, false, false] rfl rfl (any_of HT_.out (by kernel_rfl)) (fun _ _ _ h => h) (Or.inl ⟨by rfl, ?_⟩) ?_ ?_
                            rotate_left
                            · intro w'
                              go_simp
                              with_reducible rfl
                            rotate_left
                            · simp only [Act.put, List.setIfInBounds_toArray, List.set_cons_zero, List.set_cons_succ, i64_w, i32_w]
                              rfl
                            refine take_ (i := 0) (N := some 76) (v := ?_) (a' := ?_) #[true, true, true, false, false, false, false, false, false, false, false, false, false, false] rfl rfl (take_ofW HT_.out HW_.out (by kernel_rfl)) (fun _ _ _ h => h) (Or.inl ⟨by rfl, ?_⟩) hHeld ?_ ?_
                            rotate_left
                            · rintro w' ⟨s0, s1⟩
                              go_simp
                              with_reducible rfl
                            rotate_left
                            · simp only [Act.put, List.setIfInBounds_toArray, List.set_cons_zero, List.set_cons_succ, i64_w, i32_w]
                              rfl
                            refine one_ (i := 3) (N := some 79) #[true, true, true, true, false, false, false, false, false, false, false, false, false, false] rfl rfl (one_of HT_.out (by kernel_rfl)) (by decide) (fun K hK => ?_)
                            refine goes_ Try.func43 (by kernel_rfl) rfl #[.slice Ao67 t704.length co67] (by rfl) rfl rfl (by (try simp only [List.map_toArray, List.map_cons, List.map_nil]); first | done | rfl | (simp only [List.length_drop, List.length_take]; rfl)) ?_
                            with_reducible refine (offcutref01_Of.calls kj45 _ _ t704 t716 _ ?side1 ?side2 A52.out).mono ?_
                            (case side1 => repeat (first | exact (Kd.R_reads' HO707.out).2.2 | (with_reducible refine Kd.C_alloc ?_ _) | (with_reducible refine Kd.C_drewN ?_ _) | (with_reducible refine Kd.C_drew ?_)))
                            (case side2 => exact (Kd.R_reads' HO707.out).2.1)
                            rintro e w68 ⟨rfl, hb⟩
                            refine ⟨_, rfl, ?_⟩
                            have n0_ := Aside0.mk (Kd.R_below (by (with_reducible repeat (first | apply Kd.R_alloc | apply Kd.R_drewN | apply Kd.R_drew)); exact HO_702001.out) hb)
                            have n1_ := Aside0.mk (Kd.R_below (by (with_reducible repeat (first | apply Kd.R_alloc | apply Kd.R_drewN | apply Kd.R_drew)); exact HO707.out) hb)
                            have n2_ := Aside0.mk (Kd.R_below (by (with_reducible repeat (first | apply Kd.R_alloc | apply Kd.R_drewN | apply Kd.R_drew)); exact HO711.out) hb)
                            have n3_ := Aside0.mk (blk_below (g := gb692) (o := .cells #[.bool a0_0, .slice A0_1 l0_1.length c0_1] 25 (0, 0)) (by (with_reducible repeat (first | refine blk_drewN ?_ _ | refine blk_drew ?_ | refine blk_alloc ?_ _)); exact BK692.out) hb)
                            have n4_ := Aside0.mk (blk_below (g := gb701) (o := .cells #[.bool t696, .slice Ao23 t697.length co23] 25 (0, 0)) (by (with_reducible repeat (first | refine blk_drewN ?_ _ | refine blk_drew ?_ | refine blk_alloc ?_ _)); exact BK701.out) hb)
                            have n5_ := Aside0.mk (blk_below (g := gb713) (o := .cells #[.bool t708, .slice Ao64 t709.length co64] 25 (0, 0)) (by (with_reducible repeat (first | refine blk_drewN ?_ _ | refine blk_drew ?_ | refine blk_alloc ?_ _)); exact BK713.out) hb)
                            have n6_ := Aside0.mk (below_step (by repeat (first | (with_reducible first | exact HB.out | apply below_alloc | apply pw_below_drewN | apply below_drew1 | refine below_set ?_ GE692.out | refine below_set ?_ GE701.out | refine below_set ?_ GE713.out) | exact HB.out)) hb)
                            clear HO_702001
                            clear HO707
                            clear HO711
                            clear BK692
                            clear BK701
                            clear BK713
                            clear HB
                            have HO_702001 := n0_
                            have HO707 := n1_
                            have HO711 := n2_
                            have BK692 := n3_
                            have BK701 := n4_
                            have BK713 := n5_
                            have HB := n6_
                            clear n0_ n1_ n2_ n3_ n4_ n5_ n6_
                            (try clear hb)
                            refine hK.out _ _ ⟨(blk_cell BK713.out 0).trans rfl, (blk_cell BK713.out 1).trans rfl⟩ (fun hHeld => ?_)
                            clear hK K
                            refine norm_ (a' := ?_) ?_ ?_
                            rotate_left
                            · show Act.put _ (some 79) _ = _
                              simp only [Act.put, List.setIfInBounds_toArray, List.set_cons_zero, List.set_cons_succ, i64_w, i32_w]
                              rfl
                            refine one_ (i := 4) (N := some 80) #[true, true, true, true, true, false, false, false, false, false, false, false, false, false] rfl rfl (one_of HT_.out (by kernel_rfl)) (by decide) (fun K hK => ?_)
                            refine goes_ Try.func42 (by kernel_rfl) rfl #[.bool x9_45, .string t716] (by rfl) rfl rfl (by (try simp only [List.map_toArray, List.map_cons, List.map_nil]); first | done | rfl | (simp only [List.length_drop, List.length_take]; rfl)) ?_
                            with_reducible refine (offcutref02_Made.calls x9_45 t716 t717 _ A53.out).mono ?_
                            rintro e w' ⟨rfl, ⟨nd, rfl⟩⟩
                            refine ⟨_, rfl, ?_⟩
                            refine hK.out _ _ ⟨(blk_cell BK713.out 0).trans rfl, (blk_cell BK713.out 1).trans rfl⟩ (fun hHeld => ?_)
                            clear hK K
                            refine norm_ (a' := ?_) ?_ ?_
                            rotate_left
                            · show Act.put _ (some 80) _ = _
                              simp only [Act.put, List.setIfInBounds_toArray, List.set_cons_zero, List.set_cons_succ, i64_w, i32_w]
                              rfl
                            refine one_ (i := 5) (N := some 81) #[true, true, true, true, true, true, false, false, false, false, false, false, false, false] rfl rfl (one_of HT_.out (by kernel_rfl)) (by decide) (fun K hK => ?_)
                            refine goes_ Try.func20 (by kernel_rfl) rfl #[.agg #[.bool t708, .slice Ao64 t709.length co64], .string t717] (by rfl) rfl rfl (by (try simp only [List.map_toArray, List.map_cons, List.map_nil]); first | done | rfl | (simp only [List.length_drop, List.length_take]; rfl)) ?_
                            with_reducible refine (offcutlaw02_is.calls kj45 t708 _ _ t709 t717 true _ ?side1 ?side2 A54.out).mono ?_
                            (case side1 => repeat (first | exact (Kd.R_reads' HO711.out).2.2 | (with_reducible refine Kd.C_alloc ?_ _) | (with_reducible refine Kd.C_drewN ?_ _) | (with_reducible refine Kd.C_drew ?_)))
                            (case side2 => exact (Kd.R_reads' HO711.out).2.1)
                            rintro e w69 ⟨rfl, hb⟩
                            refine ⟨_, rfl, ?_⟩
                            have n0_ := Aside0.mk (Kd.R_below (by (with_reducible repeat (first | apply Kd.R_alloc | apply Kd.R_drewN | apply Kd.R_drew)); exact HO_702001.out) hb)
                            have n1_ := Aside0.mk (Kd.R_below (by (with_reducible repeat (first | apply Kd.R_alloc | apply Kd.R_drewN | apply Kd.R_drew)); exact HO707.out) hb)
                            have n2_ := Aside0.mk (Kd.R_below (by (with_reducible repeat (first | apply Kd.R_alloc | apply Kd.R_drewN | apply Kd.R_drew)); exact HO711.out) hb)
                            have n3_ := Aside0.mk (blk_below (g := gb692) (o := .cells #[.bool a0_0, .slice A0_1 l0_1.length c0_1] 25 (0, 0)) (by (with_reducible repeat (first | refine blk_drewN ?_ _ | refine blk_drew ?_ | refine blk_alloc ?_ _)); exact BK692.out) hb)
                            have n4_ := Aside0.mk (blk_below (g := gb701) (o := .cells #[.bool t696, .slice Ao23 t697.length co23] 25 (0, 0)) (by (with_reducible repeat (first | refine blk_drewN ?_ _ | refine blk_drew ?_ | refine blk_alloc ?_ _)); exact BK701.out) hb)
                            have n5_ := Aside0.mk (blk_below (g := gb713) (o := .cells #[.bool t708, .slice Ao64 t709.length co64] 25 (0, 0)) (by (with_reducible repeat (first | refine blk_drewN ?_ _ | refine blk_drew ?_ | refine blk_alloc ?_ _)); exact BK713.out) hb)
                            have n6_ := Aside0.mk (below_step (by repeat (first | (with_reducible first | exact HB.out | apply below_alloc | apply pw_below_drewN | apply below_drew1 | refine below_set ?_ GE692.out | refine below_set ?_ GE701.out | refine below_set ?_ GE713.out) | exact HB.out)) hb)
                            clear HO_702001
                            clear HO707
                            clear HO711
                            clear BK692
                            clear BK701
                            clear BK713
                            clear HB
                            have HO_702001 := n0_
                            have HO707 := n1_
                            have HO711 := n2_
                            have BK692 := n3_
                            have BK701 := n4_
                            have BK713 := n5_
                            have HB := n6_
                            clear n0_ n1_ n2_ n3_ n4_ n5_ n6_
                            (try clear hb)
                            refine hK.out _ _ ⟨(blk_cell BK713.out 0).trans rfl, (blk_cell BK713.out 1).trans rfl⟩ (fun hHeld => ?_)
                            clear hK K
                            refine norm_ (a' := ?_) ?_ ?_
                            rotate_left
                            · show Act.put _ (some 81) _ = _
                              simp only [Act.put, List.setIfInBounds_toArray, List.set_cons_zero, List.set_cons_succ, i64_w, i32_w]
                              rfl
                            refine pure_ (i := 6) (N := some 82) (v := ?_) (a' := ?_) #[true, true, true, true, true, true, true, false, false, false, false, false, false, false] rfl rfl (any_of HT_.out (by kernel_rfl)) (fun _ _ _ h => h) (Or.inl ⟨by rfl, ?_⟩) ?_ ?_
                            rotate_left
                            · intro w'
                              go_simp
                              with_reducible rfl
                            rotate_left
                            · simp only [Act.put, List.setIfInBounds_toArray, List.set_cons_zero, List.set_cons_succ, i64_w, i32_w]
                              rfl
                            refine pure_ (i := 7) (N := some 83) (v := ?_) (a' := ?_) #[true, true, true, true, true, true, true, true, false, false, false, false, false, false] rfl rfl (any_of HT_.out (by kernel_rfl)) (fun _ _ _ h => h) (Or.inl ⟨by rfl, ?_⟩) ?_ ?_
                            rotate_left
                            · intro w'
                              go_simp
                              with_reducible rfl
                            rotate_left
                            · simp only [Act.put, List.setIfInBounds_toArray, List.set_cons_zero, List.set_cons_succ, i64_w, i32_w]
                              rfl
                            refine pure_ (i := 8) (N := some 84) (v := ?_) (a' := ?_) #[true, true, true, true, true, true, true, true, true, false, false, false, false, false] rfl rfl (any_of HT_.out (by kernel_rfl)) (fun _ _ _ h => h) (Or.inl ⟨by rfl, ?_⟩) ?_ ?_
                            rotate_left
                            · intro w'
                              go_simp
                              with_reducible rfl
                            rotate_left
                            · simp only [Act.put, List.setIfInBounds_toArray, List.set_cons_zero, List.set_cons_succ, i64_w, i32_w]
                              rfl
                            refine pure_ (i := 9) (N := some 85) (v := ?_) (a' := ?_) #[true, true, true, true, true, true, true, true, true, true, false, false, false, false] rfl rfl (any_of HT_.out (by kernel_rfl)) (fun _ _ _ h => h) (Or.inl ⟨by rfl, ?_⟩) ?_ ?_
                            rotate_left
                            · intro w'
                              go_simp
                              with_reducible rfl
                            rotate_left
                            · simp only [Act.put, List.setIfInBounds_toArray, List.set_cons_zero, List.set_cons_succ, i64_w, i32_w]
                              rfl
                            refine pure_ (i := 10) (N := some 86) (v := ?_) (a' := ?_) #[true, true, true, true, true, true, true, true, true, true, true, false, false, false] rfl rfl (any_of HT_.out (by kernel_rfl)) (fun _ _ _ h => h) (Or.inl ⟨by rfl, ?_⟩) ?_ ?_
                            rotate_left
                            · intro w'
                              go_simp
                              with_reducible rfl
                            rotate_left
                            · simp only [Act.put, List.setIfInBounds_toArray, List.set_cons_zero, List.set_cons_succ, i64_w, i32_w]
                              rfl
                            refine one_ (i := 11) (N := some 87) #[true, true, true, true, true, true, true, true, true, true, true, true, false, false] rfl rfl (one_of HT_.out (by kernel_rfl)) (by decide) (fun K hK => ?_)
                            refine goes_ Try.func18 (by kernel_rfl) rfl #[] (by rfl) rfl rfl (by (try simp only [List.map_toArray, List.map_cons, List.map_nil]); first | done | rfl | (simp only [List.length_drop, List.length_take]; rfl)) ?_
                            with_reducible refine (offcutlaw02_awake.calls kj45  t719 _ HRT.out A57.out).mono ?_
                            rintro e w70 ⟨rfl, hb⟩
                            refine ⟨_, rfl, ?_⟩
                            have n0_ := Aside0.mk (Kd.R_below (by (with_reducible repeat (first | apply Kd.R_alloc | apply Kd.R_drewN | apply Kd.R_drew)); exact HO_702001.out) hb)
                            have n1_ := Aside0.mk (Kd.R_below (by (with_reducible repeat (first | apply Kd.R_alloc | apply Kd.R_drewN | apply Kd.R_drew)); exact HO707.out) hb)
                            have n2_ := Aside0.mk (Kd.R_below (by (with_reducible repeat (first | apply Kd.R_alloc | apply Kd.R_drewN | apply Kd.R_drew)); exact HO711.out) hb)
                            have n3_ := Aside0.mk (blk_below (g := gb692) (o := .cells #[.bool a0_0, .slice A0_1 l0_1.length c0_1] 25 (0, 0)) (by (with_reducible repeat (first | refine blk_drewN ?_ _ | refine blk_drew ?_ | refine blk_alloc ?_ _)); exact BK692.out) hb)
                            have n4_ := Aside0.mk (blk_below (g := gb701) (o := .cells #[.bool t696, .slice Ao23 t697.length co23] 25 (0, 0)) (by (with_reducible repeat (first | refine blk_drewN ?_ _ | refine blk_drew ?_ | refine blk_alloc ?_ _)); exact BK701.out) hb)
                            have n5_ := Aside0.mk (blk_below (g := gb713) (o := .cells #[.bool t708, .slice Ao64 t709.length co64] 25 (0, 0)) (by (with_reducible repeat (first | refine blk_drewN ?_ _ | refine blk_drew ?_ | refine blk_alloc ?_ _)); exact BK713.out) hb)
                            have n6_ := Aside0.mk (below_step (by repeat (first | (with_reducible first | exact HB.out | apply below_alloc | apply pw_below_drewN | apply below_drew1 | refine below_set ?_ GE692.out | refine below_set ?_ GE701.out | refine below_set ?_ GE713.out) | exact HB.out)) hb)
                            clear HO_702001
                            clear HO707
                            clear HO711
                            clear BK692
                            clear BK701
                            clear BK713
                            clear HB
                            have HO_702001 := n0_
                            have HO707 := n1_
                            have HO711 := n2_
                            have BK692 := n3_
                            have BK701 := n4_
                            have BK713 := n5_
                            have HB := n6_
                            clear n0_ n1_ n2_ n3_ n4_ n5_ n6_
                            (try clear hb)
                            refine hK.out _ _ ⟨(blk_cell BK713.out 0).trans rfl, (blk_cell BK713.out 1).trans rfl⟩ (fun hHeld => ?_)
                            clear hK K
                            refine norm_ (a' := ?_) ?_ ?_
                            rotate_left
                            · show Act.put _ (some 87) _ = _
                              simp only [Act.put, List.setIfInBounds_toArray, List.set_cons_zero, List.set_cons_succ, i64_w, i32_w]
                              rfl
                            refine pure_ (i := 12) (N := some 88) (v := ?_) (a' := ?_) #[true, true, true, true, true, true, true, true, true, true, true, true, true, false] rfl rfl (any_of HT_.out (by kernel_rfl)) (fun _ _ _ h => h) (Or.inl ⟨by rfl, ?_⟩) ?_ ?_
                            rotate_left
                            · intro w'
                              go_simp
                              with_reducible rfl
                            rotate_left
                            · simp only [Act.put, List.setIfInBounds_toArray, List.set_cons_zero, List.set_cons_succ, i64_w, i32_w]
                              rfl
                            refine pure_ (i := 13) (N := some 4) (v := ?_) (a' := ?_) #[true, true, true, true, true, true, true, true, true, true, true, true, true, true] rfl rfl (any_of HT_.out (by kernel_rfl)) (fun _ _ _ h => h) (Or.inl ⟨by rfl, ?_⟩) ?_ ?_
                            rotate_left
                            · intro w'
                              go_simp
                              with_reducible rfl
                            rotate_left
                            · simp only [Act.put, List.setIfInBounds_toArray, List.set_cons_zero, List.set_cons_succ, i64_w, i32_w]
                              rfl
                            refine done_ (done_of HT_.out (by kernel_rfl)) ?_
                            try go_wp2
                            go_ret
                            exact ⟨by first | rfl | (simp [errW_none, errW_some] <;> rfl) | (simp [*, errW_none, errW_some] <;> rfl), by repeat (first | (with_reducible first | exact HB.out | apply below_alloc | apply pw_below_drewN | apply below_drew1 | refine below_set ?_ GE692.out | refine below_set ?_ GE701.out | refine below_set ?_ GE713.out) | exact HB.out)⟩
                          · rw [if_neg c56] at H
                            have c56b0 : (t712 == 0) = false := beq_eq_false_iff_ne.mpr c56
                            have c56b1 : (t712 != 0) = true := bne_iff_ne.mpr c56
                            obtain rfl := Option.some.inj H
                            exact absurd HRT.out (by decide)
                        · replace c55 := Bool.eq_false_iff.mpr c55
                          subst c55
                          have H1 : (some false) = some r := by rw [if_neg (show ¬ (false = true) by decide)] at H; exact H
                          clear H
                          have H := H1
                          clear H1
                          obtain rfl := Option.some.inj H
                          exact absurd HRT.out (by decide)
                      · rw [if_neg c51] at H
                        have c51b0 : (t705 == 0) = false := beq_eq_false_iff_ne.mpr c51
                        have c51b1 : (t705 != 0) = true := bne_iff_ne.mpr c51
                        replace H := Option.bind_eq_some_iff.mp H
                        obtain ⟨t714, A950, H⟩ := H
                        replace H : (if t714 = true then (if t712 = t705 then ((offcutlaw02_awake.f kj45).bind fun t715 => (some t715)) else (some false)) else (some false)) = some r := H
                        have A95 := Aside0.mk A950
                        clear A950
                        by_cases c96 : t714 = true
                        · subst c96
                          have H1 : (if t712 = t705 then ((offcutlaw02_awake.f kj45).bind fun t715 => (some t715)) else (some false)) = some r := by rw [if_pos rfl] at H; exact H
                          clear H
                          have H := H1
                          clear H1
                          by_cases c97 : t712 = t705
                          · rw [if_pos c97] at H
                            have c97b0 : (t712 == t705) = true := beq_iff_eq.mpr c97
                            have c97b1 : (t712 != t705) = false := bne_eq_false_iff_eq.mpr c97
                            clear c97
                            replace H := Option.bind_eq_some_iff.mp H
                            obtain ⟨t715, A980, H⟩ := H
                            replace H : (some t715) = some r := H
                            have A98 := Aside0.mk A980
                            clear A980
                            obtain rfl := Option.some.inj H
                            go_wp2_with (first | ((with_reducible refine gate_callee (f := 41) rfl ?_); refine goesL_ (some 56) rfl rfl Try.func41 (by kernel_rfl) rfl #[.string x8_45] rfl (by (try simp only [List.map_toArray, List.map_cons, List.map_nil]); first | done | rfl | (simp only [List.length_drop, List.length_take]; rfl)) ?_; (with_reducible refine (nat_Parse.calls kj45 x8_45 t704 t705 _ A49.out).mono ?_); rintro e w99 ⟨v706, rfl, ho0, hb⟩; refine ⟨_, rfl, ?_⟩; have n0_ := Aside0.mk (Kd.R_elder' (by (with_reducible repeat (first | apply Kd.R_alloc | apply Kd.R_drewN | apply Kd.R_drew)); exact HO_702001.out) (Kd.R_base ho0) hb); have n1_ := Aside0.mk (Kd.R_lower (Kd.R_new' ho0 (Kd.R_lt (by (with_reducible repeat (first | apply Kd.R_alloc | apply Kd.R_drewN | apply Kd.R_drew)); exact HO_702001.out))) (below_size (by repeat (first | (with_reducible first | exact HB.out | apply below_alloc | apply pw_below_drewN | apply below_drew1 | refine below_set ?_ GE692.out | refine below_set ?_ GE701.out) | exact HB.out)))); have n2_ := Aside0.mk (blk_below (g := gb692) (o := .cells #[.bool a0_0, .slice A0_1 l0_1.length c0_1] 25 (0, 0)) (by (with_reducible repeat (first | refine blk_drewN ?_ _ | refine blk_drew ?_ | refine blk_alloc ?_ _)); exact BK692.out) hb); have n3_ := Aside0.mk (blk_below (g := gb701) (o := .cells #[.bool t696, .slice Ao23 t697.length co23] 25 (0, 0)) (by (with_reducible repeat (first | refine blk_drewN ?_ _ | refine blk_drew ?_ | refine blk_alloc ?_ _)); exact BK701.out) hb); have n4_ := Aside0.mk (below_step (by repeat (first | (with_reducible first | exact HB.out | apply below_alloc | apply pw_below_drewN | apply below_drew1 | refine below_set ?_ GE692.out | refine below_set ?_ GE701.out) | exact HB.out)) hb); clear HO_702001; clear BK692; clear BK701; clear HB; have HO_702001 := n0_; have HO707 := n1_; have BK692 := n2_; have BK701 := n3_; have HB := n4_; clear n0_ n1_ n2_ n3_ n4_; (try clear hb); (try clear ho0)) | ((with_reducible refine gate_callee (f := 40) rfl ?_); refine goesL_ (some 61) rfl rfl Try.func40 (by kernel_rfl) rfl #[.string a1] rfl (by (try simp only [List.map_toArray, List.map_cons, List.map_nil]); first | done | rfl | (simp only [List.length_drop, List.length_take]; rfl)) ?_; (with_reducible refine (whole_Parse.calls kj45 a1 t708 t709 t712 _ A50.out).mono ?_); rintro e w100 ⟨v710, rfl, ho0, hb⟩; refine ⟨_, rfl, ?_⟩; have n0_ := Aside0.mk (Kd.R_elder' (by (with_reducible repeat (first | apply Kd.R_alloc | apply Kd.R_drewN | apply Kd.R_drew)); exact HO_702001.out) (Kd.R_base ho0) hb); have n1_ := Aside0.mk (Kd.R_elder' (by (with_reducible repeat (first | apply Kd.R_alloc | apply Kd.R_drewN | apply Kd.R_drew)); exact HO707.out) (Kd.R_base ho0) hb); have n2_ := Aside0.mk (Kd.R_lower (Kd.R_new' (Kd.R_new' ho0 (Kd.R_lt (by (with_reducible repeat (first | apply Kd.R_alloc | apply Kd.R_drewN | apply Kd.R_drew)); exact HO_702001.out))) (Kd.R_lt (by (with_reducible repeat (first | apply Kd.R_alloc | apply Kd.R_drewN | apply Kd.R_drew)); exact HO707.out))) (below_size (by repeat (first | (with_reducible first | exact HB.out | apply below_alloc | apply pw_below_drewN | apply below_drew1 | refine below_set ?_ GE692.out | refine below_set ?_ GE701.out) | exact HB.out)))); have n3_ := Aside0.mk (blk_below (g := gb692) (o := .cells #[.bool a0_0, .slice A0_1 l0_1.length c0_1] 25 (0, 0)) (by (with_reducible repeat (first | refine blk_drewN ?_ _ | refine blk_drew ?_ | refine blk_alloc ?_ _)); exact BK692.out) hb); have n4_ := Aside0.mk (blk_below (g := gb701) (o := .cells #[.bool t696, .slice Ao23 t697.length co23] 25 (0, 0)) (by (with_reducible repeat (first | refine blk_drewN ?_ _ | refine blk_drew ?_ | refine blk_alloc ?_ _)); exact BK701.out) hb); have n5_ := Aside0.mk (below_step (by repeat (first | (with_reducible first | exact HB.out | apply below_alloc | apply pw_below_drewN | apply below_drew1 | refine below_set ?_ GE692.out | refine below_set ?_ GE701.out) | exact HB.out)) hb); clear HO_702001; clear HO707; clear BK692; clear BK701; clear HB; have HO_702001 := n0_; have HO707 := n1_; have HO711 := n2_; have BK692 := n3_; have BK701 := n4_; have HB := n5_; clear n0_ n1_ n2_ n3_ n4_ n5_; (try clear hb); (try clear ho0)) | ((with_reducible refine gate_dst (N := 12) rfl ?_); (try (refine gate_guard (by rfl) ?_; dsimp only)); refine box_event ?hg (N := 12) ?hd (cs := #[.bool false, .slice none 0 0]) (t := 25) ?hr ?_; (case hd => rfl); (case hg => rfl); (case hr => first | (go_simp; done) | (go_simp; rfl)); intro gb713 hg w101 hbox hb; have n0_ := Aside0.mk (Kd.R_below (by (with_reducible repeat (first | apply Kd.R_alloc | apply Kd.R_drewN | apply Kd.R_drew)); exact HO_702001.out) hb); have n1_ := Aside0.mk (Kd.R_below (by (with_reducible repeat (first | apply Kd.R_alloc | apply Kd.R_drewN | apply Kd.R_drew)); exact HO707.out) hb); have n2_ := Aside0.mk (Kd.R_below (by (with_reducible repeat (first | apply Kd.R_alloc | apply Kd.R_drewN | apply Kd.R_drew)); exact HO711.out) hb); have n3_ := Aside0.mk (blk_below (g := gb692) (o := .cells #[.bool a0_0, .slice A0_1 l0_1.length c0_1] 25 (0, 0)) (by (with_reducible repeat (first | refine blk_drewN ?_ _ | refine blk_drew ?_ | refine blk_alloc ?_ _)); exact BK692.out) hb); have n4_ := Aside0.mk (blk_below (g := gb701) (o := .cells #[.bool t696, .slice Ao23 t697.length co23] 25 (0, 0)) (by (with_reducible repeat (first | refine blk_drewN ?_ _ | refine blk_drew ?_ | refine blk_alloc ?_ _)); exact BK701.out) hb); have n5_ := Aside0.mk (below_step (by repeat (first | (with_reducible first | exact HB.out | apply below_alloc | apply pw_below_drewN | apply below_drew1 | refine below_set ?_ GE692.out | refine below_set ?_ GE701.out) | exact HB.out)) hb); have n6_ := Aside0.mk (hbox); have n7_ := Aside0.mk ((by rw [hg]; exact (below_size (by repeat (first | (with_reducible first | exact HB.out | apply below_alloc | apply pw_below_drewN | apply below_drew1 | refine below_set ?_ GE692.out | refine below_set ?_ GE701.out) | exact HB.out))) : w.heap.size ≤ gb713)); have n8_ := Aside0.mk ((by rw [hg]; exact (below_size (by repeat (first | (with_reducible first | exact HB.out | apply below_alloc | apply pw_below_drewN | apply below_drew1 | refine below_set ?_ GE692.out | refine below_set ?_ GE701.out) | exact HB.out))) : w.heap.size ≤ gb713)); have n9_ := Aside0.mk ((by rw [hg]; exact Nat.ne_of_lt (blk_lt (g := gb692) (o := .cells #[.bool a0_0, .slice A0_1 l0_1.length c0_1] 25 (0, 0)) (by (with_reducible repeat (first | refine blk_drewN ?_ _ | refine blk_drew ?_ | refine blk_alloc ?_ _)); exact BK692.out)) : gb692 ≠ gb713)); have n10_ := Aside0.mk ((by rw [hg]; exact Nat.ne_of_gt (blk_lt (g := gb692) (o := .cells #[.bool a0_0, .slice A0_1 l0_1.length c0_1] 25 (0, 0)) (by (with_reducible repeat (first | refine blk_drewN ?_ _ | refine blk_drew ?_ | refine blk_alloc ?_ _)); exact BK692.out)) : gb713 ≠ gb692)); have n11_ := Aside0.mk ((by rw [hg]; exact Nat.ne_of_lt (blk_lt (g := gb701) (o := .cells #[.bool t696, .slice Ao23 t697.length co23] 25 (0, 0)) (by (with_reducible repeat (first | refine blk_drewN ?_ _ | refine blk_drew ?_ | refine blk_alloc ?_ _)); exact BK701.out)) : gb701 ≠ gb713)); have n12_ := Aside0.mk ((by rw [hg]; exact Nat.ne_of_gt (blk_lt (g := gb701) (o := .cells #[.bool t696, .slice Ao23 t697.length co23] 25 (0, 0)) (by (with_reducible repeat (first | refine blk_drewN ?_ _ | refine blk_drew ?_ | refine blk_alloc ?_ _)); exact BK701.out)) : gb713 ≠ gb701)); clear HO_702001; clear HO707; clear HO711; clear BK692; clear BK701; clear HB; have HO_702001 := n0_; have HO707 := n1_; have HO711 := n2_; have BK692 := n3_; have BK701 := n4_; have HB := n5_; have BK713 := n6_; have GW713 := n7_; have GE713 := n8_; have NB692_713 := n9_; have NB713_692 := n10_; have NB701_713 := n11_; have NB713_701 := n12_; clear n0_ n1_ n2_ n3_ n4_ n5_ n6_ n7_ n8_ n9_ n10_ n11_ n12_; clear hb hbox hg; have hnb102 := NB713_692.out; have hnc102 := NB692_713.out; have hnb103 := NB713_701.out; have hnc103 := NB701_713.out; have hcz104_0 : w101.cell? ⟨gb713, 0, none⟩ = some (.bool false) := (blk_cell BK713.out 0).trans rfl; have hcz104_1 : w101.cell? ⟨gb713, 1, none⟩ = some (.slice none 0 0) := (blk_cell BK713.out 1).trans rfl; have hfz104_0 := blk_frozen BK713.out 0; have hfz104_1 := blk_frozen BK713.out 1; obtain ⟨Ao105, co105, eo105⟩ := Kd.R_slice HO711.out; subst eo105) | ((with_reducible refine gate_callee (f := 20) rfl ?_); refine goesL_ (some 67) rfl rfl Try.func20 (by kernel_rfl) rfl #[.agg #[.bool t708, .slice Ao105 t709.length co105], .string (⟨#[48]⟩ : ByteArray)] rfl (by (try simp only [List.map_toArray, List.map_cons, List.map_nil]); first | done | rfl | (simp only [List.length_drop, List.length_take]; rfl)) ?_; (with_reducible refine (offcutlaw02_is.calls kj45 t708 _ _ t709 (⟨#[48]⟩ : ByteArray) true _ ?side1 ?side2 A95.out).mono ?_); (case side1 => refine (Kd.R_reads' (e := 37) (base := w.heap.size) (ok := fun k_ => ((True ∧ some k_ ≠ (.slice Ao23 t697.length co23 : Value).ownBlock) ∧ some k_ ≠ (v706 : Value).ownBlock)) (n := t709.length) (c := co105) ?_).2.2; exact (by (with_reducible repeat (first | apply Kd.R_alloc | apply Kd.R_drewN | apply Kd.R_drew)); exact (Kd.R_mono (Kd.R_far (p := ⟨gb713, 1, none⟩) (Kd.R_far (p := ⟨gb713, 0, none⟩) (Kd.R_types HO711.out BK713.out (by decide)) (fun _ hk => hk.2) (.bool t708)) (fun _ hk => hk.2) (.slice Ao105 t709.length co105)) (fun _ h_ => h_.1)))); (case side2 => exact (Kd.R_reads' HO711.out).2.1); rintro e w106 ⟨rfl, hb⟩; refine ⟨_, rfl, ?_⟩; have n0_ := Aside0.mk (Kd.R_below (by (with_reducible repeat (first | apply Kd.R_alloc | apply Kd.R_drewN | apply Kd.R_drew)); exact (Kd.R_mono (Kd.R_far (p := ⟨gb713, 1, none⟩) (Kd.R_far (p := ⟨gb713, 0, none⟩) (Kd.R_types HO_702001.out BK713.out (by decide)) (fun _ hk => hk.2) (.bool t708)) (fun _ hk => hk.2) (.slice Ao105 t709.length co105)) (fun _ h_ => h_.1))) hb); have n1_ := Aside0.mk (Kd.R_below (by (with_reducible repeat (first | apply Kd.R_alloc | apply Kd.R_drewN | apply Kd.R_drew)); exact (Kd.R_mono (Kd.R_far (p := ⟨gb713, 1, none⟩) (Kd.R_far (p := ⟨gb713, 0, none⟩) (Kd.R_types HO707.out BK713.out (by decide)) (fun _ hk => hk.2) (.bool t708)) (fun _ hk => hk.2) (.slice Ao105 t709.length co105)) (fun _ h_ => h_.1))) hb); have n2_ := Aside0.mk (Kd.R_below (by (with_reducible repeat (first | apply Kd.R_alloc | apply Kd.R_drewN | apply Kd.R_drew)); exact (Kd.R_mono (Kd.R_far (p := ⟨gb713, 1, none⟩) (Kd.R_far (p := ⟨gb713, 0, none⟩) (Kd.R_types HO711.out BK713.out (by decide)) (fun _ hk => hk.2) (.bool t708)) (fun _ hk => hk.2) (.slice Ao105 t709.length co105)) (fun _ h_ => h_.1))) hb); have n3_ := Aside0.mk (blk_below (g := gb692) (o := .cells #[.bool a0_0, .slice A0_1 l0_1.length c0_1] 25 (0, 0)) (by (with_reducible repeat (first | refine blk_drewN ?_ _ | refine blk_drew ?_ | refine blk_alloc ?_ _)); refine blk_far ?_ NB692_713.out _; (with_reducible repeat (first | refine blk_drewN ?_ _ | refine blk_drew ?_ | refine blk_alloc ?_ _)); refine blk_far ?_ NB692_713.out _; (with_reducible repeat (first | refine blk_drewN ?_ _ | refine blk_drew ?_ | refine blk_alloc ?_ _)); exact BK692.out) hb); have n4_ := Aside0.mk (blk_below (g := gb701) (o := .cells #[.bool t696, .slice Ao23 t697.length co23] 25 (0, 0)) (by (with_reducible repeat (first | refine blk_drewN ?_ _ | refine blk_drew ?_ | refine blk_alloc ?_ _)); refine blk_far ?_ NB701_713.out _; (with_reducible repeat (first | refine blk_drewN ?_ _ | refine blk_drew ?_ | refine blk_alloc ?_ _)); refine blk_far ?_ NB701_713.out _; (with_reducible repeat (first | refine blk_drewN ?_ _ | refine blk_drew ?_ | refine blk_alloc ?_ _)); exact BK701.out) hb); have n5_ := Aside0.mk (blk_below (g := gb713) (o := .cells #[.bool t708, .slice Ao105 t709.length co105] 25 (0, 0)) (by (with_reducible repeat (first | refine blk_drewN ?_ _ | refine blk_drew ?_ | refine blk_alloc ?_ _)); refine blk_put (cs := #[.bool t708, .slice none 0 0]) ?_ 1 _ rfl; (with_reducible repeat (first | refine blk_drewN ?_ _ | refine blk_drew ?_ | refine blk_alloc ?_ _)); refine blk_put (cs := #[.bool false, .slice none 0 0]) ?_ 0 _ rfl; (with_reducible repeat (first | refine blk_drewN ?_ _ | refine blk_drew ?_ | refine blk_alloc ?_ _)); exact BK713.out) hb); have n6_ := Aside0.mk (below_step (by repeat (first | (with_reducible first | exact HB.out | apply below_alloc | apply pw_below_drewN | apply below_drew1 | refine below_set ?_ GE692.out | refine below_set ?_ GE701.out | refine below_set ?_ GE713.out) | exact HB.out)) hb); clear HO_702001; clear HO707; clear HO711; clear BK692; clear BK701; clear BK713; clear HB; have HO_702001 := n0_; have HO707 := n1_; have HO711 := n2_; have BK692 := n3_; have BK701 := n4_; have BK713 := n5_; have HB := n6_; clear n0_ n1_ n2_ n3_ n4_ n5_ n6_; (try clear hb)) | (go_at_call 18; (with_reducible refine (offcutlaw02_awake.calls kj45  t715 _ HRT.out A98.out).mono ?_); rintro e w107 ⟨rfl, hb⟩; have n0_ := Aside0.mk (Kd.R_below (by (with_reducible repeat (first | apply Kd.R_alloc | apply Kd.R_drewN | apply Kd.R_drew)); exact HO_702001.out) hb); have n1_ := Aside0.mk (Kd.R_below (by (with_reducible repeat (first | apply Kd.R_alloc | apply Kd.R_drewN | apply Kd.R_drew)); exact HO707.out) hb); have n2_ := Aside0.mk (Kd.R_below (by (with_reducible repeat (first | apply Kd.R_alloc | apply Kd.R_drewN | apply Kd.R_drew)); exact HO711.out) hb); have n3_ := Aside0.mk (blk_below (g := gb692) (o := .cells #[.bool a0_0, .slice A0_1 l0_1.length c0_1] 25 (0, 0)) (by (with_reducible repeat (first | refine blk_drewN ?_ _ | refine blk_drew ?_ | refine blk_alloc ?_ _)); exact BK692.out) hb); have n4_ := Aside0.mk (blk_below (g := gb701) (o := .cells #[.bool t696, .slice Ao23 t697.length co23] 25 (0, 0)) (by (with_reducible repeat (first | refine blk_drewN ?_ _ | refine blk_drew ?_ | refine blk_alloc ?_ _)); exact BK701.out) hb); have n5_ := Aside0.mk (blk_below (g := gb713) (o := .cells #[.bool t708, .slice Ao105 t709.length co105] 25 (0, 0)) (by (with_reducible repeat (first | refine blk_drewN ?_ _ | refine blk_drew ?_ | refine blk_alloc ?_ _)); exact BK713.out) hb); have n6_ := Aside0.mk (below_step (by repeat (first | (with_reducible first | exact HB.out | apply below_alloc | apply pw_below_drewN | apply below_drew1 | refine below_set ?_ GE692.out | refine below_set ?_ GE701.out | refine below_set ?_ GE713.out) | exact HB.out)) hb); clear HO_702001; clear HO707; clear HO711; clear BK692; clear BK701; clear BK713; clear HB; have HO_702001 := n0_; have HO707 := n1_; have HO711 := n2_; have BK692 := n3_; have BK701 := n4_; have BK713 := n5_; have HB := n6_; clear n0_ n1_ n2_ n3_ n4_ n5_ n6_; (try clear hb)))
                            go_ret
                            exact ⟨by first | rfl | (simp [errW_none, errW_some] <;> rfl) | (simp [*, errW_none, errW_some] <;> rfl), by repeat (first | (with_reducible first | exact HB.out | apply below_alloc | apply pw_below_drewN | apply below_drew1 | refine below_set ?_ GE692.out | refine below_set ?_ GE701.out | refine below_set ?_ GE713.out) | exact HB.out)⟩
                          · rw [if_neg c97] at H
                            have c97b0 : (t712 == t705) = false := beq_eq_false_iff_ne.mpr c97
                            have c97b1 : (t712 != t705) = true := bne_iff_ne.mpr c97
                            obtain rfl := Option.some.inj H
                            exact absurd HRT.out (by decide)
                        · replace c96 := Bool.eq_false_iff.mpr c96
                          subst c96
                          have H1 : (some false) = some r := by rw [if_neg (show ¬ (false = true) by decide)] at H; exact H
                          clear H
                          have H := H1
                          clear H1
                          obtain rfl := Option.some.inj H
                          exact absurd HRT.out (by decide)

end Go.Proofs.Ytjpkljkkcbaohaa.PR
