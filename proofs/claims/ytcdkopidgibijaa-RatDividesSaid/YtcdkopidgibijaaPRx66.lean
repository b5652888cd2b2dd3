import Derived.Test.YtcdkopidgibijaaShort
import Derived.Test.YtcdkopidgibijaaPRg0
import Derived.Test.YtcdkopidgibijaaPRg32
import Derived.Test.YtcdkopidgibijaaPRg47
import Derived.Test.YtcdkopidgibijaaPRg63
namespace Go.Proofs.Ytcdkopidgibijaa.PR
open Go.RowKit Go.Proofs.YtcdkopidgibijaaW.PrintWords Go.Proofs.YtcdkopidgibijaaW.PrintLast Go.Proofs.YtcdkopidgibijaaW.PrintMore
attribute [local go_sem] max2_int min2_int max_two min_two max_three min_three max_four min_four   -- for this text's walks alone
set_option linter.unusedVariables false
set_option linter.unusedSimpArgs false

/-! ### offcutlaw03_RatDivides: function 3 -/
def offcutlaw03_RatDivides.j0 : Nat → Bool → Bool → List Int → List Int → Bool → List Int → List Int → Option (Bool)
 | 0, _, _, _, _, _, _, _ => none
 | k + 1, x14, x673000, x673001, x673002, x674000, x674001, x674002 => if x14 = true then ((offcutlaw03_awake.f k).bind fun t676 => (some t676)) else ((rat_Div.f k x673000 x673001 x673002 x674000 x674001 x674002).bind fun bt677 => ((offcutlaw03_Of.f k x674000 x674001 x674002).bind fun bt686 => (if bt686.1.toList = ([48] : List UInt8) then ((rat_Sign.f k bt677.1 bt677.2.1 bt677.2.2.1).bind fun t688 => (if t688 = 0 then (if bt677.2.2.2 = 5 then ((offcutlaw03_awake.f k).bind fun t689 => (some t689)) else (some false)) else (some false))) else ((offcutlaw03_Of.f k x673000 x673001 x673002).bind fun bt690 => ((offcutlaw03_Of.f k x674000 x674001 x674002).bind fun bt692 => ((offcutref03_Turned.f bt692.1 bt692.2).bind fun bt694 => ((offcutref03_Mul.f k bt690.1 bt690.2 bt694.1 bt694.2).bind fun bt696 => ((offcutlaw03_Is.f k bt677.1 bt677.2.1 bt677.2.2.1 bt696.1 bt696.2).bind fun t698 => (if t698 = true then (if bt677.2.2.2 = 0 then ((offcutlaw03_awake.f k).bind fun t699 => (some t699)) else (some false)) else (some false))))))))))
def offcutlaw03_RatDivides.f (k : Nat) (a0_0 : Bool) (l0_1 : List Int) (l0_2 : List Int) (a1_0 : Bool) (l1_1 : List Int) (l1_2 : List Int) : Option (Bool) := (offcutlaw03_few.f a0_0 l0_1 l0_2).bind fun t674 => (if t674 = true then ((offcutlaw03_few.f a1_0 l1_1 l1_2).bind fun t675 => (offcutlaw03_RatDivides.j0 k (!t675) a0_0 l0_1 l0_2 a1_0 l1_1 l1_2)) else (offcutlaw03_RatDivides.j0 k true a0_0 l0_1 l0_2 a1_0 l1_1 l1_2))
def offcutlaw03_RatDivides.T6 : Bool × List (List Nat × List Nat) := (true, [([], []), ([], []), ([1], [1]), ([], []), ([3, 2], [3]), ([4, 4], [4]), ([2, 5, 5], [2, 5]), ([0, 6, 6], [0, 6]), ([7, 7], [7]), ([8], [8]), ([9, 8], [8, 9]), ([8, 10], [8, 10]), ([11, 8], [11]), ([12, 12], [12]), ([12, 13], [12, 13]), ([14, 13, 0, 1, 2, 3, 4, 5, 6, 7, 8, 9, 10, 11, 12, 13, 14], [14])])
def offcutlaw03_RatDivides.B6 : List Nat := [0, 0, 2, 0, 14, 30, 62, 127, 255, 511, 1023, 2047, 4095, 8191, 16383, 32767]
theorem offcutlaw03_RatDivides.tab6 : rtab .any (opsOf Try.f3 6) = offcutlaw03_RatDivides.T6 := by kernel_rfl
theorem offcutlaw03_RatDivides.bits6 : waitsOk offcutlaw03_RatDivides.T6.2 offcutlaw03_RatDivides.B6 = true := by kernel_rfl
set_option maxHeartbeats 8000000 in
set_option maxRecDepth 100000 in
theorem offcutlaw03_RatDivides.calls (k : Nat) (a0_0 : Bool) (A0_1 : Option Addr) (c0_1 : Nat) (l0_1 : List Int) (A0_2 : Option Addr) (c0_2 : Nat) (l0_2 : List Int) (a1_0 : Bool) (A1_1 : Option Addr) (c1_1 : Nat) (l1_1 : List Int) (A1_2 : Option Addr) (c1_2 : Nat) (l1_2 : List Int) (r : Bool) (w : World) (hr0_1 : Kd.C (Kd.int .u32) w A0_1 l0_1.length l0_1) (hc0_1 : l0_1.length ≤ c0_1) (hr0_2 : Kd.C (Kd.int .u32) w A0_2 l0_2.length l0_2) (hc0_2 : l0_2.length ≤ c0_2) (hr1_1 : Kd.C (Kd.int .u32) w A1_1 l1_1.length l1_1) (hc1_1 : l1_1.length ≤ c1_1) (hr1_2 : Kd.C (Kd.int .u32) w A1_2 l1_2.length l1_2) (hc1_2 : l1_2.length ≤ c1_2) (hrt : r = true) (h : offcutlaw03_RatDivides.f k a0_0 l0_1 l0_2 a1_0 l1_1 l1_2 = some r) :
  Calls Try.prog 3 #[.agg #[.bool a0_0, .slice A0_1 l0_1.length c0_1, .slice A0_2 l0_2.length c0_2], .agg #[.bool a1_0, .slice A1_1 l1_1.length c1_1, .slice A1_2 l1_2.length c1_2]] w fun e w' => e = .returned (.bool r) ∧ Below w.heap.size w w' := by
 have hu27 := Try.underlying27
 have HRT := Aside0.mk hrt
 clear hrt
 have HR0_1 := Aside0.mk hr0_1
 have HC0_1 := Aside0.mk hc0_1
 clear hr0_1 hc0_1
 have HR0_2 := Aside0.mk hr0_2
 have HC0_2 := Aside0.mk hc0_2
 clear hr0_2 hc0_2
 have HR1_1 := Aside0.mk hr1_1
 have HC1_1 := Aside0.mk hc1_1
 clear hr1_1 hc1_1
 have HR1_2 := Aside0.mk hr1_2
 have HC1_2 := Aside0.mk hc1_2
 clear hr1_2 hc1_2
 have HB := Aside0.mk (Below.refl w.heap.size w)
 have H : ((offcutlaw03_few.f a0_0 l0_1 l0_2).bind fun t674 => (if t674 = true then ((offcutlaw03_few.f a1_0 l1_1 l1_2).bind fun t675 => (offcutlaw03_RatDivides.j0 k (!t675) a0_0 l0_1 l0_2 a1_0 l1_1 l1_2)) else (offcutlaw03_RatDivides.j0 k true a0_0 l0_1 l0_2 a1_0 l1_1 l1_2))) = some r := h
 clear h
 have HC3 := Aside0.mk H
 clear H
 have hu34_ := Try.underlying34
 have hfl34_0 : ∀ (x y : ByteArray) (W : World), (Instr.field 34 (.agg #[.string x, .string y]) 0).run Try.prog W = .ok (.string x) W := fun _ _ _ => by rfl
 have hfl34_1 : ∀ (x y : ByteArray) (W : World), (Instr.field 34 (.agg #[.string x, .string y]) 1).run Try.prog W = .ok (.string y) W := fun _ _ _ => by rfl
 go_enter Try.func3, Try.ntmps3
 go_upto_region 1 with (first | ((with_reducible refine gate_dst (N := 2) rfl ?_); refine Short.boxS_ (N := 2) (cs := #[.bool a0_0, .slice A0_1 l0_1.length c0_1, .slice A0_2 l0_2.length c0_2]) (t := 27) ?_; intro gb672 hg w4 hbox hb; have BK672 := Aside0.mk (hbox); have GW672 := Aside0.mk ((by rw [hg]; exact (below_size (by repeat (first | (with_reducible first | exact HB.out | apply below_alloc | apply pw_below_drewN | apply below_drew1) | exact HB.out))) : w.heap.size ≤ gb672)); have GE672 := Aside0.mk ((by rw [hg]; exact (below_size (by repeat (first | (with_reducible first | exact HB.out | apply below_alloc | apply pw_below_drewN | apply below_drew1) | exact HB.out))) : w.heap.size ≤ gb672)); replace HB := Aside0.mk (below_step (by repeat (first | (with_reducible first | exact HB.out | apply below_alloc | apply pw_below_drewN | apply below_drew1) | exact HB.out)) hb); clear hb hbox hg) | ((with_reducible refine gate_dst (N := 3) rfl ?_); refine Short.boxS_ (N := 3) (cs := #[.bool a1_0, .slice A1_1 l1_1.length c1_1, .slice A1_2 l1_2.length c1_2]) (t := 27) ?_; intro gb673 hg w5 hbox hb; have BK673 := Aside0.mk (hbox); have GW673 := Short.sizeB_ (w := w) hg; have GE673 := Short.sizeB_ (w := w) hg; replace HB := Short.stepB_ (w := w) hb; have NB672_673 := Short.ltB_ (g := gb672) hg; have NB673_672 := Short.gtB_ (g := gb672) hg; replace BK672 := Short.blkB_ (g := gb672) hb; clear hb hbox hg))
 (try simp only [Act.put, List.setIfInBounds_toArray, List.set_cons_zero, List.set_cons_succ])
 go_cut [14] (fun v14 wc => ∃ (kq : Nat) (x14_2 : Bool), v14 = .bool x14_2 ∧ Aside0 (offcutlaw03_RatDivides.j0 kq x14_2 a0_0 l0_1 l0_2 a1_0 l1_1 l1_2 = some r) ∧ Aside0 (kq ≤ k) ∧ Aside0 (wc.heap[gb672]? = some (.cells #[.bool a0_0, (.slice A0_1 l0_1.length c0_1), (.slice A0_2 l0_2.length c0_2)] 27 (0, 0))) ∧ Aside0 (wc.heap[gb673]? = some (.cells #[.bool a1_0, (.slice A1_1 l1_1.length c1_1), (.slice A1_2 l1_2.length c1_2)] 27 (0, 0))) ∧ Aside0 (Below w.heap.size w wc))
 case first =>
  have H := HC3.out
  clear HC3
  replace H := Option.bind_eq_some_iff.mp H
  obtain ⟨t674, A60, H⟩ := H
  try dsimp only at H
  have A6 := Aside0.mk A60
  clear A60
  by_cases c7 : t674 = true
  ·subst c7
   have H1 : ((offcutlaw03_few.f a1_0 l1_1 l1_2).bind fun t675 => (offcutlaw03_RatDivides.j0 k (!t675) a0_0 l0_1 l0_2 a1_0 l1_1 l1_2)) = some r := by rw [if_pos rfl] at H; exact H
   clear H
   have H := H1
   clear H1
   replace H := Option.bind_eq_some_iff.mp H
   obtain ⟨t675, A80, H⟩ := H
   try dsimp only at H
   have A8 := Aside0.mk A80
   clear A80
   have H' := Aside0.mk H
   clear H
   have hnb9 := NB672_673.out
   have hnc9 := NB673_672.out
   have hcz10_0 : w5.cell? ⟨gb672, 0, none⟩ = some (.bool a0_0) := (blk_cell BK672.out 0).trans rfl
   have hcz10_1 : w5.cell? ⟨gb672, 1, none⟩ = some (.slice A0_1 l0_1.length c0_1) := (blk_cell BK672.out 1).trans rfl
   have hcz10_2 : w5.cell? ⟨gb672, 2, none⟩ = some (.slice A0_2 l0_2.length c0_2) := (blk_cell BK672.out 2).trans rfl
   have hfz10_0 := blk_frozen BK672.out 0
   have hfz10_1 := blk_frozen BK672.out 1
   have hfz10_2 := blk_frozen BK672.out 2
   go_wp2_with (first | ((with_reducible refine gate_callee (f := 10) rfl ?_); refine Short.goesS_ (some 8) Try.func10 #[.agg #[.bool a0_0, .slice A0_1 l0_1.length c0_1, .slice A0_2 l0_2.length c0_2]] ?_; (with_reducible refine (offcutlaw03_few.calls a0_0 _ _ l0_1 _ _ l0_2 true _ ?side1 HC0_1.out ?side3 HC0_2.out A6.out).mono ?_); (case side1 => repeat (first | exact (Kd.C_below HR0_1.out HB.out) | (with_reducible refine Kd.C_alloc ?_ _) | (with_reducible refine Kd.C_drewN ?_ _) | (with_reducible refine Kd.C_drew ?_))); (case side3 => repeat (first | exact (Kd.C_below HR0_2.out HB.out) | (with_reducible refine Kd.C_alloc ?_ _) | (with_reducible refine Kd.C_drewN ?_ _) | (with_reducible refine Kd.C_drew ?_))); rintro e w11 ⟨rfl, hb⟩; refine ⟨_, rfl, ?_⟩; replace BK672 := Short.blkB_ (g := gb672) hb; replace BK673 := Short.blkB_ (g := gb673) hb; replace HB := Short.stepB_ (w := w) hb; (try clear hb); have hcz12_0 : w11.cell? ⟨gb673, 0, none⟩ = some (.bool a1_0) := (blk_cell BK673.out 0).trans rfl; have hcz12_1 : w11.cell? ⟨gb673, 1, none⟩ = some (.slice A1_1 l1_1.length c1_1) := (blk_cell BK673.out 1).trans rfl; have hcz12_2 : w11.cell? ⟨gb673, 2, none⟩ = some (.slice A1_2 l1_2.length c1_2) := (blk_cell BK673.out 2).trans rfl; have hfz12_0 := blk_frozen BK673.out 0; have hfz12_1 := blk_frozen BK673.out 1; have hfz12_2 := blk_frozen BK673.out 2) | (go_at_call 10; (with_reducible refine (offcutlaw03_few.calls a1_0 _ _ l1_1 _ _ l1_2 t675 _ ?side1 HC1_1.out ?side3 HC1_2.out A8.out).mono ?_); (case side1 => repeat (first | exact (Kd.C_below HR1_1.out HB.out) | (with_reducible refine Kd.C_alloc ?_ _) | (with_reducible refine Kd.C_drewN ?_ _) | (with_reducible refine Kd.C_drew ?_))); (case side3 => repeat (first | exact (Kd.C_below HR1_2.out HB.out) | (with_reducible refine Kd.C_alloc ?_ _) | (with_reducible refine Kd.C_drewN ?_ _) | (with_reducible refine Kd.C_drew ?_))); rintro e w13 ⟨rfl, hb⟩; replace BK672 := Short.blkB_ (g := gb672) hb; replace BK673 := Short.blkB_ (g := gb673) hb; replace HB := Short.stepB_ (w := w) hb; (try clear hb)))
   go_meet
   case rel => exact ⟨_, (!t675), (by first | rfl | (simp; done) | (simp [*]; done)), H', ⟨by first | omega | exact Nat.le_refl _⟩, ⟨by (with_reducible repeat (first | refine blk_drewN ?_ _ | refine blk_drew ?_ | refine blk_alloc ?_ _)); exact BK672.out⟩, ⟨by (with_reducible repeat (first | refine blk_drewN ?_ _ | refine blk_drew ?_ | refine blk_alloc ?_ _)); exact BK673.out⟩, ⟨by repeat (first | (with_reducible first | exact HB.out | apply below_alloc | apply pw_below_drewN | apply below_drew1 | refine below_set ?_ GE672.out | refine below_set ?_ GE673.out) | exact HB.out)⟩⟩
  ·replace c7 := Bool.eq_false_iff.mpr c7
   subst c7
   have H1 : (offcutlaw03_RatDivides.j0 k true a0_0 l0_1 l0_2 a1_0 l1_1 l1_2) = some r := by rw [if_neg (show ¬ (false = true) by decide)] at H; exact H
   clear H
   have H := H1
   clear H1
   have H' := Aside0.mk H
   clear H
   have hnb14 := NB672_673.out
   have hnc14 := NB673_672.out
   have hcz15_0 : w5.cell? ⟨gb672, 0, none⟩ = some (.bool a0_0) := (blk_cell BK672.out 0).trans rfl
   have hcz15_1 : w5.cell? ⟨gb672, 1, none⟩ = some (.slice A0_1 l0_1.length c0_1) := (blk_cell BK672.out 1).trans rfl
   have hcz15_2 : w5.cell? ⟨gb672, 2, none⟩ = some (.slice A0_2 l0_2.length c0_2) := (blk_cell BK672.out 2).trans rfl
   have hfz15_0 := blk_frozen BK672.out 0
   have hfz15_1 := blk_frozen BK672.out 1
   have hfz15_2 := blk_frozen BK672.out 2
   go_wp2_with (first | ((with_reducible refine gate_callee (f := 10) rfl ?_); refine Short.goesS_ (some 8) Try.func10 #[.agg #[.bool a0_0, .slice A0_1 l0_1.length c0_1, .slice A0_2 l0_2.length c0_2]] ?_; (with_reducible refine (offcutlaw03_few.calls a0_0 _ _ l0_1 _ _ l0_2 false _ ?side1 HC0_1.out ?side3 HC0_2.out A6.out).mono ?_); (case side1 => repeat (first | exact (Kd.C_below HR0_1.out HB.out) | (with_reducible refine Kd.C_alloc ?_ _) | (with_reducible refine Kd.C_drewN ?_ _) | (with_reducible refine Kd.C_drew ?_))); (case side3 => repeat (first | exact (Kd.C_below HR0_2.out HB.out) | (with_reducible refine Kd.C_alloc ?_ _) | (with_reducible refine Kd.C_drewN ?_ _) | (with_reducible refine Kd.C_drew ?_))); rintro e w16 ⟨rfl, hb⟩; refine ⟨_, rfl, ?_⟩; replace BK672 := Short.blkB_ (g := gb672) hb; replace BK673 := Short.blkB_ (g := gb673) hb; replace HB := Short.stepB_ (w := w) hb; (try clear hb)))
   go_meet
   case rel => exact ⟨_, (true), (by first | rfl | (simp; done) | (simp [*]; done)), H', ⟨by first | omega | exact Nat.le_refl _⟩, ⟨by (with_reducible repeat (first | refine blk_drewN ?_ _ | refine blk_drew ?_ | refine blk_alloc ?_ _)); exact BK672.out⟩, ⟨by (with_reducible repeat (first | refine blk_drewN ?_ _ | refine blk_drew ?_ | refine blk_alloc ?_ _)); exact BK673.out⟩, ⟨by repeat (first | (with_reducible first | exact HB.out | apply below_alloc | apply pw_below_drewN | apply below_drew1 | refine below_set ?_ GE672.out | refine below_set ?_ GE673.out) | exact HB.out)⟩⟩
 case rest =>
  clear HC3
  try clear c1
  try clear p2
  try clear c3
  try clear c7
  try clear c9
  try clear c10
  try clear c14
  try clear hcz10_0
  try clear hcz10_1
  try clear hcz10_2
  try clear hcz12_0
  try clear hcz12_1
  try clear hcz12_2
  try clear hcz15_0
  try clear hcz15_1
  try clear hcz15_2
  try clear hfz10_0
  try clear hfz10_1
  try clear hfz10_2
  try clear hfz12_0
  try clear hfz12_1
  try clear hfz12_2
  try clear hfz15_0
  try clear hfz15_1
  try clear hfz15_2
  obtain ⟨kq, x14_2, rfl, HA, HJ2, BK672, BK673, HB⟩ := hcut
  cases kq with
  | zero => exact absurd HA.out (by simp [offcutlaw03_RatDivides.j0])
  | succ kj2 =>
   have H := HA.out
   clear HA
   simp only [offcutlaw03_RatDivides.j0] at H
   by_cases c17 : x14_2 = true
   ·subst c17
    have H1 : ((offcutlaw03_awake.f kj2).bind fun t676 => (some t676)) = some r := by rw [if_pos rfl] at H; exact H
    clear H
    have H := H1
    clear H1
    replace H := Option.bind_eq_some_iff.mp H
    obtain ⟨t676, A180, H⟩ := H
    replace H : (some t676) = some r := H
    have A18 := Aside0.mk A180
    clear A180
    obtain rfl := Option.some.inj H
    go_wp2_with (first | ((with_reducible refine gate_callee (f := 11) rfl ?_); refine Short.goesS_ (some 15) Try.func11 #[] ?_; (with_reducible refine (offcutlaw03_awake.calls kj2  t676 _ HRT.out A18.out).mono ?_); rintro e w19 ⟨rfl, hb⟩; refine ⟨_, rfl, ?_⟩; replace BK672 := Short.blkB_ (g := gb672) hb; replace BK673 := Short.blkB_ (g := gb673) hb; replace HB := Short.stepB_ (w := w) hb; (try clear hb)))
    go_ret
    exact ⟨by rfl, by repeat (first | (with_reducible first | exact HB.out | apply below_alloc | apply pw_below_drewN | apply below_drew1 | refine below_set ?_ GE672.out | refine below_set ?_ GE673.out) | exact HB.out)⟩
   ·replace c17 := Bool.eq_false_iff.mpr c17
    subst c17
    have H1 : ((rat_Div.f kj2 a0_0 l0_1 l0_2 a1_0 l1_1 l1_2).bind fun bt677 => ((offcutlaw03_Of.f kj2 a1_0 l1_1 l1_2).bind fun bt686 => (if bt686.1.toList = ([48] : List UInt8) then ((rat_Sign.f kj2 bt677.1 bt677.2.1 bt677.2.2.1).bind fun t688 => (if t688 = 0 then (if bt677.2.2.2 = 5 then ((offcutlaw03_awake.f kj2).bind fun t689 => (some t689)) else (some false)) else (some false))) else ((offcutlaw03_Of.f kj2 a0_0 l0_1 l0_2).bind fun bt690 => ((offcutlaw03_Of.f kj2 a1_0 l1_1 l1_2).bind fun bt692 => ((offcutref03_Turned.f bt692.1 bt692.2).bind fun bt694 => ((offcutref03_Mul.f kj2 bt690.1 bt690.2 bt694.1 bt694.2).bind fun bt696 => ((offcutlaw03_Is.f kj2 bt677.1 bt677.2.1 bt677.2.2.1 bt696.1 bt696.2).bind fun t698 => (if t698 = true then (if bt677.2.2.2 = 0 then ((offcutlaw03_awake.f kj2).bind fun t699 => (some t699)) else (some false)) else (some false)))))))))) = some r := by rw [if_neg (show ¬ (false = true) by decide)] at H; exact H
    clear H
    have H := H1
    clear H1
    replace H := Option.bind_eq_some_iff.mp H
    obtain ⟨⟨t677, t678, t681, t684⟩, A200, H⟩ := H
    try dsimp only at H
    have A20 := Aside0.mk A200
    clear A200
    replace H := Option.bind_eq_some_iff.mp H
    obtain ⟨⟨t686, t687⟩, A210, H⟩ := H
    try dsimp only at H
    have A21 := Aside0.mk A210
    clear A210
    by_cases c22 : t686.toList = ([48] : List UInt8)
    ·rw [if_pos c22] at H
     have c22b0 : (t686.toList == ([48] : List UInt8)) = true := beq_iff_eq.mpr c22
     have c22b1 : (t686.toList != ([48] : List UInt8)) = false := bne_eq_false_iff_eq.mpr c22
     clear c22
     replace H := Option.bind_eq_some_iff.mp H
     obtain ⟨t688, A230, H⟩ := H
     try dsimp only at H
     have A23 := Aside0.mk A230
     clear A230
     by_cases c24 : t688 = 0
     ·rw [if_pos c24] at H
      have c24b0 : (t688 == 0) = true := beq_iff_eq.mpr c24
      have c24b1 : (t688 != 0) = false := bne_eq_false_iff_eq.mpr c24
      clear c24
      by_cases c25 : t684 = 5
      ·rw [if_pos c25] at H
       have c25b0 : (t684 == 5) = true := beq_iff_eq.mpr c25
       have c25b1 : (t684 != 5) = false := bne_eq_false_iff_eq.mpr c25
       clear c25
       replace H := Option.bind_eq_some_iff.mp H
       obtain ⟨t689, A260, H⟩ := H
       replace H : (some t689) = some r := H
       have A26 := Aside0.mk A260
       clear A260
       obtain rfl := Option.some.inj H
       have hnb27 := NB672_673.out
       have hnc27 := NB673_672.out
       have hcz28_0 : wc.cell? ⟨gb672, 0, none⟩ = some (.bool a0_0) := (blk_cell BK672.out 0).trans rfl
       have hcz28_1 : wc.cell? ⟨gb672, 1, none⟩ = some (.slice A0_1 l0_1.length c0_1) := (blk_cell BK672.out 1).trans rfl
       have hcz28_2 : wc.cell? ⟨gb672, 2, none⟩ = some (.slice A0_2 l0_2.length c0_2) := (blk_cell BK672.out 2).trans rfl
       have hfz28_0 := blk_frozen BK672.out 0
       have hfz28_1 := blk_frozen BK672.out 1
       have hfz28_2 := blk_frozen BK672.out 2
       have hcz29_0 : wc.cell? ⟨gb673, 0, none⟩ = some (.bool a1_0) := (blk_cell BK673.out 0).trans rfl
       have hcz29_1 : wc.cell? ⟨gb673, 1, none⟩ = some (.slice A1_1 l1_1.length c1_1) := (blk_cell BK673.out 1).trans rfl
       have hcz29_2 : wc.cell? ⟨gb673, 2, none⟩ = some (.slice A1_2 l1_2.length c1_2) := (blk_cell BK673.out 2).trans rfl
       have hfz29_0 := blk_frozen BK673.out 0
       have hfz29_1 := blk_frozen BK673.out 1
       have hfz29_2 := blk_frozen BK673.out 2
       go_wp2_with (first | ((with_reducible refine gate_callee (f := 12) rfl ?_); refine Short.goesS_ (some 19) Try.func12 #[.agg #[.bool a0_0, .slice A0_1 l0_1.length c0_1, .slice A0_2 l0_2.length c0_2], .agg #[.bool a1_0, .slice A1_1 l1_1.length c1_1, .slice A1_2 l1_2.length c1_2]] ?_; (with_reducible refine (rat_Div.calls kj2 a0_0 _ _ l0_1 _ _ l0_2 a1_0 _ _ l1_1 _ _ l1_2 t677 t678 t681 t684 _ ?side1 HC0_1.out ?side3 HC0_2.out ?side5 HC1_1.out ?side7 HC1_2.out A20.out).mono ?_); (case side1 => repeat (first | exact (Kd.C_below HR0_1.out HB.out) | (with_reducible refine Kd.C_alloc ?_ _) | (with_reducible refine Kd.C_drewN ?_ _) | (with_reducible refine Kd.C_drew ?_))); (case side3 => repeat (first | exact (Kd.C_below HR0_2.out HB.out) | (with_reducible refine Kd.C_alloc ?_ _) | (with_reducible refine Kd.C_drewN ?_ _) | (with_reducible refine Kd.C_drew ?_))); (case side5 => repeat (first | exact (Kd.C_below HR1_1.out HB.out) | (with_reducible refine Kd.C_alloc ?_ _) | (with_reducible refine Kd.C_drewN ?_ _) | (with_reducible refine Kd.C_drew ?_))); (case side7 => repeat (first | exact (Kd.C_below HR1_2.out HB.out) | (with_reducible refine Kd.C_alloc ?_ _) | (with_reducible refine Kd.C_drewN ?_ _) | (with_reducible refine Kd.C_drew ?_))); rintro e w30 ⟨v679, v682, rfl, ho0, ho1, hb⟩; refine ⟨_, rfl, ?_⟩; have HO680 := Aside0.mk (Kd.R_lower ho0 (Short.sizeA_ (w := w))); have HO683 := Aside0.mk (Kd.R_lower ho1 (Short.sizeA_ (w := w))); replace BK672 := Short.blkB_ (g := gb672) hb; replace BK673 := Short.blkB_ (g := gb673) hb; replace HB := Short.stepB_ (w := w) hb; (try clear hb); (try clear ho0); (try clear ho1)) | ((with_reducible refine gate_dst (N := 5) rfl ?_); refine Short.boxS_ (N := 5) (cs := #[.bool false, .slice none 0 0, .slice none 0 0]) (t := 27) ?_; intro gb685 hg w31 hbox hb; replace HO680 := Aside0.mk (Kd.R_below (by (with_reducible repeat (first | apply Kd.R_alloc | apply Kd.R_drewN | apply Kd.R_drew)); exact HO680.out) hb); replace HO683 := Aside0.mk (Kd.R_below (by (with_reducible repeat (first | apply Kd.R_alloc | apply Kd.R_drewN | apply Kd.R_drew)); exact HO683.out) hb); have BK685 := Aside0.mk (hbox); have GW685 := Short.sizeB_ (w := w) hg; have GE685 := Short.sizeB_ (w := w) hg; replace HB := Short.stepB_ (w := w) hb; have NB672_685 := Short.ltB_ (g := gb672) hg; have NB685_672 := Short.gtB_ (g := gb672) hg; replace BK672 := Short.blkB_ (g := gb672) hb; have NB673_685 := Short.ltB_ (g := gb673) hg; have NB685_673 := Short.gtB_ (g := gb673) hg; replace BK673 := Short.blkB_ (g := gb673) hb; clear hb hbox hg; have hnb32 := NB685_672.out; have hnc32 := NB672_685.out; have hnb33 := NB685_673.out; have hnc33 := NB673_685.out; have hcz34_0 : w31.cell? ⟨gb685, 0, none⟩ = some (.bool false) := (blk_cell BK685.out 0).trans rfl; have hcz34_1 : w31.cell? ⟨gb685, 1, none⟩ = some (.slice none 0 0) := (blk_cell BK685.out 1).trans rfl; have hcz34_2 : w31.cell? ⟨gb685, 2, none⟩ = some (.slice none 0 0) := (blk_cell BK685.out 2).trans rfl; have hfz34_0 := blk_frozen BK685.out 0; have hfz34_1 := blk_frozen BK685.out 1; have hfz34_2 := blk_frozen BK685.out 2; obtain ⟨Ao35, co35, eo35⟩ := Kd.R_slice HO680.out; subst eo35; obtain ⟨Ao36, co36, eo36⟩ := Kd.R_slice HO683.out; subst eo36; have hcz37_0 : w31.cell? ⟨gb673, 0, none⟩ = some (.bool a1_0) := (blk_cell BK673.out 0).trans rfl; have hcz37_1 : w31.cell? ⟨gb673, 1, none⟩ = some (.slice A1_1 l1_1.length c1_1) := (blk_cell BK673.out 1).trans rfl; have hcz37_2 : w31.cell? ⟨gb673, 2, none⟩ = some (.slice A1_2 l1_2.length c1_2) := (blk_cell BK673.out 2).trans rfl; have hfz37_0 := blk_frozen BK673.out 0; have hfz37_1 := blk_frozen BK673.out 1; have hfz37_2 := blk_frozen BK673.out 2) | ((with_reducible refine gate_callee (f := 13) rfl ?_); refine Short.goesS_ (some 23) Try.func13 #[.agg #[.bool a1_0, .slice A1_1 l1_1.length c1_1, .slice A1_2 l1_2.length c1_2]] ?_; (with_reducible refine (offcutlaw03_Of.calls kj2 a1_0 _ _ l1_1 _ _ l1_2 t686 t687 _ ?side1 HC1_1.out ?side3 HC1_2.out A21.out).mono ?_); (case side1 => exact Kd.C_below HR1_1.out (by repeat (first | (with_reducible first | exact HB.out | apply below_alloc | apply pw_below_drewN | apply below_drew1 | refine below_set ?_ GE672.out | refine below_set ?_ GE673.out | refine below_set ?_ GE685.out) | exact HB.out))); (case side3 => exact Kd.C_below HR1_2.out (by repeat (first | (with_reducible first | exact HB.out | apply below_alloc | apply pw_below_drewN | apply below_drew1 | refine below_set ?_ GE672.out | refine below_set ?_ GE673.out | refine below_set ?_ GE685.out) | exact HB.out))); rintro e w38 ⟨rfl, hb⟩; refine ⟨_, rfl, ?_⟩; replace HO680 := Aside0.mk (Kd.R_below (by (with_reducible repeat (first | apply Kd.R_alloc | apply Kd.R_drewN | apply Kd.R_drew)); exact (Kd.R_mono (Kd.R_far (p := ⟨gb685, 2, none⟩) (Kd.R_far (p := ⟨gb685, 1, none⟩) (Kd.R_far (p := ⟨gb685, 0, none⟩) (Kd.R_types HO680.out BK685.out (by decide)) (fun _ hk => hk.2) (.bool t677)) (fun _ hk => hk.2) (.slice Ao35 t678.length co35)) (fun _ hk => hk.2) (.slice Ao36 t681.length co36)) (fun _ h_ => h_.1))) hb); replace HO683 := Aside0.mk (Kd.R_below (by (with_reducible repeat (first | apply Kd.R_alloc | apply Kd.R_drewN | apply Kd.R_drew)); exact (Kd.R_mono (Kd.R_far (p := ⟨gb685, 2, none⟩) (Kd.R_far (p := ⟨gb685, 1, none⟩) (Kd.R_far (p := ⟨gb685, 0, none⟩) (Kd.R_types HO683.out BK685.out (by decide)) (fun _ hk => hk.2) (.bool t677)) (fun _ hk => hk.2) (.slice Ao35 t678.length co35)) (fun _ hk => hk.2) (.slice Ao36 t681.length co36)) (fun _ h_ => h_.1))) hb); replace BK672 := Aside0.mk (blk_below (g := gb672) (o := .cells #[.bool a0_0, .slice A0_1 l0_1.length c0_1, .slice A0_2 l0_2.length c0_2] 27 (0, 0)) (by (with_reducible repeat (first | refine blk_drewN ?_ _ | refine blk_drew ?_ | refine blk_alloc ?_ _)); refine blk_far ?_ NB672_685.out _; (with_reducible repeat (first | refine blk_drewN ?_ _ | refine blk_drew ?_ | refine blk_alloc ?_ _)); refine blk_far ?_ NB672_685.out _; (with_reducible repeat (first | refine blk_drewN ?_ _ | refine blk_drew ?_ | refine blk_alloc ?_ _)); refine blk_far ?_ NB672_685.out _; (with_reducible repeat (first | refine blk_drewN ?_ _ | refine blk_drew ?_ | refine blk_alloc ?_ _)); exact BK672.out) hb); replace BK673 := Aside0.mk (blk_below (g := gb673) (o := .cells #[.bool a1_0, .slice A1_1 l1_1.length c1_1, .slice A1_2 l1_2.length c1_2] 27 (0, 0)) (by (with_reducible repeat (first | refine blk_drewN ?_ _ | refine blk_drew ?_ | refine blk_alloc ?_ _)); refine blk_far ?_ NB673_685.out _; (with_reducible repeat (first | refine blk_drewN ?_ _ | refine blk_drew ?_ | refine blk_alloc ?_ _)); refine blk_far ?_ NB673_685.out _; (with_reducible repeat (first | refine blk_drewN ?_ _ | refine blk_drew ?_ | refine blk_alloc ?_ _)); refine blk_far ?_ NB673_685.out _; (with_reducible repeat (first | refine blk_drewN ?_ _ | refine blk_drew ?_ | refine blk_alloc ?_ _)); exact BK673.out) hb); replace BK685 := Aside0.mk (blk_below (g := gb685) (o := .cells #[.bool t677, .slice Ao35 t678.length co35, .slice Ao36 t681.length co36] 27 (0, 0)) (by (with_reducible repeat (first | refine blk_drewN ?_ _ | refine blk_drew ?_ | refine blk_alloc ?_ _)); refine blk_put (cs := #[.bool t677, .slice Ao35 t678.length co35, .slice none 0 0]) ?_ 2 _ rfl; (with_reducible repeat (first | refine blk_drewN ?_ _ | refine blk_drew ?_ | refine blk_alloc ?_ _)); refine blk_put (cs := #[.bool t677, .slice none 0 0, .slice none 0 0]) ?_ 1 _ rfl; (with_reducible repeat (first | refine blk_drewN ?_ _ | refine blk_drew ?_ | refine blk_alloc ?_ _)); refine blk_put (cs := #[.bool false, .slice none 0 0, .slice none 0 0]) ?_ 0 _ rfl; (with_reducible repeat (first | refine blk_drewN ?_ _ | refine blk_drew ?_ | refine blk_alloc ?_ _)); exact BK685.out) hb); replace HB := Short.stepB_ (w := w) hb; (try clear hb); have hcz39_0 : w38.cell? ⟨gb685, 0, none⟩ = some (.bool t677) := (blk_cell BK685.out 0).trans rfl; have hcz39_1 : w38.cell? ⟨gb685, 1, none⟩ = some (.slice Ao35 t678.length co35) := (blk_cell BK685.out 1).trans rfl; have hcz39_2 : w38.cell? ⟨gb685, 2, none⟩ = some (.slice Ao36 t681.length co36) := (blk_cell BK685.out 2).trans rfl; have hfz39_0 := blk_frozen BK685.out 0; have hfz39_1 := blk_frozen BK685.out 1; have hfz39_2 := blk_frozen BK685.out 2) | ((with_reducible refine gate_callee (f := 14) rfl ?_); refine Short.goesS_ (some 27) Try.func14 #[.agg #[.bool t677, .slice Ao35 t678.length co35, .slice Ao36 t681.length co36]] ?_; (with_reducible refine (rat_Sign.calls kj2 t677 _ _ t678 _ _ t681 t688 _ ?side1 ((Kd.R_reads' HO680.out).2.1) ?side3 ((Kd.R_reads' HO683.out).2.1) A23.out).mono ?_); (case side1 => repeat (first | exact (Kd.R_reads' HO680.out).2.2 | (with_reducible refine Kd.C_alloc ?_ _) | (with_reducible refine Kd.C_drewN ?_ _) | (with_reducible refine Kd.C_drew ?_))); (case side3 => repeat (first | exact (Kd.R_reads' HO683.out).2.2 | (with_reducible refine Kd.C_alloc ?_ _) | (with_reducible refine Kd.C_drewN ?_ _) | (with_reducible refine Kd.C_drew ?_))); rintro e w40 ⟨rfl, hb⟩; refine ⟨_, rfl, ?_⟩; replace HO680 := Aside0.mk (Kd.R_below (by (with_reducible repeat (first | apply Kd.R_alloc | apply Kd.R_drewN | apply Kd.R_drew)); exact HO680.out) hb); replace HO683 := Aside0.mk (Kd.R_below (by (with_reducible repeat (first | apply Kd.R_alloc | apply Kd.R_drewN | apply Kd.R_drew)); exact HO683.out) hb); replace BK672 := Short.blkB_ (g := gb672) hb; replace BK673 := Short.blkB_ (g := gb673) hb; replace BK685 := Short.blkB_ (g := gb685) hb; replace HB := Short.stepB_ (w := w) hb; (try clear hb)) | (go_at_call 11; (with_reducible refine (offcutlaw03_awake.calls kj2  t689 _ HRT.out A26.out).mono ?_); rintro e w41 ⟨rfl, hb⟩; replace HO680 := Aside0.mk (Kd.R_below (by (with_reducible repeat (first | apply Kd.R_alloc | apply Kd.R_drewN | apply Kd.R_drew)); exact HO680.out) hb); replace HO683 := Aside0.mk (Kd.R_below (by (with_reducible repeat (first | apply Kd.R_alloc | apply Kd.R_drewN | apply Kd.R_drew)); exact HO683.out) hb); replace BK672 := Short.blkB_ (g := gb672) hb; replace BK673 := Short.blkB_ (g := gb673) hb; replace BK685 := Short.blkB_ (g := gb685) hb; replace HB := Short.stepB_ (w := w) hb; (try clear hb)))
       go_ret
       exact ⟨by rfl, by repeat (first | (with_reducible first | exact HB.out | apply below_alloc | apply pw_below_drewN | apply below_drew1 | refine below_set ?_ GE672.out | refine below_set ?_ GE673.out | refine below_set ?_ GE685.out) | exact HB.out)⟩
      ·rw [if_neg c25] at H
       have c25b0 : (t684 == 5) = false := beq_eq_false_iff_ne.mpr c25
       have c25b1 : (t684 != 5) = true := bne_iff_ne.mpr c25
       obtain rfl := Option.some.inj H
       exact absurd HRT.out (by decide)
     ·rw [if_neg c24] at H
      have c24b0 : (t688 == 0) = false := beq_eq_false_iff_ne.mpr c24
      have c24b1 : (t688 != 0) = true := bne_iff_ne.mpr c24
      obtain rfl := Option.some.inj H
      exact absurd HRT.out (by decide)
    ·rw [if_neg c22] at H
     have c22b0 : (t686.toList == ([48] : List UInt8)) = false := beq_eq_false_iff_ne.mpr c22
     have c22b1 : (t686.toList != ([48] : List UInt8)) = true := bne_iff_ne.mpr c22
     replace H := Option.bind_eq_some_iff.mp H
     obtain ⟨⟨t690, t691⟩, A700, H⟩ := H
     try dsimp only at H
     have A70 := Aside0.mk A700
     clear A700
     replace H := Option.bind_eq_some_iff.mp H
     obtain ⟨⟨t692, t693⟩, A710, H⟩ := H
     try dsimp only at H
     have A71 := Aside0.mk A710
     clear A710
     replace H := Option.bind_eq_some_iff.mp H
     obtain ⟨⟨t694, t695⟩, A720, H⟩ := H
     try dsimp only at H
     have A72 := Aside0.mk A720
     clear A720
     replace H := Option.bind_eq_some_iff.mp H
     obtain ⟨⟨t696, t697⟩, A730, H⟩ := H
     try dsimp only at H
     have A73 := Aside0.mk A730
     clear A730
     replace H := Option.bind_eq_some_iff.mp H
     obtain ⟨t698, A740, H⟩ := H
     try dsimp only at H
     have A74 := Aside0.mk A740
     clear A740
     by_cases c75 : t698 = true
     ·subst c75
      have H1 : (if t684 = 0 then ((offcutlaw03_awake.f kj2).bind fun t699 => (some t699)) else (some false)) = some r := by rw [if_pos rfl] at H; exact H
      clear H
      have H := H1
      clear H1
      by_cases c76 : t684 = 0
      ·rw [if_pos c76] at H
       have c76b0 : (t684 == 0) = true := beq_iff_eq.mpr c76
       have c76b1 : (t684 != 0) = false := bne_eq_false_iff_eq.mpr c76
       clear c76
       replace H := Option.bind_eq_some_iff.mp H
       obtain ⟨t699, A770, H⟩ := H
       replace H : (some t699) = some r := H
       have A77 := Aside0.mk A770
       clear A770
       obtain rfl := Option.some.inj H
       have hnb78 := NB672_673.out
       have hnc78 := NB673_672.out
       have hcz79_0 : wc.cell? ⟨gb672, 0, none⟩ = some (.bool a0_0) := (blk_cell BK672.out 0).trans rfl
       have hcz79_1 : wc.cell? ⟨gb672, 1, none⟩ = some (.slice A0_1 l0_1.length c0_1) := (blk_cell BK672.out 1).trans rfl
       have hcz79_2 : wc.cell? ⟨gb672, 2, none⟩ = some (.slice A0_2 l0_2.length c0_2) := (blk_cell BK672.out 2).trans rfl
       have hfz79_0 := blk_frozen BK672.out 0
       have hfz79_1 := blk_frozen BK672.out 1
       have hfz79_2 := blk_frozen BK672.out 2
       have hcz80_0 : wc.cell? ⟨gb673, 0, none⟩ = some (.bool a1_0) := (blk_cell BK673.out 0).trans rfl
       have hcz80_1 : wc.cell? ⟨gb673, 1, none⟩ = some (.slice A1_1 l1_1.length c1_1) := (blk_cell BK673.out 1).trans rfl
       have hcz80_2 : wc.cell? ⟨gb673, 2, none⟩ = some (.slice A1_2 l1_2.length c1_2) := (blk_cell BK673.out 2).trans rfl
       have hfz80_0 := blk_frozen BK673.out 0
       have hfz80_1 := blk_frozen BK673.out 1
       have hfz80_2 := blk_frozen BK673.out 2
       try go_wp2_with (first | ((with_reducible refine gate_callee (f := 12) rfl ?_); refine Short.goesS_ (some 19) Try.func12 #[.agg #[.bool a0_0, .slice A0_1 l0_1.length c0_1, .slice A0_2 l0_2.length c0_2], .agg #[.bool a1_0, .slice A1_1 l1_1.length c1_1, .slice A1_2 l1_2.length c1_2]] ?_; (with_reducible refine (rat_Div.calls kj2 a0_0 _ _ l0_1 _ _ l0_2 a1_0 _ _ l1_1 _ _ l1_2 t677 t678 t681 t684 _ ?side1 HC0_1.out ?side3 HC0_2.out ?side5 HC1_1.out ?side7 HC1_2.out A20.out).mono ?_); (case side1 => repeat (first | exact (Kd.C_below HR0_1.out HB.out) | (with_reducible refine Kd.C_alloc ?_ _) | (with_reducible refine Kd.C_drewN ?_ _) | (with_reducible refine Kd.C_drew ?_))); (case side3 => repeat (first | exact (Kd.C_below HR0_2.out HB.out) | (with_reducible refine Kd.C_alloc ?_ _) | (with_reducible refine Kd.C_drewN ?_ _) | (with_reducible refine Kd.C_drew ?_))); (case side5 => repeat (first | exact (Kd.C_below HR1_1.out HB.out) | (with_reducible refine Kd.C_alloc ?_ _) | (with_reducible refine Kd.C_drewN ?_ _) | (with_reducible refine Kd.C_drew ?_))); (case side7 => repeat (first | exact (Kd.C_below HR1_2.out HB.out) | (with_reducible refine Kd.C_alloc ?_ _) | (with_reducible refine Kd.C_drewN ?_ _) | (with_reducible refine Kd.C_drew ?_))); rintro e w81 ⟨v679, v682, rfl, ho0, ho1, hb⟩; refine ⟨_, rfl, ?_⟩; have HO680 := Aside0.mk (Kd.R_lower ho0 (Short.sizeA_ (w := w))); have HO683 := Aside0.mk (Kd.R_lower ho1 (Short.sizeA_ (w := w))); replace BK672 := Short.blkB_ (g := gb672) hb; replace BK673 := Short.blkB_ (g := gb673) hb; replace HB := Short.stepB_ (w := w) hb; (try clear hb); (try clear ho0); (try clear ho1)) | ((with_reducible refine gate_dst (N := 5) rfl ?_); refine Short.boxS_ (N := 5) (cs := #[.bool false, .slice none 0 0, .slice none 0 0]) (t := 27) ?_; intro gb685 hg w82 hbox hb; replace HO680 := Aside0.mk (Kd.R_below (by (with_reducible repeat (first | apply Kd.R_alloc | apply Kd.R_drewN | apply Kd.R_drew)); exact HO680.out) hb); replace HO683 := Aside0.mk (Kd.R_below (by (with_reducible repeat (first | apply Kd.R_alloc | apply Kd.R_drewN | apply Kd.R_drew)); exact HO683.out) hb); have BK685 := Aside0.mk (hbox); have GW685 := Short.sizeB_ (w := w) hg; have GE685 := Short.sizeB_ (w := w) hg; replace HB := Short.stepB_ (w := w) hb; have NB672_685 := Short.ltB_ (g := gb672) hg; have NB685_672 := Short.gtB_ (g := gb672) hg; replace BK672 := Short.blkB_ (g := gb672) hb; have NB673_685 := Short.ltB_ (g := gb673) hg; have NB685_673 := Short.gtB_ (g := gb673) hg; replace BK673 := Short.blkB_ (g := gb673) hb; clear hb hbox hg; have hnb83 := NB685_672.out; have hnc83 := NB672_685.out; have hnb84 := NB685_673.out; have hnc84 := NB673_685.out; have hcz85_0 : w82.cell? ⟨gb685, 0, none⟩ = some (.bool false) := (blk_cell BK685.out 0).trans rfl; have hcz85_1 : w82.cell? ⟨gb685, 1, none⟩ = some (.slice none 0 0) := (blk_cell BK685.out 1).trans rfl; have hcz85_2 : w82.cell? ⟨gb685, 2, none⟩ = some (.slice none 0 0) := (blk_cell BK685.out 2).trans rfl; have hfz85_0 := blk_frozen BK685.out 0; have hfz85_1 := blk_frozen BK685.out 1; have hfz85_2 := blk_frozen BK685.out 2; obtain ⟨Ao86, co86, eo86⟩ := Kd.R_slice HO680.out; subst eo86; obtain ⟨Ao87, co87, eo87⟩ := Kd.R_slice HO683.out; subst eo87; have hcz88_0 : w82.cell? ⟨gb673, 0, none⟩ = some (.bool a1_0) := (blk_cell BK673.out 0).trans rfl; have hcz88_1 : w82.cell? ⟨gb673, 1, none⟩ = some (.slice A1_1 l1_1.length c1_1) := (blk_cell BK673.out 1).trans rfl; have hcz88_2 : w82.cell? ⟨gb673, 2, none⟩ = some (.slice A1_2 l1_2.length c1_2) := (blk_cell BK673.out 2).trans rfl; have hfz88_0 := blk_frozen BK673.out 0; have hfz88_1 := blk_frozen BK673.out 1; have hfz88_2 := blk_frozen BK673.out 2) | ((with_reducible refine gate_callee (f := 13) rfl ?_); refine Short.goesS_ (some 23) Try.func13 #[.agg #[.bool a1_0, .slice A1_1 l1_1.length c1_1, .slice A1_2 l1_2.length c1_2]] ?_; (with_reducible refine (offcutlaw03_Of.calls kj2 a1_0 _ _ l1_1 _ _ l1_2 t686 t687 _ ?side1 HC1_1.out ?side3 HC1_2.out A21.out).mono ?_); (case side1 => exact Kd.C_below HR1_1.out (by repeat (first | (with_reducible first | exact HB.out | apply below_alloc | apply pw_below_drewN | apply below_drew1 | refine below_set ?_ GE672.out | refine below_set ?_ GE673.out | refine below_set ?_ GE685.out) | exact HB.out))); (case side3 => exact Kd.C_below HR1_2.out (by repeat (first | (with_reducible first | exact HB.out | apply below_alloc | apply pw_below_drewN | apply below_drew1 | refine below_set ?_ GE672.out | refine below_set ?_ GE673.out | refine below_set ?_ GE685.out) | exact HB.out))); rintro e w89 ⟨rfl, hb⟩; refine ⟨_, rfl, ?_⟩; replace HO680 := Aside0.mk (Kd.R_below (by (with_reducible repeat (first | apply Kd.R_alloc | apply Kd.R_drewN | apply Kd.R_drew)); exact (Kd.R_mono (Kd.R_far (p := ⟨gb685, 2, none⟩) (Kd.R_far (p := ⟨gb685, 1, none⟩) (Kd.R_far (p := ⟨gb685, 0, none⟩) (Kd.R_types HO680.out BK685.out (by decide)) (fun _ hk => hk.2) (.bool t677)) (fun _ hk => hk.2) (.slice Ao86 t678.length co86)) (fun _ hk => hk.2) (.slice Ao87 t681.length co87)) (fun _ h_ => h_.1))) hb); replace HO683 := Aside0.mk (Kd.R_below (by (with_reducible repeat (first | apply Kd.R_alloc | apply Kd.R_drewN | apply Kd.R_drew)); exact (Kd.R_mono (Kd.R_far (p := ⟨gb685, 2, none⟩) (Kd.R_far (p := ⟨gb685, 1, none⟩) (Kd.R_far (p := ⟨gb685, 0, none⟩) (Kd.R_types HO683.out BK685.out (by decide)) (fun _ hk => hk.2) (.bool t677)) (fun _ hk => hk.2) (.slice Ao86 t678.length co86)) (fun _ hk => hk.2) (.slice Ao87 t681.length co87)) (fun _ h_ => h_.1))) hb); replace BK672 := Aside0.mk (blk_below (g := gb672) (o := .cells #[.bool a0_0, .slice A0_1 l0_1.length c0_1, .slice A0_2 l0_2.length c0_2] 27 (0, 0)) (by (with_reducible repeat (first | refine blk_drewN ?_ _ | refine blk_drew ?_ | refine blk_alloc ?_ _)); refine blk_far ?_ NB672_685.out _; (with_reducible repeat (first | refine blk_drewN ?_ _ | refine blk_drew ?_ | refine blk_alloc ?_ _)); refine blk_far ?_ NB672_685.out _; (with_reducible repeat (first | refine blk_drewN ?_ _ | refine blk_drew ?_ | refine blk_alloc ?_ _)); refine blk_far ?_ NB672_685.out _; (with_reducible repeat (first | refine blk_drewN ?_ _ | refine blk_drew ?_ | refine blk_alloc ?_ _)); exact BK672.out) hb); replace BK673 := Aside0.mk (blk_below (g := gb673) (o := .cells #[.bool a1_0, .slice A1_1 l1_1.length c1_1, .slice A1_2 l1_2.length c1_2] 27 (0, 0)) (by (with_reducible repeat (first | refine blk_drewN ?_ _ | refine blk_drew ?_ | refine blk_alloc ?_ _)); refine blk_far ?_ NB673_685.out _; (with_reducible repeat (first | refine blk_drewN ?_ _ | refine blk_drew ?_ | refine blk_alloc ?_ _)); refine blk_far ?_ NB673_685.out _; (with_reducible repeat (first | refine blk_drewN ?_ _ | refine blk_drew ?_ | refine blk_alloc ?_ _)); refine blk_far ?_ NB673_685.out _; (with_reducible repeat (first | refine blk_drewN ?_ _ | refine blk_drew ?_ | refine blk_alloc ?_ _)); exact BK673.out) hb); replace BK685 := Aside0.mk (blk_below (g := gb685) (o := .cells #[.bool t677, .slice Ao86 t678.length co86, .slice Ao87 t681.length co87] 27 (0, 0)) (by (with_reducible repeat (first | refine blk_drewN ?_ _ | refine blk_drew ?_ | refine blk_alloc ?_ _)); refine blk_put (cs := #[.bool t677, .slice Ao86 t678.length co86, .slice none 0 0]) ?_ 2 _ rfl; (with_reducible repeat (first | refine blk_drewN ?_ _ | refine blk_drew ?_ | refine blk_alloc ?_ _)); refine blk_put (cs := #[.bool t677, .slice none 0 0, .slice none 0 0]) ?_ 1 _ rfl; (with_reducible repeat (first | refine blk_drewN ?_ _ | refine blk_drew ?_ | refine blk_alloc ?_ _)); refine blk_put (cs := #[.bool false, .slice none 0 0, .slice none 0 0]) ?_ 0 _ rfl; (with_reducible repeat (first | refine blk_drewN ?_ _ | refine blk_drew ?_ | refine blk_alloc ?_ _)); exact BK685.out) hb); replace HB := Short.stepB_ (w := w) hb; (try clear hb)))
       replace HO680 := Aside0.mk (Kd.R_drew HO680.out)
       replace HO683 := Aside0.mk (Kd.R_drew HO683.out)
       replace BK672 := Aside0.mk (blk_drew BK672.out)
       replace BK673 := Aside0.mk (blk_drew BK673.out)
       replace BK685 := Aside0.mk (blk_drew BK685.out)
       replace HB := Aside0.mk (below_drew1 HB.out)
       refine start_ (n := 16) (S := fun w' => w'.cell? ⟨gb685, 0, none⟩ = some (.bool t677) ∧ w'.cell? ⟨gb685, 1, none⟩ = some (.slice Ao86 t678.length co86) ∧ w'.cell? ⟨gb685, 2, none⟩ = some (.slice Ao87 t681.length co87) ∧ w'.cell? ⟨gb672, 0, none⟩ = some (.bool a0_0) ∧ w'.cell? ⟨gb672, 1, none⟩ = some (.slice A0_1 l0_1.length c0_1) ∧ w'.cell? ⟨gb672, 2, none⟩ = some (.slice A0_2 l0_2.length c0_2) ∧ w'.cell? ⟨gb673, 0, none⟩ = some (.bool a1_0) ∧ w'.cell? ⟨gb673, 1, none⟩ = some (.slice A1_1 l1_1.length c1_1) ∧ w'.cell? ⟨gb673, 2, none⟩ = some (.slice A1_2 l1_2.length c1_2)) (ds := []) #[false, false, false, false, false, false, false, false, false, false, false, false, false, false, false, false] (by kernel_rfl) rfl rfl ⟨(blk_cell BK685.out 0).trans rfl, (blk_cell BK685.out 1).trans rfl, (blk_cell BK685.out 2).trans rfl, (blk_cell BK672.out 0).trans rfl, (blk_cell BK672.out 1).trans rfl, (blk_cell BK672.out 2).trans rfl, (blk_cell BK673.out 0).trans rfl, (blk_cell BK673.out 1).trans rfl, (blk_cell BK673.out 2).trans rfl⟩ (fun hHeld => ?_); refine with_tabW offcutlaw03_RatDivides.tab6 offcutlaw03_RatDivides.bits6 (fun HT_ HW_ => ?_)
       generalize w89.drew = w90 at HO680 HO683 BK672 BK673 BK685 HB hHeld ⊢
       refine Short.takeS_ (i := 0) (N := some 36) #[true, false, false, false, false, false, false, false, false, false, false, false, false, false, false, false] (take_ofW HT_.out HW_.out (by kernel_rfl)) hHeld ?_
       refine Short.takeS_ (i := 1) (N := some 37) #[true, true, false, false, false, false, false, false, false, false, false, false, false, false, false, false] (take_ofW HT_.out HW_.out (by kernel_rfl)) hHeld ?_
       refine Short.takeS_ (i := 3) (N := some 39) #[true, true, false, true, false, false, false, false, false, false, false, false, false, false, false, false] (take_ofW HT_.out HW_.out (by kernel_rfl)) hHeld ?_
       refine one_ (i := 2) (N := some 38) #[true, true, true, true, false, false, false, false, false, false, false, false, false, false, false, false] rfl rfl (one_of HT_.out (by kernel_rfl)) (by decide) (fun K hK => ?_)
       refine Short.goesD_ Try.func13 #[.agg #[.bool a0_0, .slice A0_1 l0_1.length c0_1, .slice A0_2 l0_2.length c0_2]] ?_
       with_reducible refine (offcutlaw03_Of.calls kj2 a0_0 _ _ l0_1 _ _ l0_2 t690 t691 _ (Kd.C_below HR0_1.out HB.out) HC0_1.out (Kd.C_below HR0_2.out HB.out) HC0_2.out A70.out).mono ?_
       rintro e w91 ⟨rfl, hb⟩
       refine ⟨_, rfl, ?_⟩
       replace HO680 := Aside0.mk (Kd.R_below HO680.out hb)
       replace HO683 := Aside0.mk (Kd.R_below HO683.out hb)
       replace BK672 := Aside0.mk (blk_below BK672.out hb)
       replace BK673 := Aside0.mk (blk_below BK673.out hb)
       replace BK685 := Aside0.mk (blk_below BK685.out hb)
       replace HB := Aside0.mk (below_step HB.out hb)
       (try clear hb)
       refine hK.out _ _ ⟨(blk_cell BK685.out 0).trans rfl, (blk_cell BK685.out 1).trans rfl, (blk_cell BK685.out 2).trans rfl, (blk_cell BK672.out 0).trans rfl, (blk_cell BK672.out 1).trans rfl, (blk_cell BK672.out 2).trans rfl, (blk_cell BK673.out 0).trans rfl, (blk_cell BK673.out 1).trans rfl, (blk_cell BK673.out 2).trans rfl⟩ (fun hHeld => ?_)
       clear hK K
       refine Short.normS_ ?_
       refine one_ (i := 4) (N := some 40) #[true, true, true, true, true, false, false, false, false, false, false, false, false, false, false, false] rfl rfl (one_of HT_.out (by kernel_rfl)) (by decide) (fun K hK => ?_)
       refine Short.goesD_ Try.func13 #[.agg #[.bool a1_0, .slice A1_1 l1_1.length c1_1, .slice A1_2 l1_2.length c1_2]] ?_
       with_reducible refine (offcutlaw03_Of.calls kj2 a1_0 _ _ l1_1 _ _ l1_2 t692 t693 _ (Kd.C_below HR1_1.out HB.out) HC1_1.out (Kd.C_below HR1_2.out HB.out) HC1_2.out A71.out).mono ?_
       rintro e w92 ⟨rfl, hb⟩
       refine ⟨_, rfl, ?_⟩
       replace HO680 := Aside0.mk (Kd.R_below HO680.out hb)
       replace HO683 := Aside0.mk (Kd.R_below HO683.out hb)
       replace BK672 := Aside0.mk (blk_below BK672.out hb)
       replace BK673 := Aside0.mk (blk_below BK673.out hb)
       replace BK685 := Aside0.mk (blk_below BK685.out hb)
       replace HB := Aside0.mk (below_step HB.out hb)
       (try clear hb)
       refine hK.out _ _ ⟨(blk_cell BK685.out 0).trans rfl, (blk_cell BK685.out 1).trans rfl, (blk_cell BK685.out 2).trans rfl, (blk_cell BK672.out 0).trans rfl, (blk_cell BK672.out 1).trans rfl, (blk_cell BK672.out 2).trans rfl, (blk_cell BK673.out 0).trans rfl, (blk_cell BK673.out 1).trans rfl, (blk_cell BK673.out 2).trans rfl⟩ (fun hHeld => ?_)
       clear hK K
       refine Short.normS_ ?_
       refine one_ (i := 5) (N := some 41) #[true, true, true, true, true, true, false, false, false, false, false, false, false, false, false, false] rfl rfl (one_of HT_.out (by kernel_rfl)) (by decide) (fun K hK => ?_)
       refine Short.goesD_ Try.func17 #[.agg #[.string t692, .string t693]] ?_
       with_reducible refine (offcutref03_Turned.calls t692 t693 t694 t695 _ A72.out).mono ?_
       rintro e w93 ⟨rfl, hb⟩
       refine ⟨_, rfl, ?_⟩
       replace HO680 := Aside0.mk (Kd.R_below HO680.out hb)
       replace HO683 := Aside0.mk (Kd.R_below HO683.out hb)
       replace BK672 := Aside0.mk (blk_below BK672.out hb)
       replace BK673 := Aside0.mk (blk_below BK673.out hb)
       replace BK685 := Aside0.mk (blk_below BK685.out hb)
       replace HB := Aside0.mk (below_step HB.out hb)
       (try clear hb)
       refine hK.out _ _ ⟨(blk_cell BK685.out 0).trans rfl, (blk_cell BK685.out 1).trans rfl, (blk_cell BK685.out 2).trans rfl, (blk_cell BK672.out 0).trans rfl, (blk_cell BK672.out 1).trans rfl, (blk_cell BK672.out 2).trans rfl, (blk_cell BK673.out 0).trans rfl, (blk_cell BK673.out 1).trans rfl, (blk_cell BK673.out 2).trans rfl⟩ (fun hHeld => ?_)
       clear hK K
       refine Short.normS_ ?_
       refine one_ (i := 6) (N := some 42) #[true, true, true, true, true, true, true, false, false, false, false, false, false, false, false, false] rfl rfl (one_of HT_.out (by kernel_rfl)) (by decide) (fun K hK => ?_)
       refine Short.goesD_ Try.func16 #[.agg #[.string t690, .string t691], .agg #[.string t694, .string t695]] ?_
       with_reducible refine (offcutref03_Mul.calls kj2 t690 t691 t694 t695 t696 t697 _ A73.out).mono ?_
       rintro e w94 ⟨rfl, hb⟩
       refine ⟨_, rfl, ?_⟩
       replace HO680 := Aside0.mk (Kd.R_below HO680.out hb)
       replace HO683 := Aside0.mk (Kd.R_below HO683.out hb)
       replace BK672 := Aside0.mk (blk_below BK672.out hb)
       replace BK673 := Aside0.mk (blk_below BK673.out hb)
       replace BK685 := Aside0.mk (blk_below BK685.out hb)
       replace HB := Aside0.mk (below_step HB.out hb)
       (try clear hb)
       refine hK.out _ _ ⟨(blk_cell BK685.out 0).trans rfl, (blk_cell BK685.out 1).trans rfl, (blk_cell BK685.out 2).trans rfl, (blk_cell BK672.out 0).trans rfl, (blk_cell BK672.out 1).trans rfl, (blk_cell BK672.out 2).trans rfl, (blk_cell BK673.out 0).trans rfl, (blk_cell BK673.out 1).trans rfl, (blk_cell BK673.out 2).trans rfl⟩ (fun hHeld => ?_)
       clear hK K
       refine Short.normS_ ?_
       refine one_ (i := 7) (N := some 43) #[true, true, true, true, true, true, true, true, false, false, false, false, false, false, false, false] rfl rfl (one_of HT_.out (by kernel_rfl)) (by decide) (fun K hK => ?_)
       refine Short.goesD_ Try.func15 #[.agg #[.bool t677, .slice Ao86 t678.length co86, .slice Ao87 t681.length co87], .agg #[.string t696, .string t697]] ?_
       with_reducible refine (offcutlaw03_Is.calls kj2 t677 _ _ t678 _ _ t681 t696 t697 true _ ((Kd.R_reads' HO680.out).2.2) ((Kd.R_reads' HO680.out).2.1) ((Kd.R_reads' HO683.out).2.2) ((Kd.R_reads' HO683.out).2.1) A74.out).mono ?_
       rintro e w95 ⟨rfl, hb⟩
       refine ⟨_, rfl, ?_⟩
       replace HO680 := Aside0.mk (Kd.R_below HO680.out hb)
       replace HO683 := Aside0.mk (Kd.R_below HO683.out hb)
       replace BK672 := Aside0.mk (blk_below BK672.out hb)
       replace BK673 := Aside0.mk (blk_below BK673.out hb)
       replace BK685 := Aside0.mk (blk_below BK685.out hb)
       replace HB := Aside0.mk (below_step HB.out hb)
       (try clear hb)
       refine hK.out _ _ ⟨(blk_cell BK685.out 0).trans rfl, (blk_cell BK685.out 1).trans rfl, (blk_cell BK685.out 2).trans rfl, (blk_cell BK672.out 0).trans rfl, (blk_cell BK672.out 1).trans rfl, (blk_cell BK672.out 2).trans rfl, (blk_cell BK673.out 0).trans rfl, (blk_cell BK673.out 1).trans rfl, (blk_cell BK673.out 2).trans rfl⟩ (fun hHeld => ?_)
       clear hK K
       refine Short.normS_ ?_
       refine Short.pureS_ (i := 8) (N := some 44) #[true, true, true, true, true, true, true, true, true, false, false, false, false, false, false, false] (any_of HT_.out (by kernel_rfl)) ?_
       refine Short.pureS_ (i := 9) (N := some 45) #[true, true, true, true, true, true, true, true, true, true, false, false, false, false, false, false] (any_of HT_.out (by kernel_rfl)) ?_
       refine Short.pureS_ (i := 10) (N := some 46) #[true, true, true, true, true, true, true, true, true, true, true, false, false, false, false, false] (any_of HT_.out (by kernel_rfl)) ?_
       refine Short.pureS_ (i := 11) (N := some 47) #[true, true, true, true, true, true, true, true, true, true, true, true, false, false, false, false] (any_of HT_.out (by kernel_rfl)) ?_
       refine Short.pureS_ (i := 12) (N := some 48) #[true, true, true, true, true, true, true, true, true, true, true, true, true, false, false, false] (any_of HT_.out (by kernel_rfl)) ?_
       refine one_ (i := 13) (N := some 49) #[true, true, true, true, true, true, true, true, true, true, true, true, true, true, false, false] rfl rfl (one_of HT_.out (by kernel_rfl)) (by decide) (fun K hK => ?_)
       refine Short.goesD_ Try.func11 #[] ?_
       with_reducible refine (offcutlaw03_awake.calls kj2  t699 _ HRT.out A77.out).mono ?_
       rintro e w96 ⟨rfl, hb⟩
       refine ⟨_, rfl, ?_⟩
       replace HO680 := Aside0.mk (Kd.R_below HO680.out hb)
       replace HO683 := Aside0.mk (Kd.R_below HO683.out hb)
       replace BK672 := Aside0.mk (blk_below BK672.out hb)
       replace BK673 := Aside0.mk (blk_below BK673.out hb)
       replace BK685 := Aside0.mk (blk_below BK685.out hb)
       replace HB := Aside0.mk (below_step HB.out hb)
       (try clear hb)
       refine hK.out _ _ ⟨(blk_cell BK685.out 0).trans rfl, (blk_cell BK685.out 1).trans rfl, (blk_cell BK685.out 2).trans rfl, (blk_cell BK672.out 0).trans rfl, (blk_cell BK672.out 1).trans rfl, (blk_cell BK672.out 2).trans rfl, (blk_cell BK673.out 0).trans rfl, (blk_cell BK673.out 1).trans rfl, (blk_cell BK673.out 2).trans rfl⟩ (fun hHeld => ?_)
       clear hK K
       refine Short.normS_ ?_
       refine Short.pureS_ (i := 14) (N := some 50) #[true, true, true, true, true, true, true, true, true, true, true, true, true, true, true, false] (any_of HT_.out (by kernel_rfl)) ?_
       refine Short.pureS_ (i := 15) (N := some 4) #[true, true, true, true, true, true, true, true, true, true, true, true, true, true, true, true] (any_of HT_.out (by kernel_rfl)) ?_
       refine done_ (done_of HT_.out (by kernel_rfl)) ?_
       try go_wp2
       go_ret
       exact ⟨by rfl, by repeat (first | (with_reducible first | exact HB.out | apply below_alloc | apply pw_below_drewN | apply below_drew1 | refine below_set ?_ GE672.out | refine below_set ?_ GE673.out | refine below_set ?_ GE685.out) | exact HB.out)⟩
      ·rw [if_neg c76] at H
       have c76b0 : (t684 == 0) = false := beq_eq_false_iff_ne.mpr c76
       have c76b1 : (t684 != 0) = true := bne_iff_ne.mpr c76
       obtain rfl := Option.some.inj H
       exact absurd HRT.out (by decide)
     ·replace c75 := Bool.eq_false_iff.mpr c75
      subst c75
      have H1 : (some false) = some r := by rw [if_neg (show ¬ (false = true) by decide)] at H; exact H
      clear H
      have H := H1
      clear H1
      obtain rfl := Option.some.inj H
      exact absurd HRT.out (by decide)

end Go.Proofs.Ytcdkopidgibijaa.PR
