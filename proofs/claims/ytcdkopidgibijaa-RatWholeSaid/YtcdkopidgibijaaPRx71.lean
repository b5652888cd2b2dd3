import Derived.Test.YtcdkopidgibijaaRow
import Derived.Test.YtcdkopidgibijaaShort
import Derived.Test.YtcdkopidgibijaaPRg0
import Derived.Test.YtcdkopidgibijaaPRg15
import Derived.Test.YtcdkopidgibijaaPRg21
import Derived.Test.YtcdkopidgibijaaPRg32
import Derived.Test.YtcdkopidgibijaaPRg47
import Derived.Test.YtcdkopidgibijaaPRg63
namespace Go.Proofs.Ytcdkopidgibijaa.PR
open Go.RowKit Go.Proofs.YtcdkopidgibijaaW.PrintWords Go.Proofs.YtcdkopidgibijaaW.PrintLast Go.Proofs.YtcdkopidgibijaaW.PrintMore
attribute [local go_sem] max2_int min2_int max_two min_two max_three min_three max_four min_four   -- for this text's walks alone
set_option linter.unusedVariables false
set_option linter.unusedSimpArgs false

/-! ### offcutlaw03_RatWhole: function 5 -/
def offcutlaw03_RatWhole.f (k : Nat) (a0 : Int) (a1 : Int) : Option (Bool) := (rat_Of.f k a0 a1).bind fun bt758 => ((rat_Int.f k a0).bind fun bt767 => ((whole_Of.f k a0).bind fun bt774 => ((whole_Text.f k bt774.1 bt774.2).bind fun t778 => ((offcutlaw03_Is.f k bt767.1 bt767.2.1 bt767.2.2 t778 (⟨#[49]⟩ : ByteArray)).bind fun t779 => (if t779 = true then (if a1 = 0 then (if bt758.2.2.2 = 5 then ((rat_Sign.f k bt758.1 bt758.2.1 bt758.2.2.1).bind fun t780 => (if t780 = 0 then ((offcutlaw03_awake.f k).bind fun t781 => (some t781)) else (some false))) else (some false)) else ((whole_Of.f k a0).bind fun bt782 => ((whole_Text.f k bt782.1 bt782.2).bind fun t786 => ((offcutref03_Low.f k t786 (⟨#[49]⟩ : ByteArray)).bind fun bt787 => ((whole_Of.f k a1).bind fun bt790 => ((whole_Text.f k bt790.1 bt790.2).bind fun t794 => ((offcutref03_Turned.f t794 (⟨#[49]⟩ : ByteArray)).bind fun bt795 => ((offcutref03_Mul.f k bt787.1 bt787.2 bt795.1 bt795.2).bind fun bt797 => ((offcutlaw03_Is.f k bt758.1 bt758.2.1 bt758.2.2.1 bt797.1 bt797.2).bind fun t799 => (if t799 = true then (if bt758.2.2.2 = 0 then ((offcutlaw03_awake.f k).bind fun t800 => (some t800)) else (some false)) else (some false))))))))))) else (some false))))))
def offcutlaw03_RatWhole.T7 : Bool × List (List Nat × List Nat) := (true, [([], []), ([], []), ([], []), ([2], [2]), ([3, 3], [3]), ([4], [4]), ([5, 4], [5]), ([1, 6, 6], [1, 6]), ([0, 7, 7], [0, 7]), ([8, 8], [8]), ([9], [9]), ([10, 9], [9, 10]), ([9, 11], [9, 11]), ([12, 9], [12]), ([13, 13], [13]), ([13, 14], [13, 14]), ([15, 14, 0, 1, 2, 3, 4, 5, 6, 7, 8, 9, 10, 11, 12, 13, 14, 15], [15])])
def offcutlaw03_RatWhole.B7 : List Nat := [0, 0, 0, 4, 12, 28, 60, 126, 255, 511, 1023, 2047, 4095, 8191, 16383, 32767, 65535]
theorem offcutlaw03_RatWhole.tab7 : rtab .any (opsOf Try.f5 7) = offcutlaw03_RatWhole.T7 := by kernel_rfl
theorem offcutlaw03_RatWhole.bits7 : waitsOk offcutlaw03_RatWhole.T7.2 offcutlaw03_RatWhole.B7 = true := by kernel_rfl
set_option maxHeartbeats 8000000 in
set_option maxRecDepth 100000 in
theorem offcutlaw03_RatWhole.calls (k : Nat) (a0 : Int) (a1 : Int) (r : Bool) (w : World) (hrt : r = true) (h : offcutlaw03_RatWhole.f k a0 a1 = some r) :
  Calls Try.prog 5 #[.int .i64 a0, .int .i64 a1] w fun e w' => e = .returned (.bool r) ∧ Below w.heap.size w w' := by
 have hu27 := Try.underlying27
 have hu34 := Try.underlying34
 have HRT := Aside0.mk hrt
 clear hrt
 have HB := Aside0.mk (Below.refl w.heap.size w)
 have H : ((rat_Of.f k a0 a1).bind fun bt758 => ((rat_Int.f k a0).bind fun bt767 => ((whole_Of.f k a0).bind fun bt774 => ((whole_Text.f k bt774.1 bt774.2).bind fun t778 => ((offcutlaw03_Is.f k bt767.1 bt767.2.1 bt767.2.2 t778 (⟨#[49]⟩ : ByteArray)).bind fun t779 => (if t779 = true then (if a1 = 0 then (if bt758.2.2.2 = 5 then ((rat_Sign.f k bt758.1 bt758.2.1 bt758.2.2.1).bind fun t780 => (if t780 = 0 then ((offcutlaw03_awake.f k).bind fun t781 => (some t781)) else (some false))) else (some false)) else ((whole_Of.f k a0).bind fun bt782 => ((whole_Text.f k bt782.1 bt782.2).bind fun t786 => ((offcutref03_Low.f k t786 (⟨#[49]⟩ : ByteArray)).bind fun bt787 => ((whole_Of.f k a1).bind fun bt790 => ((whole_Text.f k bt790.1 bt790.2).bind fun t794 => ((offcutref03_Turned.f t794 (⟨#[49]⟩ : ByteArray)).bind fun bt795 => ((offcutref03_Mul.f k bt787.1 bt787.2 bt795.1 bt795.2).bind fun bt797 => ((offcutlaw03_Is.f k bt758.1 bt758.2.1 bt758.2.2.1 bt797.1 bt797.2).bind fun t799 => (if t799 = true then (if bt758.2.2.2 = 0 then ((offcutlaw03_awake.f k).bind fun t800 => (some t800)) else (some false)) else (some false))))))))))) else (some false))))))) = some r := h
 clear h
 replace H := Option.bind_eq_some_iff.mp H
 obtain ⟨⟨t758, t759, t762, t765⟩, A30, H⟩ := H
 try dsimp only at H
 have A3 := Aside0.mk A30
 clear A30
 replace H := Option.bind_eq_some_iff.mp H
 obtain ⟨⟨t767, t768, t771⟩, A40, H⟩ := H
 try dsimp only at H
 have A4 := Aside0.mk A40
 clear A40
 replace H := Option.bind_eq_some_iff.mp H
 obtain ⟨⟨t774, t775⟩, A50, H⟩ := H
 try dsimp only at H
 have A5 := Aside0.mk A50
 clear A50
 replace H := Option.bind_eq_some_iff.mp H
 obtain ⟨t778, A60, H⟩ := H
 try dsimp only at H
 have A6 := Aside0.mk A60
 clear A60
 replace H := Option.bind_eq_some_iff.mp H
 obtain ⟨t779, A70, H⟩ := H
 try dsimp only at H
 have A7 := Aside0.mk A70
 clear A70
 by_cases c8 : t779 = true
 ·subst c8
  have H1 : (if a1 = 0 then (if t765 = 5 then ((rat_Sign.f k t758 t759 t762).bind fun t780 => (if t780 = 0 then ((offcutlaw03_awake.f k).bind fun t781 => (some t781)) else (some false))) else (some false)) else ((whole_Of.f k a0).bind fun bt782 => ((whole_Text.f k bt782.1 bt782.2).bind fun t786 => ((offcutref03_Low.f k t786 (⟨#[49]⟩ : ByteArray)).bind fun bt787 => ((whole_Of.f k a1).bind fun bt790 => ((whole_Text.f k bt790.1 bt790.2).bind fun t794 => ((offcutref03_Turned.f t794 (⟨#[49]⟩ : ByteArray)).bind fun bt795 => ((offcutref03_Mul.f k bt787.1 bt787.2 bt795.1 bt795.2).bind fun bt797 => ((offcutlaw03_Is.f k t758 t759 t762 bt797.1 bt797.2).bind fun t799 => (if t799 = true then (if t765 = 0 then ((offcutlaw03_awake.f k).bind fun t800 => (some t800)) else (some false)) else (some false))))))))))) = some r := by rw [if_pos rfl] at H; exact H
  clear H
  have H := H1
  clear H1
  by_cases c9 : a1 = 0
  ·rw [if_pos c9] at H
   have c9b0 : (a1 == 0) = true := beq_iff_eq.mpr c9
   have c9b1 : (a1 != 0) = false := bne_eq_false_iff_eq.mpr c9
   clear c9
   by_cases c10 : t765 = 5
   ·rw [if_pos c10] at H
    have c10b0 : (t765 == 5) = true := beq_iff_eq.mpr c10
    have c10b1 : (t765 != 5) = false := bne_eq_false_iff_eq.mpr c10
    clear c10
    replace H := Option.bind_eq_some_iff.mp H
    obtain ⟨t780, A110, H⟩ := H
    try dsimp only at H
    have A11 := Aside0.mk A110
    clear A110
    by_cases c12 : t780 = 0
    ·rw [if_pos c12] at H
     have c12b0 : (t780 == 0) = true := beq_iff_eq.mpr c12
     have c12b1 : (t780 != 0) = false := bne_eq_false_iff_eq.mpr c12
     clear c12
     replace H := Option.bind_eq_some_iff.mp H
     obtain ⟨t781, A130, H⟩ := H
     replace H : (some t781) = some r := H
     have A13 := Aside0.mk A130
     clear A130
     obtain rfl := Option.some.inj H
     go_enter Try.func5, Try.ntmps5
     go_wp2_with (first | ((with_reducible refine gate_callee (f := 24) rfl ?_); refine Short.goesS_ (some 11) Try.func24 #[.int .i64 a0, .int .i64 a1] ?_; (with_reducible refine (rat_Of.calls k a0 a1 t758 t759 t762 t765 _ A3.out).mono ?_); rintro e w14 ⟨v760, v763, rfl, ho0, ho1, hb⟩; refine ⟨_, rfl, ?_⟩; have HO761 := Aside0.mk (Kd.R_lower ho0 (Short.sizeA_ (w := w))); have HO764 := Aside0.mk (Kd.R_lower ho1 (Short.sizeA_ (w := w))); replace HB := Short.stepB_ (w := w) hb; (try clear hb); (try clear ho0); (try clear ho1)) | ((with_reducible refine gate_dst (N := 5) rfl ?_); refine Short.boxS_ (N := 5) (cs := #[.bool false, .slice none 0 0, .slice none 0 0]) (t := 27) ?_; intro gb766 hg w15 hbox hb; replace HO761 := Row.rB_ HO761 hb; replace HO764 := Row.rB_ HO764 hb; have BK766 := Aside0.mk (hbox); have GW766 := Short.sizeB_ (w := w) hg; have GE766 := Short.sizeB_ (w := w) hg; replace HB := Short.stepB_ (w := w) hb; clear hb hbox hg; have hcz16_0 : w15.cell? ⟨gb766, 0, none⟩ = some (.bool false) := (blk_cell BK766.out 0).trans rfl; have hcz16_1 : w15.cell? ⟨gb766, 1, none⟩ = some (.slice none 0 0) := (blk_cell BK766.out 1).trans rfl; have hcz16_2 : w15.cell? ⟨gb766, 2, none⟩ = some (.slice none 0 0) := (blk_cell BK766.out 2).trans rfl; have hfz16_0 := blk_frozen BK766.out 0; have hfz16_1 := blk_frozen BK766.out 1; have hfz16_2 := blk_frozen BK766.out 2; obtain ⟨Ao17, co17, eo17⟩ := Kd.R_slice HO761.out; subst eo17; obtain ⟨Ao18, co18, eo18⟩ := Kd.R_slice HO764.out; subst eo18) | ((with_reducible refine gate_callee (f := 25) rfl ?_); refine Short.goesS_ (some 15) Try.func25 #[.int .i64 a0] ?_; (with_reducible refine (rat_Int.calls k a0 t767 t768 t771 _ A4.out).mono ?_); rintro e w19 ⟨v769, v772, rfl, ho0, ho1, hb⟩; refine ⟨_, rfl, ?_⟩; have HO770 := Aside0.mk (Kd.R_lower (Kd.R_new' (Kd.R_new' ho0 (Kd.R_lt (by (with_reducible repeat (first | apply Kd.R_alloc | apply Kd.R_drewN | apply Kd.R_drew)); exact (Kd.R_mono (Kd.R_far (p := ⟨gb766, 2, none⟩) (Kd.R_far (p := ⟨gb766, 1, none⟩) (Kd.R_far (p := ⟨gb766, 0, none⟩) (Kd.R_types HO761.out BK766.out (by decide)) (fun _ hk => hk.2) (.bool t758)) (fun _ hk => hk.2) (.slice Ao17 t759.length co17)) (fun _ hk => hk.2) (.slice Ao18 t762.length co18)) (fun _ h_ => h_.1))))) (Kd.R_lt (by (with_reducible repeat (first | apply Kd.R_alloc | apply Kd.R_drewN | apply Kd.R_drew)); exact (Kd.R_mono (Kd.R_far (p := ⟨gb766, 2, none⟩) (Kd.R_far (p := ⟨gb766, 1, none⟩) (Kd.R_far (p := ⟨gb766, 0, none⟩) (Kd.R_types HO764.out BK766.out (by decide)) (fun _ hk => hk.2) (.bool t758)) (fun _ hk => hk.2) (.slice Ao17 t759.length co17)) (fun _ hk => hk.2) (.slice Ao18 t762.length co18)) (fun _ h_ => h_.1))))) (Short.sizeA_ (w := w))); have HO773 := Aside0.mk (Kd.R_lower (Kd.R_new' (Kd.R_new' ho1 (Kd.R_lt (by (with_reducible repeat (first | apply Kd.R_alloc | apply Kd.R_drewN | apply Kd.R_drew)); exact (Kd.R_mono (Kd.R_far (p := ⟨gb766, 2, none⟩) (Kd.R_far (p := ⟨gb766, 1, none⟩) (Kd.R_far (p := ⟨gb766, 0, none⟩) (Kd.R_types HO761.out BK766.out (by decide)) (fun _ hk => hk.2) (.bool t758)) (fun _ hk => hk.2) (.slice Ao17 t759.length co17)) (fun _ hk => hk.2) (.slice Ao18 t762.length co18)) (fun _ h_ => h_.1))))) (Kd.R_lt (by (with_reducible repeat (first | apply Kd.R_alloc | apply Kd.R_drewN | apply Kd.R_drew)); exact (Kd.R_mono (Kd.R_far (p := ⟨gb766, 2, none⟩) (Kd.R_far (p := ⟨gb766, 1, none⟩) (Kd.R_far (p := ⟨gb766, 0, none⟩) (Kd.R_types HO764.out BK766.out (by decide)) (fun _ hk => hk.2) (.bool t758)) (fun _ hk => hk.2) (.slice Ao17 t759.length co17)) (fun _ hk => hk.2) (.slice Ao18 t762.length co18)) (fun _ h_ => h_.1))))) (Short.sizeA_ (w := w))); replace HO761 := Aside0.mk (Kd.R_mono (Kd.R_told (Kd.R_told (Kd.R_old (by (with_reducible repeat (first | apply Kd.R_alloc | apply Kd.R_drewN | apply Kd.R_drew)); exact (Kd.R_mono (Kd.R_far (p := ⟨gb766, 2, none⟩) (Kd.R_far (p := ⟨gb766, 1, none⟩) (Kd.R_far (p := ⟨gb766, 0, none⟩) (Kd.R_types HO761.out BK766.out (by decide)) (fun _ hk => hk.2) (.bool t758)) (fun _ hk => hk.2) (.slice Ao17 t759.length co17)) (fun _ hk => hk.2) (.slice Ao18 t762.length co18)) (fun _ h_ => h_.1))) hb) (Kd.R_base ho0)) (Kd.R_base ho1)) (fun _ h_ => h_.1)); replace HO764 := Aside0.mk (Kd.R_mono (Kd.R_told (Kd.R_told (Kd.R_old (by (with_reducible repeat (first | apply Kd.R_alloc | apply Kd.R_drewN | apply Kd.R_drew)); exact (Kd.R_mono (Kd.R_far (p := ⟨gb766, 2, none⟩) (Kd.R_far (p := ⟨gb766, 1, none⟩) (Kd.R_far (p := ⟨gb766, 0, none⟩) (Kd.R_types HO764.out BK766.out (by decide)) (fun _ hk => hk.2) (.bool t758)) (fun _ hk => hk.2) (.slice Ao17 t759.length co17)) (fun _ hk => hk.2) (.slice Ao18 t762.length co18)) (fun _ h_ => h_.1))) hb) (Kd.R_base ho0)) (Kd.R_base ho1)) (fun _ h_ => h_.1)); replace BK766 := Aside0.mk (blk_below (g := gb766) (o := .cells #[.bool t758, .slice Ao17 t759.length co17, .slice Ao18 t762.length co18] 27 (0, 0)) (by (with_reducible repeat (first | refine blk_drewN ?_ _ | refine blk_drew ?_ | refine blk_alloc ?_ _)); refine blk_put (cs := #[.bool t758, .slice Ao17 t759.length co17, .slice none 0 0]) ?_ 2 _ rfl; (with_reducible repeat (first | refine blk_drewN ?_ _ | refine blk_drew ?_ | refine blk_alloc ?_ _)); refine blk_put (cs := #[.bool t758, .slice none 0 0, .slice none 0 0]) ?_ 1 _ rfl; (with_reducible repeat (first | refine blk_drewN ?_ _ | refine blk_drew ?_ | refine blk_alloc ?_ _)); refine blk_put (cs := #[.bool false, .slice none 0 0, .slice none 0 0]) ?_ 0 _ rfl; (with_reducible repeat (first | refine blk_drewN ?_ _ | refine blk_drew ?_ | refine blk_alloc ?_ _)); exact BK766.out) hb); replace HB := Short.stepB_ (w := w) hb; (try clear hb); (try clear ho0); (try clear ho1)) | ((with_reducible refine gate_callee (f := 26) rfl ?_); refine Short.goesS_ (some 17) Try.func26 #[.int .i64 a0] ?_; (with_reducible refine (whole_Of.calls k a0 t774 t775 _ A5.out).mono ?_); rintro e w20 ⟨v776, rfl, ho0, hb⟩; refine ⟨_, rfl, ?_⟩; have HO777 := Aside0.mk (Kd.R_lower (Kd.R_new' (Kd.R_new' (Kd.R_new' (Kd.R_new' ho0 (Kd.R_lt (by (with_reducible repeat (first | apply Kd.R_alloc | apply Kd.R_drewN | apply Kd.R_drew)); exact HO761.out))) (Kd.R_lt (by (with_reducible repeat (first | apply Kd.R_alloc | apply Kd.R_drewN | apply Kd.R_drew)); exact HO764.out))) (Kd.R_lt (by (with_reducible repeat (first | apply Kd.R_alloc | apply Kd.R_drewN | apply Kd.R_drew)); exact HO770.out))) (Kd.R_lt (by (with_reducible repeat (first | apply Kd.R_alloc | apply Kd.R_drewN | apply Kd.R_drew)); exact HO773.out))) (Short.sizeA_ (w := w))); replace HO761 := Aside0.mk (Kd.R_elder' (by (with_reducible repeat (first | apply Kd.R_alloc | apply Kd.R_drewN | apply Kd.R_drew)); exact HO761.out) (Kd.R_base ho0) hb); replace HO764 := Aside0.mk (Kd.R_elder' (by (with_reducible repeat (first | apply Kd.R_alloc | apply Kd.R_drewN | apply Kd.R_drew)); exact HO764.out) (Kd.R_base ho0) hb); replace HO770 := Aside0.mk (Kd.R_elder' (by (with_reducible repeat (first | apply Kd.R_alloc | apply Kd.R_drewN | apply Kd.R_drew)); exact HO770.out) (Kd.R_base ho0) hb); replace HO773 := Aside0.mk (Kd.R_elder' (by (with_reducible repeat (first | apply Kd.R_alloc | apply Kd.R_drewN | apply Kd.R_drew)); exact HO773.out) (Kd.R_base ho0) hb); replace BK766 := Short.blkB_ (g := gb766) hb; replace HB := Short.stepB_ (w := w) hb; (try clear hb); (try clear ho0); obtain ⟨Ao21, co21, eo21⟩ := Kd.R_slice HO777.out; subst eo21) | ((with_reducible refine gate_callee (f := 20) rfl ?_); refine Short.goesS_ (some 18) Try.func20 #[.agg #[.bool t774, .slice Ao21 t775.length co21]] ?_; (with_reducible refine (whole_Text.calls k t774 _ _ t775 t778 _ ?side1 ((Kd.R_reads' HO777.out).2.1) A6.out).mono ?_); (case side1 => repeat (first | exact (Kd.R_reads' HO777.out).2.2 | (with_reducible refine Kd.C_alloc ?_ _) | (with_reducible refine Kd.C_drewN ?_ _) | (with_reducible refine Kd.C_drew ?_))); rintro e w22 ⟨rfl, hb⟩; refine ⟨_, rfl, ?_⟩; replace HO761 := Row.rB_ HO761 hb; replace HO764 := Row.rB_ HO764 hb; replace HO770 := Row.rB_ HO770 hb; replace HO773 := Row.rB_ HO773 hb; replace HO777 := Row.rB_ HO777 hb; replace BK766 := Short.blkB_ (g := gb766) hb; replace HB := Short.stepB_ (w := w) hb; (try clear hb); obtain ⟨Ao23, co23, eo23⟩ := Kd.R_slice HO770.out; subst eo23; obtain ⟨Ao24, co24, eo24⟩ := Kd.R_slice HO773.out; subst eo24) | ((with_reducible refine gate_callee (f := 15) rfl ?_); refine Short.goesS_ (some 20) Try.func15 #[.agg #[.bool t767, .slice Ao23 t768.length co23, .slice Ao24 t771.length co24], .agg #[.string t778, .string (⟨#[49]⟩ : ByteArray)]] ?_; (with_reducible refine (offcutlaw03_Is.calls k t767 _ _ t768 _ _ t771 t778 (⟨#[49]⟩ : ByteArray) true _ ?side1 ((Kd.R_reads' HO770.out).2.1) ?side3 ((Kd.R_reads' HO773.out).2.1) A7.out).mono ?_); (case side1 => repeat (first | exact (Kd.R_reads' HO770.out).2.2 | (with_reducible refine Kd.C_alloc ?_ _) | (with_reducible refine Kd.C_drewN ?_ _) | (with_reducible refine Kd.C_drew ?_))); (case side3 => repeat (first | exact (Kd.R_reads' HO773.out).2.2 | (with_reducible refine Kd.C_alloc ?_ _) | (with_reducible refine Kd.C_drewN ?_ _) | (with_reducible refine Kd.C_drew ?_))); rintro e w25 ⟨rfl, hb⟩; refine ⟨_, rfl, ?_⟩; replace HO761 := Row.rB_ HO761 hb; replace HO764 := Row.rB_ HO764 hb; replace HO770 := Row.rB_ HO770 hb; replace HO773 := Row.rB_ HO773 hb; replace HO777 := Row.rB_ HO777 hb; replace BK766 := Short.blkB_ (g := gb766) hb; replace HB := Short.stepB_ (w := w) hb; (try clear hb); have hcz26_0 : w25.cell? ⟨gb766, 0, none⟩ = some (.bool t758) := (blk_cell BK766.out 0).trans rfl; have hcz26_1 : w25.cell? ⟨gb766, 1, none⟩ = some (.slice Ao17 t759.length co17) := (blk_cell BK766.out 1).trans rfl; have hcz26_2 : w25.cell? ⟨gb766, 2, none⟩ = some (.slice Ao18 t762.length co18) := (blk_cell BK766.out 2).trans rfl; have hfz26_0 := blk_frozen BK766.out 0; have hfz26_1 := blk_frozen BK766.out 1; have hfz26_2 := blk_frozen BK766.out 2) | (go_at_call 14; (with_reducible refine (rat_Sign.calls k t758 _ _ t759 _ _ t762 t780 _ ?side1 ((Kd.R_reads' HO761.out).2.1) ?side3 ((Kd.R_reads' HO764.out).2.1) A11.out).mono ?_); (case side1 => repeat (first | exact (Kd.R_reads' HO761.out).2.2 | (with_reducible refine Kd.C_alloc ?_ _) | (with_reducible refine Kd.C_drewN ?_ _) | (with_reducible refine Kd.C_drew ?_))); (case side3 => repeat (first | exact (Kd.R_reads' HO764.out).2.2 | (with_reducible refine Kd.C_alloc ?_ _) | (with_reducible refine Kd.C_drewN ?_ _) | (with_reducible refine Kd.C_drew ?_))); rintro e w27 ⟨rfl, hb⟩; replace HO761 := Row.rB_ HO761 hb; replace HO764 := Row.rB_ HO764 hb; replace HO770 := Row.rB_ HO770 hb; replace HO773 := Row.rB_ HO773 hb; replace HO777 := Row.rB_ HO777 hb; replace BK766 := Short.blkB_ (g := gb766) hb; replace HB := Short.stepB_ (w := w) hb; (try clear hb)) | (go_at_call 11; (with_reducible refine (offcutlaw03_awake.calls k  t781 _ HRT.out A13.out).mono ?_); rintro e w28 ⟨rfl, hb⟩; replace HO761 := Row.rB_ HO761 hb; replace HO764 := Row.rB_ HO764 hb; replace HO770 := Row.rB_ HO770 hb; replace HO773 := Row.rB_ HO773 hb; replace HO777 := Row.rB_ HO777 hb; replace BK766 := Short.blkB_ (g := gb766) hb; replace HB := Short.stepB_ (w := w) hb; (try clear hb)))
     go_ret
     exact ⟨by rfl, Row.below_⟩
    ·rw [if_neg c12] at H
     have c12b0 : (t780 == 0) = false := beq_eq_false_iff_ne.mpr c12
     have c12b1 : (t780 != 0) = true := bne_iff_ne.mpr c12
     obtain rfl := Option.some.inj H
     exact absurd HRT.out (by decide)
   ·rw [if_neg c10] at H
    have c10b0 : (t765 == 5) = false := beq_eq_false_iff_ne.mpr c10
    have c10b1 : (t765 != 5) = true := bne_iff_ne.mpr c10
    obtain rfl := Option.some.inj H
    go_enter Try.func5, Try.ntmps5
    go_wp2_with (first | ((with_reducible refine gate_callee (f := 24) rfl ?_); refine Short.goesS_ (some 11) Try.func24 #[.int .i64 a0, .int .i64 a1] ?_; (with_reducible refine (rat_Of.calls k a0 a1 t758 t759 t762 t765 _ A3.out).mono ?_); rintro e w43 ⟨v760, v763, rfl, ho0, ho1, hb⟩; refine ⟨_, rfl, ?_⟩; have HO761 := Aside0.mk (Kd.R_lower ho0 (Short.sizeA_ (w := w))); have HO764 := Aside0.mk (Kd.R_lower ho1 (Short.sizeA_ (w := w))); replace HB := Short.stepB_ (w := w) hb; (try clear hb); (try clear ho0); (try clear ho1)) | ((with_reducible refine gate_dst (N := 5) rfl ?_); refine Short.boxS_ (N := 5) (cs := #[.bool false, .slice none 0 0, .slice none 0 0]) (t := 27) ?_; intro gb766 hg w44 hbox hb; replace HO761 := Row.rB_ HO761 hb; replace HO764 := Row.rB_ HO764 hb; have BK766 := Aside0.mk (hbox); have GW766 := Short.sizeB_ (w := w) hg; have GE766 := Short.sizeB_ (w := w) hg; replace HB := Short.stepB_ (w := w) hb; clear hb hbox hg; have hcz45_0 : w44.cell? ⟨gb766, 0, none⟩ = some (.bool false) := (blk_cell BK766.out 0).trans rfl; have hcz45_1 : w44.cell? ⟨gb766, 1, none⟩ = some (.slice none 0 0) := (blk_cell BK766.out 1).trans rfl; have hcz45_2 : w44.cell? ⟨gb766, 2, none⟩ = some (.slice none 0 0) := (blk_cell BK766.out 2).trans rfl; have hfz45_0 := blk_frozen BK766.out 0; have hfz45_1 := blk_frozen BK766.out 1; have hfz45_2 := blk_frozen BK766.out 2; obtain ⟨Ao46, co46, eo46⟩ := Kd.R_slice HO761.out; subst eo46; obtain ⟨Ao47, co47, eo47⟩ := Kd.R_slice HO764.out; subst eo47) | ((with_reducible refine gate_callee (f := 25) rfl ?_); refine Short.goesS_ (some 15) Try.func25 #[.int .i64 a0] ?_; (with_reducible refine (rat_Int.calls k a0 t767 t768 t771 _ A4.out).mono ?_); rintro e w48 ⟨v769, v772, rfl, ho0, ho1, hb⟩; refine ⟨_, rfl, ?_⟩; have HO770 := Aside0.mk (Kd.R_lower (Kd.R_new' (Kd.R_new' ho0 (Kd.R_lt (by (with_reducible repeat (first | apply Kd.R_alloc | apply Kd.R_drewN | apply Kd.R_drew)); exact (Kd.R_mono (Kd.R_far (p := ⟨gb766, 2, none⟩) (Kd.R_far (p := ⟨gb766, 1, none⟩) (Kd.R_far (p := ⟨gb766, 0, none⟩) (Kd.R_types HO761.out BK766.out (by decide)) (fun _ hk => hk.2) (.bool t758)) (fun _ hk => hk.2) (.slice Ao46 t759.length co46)) (fun _ hk => hk.2) (.slice Ao47 t762.length co47)) (fun _ h_ => h_.1))))) (Kd.R_lt (by (with_reducible repeat (first | apply Kd.R_alloc | apply Kd.R_drewN | apply Kd.R_drew)); exact (Kd.R_mono (Kd.R_far (p := ⟨gb766, 2, none⟩) (Kd.R_far (p := ⟨gb766, 1, none⟩) (Kd.R_far (p := ⟨gb766, 0, none⟩) (Kd.R_types HO764.out BK766.out (by decide)) (fun _ hk => hk.2) (.bool t758)) (fun _ hk => hk.2) (.slice Ao46 t759.length co46)) (fun _ hk => hk.2) (.slice Ao47 t762.length co47)) (fun _ h_ => h_.1))))) (Short.sizeA_ (w := w))); have HO773 := Aside0.mk (Kd.R_lower (Kd.R_new' (Kd.R_new' ho1 (Kd.R_lt (by (with_reducible repeat (first | apply Kd.R_alloc | apply Kd.R_drewN | apply Kd.R_drew)); exact (Kd.R_mono (Kd.R_far (p := ⟨gb766, 2, none⟩) (Kd.R_far (p := ⟨gb766, 1, none⟩) (Kd.R_far (p := ⟨gb766, 0, none⟩) (Kd.R_types HO761.out BK766.out (by decide)) (fun _ hk => hk.2) (.bool t758)) (fun _ hk => hk.2) (.slice Ao46 t759.length co46)) (fun _ hk => hk.2) (.slice Ao47 t762.length co47)) (fun _ h_ => h_.1))))) (Kd.R_lt (by (with_reducible repeat (first | apply Kd.R_alloc | apply Kd.R_drewN | apply Kd.R_drew)); exact (Kd.R_mono (Kd.R_far (p := ⟨gb766, 2, none⟩) (Kd.R_far (p := ⟨gb766, 1, none⟩) (Kd.R_far (p := ⟨gb766, 0, none⟩) (Kd.R_types HO764.out BK766.out (by decide)) (fun _ hk => hk.2) (.bool t758)) (fun _ hk => hk.2) (.slice Ao46 t759.length co46)) (fun _ hk => hk.2) (.slice Ao47 t762.length co47)) (fun _ h_ => h_.1))))) (Short.sizeA_ (w := w))); replace HO761 := Aside0.mk (Kd.R_mono (Kd.R_told (Kd.R_told (Kd.R_old (by (with_reducible repeat (first | apply Kd.R_alloc | apply Kd.R_drewN | apply Kd.R_drew)); exact (Kd.R_mono (Kd.R_far (p := ⟨gb766, 2, none⟩) (Kd.R_far (p := ⟨gb766, 1, none⟩) (Kd.R_far (p := ⟨gb766, 0, none⟩) (Kd.R_types HO761.out BK766.out (by decide)) (fun _ hk => hk.2) (.bool t758)) (fun _ hk => hk.2) (.slice Ao46 t759.length co46)) (fun _ hk => hk.2) (.slice Ao47 t762.length co47)) (fun _ h_ => h_.1))) hb) (Kd.R_base ho0)) (Kd.R_base ho1)) (fun _ h_ => h_.1)); replace HO764 := Aside0.mk (Kd.R_mono (Kd.R_told (Kd.R_told (Kd.R_old (by (with_reducible repeat (first | apply Kd.R_alloc | apply Kd.R_drewN | apply Kd.R_drew)); exact (Kd.R_mono (Kd.R_far (p := ⟨gb766, 2, none⟩) (Kd.R_far (p := ⟨gb766, 1, none⟩) (Kd.R_far (p := ⟨gb766, 0, none⟩) (Kd.R_types HO764.out BK766.out (by decide)) (fun _ hk => hk.2) (.bool t758)) (fun _ hk => hk.2) (.slice Ao46 t759.length co46)) (fun _ hk => hk.2) (.slice Ao47 t762.length co47)) (fun _ h_ => h_.1))) hb) (Kd.R_base ho0)) (Kd.R_base ho1)) (fun _ h_ => h_.1)); replace BK766 := Aside0.mk (blk_below (g := gb766) (o := .cells #[.bool t758, .slice Ao46 t759.length co46, .slice Ao47 t762.length co47] 27 (0, 0)) (by (with_reducible repeat (first | refine blk_drewN ?_ _ | refine blk_drew ?_ | refine blk_alloc ?_ _)); refine blk_put (cs := #[.bool t758, .slice Ao46 t759.length co46, .slice none 0 0]) ?_ 2 _ rfl; (with_reducible repeat (first | refine blk_drewN ?_ _ | refine blk_drew ?_ | refine blk_alloc ?_ _)); refine blk_put (cs := #[.bool t758, .slice none 0 0, .slice none 0 0]) ?_ 1 _ rfl; (with_reducible repeat (first | refine blk_drewN ?_ _ | refine blk_drew ?_ | refine blk_alloc ?_ _)); refine blk_put (cs := #[.bool false, .slice none 0 0, .slice none 0 0]) ?_ 0 _ rfl; (with_reducible repeat (first | refine blk_drewN ?_ _ | refine blk_drew ?_ | refine blk_alloc ?_ _)); exact BK766.out) hb); replace HB := Short.stepB_ (w := w) hb; (try clear hb); (try clear ho0); (try clear ho1)) | ((with_reducible refine gate_callee (f := 26) rfl ?_); refine Short.goesS_ (some 17) Try.func26 #[.int .i64 a0] ?_; (with_reducible refine (whole_Of.calls k a0 t774 t775 _ A5.out).mono ?_); rintro e w49 ⟨v776, rfl, ho0, hb⟩; refine ⟨_, rfl, ?_⟩; have HO777 := Aside0.mk (Kd.R_lower (Kd.R_new' (Kd.R_new' (Kd.R_new' (Kd.R_new' ho0 (Kd.R_lt (by (with_reducible repeat (first | apply Kd.R_alloc | apply Kd.R_drewN | apply Kd.R_drew)); exact HO761.out))) (Kd.R_lt (by (with_reducible repeat (first | apply Kd.R_alloc | apply Kd.R_drewN | apply Kd.R_drew)); exact HO764.out))) (Kd.R_lt (by (with_reducible repeat (first | apply Kd.R_alloc | apply Kd.R_drewN | apply Kd.R_drew)); exact HO770.out))) (Kd.R_lt (by (with_reducible repeat (first | apply Kd.R_alloc | apply Kd.R_drewN | apply Kd.R_drew)); exact HO773.out))) (Short.sizeA_ (w := w))); replace HO761 := Aside0.mk (Kd.R_elder' (by (with_reducible repeat (first | apply Kd.R_alloc | apply Kd.R_drewN | apply Kd.R_drew)); exact HO761.out) (Kd.R_base ho0) hb); replace HO764 := Aside0.mk (Kd.R_elder' (by (with_reducible repeat (first | apply Kd.R_alloc | apply Kd.R_drewN | apply Kd.R_drew)); exact HO764.out) (Kd.R_base ho0) hb); replace HO770 := Aside0.mk (Kd.R_elder' (by (with_reducible repeat (first | apply Kd.R_alloc | apply Kd.R_drewN | apply Kd.R_drew)); exact HO770.out) (Kd.R_base ho0) hb); replace HO773 := Aside0.mk (Kd.R_elder' (by (with_reducible repeat (first | apply Kd.R_alloc | apply Kd.R_drewN | apply Kd.R_drew)); exact HO773.out) (Kd.R_base ho0) hb); replace BK766 := Short.blkB_ (g := gb766) hb; replace HB := Short.stepB_ (w := w) hb; (try clear hb); (try clear ho0); obtain ⟨Ao50, co50, eo50⟩ := Kd.R_slice HO777.out; subst eo50) | ((with_reducible refine gate_callee (f := 20) rfl ?_); refine Short.goesS_ (some 18) Try.func20 #[.agg #[.bool t774, .slice Ao50 t775.length co50]] ?_; (with_reducible refine (whole_Text.calls k t774 _ _ t775 t778 _ ?side1 ((Kd.R_reads' HO777.out).2.1) A6.out).mono ?_); (case side1 => repeat (first | exact (Kd.R_reads' HO777.out).2.2 | (with_reducible refine Kd.C_alloc ?_ _) | (with_reducible refine Kd.C_drewN ?_ _) | (with_reducible refine Kd.C_drew ?_))); rintro e w51 ⟨rfl, hb⟩; refine ⟨_, rfl, ?_⟩; replace HO761 := Row.rB_ HO761 hb; replace HO764 := Row.rB_ HO764 hb; replace HO770 := Row.rB_ HO770 hb; replace HO773 := Row.rB_ HO773 hb; replace HO777 := Row.rB_ HO777 hb; replace BK766 := Short.blkB_ (g := gb766) hb; replace HB := Short.stepB_ (w := w) hb; (try clear hb); obtain ⟨Ao52, co52, eo52⟩ := Kd.R_slice HO770.out; subst eo52; obtain ⟨Ao53, co53, eo53⟩ := Kd.R_slice HO773.out; subst eo53) | ((with_reducible refine gate_callee (f := 15) rfl ?_); refine Short.goesS_ (some 20) Try.func15 #[.agg #[.bool t767, .slice Ao52 t768.length co52, .slice Ao53 t771.length co53], .agg #[.string t778, .string (⟨#[49]⟩ : ByteArray)]] ?_; (with_reducible refine (offcutlaw03_Is.calls k t767 _ _ t768 _ _ t771 t778 (⟨#[49]⟩ : ByteArray) true _ ?side1 ((Kd.R_reads' HO770.out).2.1) ?side3 ((Kd.R_reads' HO773.out).2.1) A7.out).mono ?_); (case side1 => repeat (first | exact (Kd.R_reads' HO770.out).2.2 | (with_reducible refine Kd.C_alloc ?_ _) | (with_reducible refine Kd.C_drewN ?_ _) | (with_reducible refine Kd.C_drew ?_))); (case side3 => repeat (first | exact (Kd.R_reads' HO773.out).2.2 | (with_reducible refine Kd.C_alloc ?_ _) | (with_reducible refine Kd.C_drewN ?_ _) | (with_reducible refine Kd.C_drew ?_))); rintro e w54 ⟨rfl, hb⟩; refine ⟨_, rfl, ?_⟩; replace HO761 := Row.rB_ HO761 hb; replace HO764 := Row.rB_ HO764 hb; replace HO770 := Row.rB_ HO770 hb; replace HO773 := Row.rB_ HO773 hb; replace HO777 := Row.rB_ HO777 hb; replace BK766 := Short.blkB_ (g := gb766) hb; replace HB := Short.stepB_ (w := w) hb; (try clear hb)))
    go_ret
    exact ⟨by rfl, Row.below_⟩
  ·rw [if_neg c9] at H
   have c9b0 : (a1 == 0) = false := beq_eq_false_iff_ne.mpr c9
   have c9b1 : (a1 != 0) = true := bne_iff_ne.mpr c9
   replace H := Option.bind_eq_some_iff.mp H
   obtain ⟨⟨t782, t783⟩, A550, H⟩ := H
   try dsimp only at H
   have A55 := Aside0.mk A550
   clear A550
   replace H := Option.bind_eq_some_iff.mp H
   obtain ⟨t786, A560, H⟩ := H
   try dsimp only at H
   have A56 := Aside0.mk A560
   clear A560
   replace H := Option.bind_eq_some_iff.mp H
   obtain ⟨⟨t787, t788⟩, A570, H⟩ := H
   try dsimp only at H
   have A57 := Aside0.mk A570
   clear A570
   replace H := Option.bind_eq_some_iff.mp H
   obtain ⟨⟨t790, t791⟩, A580, H⟩ := H
   try dsimp only at H
   have A58 := Aside0.mk A580
   clear A580
   replace H := Option.bind_eq_some_iff.mp H
   obtain ⟨t794, A590, H⟩ := H
   try dsimp only at H
   have A59 := Aside0.mk A590
   clear A590
   replace H := Option.bind_eq_some_iff.mp H
   obtain ⟨⟨t795, t796⟩, A600, H⟩ := H
   try dsimp only at H
   have A60 := Aside0.mk A600
   clear A600
   replace H := Option.bind_eq_some_iff.mp H
   obtain ⟨⟨t797, t798⟩, A610, H⟩ := H
   try dsimp only at H
   have A61 := Aside0.mk A610
   clear A610
   replace H := Option.bind_eq_some_iff.mp H
   obtain ⟨t799, A620, H⟩ := H
   try dsimp only at H
   have A62 := Aside0.mk A620
   clear A620
   by_cases c63 : t799 = true
   ·subst c63
    have H1 : (if t765 = 0 then ((offcutlaw03_awake.f k).bind fun t800 => (some t800)) else (some false)) = some r := by rw [if_pos rfl] at H; exact H
    clear H
    have H := H1
    clear H1
    by_cases c64 : t765 = 0
    ·rw [if_pos c64] at H
     have c64b0 : (t765 == 0) = true := beq_iff_eq.mpr c64
     have c64b1 : (t765 != 0) = false := bne_eq_false_iff_eq.mpr c64
     clear c64
     replace H := Option.bind_eq_some_iff.mp H
     obtain ⟨t800, A650, H⟩ := H
     replace H : (some t800) = some r := H
     have A65 := Aside0.mk A650
     clear A650
     obtain rfl := Option.some.inj H
     go_enter Try.func5, Try.ntmps5
     try go_wp2_with (first | ((with_reducible refine gate_callee (f := 24) rfl ?_); refine Short.goesS_ (some 11) Try.func24 #[.int .i64 a0, .int .i64 a1] ?_; (with_reducible refine (rat_Of.calls k a0 a1 t758 t759 t762 t765 _ A3.out).mono ?_); rintro e w66 ⟨v760, v763, rfl, ho0, ho1, hb⟩; refine ⟨_, rfl, ?_⟩; have HO761 := Aside0.mk (Kd.R_lower ho0 (Short.sizeA_ (w := w))); have HO764 := Aside0.mk (Kd.R_lower ho1 (Short.sizeA_ (w := w))); replace HB := Short.stepB_ (w := w) hb; (try clear hb); (try clear ho0); (try clear ho1)) | ((with_reducible refine gate_dst (N := 5) rfl ?_); refine Short.boxS_ (N := 5) (cs := #[.bool false, .slice none 0 0, .slice none 0 0]) (t := 27) ?_; intro gb766 hg w67 hbox hb; replace HO761 := Row.rB_ HO761 hb; replace HO764 := Row.rB_ HO764 hb; have BK766 := Aside0.mk (hbox); have GW766 := Short.sizeB_ (w := w) hg; have GE766 := Short.sizeB_ (w := w) hg; replace HB := Short.stepB_ (w := w) hb; clear hb hbox hg; have hcz68_0 : w67.cell? ⟨gb766, 0, none⟩ = some (.bool false) := (blk_cell BK766.out 0).trans rfl; have hcz68_1 : w67.cell? ⟨gb766, 1, none⟩ = some (.slice none 0 0) := (blk_cell BK766.out 1).trans rfl; have hcz68_2 : w67.cell? ⟨gb766, 2, none⟩ = some (.slice none 0 0) := (blk_cell BK766.out 2).trans rfl; have hfz68_0 := blk_frozen BK766.out 0; have hfz68_1 := blk_frozen BK766.out 1; have hfz68_2 := blk_frozen BK766.out 2; obtain ⟨Ao69, co69, eo69⟩ := Kd.R_slice HO761.out; subst eo69; obtain ⟨Ao70, co70, eo70⟩ := Kd.R_slice HO764.out; subst eo70) | ((with_reducible refine gate_callee (f := 25) rfl ?_); refine Short.goesS_ (some 15) Try.func25 #[.int .i64 a0] ?_; (with_reducible refine (rat_Int.calls k a0 t767 t768 t771 _ A4.out).mono ?_); rintro e w71 ⟨v769, v772, rfl, ho0, ho1, hb⟩; refine ⟨_, rfl, ?_⟩; have HO770 := Aside0.mk (Kd.R_lower (Kd.R_new' (Kd.R_new' ho0 (Kd.R_lt (by (with_reducible repeat (first | apply Kd.R_alloc | apply Kd.R_drewN | apply Kd.R_drew)); exact (Kd.R_mono (Kd.R_far (p := ⟨gb766, 2, none⟩) (Kd.R_far (p := ⟨gb766, 1, none⟩) (Kd.R_far (p := ⟨gb766, 0, none⟩) (Kd.R_types HO761.out BK766.out (by decide)) (fun _ hk => hk.2) (.bool t758)) (fun _ hk => hk.2) (.slice Ao69 t759.length co69)) (fun _ hk => hk.2) (.slice Ao70 t762.length co70)) (fun _ h_ => h_.1))))) (Kd.R_lt (by (with_reducible repeat (first | apply Kd.R_alloc | apply Kd.R_drewN | apply Kd.R_drew)); exact (Kd.R_mono (Kd.R_far (p := ⟨gb766, 2, none⟩) (Kd.R_far (p := ⟨gb766, 1, none⟩) (Kd.R_far (p := ⟨gb766, 0, none⟩) (Kd.R_types HO764.out BK766.out (by decide)) (fun _ hk => hk.2) (.bool t758)) (fun _ hk => hk.2) (.slice Ao69 t759.length co69)) (fun _ hk => hk.2) (.slice Ao70 t762.length co70)) (fun _ h_ => h_.1))))) (Short.sizeA_ (w := w))); have HO773 := Aside0.mk (Kd.R_lower (Kd.R_new' (Kd.R_new' ho1 (Kd.R_lt (by (with_reducible repeat (first | apply Kd.R_alloc | apply Kd.R_drewN | apply Kd.R_drew)); exact (Kd.R_mono (Kd.R_far (p := ⟨gb766, 2, none⟩) (Kd.R_far (p := ⟨gb766, 1, none⟩) (Kd.R_far (p := ⟨gb766, 0, none⟩) (Kd.R_types HO761.out BK766.out (by decide)) (fun _ hk => hk.2) (.bool t758)) (fun _ hk => hk.2) (.slice Ao69 t759.length co69)) (fun _ hk => hk.2) (.slice Ao70 t762.length co70)) (fun _ h_ => h_.1))))) (Kd.R_lt (by (with_reducible repeat (first | apply Kd.R_alloc | apply Kd.R_drewN | apply Kd.R_drew)); exact (Kd.R_mono (Kd.R_far (p := ⟨gb766, 2, none⟩) (Kd.R_far (p := ⟨gb766, 1, none⟩) (Kd.R_far (p := ⟨gb766, 0, none⟩) (Kd.R_types HO764.out BK766.out (by decide)) (fun _ hk => hk.2) (.bool t758)) (fun _ hk => hk.2) (.slice Ao69 t759.length co69)) (fun _ hk => hk.2) (.slice Ao70 t762.length co70)) (fun _ h_ => h_.1))))) (Short.sizeA_ (w := w))); replace HO761 := Aside0.mk (Kd.R_mono (Kd.R_told (Kd.R_told (Kd.R_old (by (with_reducible repeat (first | apply Kd.R_alloc | apply Kd.R_drewN | apply Kd.R_drew)); exact (Kd.R_mono (Kd.R_far (p := ⟨gb766, 2, none⟩) (Kd.R_far (p := ⟨gb766, 1, none⟩) (Kd.R_far (p := ⟨gb766, 0, none⟩) (Kd.R_types HO761.out BK766.out (by decide)) (fun _ hk => hk.2) (.bool t758)) (fun _ hk => hk.2) (.slice Ao69 t759.length co69)) (fun _ hk => hk.2) (.slice Ao70 t762.length co70)) (fun _ h_ => h_.1))) hb) (Kd.R_base ho0)) (Kd.R_base ho1)) (fun _ h_ => h_.1)); replace HO764 := Aside0.mk (Kd.R_mono (Kd.R_told (Kd.R_told (Kd.R_old (by (with_reducible repeat (first | apply Kd.R_alloc | apply Kd.R_drewN | apply Kd.R_drew)); exact (Kd.R_mono (Kd.R_far (p := ⟨gb766, 2, none⟩) (Kd.R_far (p := ⟨gb766, 1, none⟩) (Kd.R_far (p := ⟨gb766, 0, none⟩) (Kd.R_types HO764.out BK766.out (by decide)) (fun _ hk => hk.2) (.bool t758)) (fun _ hk => hk.2) (.slice Ao69 t759.length co69)) (fun _ hk => hk.2) (.slice Ao70 t762.length co70)) (fun _ h_ => h_.1))) hb) (Kd.R_base ho0)) (Kd.R_base ho1)) (fun _ h_ => h_.1)); replace BK766 := Aside0.mk (blk_below (g := gb766) (o := .cells #[.bool t758, .slice Ao69 t759.length co69, .slice Ao70 t762.length co70] 27 (0, 0)) (by (with_reducible repeat (first | refine blk_drewN ?_ _ | refine blk_drew ?_ | refine blk_alloc ?_ _)); refine blk_put (cs := #[.bool t758, .slice Ao69 t759.length co69, .slice none 0 0]) ?_ 2 _ rfl; (with_reducible repeat (first | refine blk_drewN ?_ _ | refine blk_drew ?_ | refine blk_alloc ?_ _)); refine blk_put (cs := #[.bool t758, .slice none 0 0, .slice none 0 0]) ?_ 1 _ rfl; (with_reducible repeat (first | refine blk_drewN ?_ _ | refine blk_drew ?_ | refine blk_alloc ?_ _)); refine blk_put (cs := #[.bool false, .slice none 0 0, .slice none 0 0]) ?_ 0 _ rfl; (with_reducible repeat (first | refine blk_drewN ?_ _ | refine blk_drew ?_ | refine blk_alloc ?_ _)); exact BK766.out) hb); replace HB := Short.stepB_ (w := w) hb; (try clear hb); (try clear ho0); (try clear ho1)) | ((with_reducible refine gate_callee (f := 26) rfl ?_); refine Short.goesS_ (some 17) Try.func26 #[.int .i64 a0] ?_; (with_reducible refine (whole_Of.calls k a0 t774 t775 _ A5.out).mono ?_); rintro e w72 ⟨v776, rfl, ho0, hb⟩; refine ⟨_, rfl, ?_⟩; have HO777 := Aside0.mk (Kd.R_lower (Kd.R_new' (Kd.R_new' (Kd.R_new' (Kd.R_new' ho0 (Kd.R_lt (by (with_reducible repeat (first | apply Kd.R_alloc | apply Kd.R_drewN | apply Kd.R_drew)); exact HO761.out))) (Kd.R_lt (by (with_reducible repeat (first | apply Kd.R_alloc | apply Kd.R_drewN | apply Kd.R_drew)); exact HO764.out))) (Kd.R_lt (by (with_reducible repeat (first | apply Kd.R_alloc | apply Kd.R_drewN | apply Kd.R_drew)); exact HO770.out))) (Kd.R_lt (by (with_reducible repeat (first | apply Kd.R_alloc | apply Kd.R_drewN | apply Kd.R_drew)); exact HO773.out))) (Short.sizeA_ (w := w))); replace HO761 := Aside0.mk (Kd.R_elder' (by (with_reducible repeat (first | apply Kd.R_alloc | apply Kd.R_drewN | apply Kd.R_drew)); exact HO761.out) (Kd.R_base ho0) hb); replace HO764 := Aside0.mk (Kd.R_elder' (by (with_reducible repeat (first | apply Kd.R_alloc | apply Kd.R_drewN | apply Kd.R_drew)); exact HO764.out) (Kd.R_base ho0) hb); replace HO770 := Aside0.mk (Kd.R_elder' (by (with_reducible repeat (first | apply Kd.R_alloc | apply Kd.R_drewN | apply Kd.R_drew)); exact HO770.out) (Kd.R_base ho0) hb); replace HO773 := Aside0.mk (Kd.R_elder' (by (with_reducible repeat (first | apply Kd.R_alloc | apply Kd.R_drewN | apply Kd.R_drew)); exact HO773.out) (Kd.R_base ho0) hb); replace BK766 := Short.blkB_ (g := gb766) hb; replace HB := Short.stepB_ (w := w) hb; (try clear hb); (try clear ho0); obtain ⟨Ao73, co73, eo73⟩ := Kd.R_slice HO777.out; subst eo73) | ((with_reducible refine gate_callee (f := 20) rfl ?_); refine Short.goesS_ (some 18) Try.func20 #[.agg #[.bool t774, .slice Ao73 t775.length co73]] ?_; (with_reducible refine (whole_Text.calls k t774 _ _ t775 t778 _ ?side1 ((Kd.R_reads' HO777.out).2.1) A6.out).mono ?_); (case side1 => repeat (first | exact (Kd.R_reads' HO777.out).2.2 | (with_reducible refine Kd.C_alloc ?_ _) | (with_reducible refine Kd.C_drewN ?_ _) | (with_reducible refine Kd.C_drew ?_))); rintro e w74 ⟨rfl, hb⟩; refine ⟨_, rfl, ?_⟩; replace HO761 := Row.rB_ HO761 hb; replace HO764 := Row.rB_ HO764 hb; replace HO770 := Row.rB_ HO770 hb; replace HO773 := Row.rB_ HO773 hb; replace HO777 := Row.rB_ HO777 hb; replace BK766 := Short.blkB_ (g := gb766) hb; replace HB := Short.stepB_ (w := w) hb; (try clear hb); obtain ⟨Ao75, co75, eo75⟩ := Kd.R_slice HO770.out; subst eo75; obtain ⟨Ao76, co76, eo76⟩ := Kd.R_slice HO773.out; subst eo76) | ((with_reducible refine gate_callee (f := 15) rfl ?_); refine Short.goesS_ (some 20) Try.func15 #[.agg #[.bool t767, .slice Ao75 t768.length co75, .slice Ao76 t771.length co76], .agg #[.string t778, .string (⟨#[49]⟩ : ByteArray)]] ?_; (with_reducible refine (offcutlaw03_Is.calls k t767 _ _ t768 _ _ t771 t778 (⟨#[49]⟩ : ByteArray) true _ ?side1 ((Kd.R_reads' HO770.out).2.1) ?side3 ((Kd.R_reads' HO773.out).2.1) A7.out).mono ?_); (case side1 => repeat (first | exact (Kd.R_reads' HO770.out).2.2 | (with_reducible refine Kd.C_alloc ?_ _) | (with_reducible refine Kd.C_drewN ?_ _) | (with_reducible refine Kd.C_drew ?_))); (case side3 => repeat (first | exact (Kd.R_reads' HO773.out).2.2 | (with_reducible refine Kd.C_alloc ?_ _) | (with_reducible refine Kd.C_drewN ?_ _) | (with_reducible refine Kd.C_drew ?_))); rintro e w77 ⟨rfl, hb⟩; refine ⟨_, rfl, ?_⟩; replace HO761 := Row.rB_ HO761 hb; replace HO764 := Row.rB_ HO764 hb; replace HO770 := Row.rB_ HO770 hb; replace HO773 := Row.rB_ HO773 hb; replace HO777 := Row.rB_ HO777 hb; replace BK766 := Short.blkB_ (g := gb766) hb; replace HB := Short.stepB_ (w := w) hb; (try clear hb)) | ((with_reducible refine gate_callee (f := 26) rfl ?_); refine Short.goesS_ (some 35) Try.func26 #[.int .i64 a0] ?_; (with_reducible refine (whole_Of.calls k a0 t782 t783 _ A55.out).mono ?_); rintro e w78 ⟨v784, rfl, ho0, hb⟩; refine ⟨_, rfl, ?_⟩; have HO785 := Aside0.mk (Kd.R_lower (Kd.R_new' (Kd.R_new' (Kd.R_new' (Kd.R_new' (Kd.R_new' ho0 (Kd.R_lt (by (with_reducible repeat (first | apply Kd.R_alloc | apply Kd.R_drewN | apply Kd.R_drew)); exact HO761.out))) (Kd.R_lt (by (with_reducible repeat (first | apply Kd.R_alloc | apply Kd.R_drewN | apply Kd.R_drew)); exact HO764.out))) (Kd.R_lt (by (with_reducible repeat (first | apply Kd.R_alloc | apply Kd.R_drewN | apply Kd.R_drew)); exact HO770.out))) (Kd.R_lt (by (with_reducible repeat (first | apply Kd.R_alloc | apply Kd.R_drewN | apply Kd.R_drew)); exact HO773.out))) (Kd.R_lt (by (with_reducible repeat (first | apply Kd.R_alloc | apply Kd.R_drewN | apply Kd.R_drew)); exact HO777.out))) (Short.sizeA_ (w := w))); replace HO761 := Aside0.mk (Kd.R_elder' (by (with_reducible repeat (first | apply Kd.R_alloc | apply Kd.R_drewN | apply Kd.R_drew)); exact HO761.out) (Kd.R_base ho0) hb); replace HO764 := Aside0.mk (Kd.R_elder' (by (with_reducible repeat (first | apply Kd.R_alloc | apply Kd.R_drewN | apply Kd.R_drew)); exact HO764.out) (Kd.R_base ho0) hb); replace HO770 := Aside0.mk (Kd.R_elder' (by (with_reducible repeat (first | apply Kd.R_alloc | apply Kd.R_drewN | apply Kd.R_drew)); exact HO770.out) (Kd.R_base ho0) hb); replace HO773 := Aside0.mk (Kd.R_elder' (by (with_reducible repeat (first | apply Kd.R_alloc | apply Kd.R_drewN | apply Kd.R_drew)); exact HO773.out) (Kd.R_base ho0) hb); replace HO777 := Aside0.mk (Kd.R_elder' (by (with_reducible repeat (first | apply Kd.R_alloc | apply Kd.R_drewN | apply Kd.R_drew)); exact HO777.out) (Kd.R_base ho0) hb); replace BK766 := Short.blkB_ (g := gb766) hb; replace HB := Short.stepB_ (w := w) hb; (try clear hb); (try clear ho0); obtain ⟨Ao79, co79, eo79⟩ := Kd.R_slice HO785.out; subst eo79) | ((with_reducible refine gate_callee (f := 20) rfl ?_); refine Short.goesS_ (some 36) Try.func20 #[.agg #[.bool t782, .slice Ao79 t783.length co79]] ?_; (with_reducible refine (whole_Text.calls k t782 _ _ t783 t786 _ ?side1 ((Kd.R_reads' HO785.out).2.1) A56.out).mono ?_); (case side1 => repeat (first | exact (Kd.R_reads' HO785.out).2.2 | (with_reducible refine Kd.C_alloc ?_ _) | (with_reducible refine Kd.C_drewN ?_ _) | (with_reducible refine Kd.C_drew ?_))); rintro e w80 ⟨rfl, hb⟩; refine ⟨_, rfl, ?_⟩; replace HO761 := Row.rB_ HO761 hb; replace HO764 := Row.rB_ HO764 hb; replace HO770 := Row.rB_ HO770 hb; replace HO773 := Row.rB_ HO773 hb; replace HO777 := Row.rB_ HO777 hb; replace HO785 := Row.rB_ HO785 hb; replace BK766 := Short.blkB_ (g := gb766) hb; replace HB := Short.stepB_ (w := w) hb; (try clear hb)) | ((with_reducible refine gate_callee (f := 27) rfl ?_); refine Short.goesS_ (some 37) Try.func27 #[.string t786, .string (⟨#[49]⟩ : ByteArray)] ?_; (with_reducible refine (offcutref03_Low.calls k t786 (⟨#[49]⟩ : ByteArray) t787 t788 _ A57.out).mono ?_); rintro e w81 ⟨rfl, hb⟩; refine ⟨_, rfl, ?_⟩; replace HO761 := Row.rB_ HO761 hb; replace HO764 := Row.rB_ HO764 hb; replace HO770 := Row.rB_ HO770 hb; replace HO773 := Row.rB_ HO773 hb; replace HO777 := Row.rB_ HO777 hb; replace HO785 := Row.rB_ HO785 hb; replace BK766 := Short.blkB_ (g := gb766) hb; replace HB := Short.stepB_ (w := w) hb; (try clear hb)) | ((with_reducible refine gate_dst (N := 7) rfl ?_); refine Short.boxS_ (N := 7) (cs := #[.string (⟨#[]⟩ : ByteArray), .string (⟨#[]⟩ : ByteArray)]) (t := 34) ?_; intro gb789 hg w82 hbox hb; replace HO761 := Row.rB_ HO761 hb; replace HO764 := Row.rB_ HO764 hb; replace HO770 := Row.rB_ HO770 hb; replace HO773 := Row.rB_ HO773 hb; replace HO777 := Row.rB_ HO777 hb; replace HO785 := Row.rB_ HO785 hb; have BK789 := Aside0.mk (hbox); have GW789 := Short.sizeB_ (w := w) hg; have GE789 := Short.sizeB_ (w := w) hg; replace HB := Short.stepB_ (w := w) hb; have NB766_789 := Short.ltB_ (g := gb766) hg; have NB789_766 := Short.gtB_ (g := gb766) hg; replace BK766 := Short.blkB_ (g := gb766) hb; clear hb hbox hg; have hnb83 := NB789_766.out; have hnc83 := NB766_789.out; have hcz84_0 : w82.cell? ⟨gb789, 0, none⟩ = some (.string (⟨#[]⟩ : ByteArray)) := (blk_cell BK789.out 0).trans rfl; have hcz84_1 : w82.cell? ⟨gb789, 1, none⟩ = some (.string (⟨#[]⟩ : ByteArray)) := (blk_cell BK789.out 1).trans rfl; have hfz84_0 := blk_frozen BK789.out 0; have hfz84_1 := blk_frozen BK789.out 1))
     have n0_ : Aside0 (Kd.R (Kd.int .u32) 89 ((w82.setCell ⟨gb789, 0, none⟩ (.string t787)).setCell ⟨gb789, 1, none⟩ (.string t788)) w.heap.size (fun k_ => some k_ ≠ (.slice Ao70 t762.length co70 : Value).ownBlock ∧ some k_ ≠ (.slice Ao75 t768.length co75 : Value).ownBlock ∧ some k_ ≠ (.slice Ao76 t771.length co76 : Value).ownBlock ∧ some k_ ≠ (.slice Ao73 t775.length co73 : Value).ownBlock ∧ some k_ ≠ (.slice Ao79 t783.length co79 : Value).ownBlock) (.slice Ao69 t759.length co69) t759) := ⟨by (with_reducible repeat (first | apply Kd.R_alloc | apply Kd.R_drewN | apply Kd.R_drew)); exact Kd.R_mono (Kd.R_far (p := ⟨gb789, 1, none⟩) (Kd.R_far (p := ⟨gb789, 0, none⟩) (Kd.R_types HO761.out BK789.out (by decide)) (fun _ hk => hk.2) (.string t787)) (fun _ hk => hk.2) (.string t788)) (fun _ hk => ⟨hk.1.1.1.1.1, ⟨hk.1.1.1.1.2, ⟨hk.1.1.1.2, ⟨hk.1.1.2, hk.1.2⟩⟩⟩⟩)⟩
     have n1_ : Aside0 (Kd.R (Kd.int .u32) 89 ((w82.setCell ⟨gb789, 0, none⟩ (.string t787)).setCell ⟨gb789, 1, none⟩ (.string t788)) w.heap.size (fun k_ => some k_ ≠ (.slice Ao69 t759.length co69 : Value).ownBlock ∧ some k_ ≠ (.slice Ao75 t768.length co75 : Value).ownBlock ∧ some k_ ≠ (.slice Ao76 t771.length co76 : Value).ownBlock ∧ some k_ ≠ (.slice Ao73 t775.length co73 : Value).ownBlock ∧ some k_ ≠ (.slice Ao79 t783.length co79 : Value).ownBlock) (.slice Ao70 t762.length co70) t762) := ⟨by (with_reducible repeat (first | apply Kd.R_alloc | apply Kd.R_drewN | apply Kd.R_drew)); exact Kd.R_mono (Kd.R_far (p := ⟨gb789, 1, none⟩) (Kd.R_far (p := ⟨gb789, 0, none⟩) (Kd.R_types HO764.out BK789.out (by decide)) (fun _ hk => hk.2) (.string t787)) (fun _ hk => hk.2) (.string t788)) (fun _ hk => ⟨hk.1.1.1.1.1, ⟨hk.1.1.1.1.2, ⟨hk.1.1.1.2, ⟨hk.1.1.2, hk.1.2⟩⟩⟩⟩)⟩
     have n2_ : Aside0 (Kd.R (Kd.int .u32) 89 ((w82.setCell ⟨gb789, 0, none⟩ (.string t787)).setCell ⟨gb789, 1, none⟩ (.string t788)) w.heap.size (fun k_ => some k_ ≠ (.slice Ao69 t759.length co69 : Value).ownBlock ∧ some k_ ≠ (.slice Ao70 t762.length co70 : Value).ownBlock ∧ some k_ ≠ (.slice Ao76 t771.length co76 : Value).ownBlock ∧ some k_ ≠ (.slice Ao73 t775.length co73 : Value).ownBlock ∧ some k_ ≠ (.slice Ao79 t783.length co79 : Value).ownBlock) (.slice Ao75 t768.length co75) t768) := ⟨by (with_reducible repeat (first | apply Kd.R_alloc | apply Kd.R_drewN | apply Kd.R_drew)); exact Kd.R_mono (Kd.R_far (p := ⟨gb789, 1, none⟩) (Kd.R_far (p := ⟨gb789, 0, none⟩) (Kd.R_types HO770.out BK789.out (by decide)) (fun _ hk => hk.2) (.string t787)) (fun _ hk => hk.2) (.string t788)) (fun _ hk => ⟨hk.1.1.1.1.2, ⟨hk.1.1.1.2, ⟨hk.1.1.1.1.1, ⟨hk.1.1.2, hk.1.2⟩⟩⟩⟩)⟩
     have n3_ : Aside0 (Kd.R (Kd.int .u32) 89 ((w82.setCell ⟨gb789, 0, none⟩ (.string t787)).setCell ⟨gb789, 1, none⟩ (.string t788)) w.heap.size (fun k_ => some k_ ≠ (.slice Ao69 t759.length co69 : Value).ownBlock ∧ some k_ ≠ (.slice Ao70 t762.length co70 : Value).ownBlock ∧ some k_ ≠ (.slice Ao75 t768.length co75 : Value).ownBlock ∧ some k_ ≠ (.slice Ao73 t775.length co73 : Value).ownBlock ∧ some k_ ≠ (.slice Ao79 t783.length co79 : Value).ownBlock) (.slice Ao76 t771.length co76) t771) := ⟨by (with_reducible repeat (first | apply Kd.R_alloc | apply Kd.R_drewN | apply Kd.R_drew)); exact Kd.R_mono (Kd.R_far (p := ⟨gb789, 1, none⟩) (Kd.R_far (p := ⟨gb789, 0, none⟩) (Kd.R_types HO773.out BK789.out (by decide)) (fun _ hk => hk.2) (.string t787)) (fun _ hk => hk.2) (.string t788)) (fun _ hk => ⟨hk.1.1.1.1.2, ⟨hk.1.1.1.2, ⟨hk.1.1.1.1.1, ⟨hk.1.1.2, hk.1.2⟩⟩⟩⟩)⟩
     have n4_ : Aside0 (Kd.R (Kd.int .u32) 89 ((w82.setCell ⟨gb789, 0, none⟩ (.string t787)).setCell ⟨gb789, 1, none⟩ (.string t788)) w.heap.size (fun k_ => some k_ ≠ (.slice Ao69 t759.length co69 : Value).ownBlock ∧ some k_ ≠ (.slice Ao70 t762.length co70 : Value).ownBlock ∧ some k_ ≠ (.slice Ao75 t768.length co75 : Value).ownBlock ∧ some k_ ≠ (.slice Ao76 t771.length co76 : Value).ownBlock ∧ some k_ ≠ (.slice Ao79 t783.length co79 : Value).ownBlock) (.slice Ao73 t775.length co73) t775) := ⟨by (with_reducible repeat (first | apply Kd.R_alloc | apply Kd.R_drewN | apply Kd.R_drew)); exact Kd.R_mono (Kd.R_far (p := ⟨gb789, 1, none⟩) (Kd.R_far (p := ⟨gb789, 0, none⟩) (Kd.R_types HO777.out BK789.out (by decide)) (fun _ hk => hk.2) (.string t787)) (fun _ hk => hk.2) (.string t788)) (fun _ hk => ⟨hk.1.1.1.1.1.2, ⟨hk.1.1.1.1.2, ⟨hk.1.1.1.2, ⟨hk.1.1.2, hk.1.2⟩⟩⟩⟩)⟩
     have n5_ : Aside0 (Kd.R (Kd.int .u32) 89 ((w82.setCell ⟨gb789, 0, none⟩ (.string t787)).setCell ⟨gb789, 1, none⟩ (.string t788)) w.heap.size (fun k_ => some k_ ≠ (.slice Ao69 t759.length co69 : Value).ownBlock ∧ some k_ ≠ (.slice Ao70 t762.length co70 : Value).ownBlock ∧ some k_ ≠ (.slice Ao75 t768.length co75 : Value).ownBlock ∧ some k_ ≠ (.slice Ao76 t771.length co76 : Value).ownBlock ∧ some k_ ≠ (.slice Ao73 t775.length co73 : Value).ownBlock) (.slice Ao79 t783.length co79) t783) := ⟨by (with_reducible repeat (first | apply Kd.R_alloc | apply Kd.R_drewN | apply Kd.R_drew)); exact Kd.R_mono (Kd.R_far (p := ⟨gb789, 1, none⟩) (Kd.R_far (p := ⟨gb789, 0, none⟩) (Kd.R_types HO785.out BK789.out (by decide)) (fun _ hk => hk.2) (.string t787)) (fun _ hk => hk.2) (.string t788)) (fun _ hk => ⟨hk.1.1.1.1.1.2, ⟨hk.1.1.1.1.2, ⟨hk.1.1.1.2, ⟨hk.1.1.2, hk.1.2⟩⟩⟩⟩)⟩
     have n6_ : Aside0 (((w82.setCell ⟨gb789, 0, none⟩ (.string t787)).setCell ⟨gb789, 1, none⟩ (.string t788)).heap[gb766]? = some (.cells #[.bool t758, .slice Ao69 t759.length co69, .slice Ao70 t762.length co70] 27 (0, 0))) := ⟨by (with_reducible repeat (first | refine blk_drewN ?_ _ | refine blk_drew ?_ | refine blk_alloc ?_ _)); refine blk_far ?_ NB766_789.out _; (with_reducible repeat (first | refine blk_drewN ?_ _ | refine blk_drew ?_ | refine blk_alloc ?_ _)); refine blk_far ?_ NB766_789.out _; (with_reducible repeat (first | refine blk_drewN ?_ _ | refine blk_drew ?_ | refine blk_alloc ?_ _)); exact BK766.out⟩
     have n7_ : Aside0 (((w82.setCell ⟨gb789, 0, none⟩ (.string t787)).setCell ⟨gb789, 1, none⟩ (.string t788)).heap[gb789]? = some (.cells #[.string t787, .string t788] 34 (0, 0))) := ⟨by (with_reducible repeat (first | refine blk_drewN ?_ _ | refine blk_drew ?_ | refine blk_alloc ?_ _)); refine blk_put (cs := #[.string t787, .string (⟨#[]⟩ : ByteArray)]) ?_ 1 _ rfl; (with_reducible repeat (first | refine blk_drewN ?_ _ | refine blk_drew ?_ | refine blk_alloc ?_ _)); refine blk_put (cs := #[.string (⟨#[]⟩ : ByteArray), .string (⟨#[]⟩ : ByteArray)]) ?_ 0 _ rfl; (with_reducible repeat (first | refine blk_drewN ?_ _ | refine blk_drew ?_ | refine blk_alloc ?_ _)); exact BK789.out⟩
     have n8_ : Aside0 (Below w.heap.size w ((w82.setCell ⟨gb789, 0, none⟩ (.string t787)).setCell ⟨gb789, 1, none⟩ (.string t788))) := ⟨Row.below_⟩
     (try clear HO761)
     (try clear HO764)
     (try clear HO770)
     (try clear HO773)
     (try clear HO777)
     (try clear HO785)
     (try clear BK766)
     (try clear BK789)
     (try clear HB)
     generalize ((w82.setCell ⟨gb789, 0, none⟩ (.string t787)).setCell ⟨gb789, 1, none⟩ (.string t788)) = w85 at n0_ n1_ n2_ n3_ n4_ n5_ n6_ n7_ n8_ ⊢
     have HO761 := n0_
     have HO764 := n1_
     have HO770 := n2_
     have HO773 := n3_
     have HO777 := n4_
     have HO785 := n5_
     have BK766 := n6_
     have BK789 := n7_
     have HB := n8_
     clear n0_ n1_ n2_ n3_ n4_ n5_ n6_ n7_ n8_
     replace HO761 := Aside0.mk (Kd.R_drew HO761.out)
     replace HO764 := Aside0.mk (Kd.R_drew HO764.out)
     replace HO770 := Aside0.mk (Kd.R_drew HO770.out)
     replace HO773 := Aside0.mk (Kd.R_drew HO773.out)
     replace HO777 := Aside0.mk (Kd.R_drew HO777.out)
     replace HO785 := Aside0.mk (Kd.R_drew HO785.out)
     replace BK766 := Aside0.mk (blk_drew BK766.out)
     replace BK789 := Aside0.mk (blk_drew BK789.out)
     replace HB := Aside0.mk (below_drew1 HB.out)
     refine start_ (n := 17) (S := fun w' => w'.cell? ⟨gb766, 0, none⟩ = some (.bool t758) ∧ w'.cell? ⟨gb766, 1, none⟩ = some (.slice Ao69 t759.length co69) ∧ w'.cell? ⟨gb766, 2, none⟩ = some (.slice Ao70 t762.length co70) ∧ w'.cell? ⟨gb789, 0, none⟩ = some (.string t787) ∧ w'.cell? ⟨gb789, 1, none⟩ = some (.string t788)) (ds := []) #[false, false, false, false, false, false, false, false, false, false, false, false, false, false, false, false, false] (by kernel_rfl) rfl rfl Row.cells_ (fun hHeld => ?_); refine with_tabW offcutlaw03_RatWhole.tab7 offcutlaw03_RatWhole.bits7 (fun HT_ HW_ => ?_)
     generalize w85.drew = w86 at HO761 HO764 HO770 HO773 HO777 HO785 BK766 BK789 HB hHeld ⊢
     refine Short.pureS_ (i := 2) (N := some 40) (Row.bs 17 4) (any_of HT_.out (by kernel_rfl)) ?_
     refine Short.takeS_ (i := 0) (N := some 38) (Row.bs 17 5) (take_ofW HT_.out HW_.out (by kernel_rfl)) hHeld ?_
     refine Short.takeS_ (i := 1) (N := some 39) (Row.bs 17 7) (take_ofW HT_.out HW_.out (by kernel_rfl)) hHeld ?_
     refine one_ (i := 3) (N := some 41) (Row.bs 17 15) rfl rfl (one_of HT_.out (by kernel_rfl)) (by decide) (fun K hK => ?_)
     refine Short.goesD_ Try.func26 #[.int .i64 a1] ?_
     with_reducible refine (whole_Of.calls k a1 t790 t791 _ A58.out).mono ?_
     rintro e w87 ⟨v792, rfl, ho0, hb⟩
     refine ⟨_, rfl, ?_⟩
     have HO793 := Aside0.mk (Kd.R_lower (Kd.R_new' (Kd.R_new' (Kd.R_new' (Kd.R_new' (Kd.R_new' (Kd.R_new' ho0 (Kd.R_lt HO761.out)) (Kd.R_lt HO764.out)) (Kd.R_lt HO770.out)) (Kd.R_lt HO773.out)) (Kd.R_lt HO777.out)) (Kd.R_lt HO785.out)) (below_size HB.out))
     replace HO761 := Aside0.mk (Kd.R_elder' HO761.out (Kd.R_base ho0) hb)
     replace HO764 := Aside0.mk (Kd.R_elder' HO764.out (Kd.R_base ho0) hb)
     replace HO770 := Aside0.mk (Kd.R_elder' HO770.out (Kd.R_base ho0) hb)
     replace HO773 := Aside0.mk (Kd.R_elder' HO773.out (Kd.R_base ho0) hb)
     replace HO777 := Aside0.mk (Kd.R_elder' HO777.out (Kd.R_base ho0) hb)
     replace HO785 := Aside0.mk (Kd.R_elder' HO785.out (Kd.R_base ho0) hb)
     replace BK766 := Aside0.mk (blk_below BK766.out hb)
     replace BK789 := Aside0.mk (blk_below BK789.out hb)
     replace HB := Aside0.mk (below_step HB.out hb)
     (try clear hb)
     (try clear ho0)
     obtain ⟨Ao88, co88, eo88⟩ := Kd.R_slice HO793.out
     (first | subst eo88 | (injection eo88 with f1_ f2_ f3_; have f4_ := f1_.symm; have f5_ := f3_.symm; clear f1_ f2_ f3_; subst f4_; subst f5_))
     refine hK.out _ _ Row.cells_ (fun hHeld => ?_)
     clear hK K
     refine Short.normS_ ?_
     refine one_ (i := 4) (N := some 42) (Row.bs 17 31) rfl rfl (one_of HT_.out (by kernel_rfl)) (by decide) (fun K hK => ?_)
     refine Short.goesD_ Try.func20 #[.agg #[.bool t790, .slice Ao88 t791.length co88]] ?_
     with_reducible refine (whole_Text.calls k t790 _ _ t791 t794 _ ((Kd.R_reads' HO793.out).2.2) ((Kd.R_reads' HO793.out).2.1) A59.out).mono ?_
     rintro e w89 ⟨rfl, hb⟩
     refine ⟨_, rfl, ?_⟩
     replace HO761 := Aside0.mk (Kd.R_below HO761.out hb)
     replace HO764 := Aside0.mk (Kd.R_below HO764.out hb)
     replace HO770 := Aside0.mk (Kd.R_below HO770.out hb)
     replace HO773 := Aside0.mk (Kd.R_below HO773.out hb)
     replace HO777 := Aside0.mk (Kd.R_below HO777.out hb)
     replace HO785 := Aside0.mk (Kd.R_below HO785.out hb)
     replace HO793 := Aside0.mk (Kd.R_below HO793.out hb)
     replace BK766 := Aside0.mk (blk_below BK766.out hb)
     replace BK789 := Aside0.mk (blk_below BK789.out hb)
     replace HB := Aside0.mk (below_step HB.out hb)
     (try clear hb)
     refine hK.out _ _ Row.cells_ (fun hHeld => ?_)
     clear hK K
     refine Short.normS_ ?_
     refine Short.pureS_ (i := 5) (N := some 43) (Row.bs 17 63) (any_of HT_.out (by kernel_rfl)) ?_
     refine one_ (i := 6) (N := some 44) (Row.bs 17 127) rfl rfl (one_of HT_.out (by kernel_rfl)) (by decide) (fun K hK => ?_)
     refine Short.goesD_ Try.func17 #[.agg #[.string t794, .string (⟨#[49]⟩ : ByteArray)]] ?_
     with_reducible refine (offcutref03_Turned.calls t794 (⟨#[49]⟩ : ByteArray) t795 t796 _ A60.out).mono ?_
     rintro e w90 ⟨rfl, hb⟩
     refine ⟨_, rfl, ?_⟩
     replace HO761 := Aside0.mk (Kd.R_below HO761.out hb)
     replace HO764 := Aside0.mk (Kd.R_below HO764.out hb)
     replace HO770 := Aside0.mk (Kd.R_below HO770.out hb)
     replace HO773 := Aside0.mk (Kd.R_below HO773.out hb)
     replace HO777 := Aside0.mk (Kd.R_below HO777.out hb)
     replace HO785 := Aside0.mk (Kd.R_below HO785.out hb)
     replace HO793 := Aside0.mk (Kd.R_below HO793.out hb)
     replace BK766 := Aside0.mk (blk_below BK766.out hb)
     replace BK789 := Aside0.mk (blk_below BK789.out hb)
     replace HB := Aside0.mk (below_step HB.out hb)
     (try clear hb)
     refine hK.out _ _ Row.cells_ (fun hHeld => ?_)
     clear hK K
     refine Short.normS_ ?_
     refine one_ (i := 7) (N := some 45) (Row.bs 17 255) rfl rfl (one_of HT_.out (by kernel_rfl)) (by decide) (fun K hK => ?_)
     refine Short.goesD_ Try.func16 #[.agg #[.string t787, .string t788], .agg #[.string t795, .string t796]] ?_
     with_reducible refine (offcutref03_Mul.calls k t787 t788 t795 t796 t797 t798 _ A61.out).mono ?_
     rintro e w91 ⟨rfl, hb⟩
     refine ⟨_, rfl, ?_⟩
     replace HO761 := Aside0.mk (Kd.R_below HO761.out hb)
     replace HO764 := Aside0.mk (Kd.R_below HO764.out hb)
     replace HO770 := Aside0.mk (Kd.R_below HO770.out hb)
     replace HO773 := Aside0.mk (Kd.R_below HO773.out hb)
     replace HO777 := Aside0.mk (Kd.R_below HO777.out hb)
     replace HO785 := Aside0.mk (Kd.R_below HO785.out hb)
     replace HO793 := Aside0.mk (Kd.R_below HO793.out hb)
     replace BK766 := Aside0.mk (blk_below BK766.out hb)
     replace BK789 := Aside0.mk (blk_below BK789.out hb)
     replace HB := Aside0.mk (below_step HB.out hb)
     (try clear hb)
     refine hK.out _ _ Row.cells_ (fun hHeld => ?_)
     clear hK K
     refine Short.normS_ ?_
     refine one_ (i := 8) (N := some 46) (Row.bs 17 511) rfl rfl (one_of HT_.out (by kernel_rfl)) (by decide) (fun K hK => ?_)
     refine Short.goesD_ Try.func15 #[.agg #[.bool t758, .slice Ao69 t759.length co69, .slice Ao70 t762.length co70], .agg #[.string t797, .string t798]] ?_
     with_reducible refine (offcutlaw03_Is.calls k t758 _ _ t759 _ _ t762 t797 t798 true _ ((Kd.R_reads' HO761.out).2.2) ((Kd.R_reads' HO761.out).2.1) ((Kd.R_reads' HO764.out).2.2) ((Kd.R_reads' HO764.out).2.1) A62.out).mono ?_
     rintro e w92 ⟨rfl, hb⟩
     refine ⟨_, rfl, ?_⟩
     replace HO761 := Aside0.mk (Kd.R_below HO761.out hb)
     replace HO764 := Aside0.mk (Kd.R_below HO764.out hb)
     replace HO770 := Aside0.mk (Kd.R_below HO770.out hb)
     replace HO773 := Aside0.mk (Kd.R_below HO773.out hb)
     replace HO777 := Aside0.mk (Kd.R_below HO777.out hb)
     replace HO785 := Aside0.mk (Kd.R_below HO785.out hb)
     replace HO793 := Aside0.mk (Kd.R_below HO793.out hb)
     replace BK766 := Aside0.mk (blk_below BK766.out hb)
     replace BK789 := Aside0.mk (blk_below BK789.out hb)
     replace HB := Aside0.mk (below_step HB.out hb)
     (try clear hb)
     refine hK.out _ _ Row.cells_ (fun hHeld => ?_)
     clear hK K
     refine Short.normS_ ?_
     refine Short.pureS_ (i := 9) (N := some 47) (Row.bs 17 1023) (any_of HT_.out (by kernel_rfl)) ?_
     refine Short.pureS_ (i := 10) (N := some 48) (Row.bs 17 2047) (any_of HT_.out (by kernel_rfl)) ?_
     refine Short.pureS_ (i := 11) (N := some 49) (Row.bs 17 4095) (any_of HT_.out (by kernel_rfl)) ?_
     refine Short.pureS_ (i := 12) (N := some 50) (Row.bs 17 8191) (any_of HT_.out (by kernel_rfl)) ?_
     refine Short.pureS_ (i := 13) (N := some 51) (Row.bs 17 16383) (any_of HT_.out (by kernel_rfl)) ?_
     refine one_ (i := 14) (N := some 52) (Row.bs 17 32767) rfl rfl (one_of HT_.out (by kernel_rfl)) (by decide) (fun K hK => ?_)
     refine Short.goesD_ Try.func11 #[] ?_
     with_reducible refine (offcutlaw03_awake.calls k  t800 _ HRT.out A65.out).mono ?_
     rintro e w93 ⟨rfl, hb⟩
     refine ⟨_, rfl, ?_⟩
     replace HO761 := Aside0.mk (Kd.R_below HO761.out hb)
     replace HO764 := Aside0.mk (Kd.R_below HO764.out hb)
     replace HO770 := Aside0.mk (Kd.R_below HO770.out hb)
     replace HO773 := Aside0.mk (Kd.R_below HO773.out hb)
     replace HO777 := Aside0.mk (Kd.R_below HO777.out hb)
     replace HO785 := Aside0.mk (Kd.R_below HO785.out hb)
     replace HO793 := Aside0.mk (Kd.R_below HO793.out hb)
     replace BK766 := Aside0.mk (blk_below BK766.out hb)
     replace BK789 := Aside0.mk (blk_below BK789.out hb)
     replace HB := Aside0.mk (below_step HB.out hb)
     (try clear hb)
     refine hK.out _ _ Row.cells_ (fun hHeld => ?_)
     clear hK K
     refine Short.normS_ ?_
     refine Short.pureS_ (i := 15) (N := some 53) (Row.bs 17 65535) (any_of HT_.out (by kernel_rfl)) ?_
     refine Short.pureS_ (i := 16) (N := some 4) (Row.bs 17 131071) (any_of HT_.out (by kernel_rfl)) ?_
     refine done_ (done_of HT_.out (by kernel_rfl)) ?_
     try go_wp2
     go_ret
     exact ⟨by rfl, Row.below_⟩
    ·rw [if_neg c64] at H
     have c64b0 : (t765 == 0) = false := beq_eq_false_iff_ne.mpr c64
     have c64b1 : (t765 != 0) = true := bne_iff_ne.mpr c64
     obtain rfl := Option.some.inj H
     exact absurd HRT.out (by decide)
   ·replace c63 := Bool.eq_false_iff.mpr c63
    subst c63
    have H1 : (some false) = some r := by rw [if_neg (show ¬ (false = true) by decide)] at H; exact H
    clear H
    have H := H1
    clear H1
    obtain rfl := Option.some.inj H
    exact absurd HRT.out (by decide)
 ·replace c8 := Bool.eq_false_iff.mpr c8
  subst c8
  have H1 : (some false) = some r := by rw [if_neg (show ¬ (false = true) by decide)] at H; exact H
  clear H
  have H := H1
  clear H1
  obtain rfl := Option.some.inj H
  exact absurd HRT.out (by decide)

/-- THE ONE PURE STATEMENT of offcutlaw03_RatWhole: yours. -/
def offcutlaw03_RatWhole.Pure : Prop := ∀ (a0 : Int) (a1 : Int), (Lit.int .i64 a0).wf = true → (Lit.int .i64 a1).wf = true → ∃ k, offcutlaw03_RatWhole.f k a0 a1 = some true
theorem offcutlaw03_RatWhole.walk (P : offcutlaw03_RatWhole.Pure) (a0 : Int) (a1 : Int) (w : World) (w0 : (Lit.int .i64 a0).wf = true) (w1 : (Lit.int .i64 a1).wf = true) :
  Calls Try.prog 5 #[.int .i64 a0, .int .i64 a1] w fun e w' => e = .returned (.bool true) ∧ Below w.heap.size w w' := by
 obtain ⟨k, h⟩ := P a0 a1 w0 w1
 refine (offcutlaw03_RatWhole.calls k a0 a1 true w rfl h).mono ?_
 rintro e w' ⟨rfl, hd⟩
 exact ⟨rfl, hd⟩

end Go.Proofs.Ytcdkopidgibijaa.PR
