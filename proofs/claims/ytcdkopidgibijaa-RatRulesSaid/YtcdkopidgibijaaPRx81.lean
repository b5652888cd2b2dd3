import Derived.Test.YtcdkopidgibijaaShort
import Derived.Test.YtcdkopidgibijaaPRg0
import Derived.Test.YtcdkopidgibijaaPRg32
import Derived.Test.YtcdkopidgibijaaPRg72
import Derived.Test.YtcdkopidgibijaaPRg79
namespace Go.Proofs.Ytcdkopidgibijaa.PR
open Go.RowKit Go.Proofs.YtcdkopidgibijaaW.PrintWords Go.Proofs.YtcdkopidgibijaaW.PrintLast Go.Proofs.YtcdkopidgibijaaW.PrintMore
attribute [local go_sem] max2_int min2_int max_two min_two max_three min_three max_four min_four   -- for this text's walks alone
set_option linter.unusedVariables false
set_option linter.unusedSimpArgs false

/-! ### offcutlaw03_RatRules: function 7 -/
mutual
def offcutlaw03_RatRules.j0 : Nat → Bool → Bool → List Int → List Int → Bool → List Int → List Int → Bool → List Int → List Int → Option (Bool)
 | 0, _, _, _, _, _, _, _, _, _, _ => none
 | k + 1, x21, x964000, x964001, x964002, x965000, x965001, x965002, x966000, x966001, x966002 => if x21 = true then ((offcutlaw03_awake.f k).bind fun t969 => (some t969)) else ((rat_Add.f k x964000 x964001 x964002 x965000 x965001 x965002).bind fun bt970 => ((rat_Sub.f k bt970.1 bt970.2.1 bt970.2.2 x965000 x965001 x965002).bind fun bt977 => ((rat_Compare.f k bt977.1 bt977.2.1 bt977.2.2 x964000 x964001 x964002).bind fun t984 => (if t984 = 0 then ((rat_Add.f k x965000 x965001 x965002 x966000 x966001 x966002).bind fun bt985 => ((rat_Mul.f k x964000 x964001 x964002 bt985.1 bt985.2.1 bt985.2.2).bind fun bt992 => ((rat_Mul.f k x964000 x964001 x964002 x965000 x965001 x965002).bind fun bt999 => ((rat_Mul.f k x964000 x964001 x964002 x966000 x966001 x966002).bind fun bt1006 => ((rat_Add.f k bt999.1 bt999.2.1 bt999.2.2 bt1006.1 bt1006.2.1 bt1006.2.2).bind fun bt1013 => ((rat_Compare.f k bt992.1 bt992.2.1 bt992.2.2 bt1013.1 bt1013.2.1 bt1013.2.2).bind fun t1020 => (offcutlaw03_RatRules.j1 k (t1020 != 0) x964000 x964001 x964002 x965000 x965001 x965002 x966000 x966001 x966002))))))) else (offcutlaw03_RatRules.j1 k true x964000 x964001 x964002 x965000 x965001 x965002 x966000 x966001 x966002)))))
def offcutlaw03_RatRules.j1 : Nat → Bool → Bool → List Int → List Int → Bool → List Int → List Int → Bool → List Int → List Int → Option (Bool)
 | 0, _, _, _, _, _, _, _, _, _, _ => none
 | k + 1, x46, x964000, x964001, x964002, x965000, x965001, x965002, x966000, x966001, x966002 => if x46 = true then (some false) else ((rat_Sign.f k x965000 x965001 x965002).bind fun t1021 => (if t1021 = 0 then (offcutlaw03_RatRules.j2 k x964000 x964001 x964002 x965000 x965001 x965002 x966000 x966001 x966002) else ((rat_Mul.f k x964000 x964001 x964002 x965000 x965001 x965002).bind fun bt1022 => ((rat_Div.f k bt1022.1 bt1022.2.1 bt1022.2.2 x965000 x965001 x965002).bind fun bt1029 => (if bt1029.2.2.2 = 0 then ((rat_Compare.f k bt1029.1 bt1029.2.1 bt1029.2.2.1 x964000 x964001 x964002).bind fun t1038 => (if t1038 = 0 then (offcutlaw03_RatRules.j2 k x964000 x964001 x964002 x965000 x965001 x965002 x966000 x966001 x966002) else (some false))) else (some false))))))
def offcutlaw03_RatRules.j2 : Nat → Bool → List Int → List Int → Bool → List Int → List Int → Bool → List Int → List Int → Option (Bool)
 | 0, _, _, _, _, _, _, _, _, _ => none
 | k + 1, x964000, x964001, x964002, x965000, x965001, x965002, x966000, x966001, x966002 => (rat_Compare.f k x964000 x964001 x964002 x965000 x965001 x965002).bind fun t1039 => ((rat_Sub.f k x964000 x964001 x964002 x966000 x966001 x966002).bind fun bt1040 => ((rat_Sub.f k x965000 x965001 x965002 x966000 x966001 x966002).bind fun bt1047 => ((rat_Compare.f k bt1040.1 bt1040.2.1 bt1040.2.2 bt1047.1 bt1047.2.1 bt1047.2.2).bind fun t1054 => (if t1039 = t1054 then ((offcutlaw03_awake.f k).bind fun t1055 => (some t1055)) else (some false)))))
end
def offcutlaw03_RatRules.f (k : Nat) (a0_0 : Bool) (l0_1 : List Int) (l0_2 : List Int) (a1_0 : Bool) (l1_1 : List Int) (l1_2 : List Int) (a2_0 : Bool) (l2_1 : List Int) (l2_2 : List Int) : Option (Bool) := (offcutlaw03_few.f a0_0 l0_1 l0_2).bind fun t966 => (if t966 = true then ((offcutlaw03_few.f a1_0 l1_1 l1_2).bind fun t967 => (if t967 = true then ((offcutlaw03_few.f a2_0 l2_1 l2_2).bind fun t968 => (offcutlaw03_RatRules.j0 k (!t968) a0_0 l0_1 l0_2 a1_0 l1_1 l1_2 a2_0 l2_1 l2_2)) else (offcutlaw03_RatRules.j0 k true a0_0 l0_1 l0_2 a1_0 l1_1 l1_2 a2_0 l2_1 l2_2))) else (offcutlaw03_RatRules.j0 k true a0_0 l0_1 l0_2 a1_0 l1_1 l1_2 a2_0 l2_1 l2_2))
def offcutlaw03_RatRules.T3 : Bool × List (List Nat × List Nat) := (true, [([], []), ([], []), ([0, 1], [0, 1]), ([], []), ([2, 3, 2], [2, 3]), ([], []), ([4, 5, 4], [4, 5]), ([6], [6]), ([7, 6], [7]), ([8], [8]), ([8], [8]), ([8], [8]), ([10, 11, 8, 8], [8, 10, 11]), ([9, 12, 12, 8], [8, 9, 12]), ([8], [8]), ([8], [8]), ([14, 15, 13, 8], [8, 14, 15]), ([8], [8]), ([8], [8]), ([17, 18, 16, 8], [8, 17, 18]), ([16, 19, 19, 8], [8, 16, 19]), ([13, 20, 20, 8], [8, 13, 20]), ([21, 8], [8, 21]), ([8, 22], [8, 22])])
def offcutlaw03_RatRules.B3 : List Nat := [0, 0, 3, 0, 15, 0, 63, 127, 255, 511, 511, 511, 3583, 8191, 511, 511, 65535, 511, 511, 524287, 1048575, 2097151, 4194303, 8388607]
theorem offcutlaw03_RatRules.tab3 : rtab .any (opsOf Try.f7 3) = offcutlaw03_RatRules.T3 := by kernel_rfl
theorem offcutlaw03_RatRules.bits3 : waitsOk offcutlaw03_RatRules.T3.2 offcutlaw03_RatRules.B3 = true := by kernel_rfl
def offcutlaw03_RatRules.T6 : Bool × List (List Nat × List Nat) := (true, [([], []), ([], []), ([0, 1], [0, 1]), ([], []), ([2, 3, 2], [2, 3]), ([4], [4]), ([5], [5]), ([5], [5]), ([], []), ([8, 6, 4, 0, 1, 2, 3, 4, 5, 6, 8], [6, 8]), ([7, 9, 0, 1, 2, 3, 4, 5, 6, 7, 8, 9], [7])])
def offcutlaw03_RatRules.B6 : List Nat := [0, 0, 3, 0, 15, 31, 63, 63, 0, 383, 1023]
theorem offcutlaw03_RatRules.tab6 : rtab .any (opsOf Try.f7 6) = offcutlaw03_RatRules.T6 := by kernel_rfl
theorem offcutlaw03_RatRules.bits6 : waitsOk offcutlaw03_RatRules.T6.2 offcutlaw03_RatRules.B6 = true := by kernel_rfl
def offcutlaw03_RatRules.T9 : Bool × List (List Nat × List Nat) := (true, [([], []), ([], []), ([0, 1], [0, 1]), ([], []), ([], []), ([3, 4, 2], [3, 4]), ([], []), ([], []), ([6, 7, 5], [6, 7]), ([5, 8, 8], [5, 8]), ([2, 9], [2, 9]), ([10, 9], [10]), ([11, 11], [11]), ([11, 12], [11, 12]), ([13, 12, 0, 1, 2, 3, 4, 5, 6, 7, 8, 9, 10, 11, 12, 13], [13])])
def offcutlaw03_RatRules.B9 : List Nat := [0, 0, 3, 0, 0, 31, 0, 0, 255, 511, 1023, 2047, 4095, 8191, 16383]
theorem offcutlaw03_RatRules.tab9 : rtab .any (opsOf Try.f7 9) = offcutlaw03_RatRules.T9 := by kernel_rfl
theorem offcutlaw03_RatRules.bits9 : waitsOk offcutlaw03_RatRules.T9.2 offcutlaw03_RatRules.B9 = true := by kernel_rfl
set_option maxHeartbeats 8000000 in
set_option maxRecDepth 100000 in
theorem offcutlaw03_RatRules.calls (k : Nat) (a0_0 : Bool) (A0_1 : Option Addr) (c0_1 : Nat) (l0_1 : List Int) (A0_2 : Option Addr) (c0_2 : Nat) (l0_2 : List Int) (a1_0 : Bool) (A1_1 : Option Addr) (c1_1 : Nat) (l1_1 : List Int) (A1_2 : Option Addr) (c1_2 : Nat) (l1_2 : List Int) (a2_0 : Bool) (A2_1 : Option Addr) (c2_1 : Nat) (l2_1 : List Int) (A2_2 : Option Addr) (c2_2 : Nat) (l2_2 : List Int) (r : Bool) (w : World) (hr0_1 : Kd.C (Kd.int .u32) w A0_1 l0_1.length l0_1) (hc0_1 : l0_1.length ≤ c0_1) (hr0_2 : Kd.C (Kd.int .u32) w A0_2 l0_2.length l0_2) (hc0_2 : l0_2.length ≤ c0_2) (hr1_1 : Kd.C (Kd.int .u32) w A1_1 l1_1.length l1_1) (hc1_1 : l1_1.length ≤ c1_1) (hr1_2 : Kd.C (Kd.int .u32) w A1_2 l1_2.length l1_2) (hc1_2 : l1_2.length ≤ c1_2) (hr2_1 : Kd.C (Kd.int .u32) w A2_1 l2_1.length l2_1) (hc2_1 : l2_1.length ≤ c2_1) (hr2_2 : Kd.C (Kd.int .u32) w A2_2 l2_2.length l2_2) (hc2_2 : l2_2.length ≤ c2_2) (hrt : r = true) (h : offcutlaw03_RatRules.f k a0_0 l0_1 l0_2 a1_0 l1_1 l1_2 a2_0 l2_1 l2_2 = some r) :
  Calls Try.prog 7 #[.agg #[.bool a0_0, .slice A0_1 l0_1.length c0_1, .slice A0_2 l0_2.length c0_2], .agg #[.bool a1_0, .slice A1_1 l1_1.length c1_1, .slice A1_2 l1_2.length c1_2], .agg #[.bool a2_0, .slice A2_1 l2_1.length c2_1, .slice A2_2 l2_2.length c2_2]] w fun e w' => e = .returned (.bool r) ∧ Below w.heap.size w w' := by
 have hu27 := Try.underlying27
 have HRT := Aside0.mk hrt
 clear hrt
 have HR0_1 := Aside0.mk hr0_1
 have HC0_1 := Aside0.mk hc0_1
 clear hr0_1 hc0_1
 have HR0_2 := Aside0.mk hr0_2
 have HC0_2 := Aside0.mk hc0_2
 clear hr0_2 hc0_2
 have HR1_1 := Aside0.mk hr1_1
 have HC1_1 := Aside0.mk hc1_1
 clear hr1_1 hc1_1
 have HR1_2 := Aside0.mk hr1_2
 have HC1_2 := Aside0.mk hc1_2
 clear hr1_2 hc1_2
 have HR2_1 := Aside0.mk hr2_1
 have HC2_1 := Aside0.mk hc2_1
 clear hr2_1 hc2_1
 have HR2_2 := Aside0.mk hr2_2
 have HC2_2 := Aside0.mk hc2_2
 clear hr2_2 hc2_2
 have HB := Aside0.mk (Below.refl w.heap.size w)
 have H : ((offcutlaw03_few.f a0_0 l0_1 l0_2).bind fun t966 => (if t966 = true then ((offcutlaw03_few.f a1_0 l1_1 l1_2).bind fun t967 => (if t967 = true then ((offcutlaw03_few.f a2_0 l2_1 l2_2).bind fun t968 => (offcutlaw03_RatRules.j0 k (!t968) a0_0 l0_1 l0_2 a1_0 l1_1 l1_2 a2_0 l2_1 l2_2)) else (offcutlaw03_RatRules.j0 k true a0_0 l0_1 l0_2 a1_0 l1_1 l1_2 a2_0 l2_1 l2_2))) else (offcutlaw03_RatRules.j0 k true a0_0 l0_1 l0_2 a1_0 l1_1 l1_2 a2_0 l2_1 l2_2))) = some r := h
 clear h
 have HC4 := Aside0.mk H
 clear H
 go_enter Try.func7, Try.ntmps7
 go_upto_region 1 with (first | ((with_reducible refine gate_dst (N := 3) rfl ?_); refine Short.boxS_ (N := 3) (cs := #[.bool a0_0, .slice A0_1 l0_1.length c0_1, .slice A0_2 l0_2.length c0_2]) (t := 27) ?_; intro gb963 hg w5 hbox hb; have BK963 := Aside0.mk (hbox); have GW963 := Aside0.mk ((by rw [hg]; exact (below_size (by repeat (first | (with_reducible first | exact HB.out | apply below_alloc | apply pw_below_drewN | apply below_drew1) | exact HB.out))) : w.heap.size ≤ gb963)); have GE963 := Aside0.mk ((by rw [hg]; exact (below_size (by repeat (first | (with_reducible first | exact HB.out | apply below_alloc | apply pw_below_drewN | apply below_drew1) | exact HB.out))) : w.heap.size ≤ gb963)); replace HB := Aside0.mk (below_step (by repeat (first | (with_reducible first | exact HB.out | apply below_alloc | apply pw_below_drewN | apply below_drew1) | exact HB.out)) hb); clear hb hbox hg) | ((with_reducible refine gate_dst (N := 4) rfl ?_); refine Short.boxS_ (N := 4) (cs := #[.bool a1_0, .slice A1_1 l1_1.length c1_1, .slice A1_2 l1_2.length c1_2]) (t := 27) ?_; intro gb964 hg w6 hbox hb; have BK964 := Aside0.mk (hbox); have GW964 := Short.sizeB_ (w := w) hg; have GE964 := Short.sizeB_ (w := w) hg; replace HB := Short.stepB_ (w := w) hb; have NB963_964 := Short.ltB_ (g := gb963) hg; have NB964_963 := Short.gtB_ (g := gb963) hg; replace BK963 := Short.blkB_ (g := gb963) hb; clear hb hbox hg) | ((with_reducible refine gate_dst (N := 5) rfl ?_); refine Short.boxS_ (N := 5) (cs := #[.bool a2_0, .slice A2_1 l2_1.length c2_1, .slice A2_2 l2_2.length c2_2]) (t := 27) ?_; intro gb965 hg w7 hbox hb; have BK965 := Aside0.mk (hbox); have GW965 := Short.sizeB_ (w := w) hg; have GE965 := Short.sizeB_ (w := w) hg; replace HB := Short.stepB_ (w := w) hb; have NB963_965 := Short.ltB_ (g := gb963) hg; have NB965_963 := Short.gtB_ (g := gb963) hg; replace BK963 := Short.blkB_ (g := gb963) hb; have NB964_965 := Short.ltB_ (g := gb964) hg; have NB965_964 := Short.gtB_ (g := gb964) hg; replace BK964 := Short.blkB_ (g := gb964) hb; clear hb hbox hg))
 (try simp only [Act.put, List.setIfInBounds_toArray, List.set_cons_zero, List.set_cons_succ])
 go_cut [21] (fun v21 wc => ∃ (kq : Nat) (x21_3 : Bool), v21 = .bool x21_3 ∧ Aside0 (offcutlaw03_RatRules.j0 kq x21_3 a0_0 l0_1 l0_2 a1_0 l1_1 l1_2 a2_0 l2_1 l2_2 = some r) ∧ Aside0 (kq ≤ k) ∧ Aside0 (wc.heap[gb963]? = some (.cells #[.bool a0_0, (.slice A0_1 l0_1.length c0_1), (.slice A0_2 l0_2.length c0_2)] 27 (0, 0))) ∧ Aside0 (wc.heap[gb964]? = some (.cells #[.bool a1_0, (.slice A1_1 l1_1.length c1_1), (.slice A1_2 l1_2.length c1_2)] 27 (0, 0))) ∧ Aside0 (wc.heap[gb965]? = some (.cells #[.bool a2_0, (.slice A2_1 l2_1.length c2_1), (.slice A2_2 l2_2.length c2_2)] 27 (0, 0))) ∧ Aside0 (Below w.heap.size w wc))
 case first =>
  have H := HC4.out
  clear HC4
  replace H := Option.bind_eq_some_iff.mp H
  obtain ⟨t966, A80, H⟩ := H
  try dsimp only at H
  have A8 := Aside0.mk A80
  clear A80
  by_cases c9 : t966 = true
  ·subst c9
   have H1 : ((offcutlaw03_few.f a1_0 l1_1 l1_2).bind fun t967 => (if t967 = true then ((offcutlaw03_few.f a2_0 l2_1 l2_2).bind fun t968 => (offcutlaw03_RatRules.j0 k (!t968) a0_0 l0_1 l0_2 a1_0 l1_1 l1_2 a2_0 l2_1 l2_2)) else (offcutlaw03_RatRules.j0 k true a0_0 l0_1 l0_2 a1_0 l1_1 l1_2 a2_0 l2_1 l2_2))) = some r := by rw [if_pos rfl] at H; exact H
   clear H
   have H := H1
   clear H1
   replace H := Option.bind_eq_some_iff.mp H
   obtain ⟨t967, A100, H⟩ := H
   try dsimp only at H
   have A10 := Aside0.mk A100
   clear A100
   by_cases c11 : t967 = true
   ·subst c11
    have H1 : ((offcutlaw03_few.f a2_0 l2_1 l2_2).bind fun t968 => (offcutlaw03_RatRules.j0 k (!t968) a0_0 l0_1 l0_2 a1_0 l1_1 l1_2 a2_0 l2_1 l2_2)) = some r := by rw [if_pos rfl] at H; exact H
    clear H
    have H := H1
    clear H1
    replace H := Option.bind_eq_some_iff.mp H
    obtain ⟨t968, A120, H⟩ := H
    try dsimp only at H
    have A12 := Aside0.mk A120
    clear A120
    have H' := Aside0.mk H
    clear H
    have hnb13 := NB963_964.out
    have hnc13 := NB964_963.out
    have hnb14 := NB963_965.out
    have hnc14 := NB965_963.out
    have hcz15_0 : w7.cell? ⟨gb963, 0, none⟩ = some (.bool a0_0) := (blk_cell BK963.out 0).trans rfl
    have hcz15_1 : w7.cell? ⟨gb963, 1, none⟩ = some (.slice A0_1 l0_1.length c0_1) := (blk_cell BK963.out 1).trans rfl
    have hcz15_2 : w7.cell? ⟨gb963, 2, none⟩ = some (.slice A0_2 l0_2.length c0_2) := (blk_cell BK963.out 2).trans rfl
    have hfz15_0 := blk_frozen BK963.out 0
    have hfz15_1 := blk_frozen BK963.out 1
    have hfz15_2 := blk_frozen BK963.out 2
    go_wp2_with (first | ((with_reducible refine gate_callee (f := 10) rfl ?_); refine Short.goesS_ (some 10) Try.func10 #[.agg #[.bool a0_0, .slice A0_1 l0_1.length c0_1, .slice A0_2 l0_2.length c0_2]] ?_; (with_reducible refine (offcutlaw03_few.calls a0_0 _ _ l0_1 _ _ l0_2 true _ ?side1 HC0_1.out ?side3 HC0_2.out A8.out).mono ?_); (case side1 => repeat (first | exact (Kd.C_below HR0_1.out HB.out) | (with_reducible refine Kd.C_alloc ?_ _) | (with_reducible refine Kd.C_drewN ?_ _) | (with_reducible refine Kd.C_drew ?_))); (case side3 => repeat (first | exact (Kd.C_below HR0_2.out HB.out) | (with_reducible refine Kd.C_alloc ?_ _) | (with_reducible refine Kd.C_drewN ?_ _) | (with_reducible refine Kd.C_drew ?_))); rintro e w16 ⟨rfl, hb⟩; refine ⟨_, rfl, ?_⟩; replace BK963 := Short.blkB_ (g := gb963) hb; replace BK964 := Short.blkB_ (g := gb964) hb; replace BK965 := Short.blkB_ (g := gb965) hb; replace HB := Short.stepB_ (w := w) hb; (try clear hb); have hnb17 := NB964_965.out; have hnc17 := NB965_964.out; have hcz18_0 : w16.cell? ⟨gb964, 0, none⟩ = some (.bool a1_0) := (blk_cell BK964.out 0).trans rfl; have hcz18_1 : w16.cell? ⟨gb964, 1, none⟩ = some (.slice A1_1 l1_1.length c1_1) := (blk_cell BK964.out 1).trans rfl; have hcz18_2 : w16.cell? ⟨gb964, 2, none⟩ = some (.slice A1_2 l1_2.length c1_2) := (blk_cell BK964.out 2).trans rfl; have hfz18_0 := blk_frozen BK964.out 0; have hfz18_1 := blk_frozen BK964.out 1; have hfz18_2 := blk_frozen BK964.out 2) | (go_at_call 10; (with_reducible refine (offcutlaw03_few.calls a1_0 _ _ l1_1 _ _ l1_2 true _ ?side1 HC1_1.out ?side3 HC1_2.out A10.out).mono ?_); (case side1 => repeat (first | exact (Kd.C_below HR1_1.out HB.out) | (with_reducible refine Kd.C_alloc ?_ _) | (with_reducible refine Kd.C_drewN ?_ _) | (with_reducible refine Kd.C_drew ?_))); (case side3 => repeat (first | exact (Kd.C_below HR1_2.out HB.out) | (with_reducible refine Kd.C_alloc ?_ _) | (with_reducible refine Kd.C_drewN ?_ _) | (with_reducible refine Kd.C_drew ?_))); rintro e w19 ⟨rfl, hb⟩; replace BK963 := Short.blkB_ (g := gb963) hb; replace BK964 := Short.blkB_ (g := gb964) hb; replace BK965 := Short.blkB_ (g := gb965) hb; replace HB := Short.stepB_ (w := w) hb; (try clear hb); have hcz20_0 : w19.cell? ⟨gb965, 0, none⟩ = some (.bool a2_0) := (blk_cell BK965.out 0).trans rfl; have hcz20_1 : w19.cell? ⟨gb965, 1, none⟩ = some (.slice A2_1 l2_1.length c2_1) := (blk_cell BK965.out 1).trans rfl; have hcz20_2 : w19.cell? ⟨gb965, 2, none⟩ = some (.slice A2_2 l2_2.length c2_2) := (blk_cell BK965.out 2).trans rfl; have hfz20_0 := blk_frozen BK965.out 0; have hfz20_1 := blk_frozen BK965.out 1; have hfz20_2 := blk_frozen BK965.out 2) | (go_at_call 10; (with_reducible refine (offcutlaw03_few.calls a2_0 _ _ l2_1 _ _ l2_2 t968 _ ?side1 HC2_1.out ?side3 HC2_2.out A12.out).mono ?_); (case side1 => repeat (first | exact (Kd.C_below HR2_1.out HB.out) | (with_reducible refine Kd.C_alloc ?_ _) | (with_reducible refine Kd.C_drewN ?_ _) | (with_reducible refine Kd.C_drew ?_))); (case side3 => repeat (first | exact (Kd.C_below HR2_2.out HB.out) | (with_reducible refine Kd.C_alloc ?_ _) | (with_reducible refine Kd.C_drewN ?_ _) | (with_reducible refine Kd.C_drew ?_))); rintro e w21 ⟨rfl, hb⟩; replace BK963 := Short.blkB_ (g := gb963) hb; replace BK964 := Short.blkB_ (g := gb964) hb; replace BK965 := Short.blkB_ (g := gb965) hb; replace HB := Short.stepB_ (w := w) hb; (try clear hb)))
    go_meet
    case rel => exact ⟨_, (!t968), (by first | rfl | (simp; done) | (simp [*]; done)), H', ⟨by first | omega | exact Nat.le_refl _⟩, ⟨by (with_reducible repeat (first | refine blk_drewN ?_ _ | refine blk_drew ?_ | refine blk_alloc ?_ _)); exact BK963.out⟩, ⟨by (with_reducible repeat (first | refine blk_drewN ?_ _ | refine blk_drew ?_ | refine blk_alloc ?_ _)); exact BK964.out⟩, ⟨by (with_reducible repeat (first | refine blk_drewN ?_ _ | refine blk_drew ?_ | refine blk_alloc ?_ _)); exact BK965.out⟩, ⟨by repeat (first | (with_reducible first | exact HB.out | apply below_alloc | apply pw_below_drewN | apply below_drew1 | refine below_set ?_ GE963.out | refine below_set ?_ GE964.out | refine below_set ?_ GE965.out) | exact HB.out)⟩⟩
   ·replace c11 := Bool.eq_false_iff.mpr c11
    subst c11
    have H1 : (offcutlaw03_RatRules.j0 k true a0_0 l0_1 l0_2 a1_0 l1_1 l1_2 a2_0 l2_1 l2_2) = some r := by rw [if_neg (show ¬ (false = true) by decide)] at H; exact H
    clear H
    have H := H1
    clear H1
    have H' := Aside0.mk H
    clear H
    have hnb22 := NB963_964.out
    have hnc22 := NB964_963.out
    have hnb23 := NB963_965.out
    have hnc23 := NB965_963.out
    have hcz24_0 : w7.cell? ⟨gb963, 0, none⟩ = some (.bool a0_0) := (blk_cell BK963.out 0).trans rfl
    have hcz24_1 : w7.cell? ⟨gb963, 1, none⟩ = some (.slice A0_1 l0_1.length c0_1) := (blk_cell BK963.out 1).trans rfl
    have hcz24_2 : w7.cell? ⟨gb963, 2, none⟩ = some (.slice A0_2 l0_2.length c0_2) := (blk_cell BK963.out 2).trans rfl
    have hfz24_0 := blk_frozen BK963.out 0
    have hfz24_1 := blk_frozen BK963.out 1
    have hfz24_2 := blk_frozen BK963.out 2
    go_wp2_with (first | ((with_reducible refine gate_callee (f := 10) rfl ?_); refine Short.goesS_ (some 10) Try.func10 #[.agg #[.bool a0_0, .slice A0_1 l0_1.length c0_1, .slice A0_2 l0_2.length c0_2]] ?_; (with_reducible refine (offcutlaw03_few.calls a0_0 _ _ l0_1 _ _ l0_2 true _ ?side1 HC0_1.out ?side3 HC0_2.out A8.out).mono ?_); (case side1 => repeat (first | exact (Kd.C_below HR0_1.out HB.out) | (with_reducible refine Kd.C_alloc ?_ _) | (with_reducible refine Kd.C_drewN ?_ _) | (with_reducible refine Kd.C_drew ?_))); (case side3 => repeat (first | exact (Kd.C_below HR0_2.out HB.out) | (with_reducible refine Kd.C_alloc ?_ _) | (with_reducible refine Kd.C_drewN ?_ _) | (with_reducible refine Kd.C_drew ?_))); rintro e w25 ⟨rfl, hb⟩; refine ⟨_, rfl, ?_⟩; replace BK963 := Short.blkB_ (g := gb963) hb; replace BK964 := Short.blkB_ (g := gb964) hb; replace BK965 := Short.blkB_ (g := gb965) hb; replace HB := Short.stepB_ (w := w) hb; (try clear hb); have hnb26 := NB964_965.out; have hnc26 := NB965_964.out; have hcz27_0 : w25.cell? ⟨gb964, 0, none⟩ = some (.bool a1_0) := (blk_cell BK964.out 0).trans rfl; have hcz27_1 : w25.cell? ⟨gb964, 1, none⟩ = some (.slice A1_1 l1_1.length c1_1) := (blk_cell BK964.out 1).trans rfl; have hcz27_2 : w25.cell? ⟨gb964, 2, none⟩ = some (.slice A1_2 l1_2.length c1_2) := (blk_cell BK964.out 2).trans rfl; have hfz27_0 := blk_frozen BK964.out 0; have hfz27_1 := blk_frozen BK964.out 1; have hfz27_2 := blk_frozen BK964.out 2) | (go_at_call 10; (with_reducible refine (offcutlaw03_few.calls a1_0 _ _ l1_1 _ _ l1_2 false _ ?side1 HC1_1.out ?side3 HC1_2.out A10.out).mono ?_); (case side1 => repeat (first | exact (Kd.C_below HR1_1.out HB.out) | (with_reducible refine Kd.C_alloc ?_ _) | (with_reducible refine Kd.C_drewN ?_ _) | (with_reducible refine Kd.C_drew ?_))); (case side3 => repeat (first | exact (Kd.C_below HR1_2.out HB.out) | (with_reducible refine Kd.C_alloc ?_ _) | (with_reducible refine Kd.C_drewN ?_ _) | (with_reducible refine Kd.C_drew ?_))); rintro e w28 ⟨rfl, hb⟩; replace BK963 := Short.blkB_ (g := gb963) hb; replace BK964 := Short.blkB_ (g := gb964) hb; replace BK965 := Short.blkB_ (g := gb965) hb; replace HB := Short.stepB_ (w := w) hb; (try clear hb)))
    go_meet
    case rel => exact ⟨_, (true), (by first | rfl | (simp; done) | (simp [*]; done)), H', ⟨by first | omega | exact Nat.le_refl _⟩, ⟨by (with_reducible repeat (first | refine blk_drewN ?_ _ | refine blk_drew ?_ | refine blk_alloc ?_ _)); exact BK963.out⟩, ⟨by (with_reducible repeat (first | refine blk_drewN ?_ _ | refine blk_drew ?_ | refine blk_alloc ?_ _)); exact BK964.out⟩, ⟨by (with_reducible repeat (first | refine blk_drewN ?_ _ | refine blk_drew ?_ | refine blk_alloc ?_ _)); exact BK965.out⟩, ⟨by repeat (first | (with_reducible first | exact HB.out | apply below_alloc | apply pw_below_drewN | apply below_drew1 | refine below_set ?_ GE963.out | refine below_set ?_ GE964.out | refine below_set ?_ GE965.out) | exact HB.out)⟩⟩
  ·replace c9 := Bool.eq_false_iff.mpr c9
   subst c9
   have H1 : (offcutlaw03_RatRules.j0 k true a0_0 l0_1 l0_2 a1_0 l1_1 l1_2 a2_0 l2_1 l2_2) = some r := by rw [if_neg (show ¬ (false = true) by decide)] at H; exact H
   clear H
   have H := H1
   clear H1
   have H' := Aside0.mk H
   clear H
   have hnb29 := NB963_964.out
   have hnc29 := NB964_963.out
   have hnb30 := NB963_965.out
   have hnc30 := NB965_963.out
   have hcz31_0 : w7.cell? ⟨gb963, 0, none⟩ = some (.bool a0_0) := (blk_cell BK963.out 0).trans rfl
   have hcz31_1 : w7.cell? ⟨gb963, 1, none⟩ = some (.slice A0_1 l0_1.length c0_1) := (blk_cell BK963.out 1).trans rfl
   have hcz31_2 : w7.cell? ⟨gb963, 2, none⟩ = some (.slice A0_2 l0_2.length c0_2) := (blk_cell BK963.out 2).trans rfl
   have hfz31_0 := blk_frozen BK963.out 0
   have hfz31_1 := blk_frozen BK963.out 1
   have hfz31_2 := blk_frozen BK963.out 2
   go_wp2_with (first | ((with_reducible refine gate_callee (f := 10) rfl ?_); refine Short.goesS_ (some 10) Try.func10 #[.agg #[.bool a0_0, .slice A0_1 l0_1.length c0_1, .slice A0_2 l0_2.length c0_2]] ?_; (with_reducible refine (offcutlaw03_few.calls a0_0 _ _ l0_1 _ _ l0_2 false _ ?side1 HC0_1.out ?side3 HC0_2.out A8.out).mono ?_); (case side1 => repeat (first | exact (Kd.C_below HR0_1.out HB.out) | (with_reducible refine Kd.C_alloc ?_ _) | (with_reducible refine Kd.C_drewN ?_ _) | (with_reducible refine Kd.C_drew ?_))); (case side3 => repeat (first | exact (Kd.C_below HR0_2.out HB.out) | (with_reducible refine Kd.C_alloc ?_ _) | (with_reducible refine Kd.C_drewN ?_ _) | (with_reducible refine Kd.C_drew ?_))); rintro e w32 ⟨rfl, hb⟩; refine ⟨_, rfl, ?_⟩; replace BK963 := Short.blkB_ (g := gb963) hb; replace BK964 := Short.blkB_ (g := gb964) hb; replace BK965 := Short.blkB_ (g := gb965) hb; replace HB := Short.stepB_ (w := w) hb; (try clear hb)))
   go_meet
   case rel => exact ⟨_, (true), (by first | rfl | (simp; done) | (simp [*]; done)), H', ⟨by first | omega | exact Nat.le_refl _⟩, ⟨by (with_reducible repeat (first | refine blk_drewN ?_ _ | refine blk_drew ?_ | refine blk_alloc ?_ _)); exact BK963.out⟩, ⟨by (with_reducible repeat (first | refine blk_drewN ?_ _ | refine blk_drew ?_ | refine blk_alloc ?_ _)); exact BK964.out⟩, ⟨by (with_reducible repeat (first | refine blk_drewN ?_ _ | refine blk_drew ?_ | refine blk_alloc ?_ _)); exact BK965.out⟩, ⟨by repeat (first | (with_reducible first | exact HB.out | apply below_alloc | apply pw_below_drewN | apply below_drew1 | refine below_set ?_ GE963.out | refine below_set ?_ GE964.out | refine below_set ?_ GE965.out) | exact HB.out)⟩⟩
 case rest =>
  clear HC4
  try clear c1
  try clear c2
  try clear p2
  try clear c3
  try clear c7
  try clear c9
  try clear c10
  try clear c11
  try clear c13
  try clear c14
  try clear c17
  try clear c22
  try clear c23
  try clear c26
  try clear c29
  try clear c30
  try clear hcz15_0
  try clear hcz15_1
  try clear hcz15_2
  try clear hcz18_0
  try clear hcz18_1
  try clear hcz18_2
  try clear hcz20_0
  try clear hcz20_1
  try clear hcz20_2
  try clear hcz24_0
  try clear hcz24_1
  try clear hcz24_2
  try clear hcz27_0
  try clear hcz27_1
  try clear hcz27_2
  try clear hcz31_0
  try clear hcz31_1
  try clear hcz31_2
  try clear hfz15_0
  try clear hfz15_1
  try clear hfz15_2
  try clear hfz18_0
  try clear hfz18_1
  try clear hfz18_2
  try clear hfz20_0
  try clear hfz20_1
  try clear hfz20_2
  try clear hfz24_0
  try clear hfz24_1
  try clear hfz24_2
  try clear hfz27_0
  try clear hfz27_1
  try clear hfz27_2
  try clear hfz31_0
  try clear hfz31_1
  try clear hfz31_2
  obtain ⟨kq, x21_3, rfl, HA, HJ3, BK963, BK964, BK965, HB⟩ := hcut
  cases kq with
  | zero => exact absurd HA.out (by simp [offcutlaw03_RatRules.j0])
  | succ kj3 =>
   have H := HA.out
   clear HA
   simp only [offcutlaw03_RatRules.j0] at H
   by_cases c33 : x21_3 = true
   ·subst c33
    have H1 : ((offcutlaw03_awake.f kj3).bind fun t969 => (some t969)) = some r := by rw [if_pos rfl] at H; exact H
    clear H
    have H := H1
    clear H1
    replace H := Option.bind_eq_some_iff.mp H
    obtain ⟨t969, A340, H⟩ := H
    replace H : (some t969) = some r := H
    have A34 := Aside0.mk A340
    clear A340
    obtain rfl := Option.some.inj H
    go_wp2_with (first | ((with_reducible refine gate_callee (f := 11) rfl ?_); refine Short.goesS_ (some 22) Try.func11 #[] ?_; (with_reducible refine (offcutlaw03_awake.calls kj3  t969 _ HRT.out A34.out).mono ?_); rintro e w35 ⟨rfl, hb⟩; refine ⟨_, rfl, ?_⟩; replace BK963 := Short.blkB_ (g := gb963) hb; replace BK964 := Short.blkB_ (g := gb964) hb; replace BK965 := Short.blkB_ (g := gb965) hb; replace HB := Short.stepB_ (w := w) hb; (try clear hb)))
    go_ret
    exact ⟨by rfl, by repeat (first | (with_reducible first | exact HB.out | apply below_alloc | apply pw_below_drewN | apply below_drew1 | refine below_set ?_ GE963.out | refine below_set ?_ GE964.out | refine below_set ?_ GE965.out) | exact HB.out)⟩
   ·replace c33 := Bool.eq_false_iff.mpr c33
    subst c33
    have H1 : ((rat_Add.f kj3 a0_0 l0_1 l0_2 a1_0 l1_1 l1_2).bind fun bt970 => ((rat_Sub.f kj3 bt970.1 bt970.2.1 bt970.2.2 a1_0 l1_1 l1_2).bind fun bt977 => ((rat_Compare.f kj3 bt977.1 bt977.2.1 bt977.2.2 a0_0 l0_1 l0_2).bind fun t984 => (if t984 = 0 then ((rat_Add.f kj3 a1_0 l1_1 l1_2 a2_0 l2_1 l2_2).bind fun bt985 => ((rat_Mul.f kj3 a0_0 l0_1 l0_2 bt985.1 bt985.2.1 bt985.2.2).bind fun bt992 => ((rat_Mul.f kj3 a0_0 l0_1 l0_2 a1_0 l1_1 l1_2).bind fun bt999 => ((rat_Mul.f kj3 a0_0 l0_1 l0_2 a2_0 l2_1 l2_2).bind fun bt1006 => ((rat_Add.f kj3 bt999.1 bt999.2.1 bt999.2.2 bt1006.1 bt1006.2.1 bt1006.2.2).bind fun bt1013 => ((rat_Compare.f kj3 bt992.1 bt992.2.1 bt992.2.2 bt1013.1 bt1013.2.1 bt1013.2.2).bind fun t1020 => (offcutlaw03_RatRules.j1 kj3 (t1020 != 0) a0_0 l0_1 l0_2 a1_0 l1_1 l1_2 a2_0 l2_1 l2_2))))))) else (offcutlaw03_RatRules.j1 kj3 true a0_0 l0_1 l0_2 a1_0 l1_1 l1_2 a2_0 l2_1 l2_2))))) = some r := by rw [if_neg (show ¬ (false = true) by decide)] at H; exact H
    clear H
    have H := H1
    clear H1
    have HC36 := Aside0.mk H
    clear H
    go_upto_region 3 with (fail)
    go_cut [46] (fun v46 wc => ∃ (kq : Nat) (x46_35 : Bool), v46 = .bool x46_35 ∧ Aside0 (offcutlaw03_RatRules.j1 kq x46_35 a0_0 l0_1 l0_2 a1_0 l1_1 l1_2 a2_0 l2_1 l2_2 = some r) ∧ Aside0 (kq ≤ kj3) ∧ Aside0 (wc.heap[gb963]? = some (.cells #[.bool a0_0, (.slice A0_1 l0_1.length c0_1), (.slice A0_2 l0_2.length c0_2)] 27 (0, 0))) ∧ Aside0 (wc.heap[gb964]? = some (.cells #[.bool a1_0, (.slice A1_1 l1_1.length c1_1), (.slice A1_2 l1_2.length c1_2)] 27 (0, 0))) ∧ Aside0 (wc.heap[gb965]? = some (.cells #[.bool a2_0, (.slice A2_1 l2_1.length c2_1), (.slice A2_2 l2_2.length c2_2)] 27 (0, 0))) ∧ Aside0 (Below w.heap.size w wc))
    case first =>
     have H := HC36.out
     clear HC36
     replace H := Option.bind_eq_some_iff.mp H
     obtain ⟨⟨t970, t971, t974⟩, A370, H⟩ := H
     try dsimp only at H
     have A37 := Aside0.mk A370
     clear A370
     replace H := Option.bind_eq_some_iff.mp H
     obtain ⟨⟨t977, t978, t981⟩, A380, H⟩ := H
     try dsimp only at H
     have A38 := Aside0.mk A380
     clear A380
     replace H := Option.bind_eq_some_iff.mp H
     obtain ⟨t984, A390, H⟩ := H
     try dsimp only at H
     have A39 := Aside0.mk A390
     clear A390
     by_cases c40 : t984 = 0
     ·rw [if_pos c40] at H
      have c40b0 : (t984 == 0) = true := beq_iff_eq.mpr c40
      have c40b1 : (t984 != 0) = false := bne_eq_false_iff_eq.mpr c40
      clear c40
      (first | rw [c40b0] | (simp only [i64_w, i32_w]; rw [c40b0]) | skip)
      replace H := Option.bind_eq_some_iff.mp H
      obtain ⟨⟨t985, t986, t989⟩, A410, H⟩ := H
      try dsimp only at H
      have A41 := Aside0.mk A410
      clear A410
      replace H := Option.bind_eq_some_iff.mp H
      obtain ⟨⟨t992, t993, t996⟩, A420, H⟩ := H
      try dsimp only at H
      have A42 := Aside0.mk A420
      clear A420
      replace H := Option.bind_eq_some_iff.mp H
      obtain ⟨⟨t999, t1000, t1003⟩, A430, H⟩ := H
      try dsimp only at H
      have A43 := Aside0.mk A430
      clear A430
      replace H := Option.bind_eq_some_iff.mp H
      obtain ⟨⟨t1006, t1007, t1010⟩, A440, H⟩ := H
      try dsimp only at H
      have A44 := Aside0.mk A440
      clear A440
      replace H := Option.bind_eq_some_iff.mp H
      obtain ⟨⟨t1013, t1014, t1017⟩, A450, H⟩ := H
      try dsimp only at H
      have A45 := Aside0.mk A450
      clear A450
      replace H := Option.bind_eq_some_iff.mp H
      obtain ⟨t1020, A460, H⟩ := H
      try dsimp only at H
      have A46 := Aside0.mk A460
      clear A460
      have H' := Aside0.mk H
      clear H
      try go_wp2
      replace BK963 := Aside0.mk (blk_drew BK963.out)
      replace BK964 := Aside0.mk (blk_drew BK964.out)
      replace BK965 := Aside0.mk (blk_drew BK965.out)
      replace HB := Aside0.mk (below_drew1 HB.out)
      refine start_ (n := 24) (S := fun w' => w'.cell? ⟨gb963, 0, none⟩ = some (.bool a0_0) ∧ w'.cell? ⟨gb963, 1, none⟩ = some (.slice A0_1 l0_1.length c0_1) ∧ w'.cell? ⟨gb963, 2, none⟩ = some (.slice A0_2 l0_2.length c0_2) ∧ w'.cell? ⟨gb964, 0, none⟩ = some (.bool a1_0) ∧ w'.cell? ⟨gb964, 1, none⟩ = some (.slice A1_1 l1_1.length c1_1) ∧ w'.cell? ⟨gb964, 2, none⟩ = some (.slice A1_2 l1_2.length c1_2) ∧ w'.cell? ⟨gb965, 0, none⟩ = some (.bool a2_0) ∧ w'.cell? ⟨gb965, 1, none⟩ = some (.slice A2_1 l2_1.length c2_1) ∧ w'.cell? ⟨gb965, 2, none⟩ = some (.slice A2_2 l2_2.length c2_2)) (ds := []) #[false, false, false, false, false, false, false, false, false, false, false, false, false, false, false, false, false, false, false, false, false, false, false, false] (by kernel_rfl) rfl rfl ⟨(blk_cell BK963.out 0).trans rfl, (blk_cell BK963.out 1).trans rfl, (blk_cell BK963.out 2).trans rfl, (blk_cell BK964.out 0).trans rfl, (blk_cell BK964.out 1).trans rfl, (blk_cell BK964.out 2).trans rfl, (blk_cell BK965.out 0).trans rfl, (blk_cell BK965.out 1).trans rfl, (blk_cell BK965.out 2).trans rfl⟩ (fun hHeld => ?_); refine with_tabW offcutlaw03_RatRules.tab3 offcutlaw03_RatRules.bits3 (fun HT_ HW_ => ?_)
      generalize wc.drew = w47 at BK963 BK964 BK965 HB hHeld ⊢
      refine Short.takeS_ (i := 0) (N := some 23) #[true, false, false, false, false, false, false, false, false, false, false, false, false, false, false, false, false, false, false, false, false, false, false, false] (take_ofW HT_.out HW_.out (by kernel_rfl)) hHeld ?_
      refine Short.takeS_ (i := 1) (N := some 24) #[true, true, false, false, false, false, false, false, false, false, false, false, false, false, false, false, false, false, false, false, false, false, false, false] (take_ofW HT_.out HW_.out (by kernel_rfl)) hHeld ?_
      refine Short.takeS_ (i := 3) (N := some 26) #[true, true, false, true, false, false, false, false, false, false, false, false, false, false, false, false, false, false, false, false, false, false, false, false] (take_ofW HT_.out HW_.out (by kernel_rfl)) hHeld ?_
      refine Short.takeS_ (i := 5) (N := some 28) #[true, true, false, true, false, true, false, false, false, false, false, false, false, false, false, false, false, false, false, false, false, false, false, false] (take_ofW HT_.out HW_.out (by kernel_rfl)) hHeld ?_
      refine one_ (i := 2) (N := some 25) #[true, true, true, true, false, true, false, false, false, false, false, false, false, false, false, false, false, false, false, false, false, false, false, false] rfl rfl (one_of HT_.out (by kernel_rfl)) (by decide) (fun K hK => ?_)
      refine Short.goesD_ Try.func28 #[.agg #[.bool a0_0, .slice A0_1 l0_1.length c0_1, .slice A0_2 l0_2.length c0_2], .agg #[.bool a1_0, .slice A1_1 l1_1.length c1_1, .slice A1_2 l1_2.length c1_2]] ?_
      with_reducible refine (rat_Add.calls kj3 a0_0 _ _ l0_1 _ _ l0_2 a1_0 _ _ l1_1 _ _ l1_2 t970 t971 t974 _ (Kd.C_below HR0_1.out HB.out) HC0_1.out (Kd.C_below HR0_2.out HB.out) HC0_2.out (Kd.C_below HR1_1.out HB.out) HC1_1.out (Kd.C_below HR1_2.out HB.out) HC1_2.out A37.out).mono ?_
      rintro e w48 ⟨v972, v975, rfl, ho0, ho1, hb⟩
      refine ⟨_, rfl, ?_⟩
      have HO973 := Aside0.mk (Kd.R_lower ho0 (below_size HB.out))
      have HO976 := Aside0.mk (Kd.R_lower ho1 (below_size HB.out))
      replace BK963 := Aside0.mk (blk_below BK963.out hb)
      replace BK964 := Aside0.mk (blk_below BK964.out hb)
      replace BK965 := Aside0.mk (blk_below BK965.out hb)
      replace HB := Aside0.mk (below_step HB.out hb)
      (try clear hb)
      (try clear ho0)
      (try clear ho1)
      obtain ⟨Ao49, co49, eo49⟩ := Kd.R_slice HO973.out
      (first | subst eo49 | (injection eo49 with f1_ f2_ f3_; have f4_ := f1_.symm; have f5_ := f3_.symm; clear f1_ f2_ f3_; subst f4_; subst f5_))
      obtain ⟨Ao50, co50, eo50⟩ := Kd.R_slice HO976.out
      (first | subst eo50 | (injection eo50 with f1_ f2_ f3_; have f4_ := f1_.symm; have f5_ := f3_.symm; clear f1_ f2_ f3_; subst f4_; subst f5_))
      refine hK.out _ _ ⟨(blk_cell BK963.out 0).trans rfl, (blk_cell BK963.out 1).trans rfl, (blk_cell BK963.out 2).trans rfl, (blk_cell BK964.out 0).trans rfl, (blk_cell BK964.out 1).trans rfl, (blk_cell BK964.out 2).trans rfl, (blk_cell BK965.out 0).trans rfl, (blk_cell BK965.out 1).trans rfl, (blk_cell BK965.out 2).trans rfl⟩ (fun hHeld => ?_)
      clear hK K
      refine Short.normS_ ?_
      refine one_ (i := 4) (N := some 27) #[true, true, true, true, true, true, false, false, false, false, false, false, false, false, false, false, false, false, false, false, false, false, false, false] rfl rfl (one_of HT_.out (by kernel_rfl)) (by decide) (fun K hK => ?_)
      refine Short.goesD_ Try.func30 #[.agg #[.bool t970, .slice Ao49 t971.length co49, .slice Ao50 t974.length co50], .agg #[.bool a1_0, .slice A1_1 l1_1.length c1_1, .slice A1_2 l1_2.length c1_2]] ?_
      with_reducible refine (rat_Sub.calls kj3 t970 _ _ t971 _ _ t974 a1_0 _ _ l1_1 _ _ l1_2 t977 t978 t981 _ ((Kd.R_reads' HO973.out).2.2) ((Kd.R_reads' HO973.out).2.1) ((Kd.R_reads' HO976.out).2.2) ((Kd.R_reads' HO976.out).2.1) (Kd.C_below HR1_1.out HB.out) HC1_1.out (Kd.C_below HR1_2.out HB.out) HC1_2.out A38.out).mono ?_
      rintro e w51 ⟨v979, v982, rfl, ho0, ho1, hb⟩
      refine ⟨_, rfl, ?_⟩
      have HO980 := Aside0.mk (Kd.R_lower (Kd.R_new' (Kd.R_new' ho0 (Kd.R_lt HO973.out)) (Kd.R_lt HO976.out)) (below_size HB.out))
      have HO983 := Aside0.mk (Kd.R_lower (Kd.R_new' (Kd.R_new' ho1 (Kd.R_lt HO973.out)) (Kd.R_lt HO976.out)) (below_size HB.out))
      replace HO973 := Aside0.mk (Kd.R_mono (Kd.R_told (Kd.R_told (Kd.R_old HO973.out hb) (Kd.R_base ho0)) (Kd.R_base ho1)) (fun _ h_ => h_.1))
      replace HO976 := Aside0.mk (Kd.R_mono (Kd.R_told (Kd.R_told (Kd.R_old HO976.out hb) (Kd.R_base ho0)) (Kd.R_base ho1)) (fun _ h_ => h_.1))
      replace BK963 := Aside0.mk (blk_below BK963.out hb)
      replace BK964 := Aside0.mk (blk_below BK964.out hb)
      replace BK965 := Aside0.mk (blk_below BK965.out hb)
      replace HB := Aside0.mk (below_step HB.out hb)
      (try clear hb)
      (try clear ho0)
      (try clear ho1)
      obtain ⟨Ao52, co52, eo52⟩ := Kd.R_slice HO980.out
      (first | subst eo52 | (injection eo52 with f1_ f2_ f3_; have f4_ := f1_.symm; have f5_ := f3_.symm; clear f1_ f2_ f3_; subst f4_; subst f5_))
      obtain ⟨Ao53, co53, eo53⟩ := Kd.R_slice HO983.out
      (first | subst eo53 | (injection eo53 with f1_ f2_ f3_; have f4_ := f1_.symm; have f5_ := f3_.symm; clear f1_ f2_ f3_; subst f4_; subst f5_))
      refine hK.out _ _ ⟨(blk_cell BK963.out 0).trans rfl, (blk_cell BK963.out 1).trans rfl, (blk_cell BK963.out 2).trans rfl, (blk_cell BK964.out 0).trans rfl, (blk_cell BK964.out 1).trans rfl, (blk_cell BK964.out 2).trans rfl, (blk_cell BK965.out 0).trans rfl, (blk_cell BK965.out 1).trans rfl, (blk_cell BK965.out 2).trans rfl⟩ (fun hHeld => ?_)
      clear hK K
      refine Short.normS_ ?_
      refine one_ (i := 6) (N := some 29) #[true, true, true, true, true, true, true, false, false, false, false, false, false, false, false, false, false, false, false, false, false, false, false, false] rfl rfl (one_of HT_.out (by kernel_rfl)) (by decide) (fun K hK => ?_)
      refine Short.goesD_ Try.func35 #[.agg #[.bool t977, .slice Ao52 t978.length co52, .slice Ao53 t981.length co53], .agg #[.bool a0_0, .slice A0_1 l0_1.length c0_1, .slice A0_2 l0_2.length c0_2]] ?_
      with_reducible refine (rat_Compare.calls kj3 t977 _ _ t978 _ _ t981 a0_0 _ _ l0_1 _ _ l0_2 t984 _ ((Kd.R_reads' HO980.out).2.2) ((Kd.R_reads' HO980.out).2.1) ((Kd.R_reads' HO983.out).2.2) ((Kd.R_reads' HO983.out).2.1) (Kd.C_below HR0_1.out HB.out) HC0_1.out (Kd.C_below HR0_2.out HB.out) HC0_2.out A39.out).mono ?_
      rintro e w54 ⟨rfl, hb⟩
      refine ⟨_, rfl, ?_⟩
      replace HO973 := Aside0.mk (Kd.R_below HO973.out hb)
      replace HO976 := Aside0.mk (Kd.R_below HO976.out hb)
      replace HO980 := Aside0.mk (Kd.R_below HO980.out hb)
      replace HO983 := Aside0.mk (Kd.R_below HO983.out hb)
      replace BK963 := Aside0.mk (blk_below BK963.out hb)
      replace BK964 := Aside0.mk (blk_below BK964.out hb)
      replace BK965 := Aside0.mk (blk_below BK965.out hb)
      replace HB := Aside0.mk (below_step HB.out hb)
      (try clear hb)
      refine hK.out _ _ ⟨(blk_cell BK963.out 0).trans rfl, (blk_cell BK963.out 1).trans rfl, (blk_cell BK963.out 2).trans rfl, (blk_cell BK964.out 0).trans rfl, (blk_cell BK964.out 1).trans rfl, (blk_cell BK964.out 2).trans rfl, (blk_cell BK965.out 0).trans rfl, (blk_cell BK965.out 1).trans rfl, (blk_cell BK965.out 2).trans rfl⟩ (fun hHeld => ?_)
      clear hK K
      refine Short.normS_ ?_
      refine Short.pureS_ (i := 7) (N := some 30) #[true, true, true, true, true, true, true, true, false, false, false, false, false, false, false, false, false, false, false, false, false, false, false, false] (any_of HT_.out (by kernel_rfl)) ?_
      refine Short.pureS_ (i := 8) (N := some 31) #[true, true, true, true, true, true, true, true, true, false, false, false, false, false, false, false, false, false, false, false, false, false, false, false] (any_of HT_.out (by kernel_rfl)) ?_
      refine Short.takeS_ (i := 9) (N := some 32) #[true, true, true, true, true, true, true, true, true, true, false, false, false, false, false, false, false, false, false, false, false, false, false, false] (take_ofW HT_.out HW_.out (by kernel_rfl)) hHeld ?_
      refine Short.takeS_ (i := 10) (N := some 33) #[true, true, true, true, true, true, true, true, true, true, true, false, false, false, false, false, false, false, false, false, false, false, false, false] (take_ofW HT_.out HW_.out (by kernel_rfl)) hHeld ?_
      refine Short.takeS_ (i := 11) (N := some 34) #[true, true, true, true, true, true, true, true, true, true, true, true, false, false, false, false, false, false, false, false, false, false, false, false] (take_ofW HT_.out HW_.out (by kernel_rfl)) hHeld ?_
      refine Short.takeS_ (i := 14) (N := some 37) #[true, true, true, true, true, true, true, true, true, true, true, true, false, false, true, false, false, false, false, false, false, false, false, false] (take_ofW HT_.out HW_.out (by kernel_rfl)) hHeld ?_
      refine Short.takeS_ (i := 15) (N := some 38) #[true, true, true, true, true, true, true, true, true, true, true, true, false, false, true, true, false, false, false, false, false, false, false, false] (take_ofW HT_.out HW_.out (by kernel_rfl)) hHeld ?_
      refine Short.takeS_ (i := 17) (N := some 40) #[true, true, true, true, true, true, true, true, true, true, true, true, false, false, true, true, false, true, false, false, false, false, false, false] (take_ofW HT_.out HW_.out (by kernel_rfl)) hHeld ?_
      refine Short.takeS_ (i := 18) (N := some 41) #[true, true, true, true, true, true, true, true, true, true, true, true, false, false, true, true, false, true, true, false, false, false, false, false] (take_ofW HT_.out HW_.out (by kernel_rfl)) hHeld ?_
      refine one_ (i := 12) (N := some 35) #[true, true, true, true, true, true, true, true, true, true, true, true, true, false, true, true, false, true, true, false, false, false, false, false] rfl rfl (one_of HT_.out (by kernel_rfl)) (by decide) (fun K hK => ?_)
      refine Short.goesD_ Try.func28 #[.agg #[.bool a1_0, .slice A1_1 l1_1.length c1_1, .slice A1_2 l1_2.length c1_2], .agg #[.bool a2_0, .slice A2_1 l2_1.length c2_1, .slice A2_2 l2_2.length c2_2]] ?_
      with_reducible refine (rat_Add.calls kj3 a1_0 _ _ l1_1 _ _ l1_2 a2_0 _ _ l2_1 _ _ l2_2 t985 t986 t989 _ (Kd.C_below HR1_1.out HB.out) HC1_1.out (Kd.C_below HR1_2.out HB.out) HC1_2.out (Kd.C_below HR2_1.out HB.out) HC2_1.out (Kd.C_below HR2_2.out HB.out) HC2_2.out A41.out).mono ?_
      rintro e w55 ⟨v987, v990, rfl, ho0, ho1, hb⟩
      refine ⟨_, rfl, ?_⟩
      have HO988 := Aside0.mk (Kd.R_lower (Kd.R_new' (Kd.R_new' (Kd.R_new' (Kd.R_new' ho0 (Kd.R_lt HO973.out)) (Kd.R_lt HO976.out)) (Kd.R_lt HO980.out)) (Kd.R_lt HO983.out)) (below_size HB.out))
      have HO991 := Aside0.mk (Kd.R_lower (Kd.R_new' (Kd.R_new' (Kd.R_new' (Kd.R_new' ho1 (Kd.R_lt HO973.out)) (Kd.R_lt HO976.out)) (Kd.R_lt HO980.out)) (Kd.R_lt HO983.out)) (below_size HB.out))
      replace HO973 := Aside0.mk (Kd.R_mono (Kd.R_told (Kd.R_told (Kd.R_old HO973.out hb) (Kd.R_base ho0)) (Kd.R_base ho1)) (fun _ h_ => h_.1))
      replace HO976 := Aside0.mk (Kd.R_mono (Kd.R_told (Kd.R_told (Kd.R_old HO976.out hb) (Kd.R_base ho0)) (Kd.R_base ho1)) (fun _ h_ => h_.1))
      replace HO980 := Aside0.mk (Kd.R_mono (Kd.R_told (Kd.R_told (Kd.R_old HO980.out hb) (Kd.R_base ho0)) (Kd.R_base ho1)) (fun _ h_ => h_.1))
      replace HO983 := Aside0.mk (Kd.R_mono (Kd.R_told (Kd.R_told (Kd.R_old HO983.out hb) (Kd.R_base ho0)) (Kd.R_base ho1)) (fun _ h_ => h_.1))
      replace BK963 := Aside0.mk (blk_below BK963.out hb)
      replace BK964 := Aside0.mk (blk_below BK964.out hb)
      replace BK965 := Aside0.mk (blk_below BK965.out hb)
      replace HB := Aside0.mk (below_step HB.out hb)
      (try clear hb)
      (try clear ho0)
      (try clear ho1)
      obtain ⟨Ao56, co56, eo56⟩ := Kd.R_slice HO988.out
      (first | subst eo56 | (injection eo56 with f1_ f2_ f3_; have f4_ := f1_.symm; have f5_ := f3_.symm; clear f1_ f2_ f3_; subst f4_; subst f5_))
      obtain ⟨Ao57, co57, eo57⟩ := Kd.R_slice HO991.out
      (first | subst eo57 | (injection eo57 with f1_ f2_ f3_; have f4_ := f1_.symm; have f5_ := f3_.symm; clear f1_ f2_ f3_; subst f4_; subst f5_))
      refine hK.out _ _ ⟨(blk_cell BK963.out 0).trans rfl, (blk_cell BK963.out 1).trans rfl, (blk_cell BK963.out 2).trans rfl, (blk_cell BK964.out 0).trans rfl, (blk_cell BK964.out 1).trans rfl, (blk_cell BK964.out 2).trans rfl, (blk_cell BK965.out 0).trans rfl, (blk_cell BK965.out 1).trans rfl, (blk_cell BK965.out 2).trans rfl⟩ (fun hHeld => ?_)
      clear hK K
      refine Short.normS_ ?_
      refine one_ (i := 13) (N := some 36) #[true, true, true, true, true, true, true, true, true, true, true, true, true, true, true, true, false, true, true, false, false, false, false, false] rfl rfl (one_of HT_.out (by kernel_rfl)) (by decide) (fun K hK => ?_)
      refine Short.goesD_ Try.func32 #[.agg #[.bool a0_0, .slice A0_1 l0_1.length c0_1, .slice A0_2 l0_2.length c0_2], .agg #[.bool t985, .slice Ao56 t986.length co56, .slice Ao57 t989.length co57]] ?_
      with_reducible refine (rat_Mul.calls kj3 a0_0 _ _ l0_1 _ _ l0_2 t985 _ _ t986 _ _ t989 t992 t993 t996 _ (Kd.C_below HR0_1.out HB.out) HC0_1.out (Kd.C_below HR0_2.out HB.out) HC0_2.out ((Kd.R_reads' HO988.out).2.2) ((Kd.R_reads' HO988.out).2.1) ((Kd.R_reads' HO991.out).2.2) ((Kd.R_reads' HO991.out).2.1) A42.out).mono ?_
      rintro e w58 ⟨v994, v997, rfl, ho0, ho1, hb⟩
      refine ⟨_, rfl, ?_⟩
      have HO995 := Aside0.mk (Kd.R_lower (Kd.R_new' (Kd.R_new' (Kd.R_new' (Kd.R_new' (Kd.R_new' (Kd.R_new' ho0 (Kd.R_lt HO973.out)) (Kd.R_lt HO976.out)) (Kd.R_lt HO980.out)) (Kd.R_lt HO983.out)) (Kd.R_lt HO988.out)) (Kd.R_lt HO991.out)) (below_size HB.out))
      have HO998 := Aside0.mk (Kd.R_lower (Kd.R_new' (Kd.R_new' (Kd.R_new' (Kd.R_new' (Kd.R_new' (Kd.R_new' ho1 (Kd.R_lt HO973.out)) (Kd.R_lt HO976.out)) (Kd.R_lt HO980.out)) (Kd.R_lt HO983.out)) (Kd.R_lt HO988.out)) (Kd.R_lt HO991.out)) (below_size HB.out))
      replace HO973 := Aside0.mk (Kd.R_mono (Kd.R_told (Kd.R_told (Kd.R_old HO973.out hb) (Kd.R_base ho0)) (Kd.R_base ho1)) (fun _ h_ => h_.1))
      replace HO976 := Aside0.mk (Kd.R_mono (Kd.R_told (Kd.R_told (Kd.R_old HO976.out hb) (Kd.R_base ho0)) (Kd.R_base ho1)) (fun _ h_ => h_.1))
      replace HO980 := Aside0.mk (Kd.R_mono (Kd.R_told (Kd.R_told (Kd.R_old HO980.out hb) (Kd.R_base ho0)) (Kd.R_base ho1)) (fun _ h_ => h_.1))
      replace HO983 := Aside0.mk (Kd.R_mono (Kd.R_told (Kd.R_told (Kd.R_old HO983.out hb) (Kd.R_base ho0)) (Kd.R_base ho1)) (fun _ h_ => h_.1))
      replace HO988 := Aside0.mk (Kd.R_mono (Kd.R_told (Kd.R_told (Kd.R_old HO988.out hb) (Kd.R_base ho0)) (Kd.R_base ho1)) (fun _ h_ => h_.1))
      replace HO991 := Aside0.mk (Kd.R_mono (Kd.R_told (Kd.R_told (Kd.R_old HO991.out hb) (Kd.R_base ho0)) (Kd.R_base ho1)) (fun _ h_ => h_.1))
      replace BK963 := Aside0.mk (blk_below BK963.out hb)
      replace BK964 := Aside0.mk (blk_below BK964.out hb)
      replace BK965 := Aside0.mk (blk_below BK965.out hb)
      replace HB := Aside0.mk (below_step HB.out hb)
      (try clear hb)
      (try clear ho0)
      (try clear ho1)
      refine hK.out _ _ ⟨(blk_cell BK963.out 0).trans rfl, (blk_cell BK963.out 1).trans rfl, (blk_cell BK963.out 2).trans rfl, (blk_cell BK964.out 0).trans rfl, (blk_cell BK964.out 1).trans rfl, (blk_cell BK964.out 2).trans rfl, (blk_cell BK965.out 0).trans rfl, (blk_cell BK965.out 1).trans rfl, (blk_cell BK965.out 2).trans rfl⟩ (fun hHeld => ?_)
      clear hK K
      refine Short.normS_ ?_
      refine one_ (i := 16) (N := some 39) #[true, true, true, true, true, true, true, true, true, true, true, true, true, true, true, true, true, true, true, false, false, false, false, false] rfl rfl (one_of HT_.out (by kernel_rfl)) (by decide) (fun K hK => ?_)
      refine Short.goesD_ Try.func32 #[.agg #[.bool a0_0, .slice A0_1 l0_1.length c0_1, .slice A0_2 l0_2.length c0_2], .agg #[.bool a1_0, .slice A1_1 l1_1.length c1_1, .slice A1_2 l1_2.length c1_2]] ?_
      with_reducible refine (rat_Mul.calls kj3 a0_0 _ _ l0_1 _ _ l0_2 a1_0 _ _ l1_1 _ _ l1_2 t999 t1000 t1003 _ (Kd.C_below HR0_1.out HB.out) HC0_1.out (Kd.C_below HR0_2.out HB.out) HC0_2.out (Kd.C_below HR1_1.out HB.out) HC1_1.out (Kd.C_below HR1_2.out HB.out) HC1_2.out A43.out).mono ?_
      rintro e w59 ⟨v1001, v1004, rfl, ho0, ho1, hb⟩
      refine ⟨_, rfl, ?_⟩
      have HO1002 := Aside0.mk (Kd.R_lower (Kd.R_new' (Kd.R_new' (Kd.R_new' (Kd.R_new' (Kd.R_new' (Kd.R_new' (Kd.R_new' (Kd.R_new' ho0 (Kd.R_lt HO973.out)) (Kd.R_lt HO976.out)) (Kd.R_lt HO980.out)) (Kd.R_lt HO983.out)) (Kd.R_lt HO988.out)) (Kd.R_lt HO991.out)) (Kd.R_lt HO995.out)) (Kd.R_lt HO998.out)) (below_size HB.out))
      have HO1005 := Aside0.mk (Kd.R_lower (Kd.R_new' (Kd.R_new' (Kd.R_new' (Kd.R_new' (Kd.R_new' (Kd.R_new' (Kd.R_new' (Kd.R_new' ho1 (Kd.R_lt HO973.out)) (Kd.R_lt HO976.out)) (Kd.R_lt HO980.out)) (Kd.R_lt HO983.out)) (Kd.R_lt HO988.out)) (Kd.R_lt HO991.out)) (Kd.R_lt HO995.out)) (Kd.R_lt HO998.out)) (below_size HB.out))
      replace HO973 := Aside0.mk (Kd.R_mono (Kd.R_told (Kd.R_told (Kd.R_old HO973.out hb) (Kd.R_base ho0)) (Kd.R_base ho1)) (fun _ h_ => h_.1))
      replace HO976 := Aside0.mk (Kd.R_mono (Kd.R_told (Kd.R_told (Kd.R_old HO976.out hb) (Kd.R_base ho0)) (Kd.R_base ho1)) (fun _ h_ => h_.1))
      replace HO980 := Aside0.mk (Kd.R_mono (Kd.R_told (Kd.R_told (Kd.R_old HO980.out hb) (Kd.R_base ho0)) (Kd.R_base ho1)) (fun _ h_ => h_.1))
      replace HO983 := Aside0.mk (Kd.R_mono (Kd.R_told (Kd.R_told (Kd.R_old HO983.out hb) (Kd.R_base ho0)) (Kd.R_base ho1)) (fun _ h_ => h_.1))
      replace HO988 := Aside0.mk (Kd.R_mono (Kd.R_told (Kd.R_told (Kd.R_old HO988.out hb) (Kd.R_base ho0)) (Kd.R_base ho1)) (fun _ h_ => h_.1))
      replace HO991 := Aside0.mk (Kd.R_mono (Kd.R_told (Kd.R_told (Kd.R_old HO991.out hb) (Kd.R_base ho0)) (Kd.R_base ho1)) (fun _ h_ => h_.1))
      replace HO995 := Aside0.mk (Kd.R_mono (Kd.R_told (Kd.R_told (Kd.R_old HO995.out hb) (Kd.R_base ho0)) (Kd.R_base ho1)) (fun _ h_ => h_.1))
      replace HO998 := Aside0.mk (Kd.R_mono (Kd.R_told (Kd.R_told (Kd.R_old HO998.out hb) (Kd.R_base ho0)) (Kd.R_base ho1)) (fun _ h_ => h_.1))
      replace BK963 := Aside0.mk (blk_below BK963.out hb)
      replace BK964 := Aside0.mk (blk_below BK964.out hb)
      replace BK965 := Aside0.mk (blk_below BK965.out hb)
      replace HB := Aside0.mk (below_step HB.out hb)
      (try clear hb)
      (try clear ho0)
      (try clear ho1)
      refine hK.out _ _ ⟨(blk_cell BK963.out 0).trans rfl, (blk_cell BK963.out 1).trans rfl, (blk_cell BK963.out 2).trans rfl, (blk_cell BK964.out 0).trans rfl, (blk_cell BK964.out 1).trans rfl, (blk_cell BK964.out 2).trans rfl, (blk_cell BK965.out 0).trans rfl, (blk_cell BK965.out 1).trans rfl, (blk_cell BK965.out 2).trans rfl⟩ (fun hHeld => ?_)
      clear hK K
      refine Short.normS_ ?_
      refine one_ (i := 19) (N := some 42) #[true, true, true, true, true, true, true, true, true, true, true, true, true, true, true, true, true, true, true, true, false, false, false, false] rfl rfl (one_of HT_.out (by kernel_rfl)) (by decide) (fun K hK => ?_)
      refine Short.goesD_ Try.func32 #[.agg #[.bool a0_0, .slice A0_1 l0_1.length c0_1, .slice A0_2 l0_2.length c0_2], .agg #[.bool a2_0, .slice A2_1 l2_1.length c2_1, .slice A2_2 l2_2.length c2_2]] ?_
      with_reducible refine (rat_Mul.calls kj3 a0_0 _ _ l0_1 _ _ l0_2 a2_0 _ _ l2_1 _ _ l2_2 t1006 t1007 t1010 _ (Kd.C_below HR0_1.out HB.out) HC0_1.out (Kd.C_below HR0_2.out HB.out) HC0_2.out (Kd.C_below HR2_1.out HB.out) HC2_1.out (Kd.C_below HR2_2.out HB.out) HC2_2.out A44.out).mono ?_
      rintro e w60 ⟨v1008, v1011, rfl, ho0, ho1, hb⟩
      refine ⟨_, rfl, ?_⟩
      have HO1009 := Aside0.mk (Kd.R_lower (Kd.R_new' (Kd.R_new' (Kd.R_new' (Kd.R_new' (Kd.R_new' (Kd.R_new' (Kd.R_new' (Kd.R_new' (Kd.R_new' (Kd.R_new' ho0 (Kd.R_lt HO973.out)) (Kd.R_lt HO976.out)) (Kd.R_lt HO980.out)) (Kd.R_lt HO983.out)) (Kd.R_lt HO988.out)) (Kd.R_lt HO991.out)) (Kd.R_lt HO995.out)) (Kd.R_lt HO998.out)) (Kd.R_lt HO1002.out)) (Kd.R_lt HO1005.out)) (below_size HB.out))
      have HO1012 := Aside0.mk (Kd.R_lower (Kd.R_new' (Kd.R_new' (Kd.R_new' (Kd.R_new' (Kd.R_new' (Kd.R_new' (Kd.R_new' (Kd.R_new' (Kd.R_new' (Kd.R_new' ho1 (Kd.R_lt HO973.out)) (Kd.R_lt HO976.out)) (Kd.R_lt HO980.out)) (Kd.R_lt HO983.out)) (Kd.R_lt HO988.out)) (Kd.R_lt HO991.out)) (Kd.R_lt HO995.out)) (Kd.R_lt HO998.out)) (Kd.R_lt HO1002.out)) (Kd.R_lt HO1005.out)) (below_size HB.out))
      replace HO973 := Aside0.mk (Kd.R_mono (Kd.R_told (Kd.R_told (Kd.R_old HO973.out hb) (Kd.R_base ho0)) (Kd.R_base ho1)) (fun _ h_ => h_.1))
      replace HO976 := Aside0.mk (Kd.R_mono (Kd.R_told (Kd.R_told (Kd.R_old HO976.out hb) (Kd.R_base ho0)) (Kd.R_base ho1)) (fun _ h_ => h_.1))
      replace HO980 := Aside0.mk (Kd.R_mono (Kd.R_told (Kd.R_told (Kd.R_old HO980.out hb) (Kd.R_base ho0)) (Kd.R_base ho1)) (fun _ h_ => h_.1))
      replace HO983 := Aside0.mk (Kd.R_mono (Kd.R_told (Kd.R_told (Kd.R_old HO983.out hb) (Kd.R_base ho0)) (Kd.R_base ho1)) (fun _ h_ => h_.1))
      replace HO988 := Aside0.mk (Kd.R_mono (Kd.R_told (Kd.R_told (Kd.R_old HO988.out hb) (Kd.R_base ho0)) (Kd.R_base ho1)) (fun _ h_ => h_.1))
      replace HO991 := Aside0.mk (Kd.R_mono (Kd.R_told (Kd.R_told (Kd.R_old HO991.out hb) (Kd.R_base ho0)) (Kd.R_base ho1)) (fun _ h_ => h_.1))
      replace HO995 := Aside0.mk (Kd.R_mono (Kd.R_told (Kd.R_told (Kd.R_old HO995.out hb) (Kd.R_base ho0)) (Kd.R_base ho1)) (fun _ h_ => h_.1))
      replace HO998 := Aside0.mk (Kd.R_mono (Kd.R_told (Kd.R_told (Kd.R_old HO998.out hb) (Kd.R_base ho0)) (Kd.R_base ho1)) (fun _ h_ => h_.1))
      replace HO1002 := Aside0.mk (Kd.R_mono (Kd.R_told (Kd.R_told (Kd.R_old HO1002.out hb) (Kd.R_base ho0)) (Kd.R_base ho1)) (fun _ h_ => h_.1))
      replace HO1005 := Aside0.mk (Kd.R_mono (Kd.R_told (Kd.R_told (Kd.R_old HO1005.out hb) (Kd.R_base ho0)) (Kd.R_base ho1)) (fun _ h_ => h_.1))
      replace BK963 := Aside0.mk (blk_below BK963.out hb)
      replace BK964 := Aside0.mk (blk_below BK964.out hb)
      replace BK965 := Aside0.mk (blk_below BK965.out hb)
      replace HB := Aside0.mk (below_step HB.out hb)
      (try clear hb)
      (try clear ho0)
      (try clear ho1)
      obtain ⟨Ao61, co61, eo61⟩ := Kd.R_slice HO1002.out
      (first | subst eo61 | (injection eo61 with f1_ f2_ f3_; have f4_ := f1_.symm; have f5_ := f3_.symm; clear f1_ f2_ f3_; subst f4_; subst f5_))
      obtain ⟨Ao62, co62, eo62⟩ := Kd.R_slice HO1005.out
      (first | subst eo62 | (injection eo62 with f1_ f2_ f3_; have f4_ := f1_.symm; have f5_ := f3_.symm; clear f1_ f2_ f3_; subst f4_; subst f5_))
      obtain ⟨Ao63, co63, eo63⟩ := Kd.R_slice HO1009.out
      (first | subst eo63 | (injection eo63 with f1_ f2_ f3_; have f4_ := f1_.symm; have f5_ := f3_.symm; clear f1_ f2_ f3_; subst f4_; subst f5_))
      obtain ⟨Ao64, co64, eo64⟩ := Kd.R_slice HO1012.out
      (first | subst eo64 | (injection eo64 with f1_ f2_ f3_; have f4_ := f1_.symm; have f5_ := f3_.symm; clear f1_ f2_ f3_; subst f4_; subst f5_))
      refine hK.out _ _ ⟨(blk_cell BK963.out 0).trans rfl, (blk_cell BK963.out 1).trans rfl, (blk_cell BK963.out 2).trans rfl, (blk_cell BK964.out 0).trans rfl, (blk_cell BK964.out 1).trans rfl, (blk_cell BK964.out 2).trans rfl, (blk_cell BK965.out 0).trans rfl, (blk_cell BK965.out 1).trans rfl, (blk_cell BK965.out 2).trans rfl⟩ (fun hHeld => ?_)
      clear hK K
      refine Short.normS_ ?_
      refine one_ (i := 20) (N := some 43) #[true, true, true, true, true, true, true, true, true, true, true, true, true, true, true, true, true, true, true, true, true, false, false, false] rfl rfl (one_of HT_.out (by kernel_rfl)) (by decide) (fun K hK => ?_)
      refine Short.goesD_ Try.func28 #[.agg #[.bool t999, .slice Ao61 t1000.length co61, .slice Ao62 t1003.length co62], .agg #[.bool t1006, .slice Ao63 t1007.length co63, .slice Ao64 t1010.length co64]] ?_
      with_reducible refine (rat_Add.calls kj3 t999 _ _ t1000 _ _ t1003 t1006 _ _ t1007 _ _ t1010 t1013 t1014 t1017 _ ((Kd.R_reads' HO1002.out).2.2) ((Kd.R_reads' HO1002.out).2.1) ((Kd.R_reads' HO1005.out).2.2) ((Kd.R_reads' HO1005.out).2.1) ((Kd.R_reads' HO1009.out).2.2) ((Kd.R_reads' HO1009.out).2.1) ((Kd.R_reads' HO1012.out).2.2) ((Kd.R_reads' HO1012.out).2.1) A45.out).mono ?_
      rintro e w65 ⟨v1015, v1018, rfl, ho0, ho1, hb⟩
      refine ⟨_, rfl, ?_⟩
      have HO1016 := Aside0.mk (Kd.R_lower (Kd.R_new' (Kd.R_new' (Kd.R_new' (Kd.R_new' (Kd.R_new' (Kd.R_new' (Kd.R_new' (Kd.R_new' (Kd.R_new' (Kd.R_new' (Kd.R_new' (Kd.R_new' ho0 (Kd.R_lt HO973.out)) (Kd.R_lt HO976.out)) (Kd.R_lt HO980.out)) (Kd.R_lt HO983.out)) (Kd.R_lt HO988.out)) (Kd.R_lt HO991.out)) (Kd.R_lt HO995.out)) (Kd.R_lt HO998.out)) (Kd.R_lt HO1002.out)) (Kd.R_lt HO1005.out)) (Kd.R_lt HO1009.out)) (Kd.R_lt HO1012.out)) (below_size HB.out))
      have HO1019 := Aside0.mk (Kd.R_lower (Kd.R_new' (Kd.R_new' (Kd.R_new' (Kd.R_new' (Kd.R_new' (Kd.R_new' (Kd.R_new' (Kd.R_new' (Kd.R_new' (Kd.R_new' (Kd.R_new' (Kd.R_new' ho1 (Kd.R_lt HO973.out)) (Kd.R_lt HO976.out)) (Kd.R_lt HO980.out)) (Kd.R_lt HO983.out)) (Kd.R_lt HO988.out)) (Kd.R_lt HO991.out)) (Kd.R_lt HO995.out)) (Kd.R_lt HO998.out)) (Kd.R_lt HO1002.out)) (Kd.R_lt HO1005.out)) (Kd.R_lt HO1009.out)) (Kd.R_lt HO1012.out)) (below_size HB.out))
      replace HO973 := Aside0.mk (Kd.R_mono (Kd.R_told (Kd.R_told (Kd.R_old HO973.out hb) (Kd.R_base ho0)) (Kd.R_base ho1)) (fun _ h_ => h_.1))
      replace HO976 := Aside0.mk (Kd.R_mono (Kd.R_told (Kd.R_told (Kd.R_old HO976.out hb) (Kd.R_base ho0)) (Kd.R_base ho1)) (fun _ h_ => h_.1))
      replace HO980 := Aside0.mk (Kd.R_mono (Kd.R_told (Kd.R_told (Kd.R_old HO980.out hb) (Kd.R_base ho0)) (Kd.R_base ho1)) (fun _ h_ => h_.1))
      replace HO983 := Aside0.mk (Kd.R_mono (Kd.R_told (Kd.R_told (Kd.R_old HO983.out hb) (Kd.R_base ho0)) (Kd.R_base ho1)) (fun _ h_ => h_.1))
      replace HO988 := Aside0.mk (Kd.R_mono (Kd.R_told (Kd.R_told (Kd.R_old HO988.out hb) (Kd.R_base ho0)) (Kd.R_base ho1)) (fun _ h_ => h_.1))
      replace HO991 := Aside0.mk (Kd.R_mono (Kd.R_told (Kd.R_told (Kd.R_old HO991.out hb) (Kd.R_base ho0)) (Kd.R_base ho1)) (fun _ h_ => h_.1))
      replace HO995 := Aside0.mk (Kd.R_mono (Kd.R_told (Kd.R_told (Kd.R_old HO995.out hb) (Kd.R_base ho0)) (Kd.R_base ho1)) (fun _ h_ => h_.1))
      replace HO998 := Aside0.mk (Kd.R_mono (Kd.R_told (Kd.R_told (Kd.R_old HO998.out hb) (Kd.R_base ho0)) (Kd.R_base ho1)) (fun _ h_ => h_.1))
      replace HO1002 := Aside0.mk (Kd.R_mono (Kd.R_told (Kd.R_told (Kd.R_old HO1002.out hb) (Kd.R_base ho0)) (Kd.R_base ho1)) (fun _ h_ => h_.1))
      replace HO1005 := Aside0.mk (Kd.R_mono (Kd.R_told (Kd.R_told (Kd.R_old HO1005.out hb) (Kd.R_base ho0)) (Kd.R_base ho1)) (fun _ h_ => h_.1))
      replace HO1009 := Aside0.mk (Kd.R_mono (Kd.R_told (Kd.R_told (Kd.R_old HO1009.out hb) (Kd.R_base ho0)) (Kd.R_base ho1)) (fun _ h_ => h_.1))
      replace HO1012 := Aside0.mk (Kd.R_mono (Kd.R_told (Kd.R_told (Kd.R_old HO1012.out hb) (Kd.R_base ho0)) (Kd.R_base ho1)) (fun _ h_ => h_.1))
      replace BK963 := Aside0.mk (blk_below BK963.out hb)
      replace BK964 := Aside0.mk (blk_below BK964.out hb)
      replace BK965 := Aside0.mk (blk_below BK965.out hb)
      replace HB := Aside0.mk (below_step HB.out hb)
      (try clear hb)
      (try clear ho0)
      (try clear ho1)
      obtain ⟨Ao66, co66, eo66⟩ := Kd.R_slice HO995.out
      (first | subst eo66 | (injection eo66 with f1_ f2_ f3_; have f4_ := f1_.symm; have f5_ := f3_.symm; clear f1_ f2_ f3_; subst f4_; subst f5_))
      obtain ⟨Ao67, co67, eo67⟩ := Kd.R_slice HO998.out
      (first | subst eo67 | (injection eo67 with f1_ f2_ f3_; have f4_ := f1_.symm; have f5_ := f3_.symm; clear f1_ f2_ f3_; subst f4_; subst f5_))
      obtain ⟨Ao68, co68, eo68⟩ := Kd.R_slice HO1016.out
      (first | subst eo68 | (injection eo68 with f1_ f2_ f3_; have f4_ := f1_.symm; have f5_ := f3_.symm; clear f1_ f2_ f3_; subst f4_; subst f5_))
      obtain ⟨Ao69, co69, eo69⟩ := Kd.R_slice HO1019.out
      (first | subst eo69 | (injection eo69 with f1_ f2_ f3_; have f4_ := f1_.symm; have f5_ := f3_.symm; clear f1_ f2_ f3_; subst f4_; subst f5_))
      refine hK.out _ _ ⟨(blk_cell BK963.out 0).trans rfl, (blk_cell BK963.out 1).trans rfl, (blk_cell BK963.out 2).trans rfl, (blk_cell BK964.out 0).trans rfl, (blk_cell BK964.out 1).trans rfl, (blk_cell BK964.out 2).trans rfl, (blk_cell BK965.out 0).trans rfl, (blk_cell BK965.out 1).trans rfl, (blk_cell BK965.out 2).trans rfl⟩ (fun hHeld => ?_)
      clear hK K
      refine Short.normS_ ?_
      refine one_ (i := 21) (N := some 44) #[true, true, true, true, true, true, true, true, true, true, true, true, true, true, true, true, true, true, true, true, true, true, false, false] rfl rfl (one_of HT_.out (by kernel_rfl)) (by decide) (fun K hK => ?_)
      refine Short.goesD_ Try.func35 #[.agg #[.bool t992, .slice Ao66 t993.length co66, .slice Ao67 t996.length co67], .agg #[.bool t1013, .slice Ao68 t1014.length co68, .slice Ao69 t1017.length co69]] ?_
      with_reducible refine (rat_Compare.calls kj3 t992 _ _ t993 _ _ t996 t1013 _ _ t1014 _ _ t1017 t1020 _ ((Kd.R_reads' HO995.out).2.2) ((Kd.R_reads' HO995.out).2.1) ((Kd.R_reads' HO998.out).2.2) ((Kd.R_reads' HO998.out).2.1) ((Kd.R_reads' HO1016.out).2.2) ((Kd.R_reads' HO1016.out).2.1) ((Kd.R_reads' HO1019.out).2.2) ((Kd.R_reads' HO1019.out).2.1) A46.out).mono ?_
      rintro e w70 ⟨rfl, hb⟩
      refine ⟨_, rfl, ?_⟩
      replace HO973 := Aside0.mk (Kd.R_below HO973.out hb)
      replace HO976 := Aside0.mk (Kd.R_below HO976.out hb)
      replace HO980 := Aside0.mk (Kd.R_below HO980.out hb)
      replace HO983 := Aside0.mk (Kd.R_below HO983.out hb)
      replace HO988 := Aside0.mk (Kd.R_below HO988.out hb)
      replace HO991 := Aside0.mk (Kd.R_below HO991.out hb)
      replace HO995 := Aside0.mk (Kd.R_below HO995.out hb)
      replace HO998 := Aside0.mk (Kd.R_below HO998.out hb)
      replace HO1002 := Aside0.mk (Kd.R_below HO1002.out hb)
      replace HO1005 := Aside0.mk (Kd.R_below HO1005.out hb)
      replace HO1009 := Aside0.mk (Kd.R_below HO1009.out hb)
      replace HO1012 := Aside0.mk (Kd.R_below HO1012.out hb)
      replace HO1016 := Aside0.mk (Kd.R_below HO1016.out hb)
      replace HO1019 := Aside0.mk (Kd.R_below HO1019.out hb)
      replace BK963 := Aside0.mk (blk_below BK963.out hb)
      replace BK964 := Aside0.mk (blk_below BK964.out hb)
      replace BK965 := Aside0.mk (blk_below BK965.out hb)
      replace HB := Aside0.mk (below_step HB.out hb)
      (try clear hb)
      refine hK.out _ _ ⟨(blk_cell BK963.out 0).trans rfl, (blk_cell BK963.out 1).trans rfl, (blk_cell BK963.out 2).trans rfl, (blk_cell BK964.out 0).trans rfl, (blk_cell BK964.out 1).trans rfl, (blk_cell BK964.out 2).trans rfl, (blk_cell BK965.out 0).trans rfl, (blk_cell BK965.out 1).trans rfl, (blk_cell BK965.out 2).trans rfl⟩ (fun hHeld => ?_)
      clear hK K
      refine Short.normS_ ?_
      refine Short.pureS_ (i := 22) (N := some 45) #[true, true, true, true, true, true, true, true, true, true, true, true, true, true, true, true, true, true, true, true, true, true, true, false] (any_of HT_.out (by kernel_rfl)) ?_
      refine Short.pureS_ (i := 23) (N := some 46) #[true, true, true, true, true, true, true, true, true, true, true, true, true, true, true, true, true, true, true, true, true, true, true, true] (any_of HT_.out (by kernel_rfl)) ?_
      refine done_ (done_of HT_.out (by kernel_rfl)) ?_
      try go_wp2
      go_meet
      case rel => exact ⟨_, ((t1020 != 0)), (by first | rfl | (simp; done) | (simp [*]; done)), H', ⟨by have := HJ3.out; first | omega | exact Nat.le_refl _⟩, ⟨by (with_reducible repeat (first | refine blk_drewN ?_ _ | refine blk_drew ?_ | refine blk_alloc ?_ _)); exact BK963.out⟩, ⟨by (with_reducible repeat (first | refine blk_drewN ?_ _ | refine blk_drew ?_ | refine blk_alloc ?_ _)); exact BK964.out⟩, ⟨by (with_reducible repeat (first | refine blk_drewN ?_ _ | refine blk_drew ?_ | refine blk_alloc ?_ _)); exact BK965.out⟩, ⟨by repeat (first | (with_reducible first | exact HB.out | apply below_alloc | apply pw_below_drewN | apply below_drew1 | refine below_set ?_ GE963.out | refine below_set ?_ GE964.out | refine below_set ?_ GE965.out) | exact HB.out)⟩⟩
     ·rw [if_neg c40] at H
      have c40b0 : (t984 == 0) = false := beq_eq_false_iff_ne.mpr c40
      have c40b1 : (t984 != 0) = true := bne_iff_ne.mpr c40
      (first | rw [c40b0] | (simp only [i64_w, i32_w]; rw [c40b0]) | skip)
      have H' := Aside0.mk H
      clear H
      try go_wp2
      replace BK963 := Aside0.mk (blk_drew BK963.out)
      replace BK964 := Aside0.mk (blk_drew BK964.out)
      replace BK965 := Aside0.mk (blk_drew BK965.out)
      replace HB := Aside0.mk (below_drew1 HB.out)
      refine start_ (n := 24) (S := fun w' => w'.cell? ⟨gb963, 0, none⟩ = some (.bool a0_0) ∧ w'.cell? ⟨gb963, 1, none⟩ = some (.slice A0_1 l0_1.length c0_1) ∧ w'.cell? ⟨gb963, 2, none⟩ = some (.slice A0_2 l0_2.length c0_2) ∧ w'.cell? ⟨gb964, 0, none⟩ = some (.bool a1_0) ∧ w'.cell? ⟨gb964, 1, none⟩ = some (.slice A1_1 l1_1.length c1_1) ∧ w'.cell? ⟨gb964, 2, none⟩ = some (.slice A1_2 l1_2.length c1_2)) (ds := []) #[false, false, false, false, false, false, false, false, false, false, false, false, false, false, false, false, false, false, false, false, false, false, false, false] (by kernel_rfl) rfl rfl ⟨(blk_cell BK963.out 0).trans rfl, (blk_cell BK963.out 1).trans rfl, (blk_cell BK963.out 2).trans rfl, (blk_cell BK964.out 0).trans rfl, (blk_cell BK964.out 1).trans rfl, (blk_cell BK964.out 2).trans rfl⟩ (fun hHeld => ?_); refine with_tabW offcutlaw03_RatRules.tab3 offcutlaw03_RatRules.bits3 (fun HT_ HW_ => ?_)
      generalize wc.drew = w71 at BK963 BK964 BK965 HB hHeld ⊢
      refine Short.takeS_ (i := 0) (N := some 23) #[true, false, false, false, false, false, false, false, false, false, false, false, false, false, false, false, false, false, false, false, false, false, false, false] (take_ofW HT_.out HW_.out (by kernel_rfl)) hHeld ?_
      refine Short.takeS_ (i := 1) (N := some 24) #[true, true, false, false, false, false, false, false, false, false, false, false, false, false, false, false, false, false, false, false, false, false, false, false] (take_ofW HT_.out HW_.out (by kernel_rfl)) hHeld ?_
      refine Short.takeS_ (i := 3) (N := some 26) #[true, true, false, true, false, false, false, false, false, false, false, false, false, false, false, false, false, false, false, false, false, false, false, false] (take_ofW HT_.out HW_.out (by kernel_rfl)) hHeld ?_
      refine Short.takeS_ (i := 5) (N := some 28) #[true, true, false, true, false, true, false, false, false, false, false, false, false, false, false, false, false, false, false, false, false, false, false, false] (take_ofW HT_.out HW_.out (by kernel_rfl)) hHeld ?_
      refine one_ (i := 2) (N := some 25) #[true, true, true, true, false, true, false, false, false, false, false, false, false, false, false, false, false, false, false, false, false, false, false, false] rfl rfl (one_of HT_.out (by kernel_rfl)) (by decide) (fun K hK => ?_)
      refine Short.goesD_ Try.func28 #[.agg #[.bool a0_0, .slice A0_1 l0_1.length c0_1, .slice A0_2 l0_2.length c0_2], .agg #[.bool a1_0, .slice A1_1 l1_1.length c1_1, .slice A1_2 l1_2.length c1_2]] ?_
      with_reducible refine (rat_Add.calls kj3 a0_0 _ _ l0_1 _ _ l0_2 a1_0 _ _ l1_1 _ _ l1_2 t970 t971 t974 _ (Kd.C_below HR0_1.out HB.out) HC0_1.out (Kd.C_below HR0_2.out HB.out) HC0_2.out (Kd.C_below HR1_1.out HB.out) HC1_1.out (Kd.C_below HR1_2.out HB.out) HC1_2.out A37.out).mono ?_
      rintro e w72 ⟨v972, v975, rfl, ho0, ho1, hb⟩
      refine ⟨_, rfl, ?_⟩
      have HO973 := Aside0.mk (Kd.R_lower ho0 (below_size HB.out))
      have HO976 := Aside0.mk (Kd.R_lower ho1 (below_size HB.out))
      replace BK963 := Aside0.mk (blk_below BK963.out hb)
      replace BK964 := Aside0.mk (blk_below BK964.out hb)
      replace BK965 := Aside0.mk (blk_below BK965.out hb)
      replace HB := Aside0.mk (below_step HB.out hb)
      (try clear hb)
      (try clear ho0)
      (try clear ho1)
      obtain ⟨Ao73, co73, eo73⟩ := Kd.R_slice HO973.out
      (first | subst eo73 | (injection eo73 with f1_ f2_ f3_; have f4_ := f1_.symm; have f5_ := f3_.symm; clear f1_ f2_ f3_; subst f4_; subst f5_))
      obtain ⟨Ao74, co74, eo74⟩ := Kd.R_slice HO976.out
      (first | subst eo74 | (injection eo74 with f1_ f2_ f3_; have f4_ := f1_.symm; have f5_ := f3_.symm; clear f1_ f2_ f3_; subst f4_; subst f5_))
      refine hK.out _ _ ⟨(blk_cell BK963.out 0).trans rfl, (blk_cell BK963.out 1).trans rfl, (blk_cell BK963.out 2).trans rfl, (blk_cell BK964.out 0).trans rfl, (blk_cell BK964.out 1).trans rfl, (blk_cell BK964.out 2).trans rfl⟩ (fun hHeld => ?_)
      clear hK K
      refine Short.normS_ ?_
      refine one_ (i := 4) (N := some 27) #[true, true, true, true, true, true, false, false, false, false, false, false, false, false, false, false, false, false, false, false, false, false, false, false] rfl rfl (one_of HT_.out (by kernel_rfl)) (by decide) (fun K hK => ?_)
      refine Short.goesD_ Try.func30 #[.agg #[.bool t970, .slice Ao73 t971.length co73, .slice Ao74 t974.length co74], .agg #[.bool a1_0, .slice A1_1 l1_1.length c1_1, .slice A1_2 l1_2.length c1_2]] ?_
      with_reducible refine (rat_Sub.calls kj3 t970 _ _ t971 _ _ t974 a1_0 _ _ l1_1 _ _ l1_2 t977 t978 t981 _ ((Kd.R_reads' HO973.out).2.2) ((Kd.R_reads' HO973.out).2.1) ((Kd.R_reads' HO976.out).2.2) ((Kd.R_reads' HO976.out).2.1) (Kd.C_below HR1_1.out HB.out) HC1_1.out (Kd.C_below HR1_2.out HB.out) HC1_2.out A38.out).mono ?_
      rintro e w75 ⟨v979, v982, rfl, ho0, ho1, hb⟩
      refine ⟨_, rfl, ?_⟩
      have HO980 := Aside0.mk (Kd.R_lower (Kd.R_new' (Kd.R_new' ho0 (Kd.R_lt HO973.out)) (Kd.R_lt HO976.out)) (below_size HB.out))
      have HO983 := Aside0.mk (Kd.R_lower (Kd.R_new' (Kd.R_new' ho1 (Kd.R_lt HO973.out)) (Kd.R_lt HO976.out)) (below_size HB.out))
      replace HO973 := Aside0.mk (Kd.R_mono (Kd.R_told (Kd.R_told (Kd.R_old HO973.out hb) (Kd.R_base ho0)) (Kd.R_base ho1)) (fun _ h_ => h_.1))
      replace HO976 := Aside0.mk (Kd.R_mono (Kd.R_told (Kd.R_told (Kd.R_old HO976.out hb) (Kd.R_base ho0)) (Kd.R_base ho1)) (fun _ h_ => h_.1))
      replace BK963 := Aside0.mk (blk_below BK963.out hb)
      replace BK964 := Aside0.mk (blk_below BK964.out hb)
      replace BK965 := Aside0.mk (blk_below BK965.out hb)
      replace HB := Aside0.mk (below_step HB.out hb)
      (try clear hb)
      (try clear ho0)
      (try clear ho1)
      obtain ⟨Ao76, co76, eo76⟩ := Kd.R_slice HO980.out
      (first | subst eo76 | (injection eo76 with f1_ f2_ f3_; have f4_ := f1_.symm; have f5_ := f3_.symm; clear f1_ f2_ f3_; subst f4_; subst f5_))
      obtain ⟨Ao77, co77, eo77⟩ := Kd.R_slice HO983.out
      (first | subst eo77 | (injection eo77 with f1_ f2_ f3_; have f4_ := f1_.symm; have f5_ := f3_.symm; clear f1_ f2_ f3_; subst f4_; subst f5_))
      refine hK.out _ _ ⟨(blk_cell BK963.out 0).trans rfl, (blk_cell BK963.out 1).trans rfl, (blk_cell BK963.out 2).trans rfl, (blk_cell BK964.out 0).trans rfl, (blk_cell BK964.out 1).trans rfl, (blk_cell BK964.out 2).trans rfl⟩ (fun hHeld => ?_)
      clear hK K
      refine Short.normS_ ?_
      refine one_ (i := 6) (N := some 29) #[true, true, true, true, true, true, true, false, false, false, false, false, false, false, false, false, false, false, false, false, false, false, false, false] rfl rfl (one_of HT_.out (by kernel_rfl)) (by decide) (fun K hK => ?_)
      refine Short.goesD_ Try.func35 #[.agg #[.bool t977, .slice Ao76 t978.length co76, .slice Ao77 t981.length co77], .agg #[.bool a0_0, .slice A0_1 l0_1.length c0_1, .slice A0_2 l0_2.length c0_2]] ?_
      with_reducible refine (rat_Compare.calls kj3 t977 _ _ t978 _ _ t981 a0_0 _ _ l0_1 _ _ l0_2 t984 _ ((Kd.R_reads' HO980.out).2.2) ((Kd.R_reads' HO980.out).2.1) ((Kd.R_reads' HO983.out).2.2) ((Kd.R_reads' HO983.out).2.1) (Kd.C_below HR0_1.out HB.out) HC0_1.out (Kd.C_below HR0_2.out HB.out) HC0_2.out A39.out).mono ?_
      rintro e w78 ⟨rfl, hb⟩
      refine ⟨_, rfl, ?_⟩
      replace HO973 := Aside0.mk (Kd.R_below HO973.out hb)
      replace HO976 := Aside0.mk (Kd.R_below HO976.out hb)
      replace HO980 := Aside0.mk (Kd.R_below HO980.out hb)
      replace HO983 := Aside0.mk (Kd.R_below HO983.out hb)
      replace BK963 := Aside0.mk (blk_below BK963.out hb)
      replace BK964 := Aside0.mk (blk_below BK964.out hb)
      replace BK965 := Aside0.mk (blk_below BK965.out hb)
      replace HB := Aside0.mk (below_step HB.out hb)
      (try clear hb)
      refine hK.out _ _ ⟨(blk_cell BK963.out 0).trans rfl, (blk_cell BK963.out 1).trans rfl, (blk_cell BK963.out 2).trans rfl, (blk_cell BK964.out 0).trans rfl, (blk_cell BK964.out 1).trans rfl, (blk_cell BK964.out 2).trans rfl⟩ (fun hHeld => ?_)
      clear hK K
      refine Short.normS_ ?_
      refine Short.pureS_ (i := 7) (N := some 30) #[true, true, true, true, true, true, true, true, false, false, false, false, false, false, false, false, false, false, false, false, false, false, false, false] (any_of HT_.out (by kernel_rfl)) ?_
      refine Short.pureS_ (i := 8) (N := some 31) #[true, true, true, true, true, true, true, true, true, false, false, false, false, false, false, false, false, false, false, false, false, false, false, false] (any_of HT_.out (by kernel_rfl)) ?_
      refine pure_ (i := 9) (N := some 32) (v := undef) (a' := ?_) #[true, true, true, true, true, true, true, true, true, true, false, false, false, false, false, false, false, false, false, false, false, false, false, false] rfl rfl (any_of HT_.out (by kernel_rfl)) (fun _ _ _ h => h) (Or.inr ⟨by rfl, rfl⟩) ?_ ?_
      rotate_left
      ·simp only [Act.put, List.setIfInBounds_toArray, List.set_cons_zero, List.set_cons_succ, i64_w, i32_w]
       rfl
      refine pure_ (i := 10) (N := some 33) (v := undef) (a' := ?_) #[true, true, true, true, true, true, true, true, true, true, true, false, false, false, false, false, false, false, false, false, false, false, false, false] rfl rfl (any_of HT_.out (by kernel_rfl)) (fun _ _ _ h => h) (Or.inr ⟨by rfl, rfl⟩) ?_ ?_
      rotate_left
      ·simp only [Act.put, List.setIfInBounds_toArray, List.set_cons_zero, List.set_cons_succ, i64_w, i32_w]
       rfl
      refine pure_ (i := 11) (N := some 34) (v := undef) (a' := ?_) #[true, true, true, true, true, true, true, true, true, true, true, true, false, false, false, false, false, false, false, false, false, false, false, false] rfl rfl (any_of HT_.out (by kernel_rfl)) (fun _ _ _ h => h) (Or.inr ⟨by rfl, rfl⟩) ?_ ?_
      rotate_left
      ·simp only [Act.put, List.setIfInBounds_toArray, List.set_cons_zero, List.set_cons_succ, i64_w, i32_w]
       rfl
      refine pure_ (i := 12) (N := some 35) (v := undef) (a' := ?_) #[true, true, true, true, true, true, true, true, true, true, true, true, true, false, false, false, false, false, false, false, false, false, false, false] rfl rfl (any_of HT_.out (by kernel_rfl)) (fun _ _ _ h => h) (Or.inr ⟨by rfl, rfl⟩) ?_ ?_
      rotate_left
      ·simp only [Act.put, List.setIfInBounds_toArray, List.set_cons_zero, List.set_cons_succ, i64_w, i32_w]
       rfl
      refine pure_ (i := 13) (N := some 36) (v := undef) (a' := ?_) #[true, true, true, true, true, true, true, true, true, true, true, true, true, true, false, false, false, false, false, false, false, false, false, false] rfl rfl (any_of HT_.out (by kernel_rfl)) (fun _ _ _ h => h) (Or.inr ⟨by rfl, rfl⟩) ?_ ?_
      rotate_left
      ·simp only [Act.put, List.setIfInBounds_toArray, List.set_cons_zero, List.set_cons_succ, i64_w, i32_w]
       rfl
      refine pure_ (i := 14) (N := some 37) (v := undef) (a' := ?_) #[true, true, true, true, true, true, true, true, true, true, true, true, true, true, true, false, false, false, false, false, false, false, false, false] rfl rfl (any_of HT_.out (by kernel_rfl)) (fun _ _ _ h => h) (Or.inr ⟨by rfl, rfl⟩) ?_ ?_
      rotate_left
      ·simp only [Act.put, List.setIfInBounds_toArray, List.set_cons_zero, List.set_cons_succ, i64_w, i32_w]
       rfl
      refine pure_ (i := 15) (N := some 38) (v := undef) (a' := ?_) #[true, true, true, true, true, true, true, true, true, true, true, true, true, true, true, true, false, false, false, false, false, false, false, false] rfl rfl (any_of HT_.out (by kernel_rfl)) (fun _ _ _ h => h) (Or.inr ⟨by rfl, rfl⟩) ?_ ?_
      rotate_left
      ·simp only [Act.put, List.setIfInBounds_toArray, List.set_cons_zero, List.set_cons_succ, i64_w, i32_w]
       rfl
      refine pure_ (i := 16) (N := some 39) (v := undef) (a' := ?_) #[true, true, true, true, true, true, true, true, true, true, true, true, true, true, true, true, true, false, false, false, false, false, false, false] rfl rfl (any_of HT_.out (by kernel_rfl)) (fun _ _ _ h => h) (Or.inr ⟨by rfl, rfl⟩) ?_ ?_
      rotate_left
      ·simp only [Act.put, List.setIfInBounds_toArray, List.set_cons_zero, List.set_cons_succ, i64_w, i32_w]
       rfl
      refine pure_ (i := 17) (N := some 40) (v := undef) (a' := ?_) #[true, true, true, true, true, true, true, true, true, true, true, true, true, true, true, true, true, true, false, false, false, false, false, false] rfl rfl (any_of HT_.out (by kernel_rfl)) (fun _ _ _ h => h) (Or.inr ⟨by rfl, rfl⟩) ?_ ?_
      rotate_left
      ·simp only [Act.put, List.setIfInBounds_toArray, List.set_cons_zero, List.set_cons_succ, i64_w, i32_w]
       rfl
      refine pure_ (i := 18) (N := some 41) (v := undef) (a' := ?_) #[true, true, true, true, true, true, true, true, true, true, true, true, true, true, true, true, true, true, true, false, false, false, false, false] rfl rfl (any_of HT_.out (by kernel_rfl)) (fun _ _ _ h => h) (Or.inr ⟨by rfl, rfl⟩) ?_ ?_
      rotate_left
      ·simp only [Act.put, List.setIfInBounds_toArray, List.set_cons_zero, List.set_cons_succ, i64_w, i32_w]
       rfl
      refine pure_ (i := 19) (N := some 42) (v := undef) (a' := ?_) #[true, true, true, true, true, true, true, true, true, true, true, true, true, true, true, true, true, true, true, true, false, false, false, false] rfl rfl (any_of HT_.out (by kernel_rfl)) (fun _ _ _ h => h) (Or.inr ⟨by rfl, rfl⟩) ?_ ?_
      rotate_left
      ·simp only [Act.put, List.setIfInBounds_toArray, List.set_cons_zero, List.set_cons_succ, i64_w, i32_w]
       rfl
      refine pure_ (i := 20) (N := some 43) (v := undef) (a' := ?_) #[true, true, true, true, true, true, true, true, true, true, true, true, true, true, true, true, true, true, true, true, true, false, false, false] rfl rfl (any_of HT_.out (by kernel_rfl)) (fun _ _ _ h => h) (Or.inr ⟨by rfl, rfl⟩) ?_ ?_
      rotate_left
      ·simp only [Act.put, List.setIfInBounds_toArray, List.set_cons_zero, List.set_cons_succ, i64_w, i32_w]
       rfl
      refine pure_ (i := 21) (N := some 44) (v := undef) (a' := ?_) #[true, true, true, true, true, true, true, true, true, true, true, true, true, true, true, true, true, true, true, true, true, true, false, false] rfl rfl (any_of HT_.out (by kernel_rfl)) (fun _ _ _ h => h) (Or.inr ⟨by rfl, rfl⟩) ?_ ?_
      rotate_left
      ·simp only [Act.put, List.setIfInBounds_toArray, List.set_cons_zero, List.set_cons_succ, i64_w, i32_w]
       rfl
      refine pure_ (i := 22) (N := some 45) (v := undef) (a' := ?_) #[true, true, true, true, true, true, true, true, true, true, true, true, true, true, true, true, true, true, true, true, true, true, true, false] rfl rfl (any_of HT_.out (by kernel_rfl)) (fun _ _ _ h => h) (Or.inr ⟨by rfl, rfl⟩) ?_ ?_
      rotate_left
      ·simp only [Act.put, List.setIfInBounds_toArray, List.set_cons_zero, List.set_cons_succ, i64_w, i32_w]
       rfl
      refine Short.pureS_ (i := 23) (N := some 46) #[true, true, true, true, true, true, true, true, true, true, true, true, true, true, true, true, true, true, true, true, true, true, true, true] (any_of HT_.out (by kernel_rfl)) ?_
      refine done_ (done_of HT_.out (by kernel_rfl)) ?_
      try go_wp2
      go_meet
      case rel => exact ⟨_, (true), (by first | rfl | (simp; done) | (simp [*]; done)), H', ⟨by have := HJ3.out; first | omega | exact Nat.le_refl _⟩, ⟨by (with_reducible repeat (first | refine blk_drewN ?_ _ | refine blk_drew ?_ | refine blk_alloc ?_ _)); exact BK963.out⟩, ⟨by (with_reducible repeat (first | refine blk_drewN ?_ _ | refine blk_drew ?_ | refine blk_alloc ?_ _)); exact BK964.out⟩, ⟨by (with_reducible repeat (first | refine blk_drewN ?_ _ | refine blk_drew ?_ | refine blk_alloc ?_ _)); exact BK965.out⟩, ⟨by repeat (first | (with_reducible first | exact HB.out | apply below_alloc | apply pw_below_drewN | apply below_drew1 | refine below_set ?_ GE963.out | refine below_set ?_ GE964.out | refine below_set ?_ GE965.out) | exact HB.out)⟩⟩
    case rest =>
     clear HC36
     try clear c1
     try clear c2
     try clear p2
     try clear c3
     try clear c4
     try clear c28
     try clear c30
     try clear c32
     try clear c35
     try clear c40
     try clear c40b0
     try clear c40b1
     obtain ⟨kq, x46_35, rfl, HA, HJ35, BK963, BK964, BK965, HB⟩ := hcut
     cases kq with
     | zero => exact absurd HA.out (by simp [offcutlaw03_RatRules.j1])
     | succ kj35 =>
      have H := HA.out
      clear HA
      simp only [offcutlaw03_RatRules.j1] at H
      by_cases c79 : x46_35 = true
      ·subst c79
       have H1 : (some false) = some r := by rw [if_pos rfl] at H; exact H
       clear H
       have H := H1
       clear H1
       obtain rfl := Option.some.inj H
       exact absurd HRT.out (by decide)
      ·replace c79 := Bool.eq_false_iff.mpr c79
       subst c79
       have H1 : ((rat_Sign.f kj35 a1_0 l1_1 l1_2).bind fun t1021 => (if t1021 = 0 then (offcutlaw03_RatRules.j2 kj35 a0_0 l0_1 l0_2 a1_0 l1_1 l1_2 a2_0 l2_1 l2_2) else ((rat_Mul.f kj35 a0_0 l0_1 l0_2 a1_0 l1_1 l1_2).bind fun bt1022 => ((rat_Div.f kj35 bt1022.1 bt1022.2.1 bt1022.2.2 a1_0 l1_1 l1_2).bind fun bt1029 => (if bt1029.2.2.2 = 0 then ((rat_Compare.f kj35 bt1029.1 bt1029.2.1 bt1029.2.2.1 a0_0 l0_1 l0_2).bind fun t1038 => (if t1038 = 0 then (offcutlaw03_RatRules.j2 kj35 a0_0 l0_1 l0_2 a1_0 l1_1 l1_2 a2_0 l2_1 l2_2) else (some false))) else (some false)))))) = some r := by rw [if_neg (show ¬ (false = true) by decide)] at H; exact H
       clear H
       have H := H1
       clear H1
       replace H := Option.bind_eq_some_iff.mp H
       obtain ⟨t1021, A800, H⟩ := H
       try dsimp only at H
       have A80 := Aside0.mk A800
       clear A800
       have HC81 := Aside0.mk H
       clear H
       have hnb82 := NB964_963.out
       have hnc82 := NB963_964.out
       have hnb83 := NB964_965.out
       have hnc83 := NB965_964.out
       have hcz84_0 : wc.cell? ⟨gb964, 0, none⟩ = some (.bool a1_0) := (blk_cell BK964.out 0).trans rfl
       have hcz84_1 : wc.cell? ⟨gb964, 1, none⟩ = some (.slice A1_1 l1_1.length c1_1) := (blk_cell BK964.out 1).trans rfl
       have hcz84_2 : wc.cell? ⟨gb964, 2, none⟩ = some (.slice A1_2 l1_2.length c1_2) := (blk_cell BK964.out 2).trans rfl
       have hfz84_0 := blk_frozen BK964.out 0
       have hfz84_1 := blk_frozen BK964.out 1
       have hfz84_2 := blk_frozen BK964.out 2
       go_upto_if 49 with (first | ((with_reducible refine gate_callee (f := 14) rfl ?_); refine Short.goesS_ (some 48) Try.func14 #[.agg #[.bool a1_0, .slice A1_1 l1_1.length c1_1, .slice A1_2 l1_2.length c1_2]] ?_; (with_reducible refine (rat_Sign.calls kj35 a1_0 _ _ l1_1 _ _ l1_2 t1021 _ ?side1 HC1_1.out ?side3 HC1_2.out A80.out).mono ?_); (case side1 => repeat (first | exact (Kd.C_below HR1_1.out HB.out) | (with_reducible refine Kd.C_alloc ?_ _) | (with_reducible refine Kd.C_drewN ?_ _) | (with_reducible refine Kd.C_drew ?_))); (case side3 => repeat (first | exact (Kd.C_below HR1_2.out HB.out) | (with_reducible refine Kd.C_alloc ?_ _) | (with_reducible refine Kd.C_drewN ?_ _) | (with_reducible refine Kd.C_drew ?_))); rintro e w85 ⟨rfl, hb⟩; refine ⟨_, rfl, ?_⟩; replace BK963 := Short.blkB_ (g := gb963) hb; replace BK964 := Short.blkB_ (g := gb964) hb; replace BK965 := Short.blkB_ (g := gb965) hb; replace HB := Short.stepB_ (w := w) hb; (try clear hb)))
       (try simp only [Act.put, List.setIfInBounds_toArray, List.set_cons_zero, List.set_cons_succ])
       go_cut [] (fun wc => ∃ (kq : Nat), Aside0 (offcutlaw03_RatRules.j2 kq a0_0 l0_1 l0_2 a1_0 l1_1 l1_2 a2_0 l2_1 l2_2 = some r) ∧ Aside0 (kq ≤ kj35) ∧ Aside0 (wc.heap[gb963]? = some (.cells #[.bool a0_0, (.slice A0_1 l0_1.length c0_1), (.slice A0_2 l0_2.length c0_2)] 27 (0, 0))) ∧ Aside0 (wc.heap[gb964]? = some (.cells #[.bool a1_0, (.slice A1_1 l1_1.length c1_1), (.slice A1_2 l1_2.length c1_2)] 27 (0, 0))) ∧ Aside0 (wc.heap[gb965]? = some (.cells #[.bool a2_0, (.slice A2_1 l2_1.length c2_1), (.slice A2_2 l2_2.length c2_2)] 27 (0, 0))) ∧ Aside0 (Below w.heap.size w wc))
       case first =>
        have H := HC81.out
        clear HC81
        by_cases c86 : t1021 = 0
        ·rw [if_pos c86] at H
         have c86b0 : (t1021 == 0) = true := beq_iff_eq.mpr c86
         have c86b1 : (t1021 != 0) = false := bne_eq_false_iff_eq.mpr c86
         clear c86
         (first | rw [c86b0] | (simp only [i64_w, i32_w]; rw [c86b0]) | skip)
         have H' := Aside0.mk H
         clear H
         go_wp2
         go_meet
         case rel => exact ⟨_, H', ⟨by have := HJ3.out; have := HJ35.out; first | omega | exact Nat.le_refl _⟩, ⟨by (with_reducible repeat (first | refine blk_drewN ?_ _ | refine blk_drew ?_ | refine blk_alloc ?_ _)); exact BK963.out⟩, ⟨by (with_reducible repeat (first | refine blk_drewN ?_ _ | refine blk_drew ?_ | refine blk_alloc ?_ _)); exact BK964.out⟩, ⟨by (with_reducible repeat (first | refine blk_drewN ?_ _ | refine blk_drew ?_ | refine blk_alloc ?_ _)); exact BK965.out⟩, ⟨by repeat (first | (with_reducible first | exact HB.out | apply below_alloc | apply pw_below_drewN | apply below_drew1 | refine below_set ?_ GE963.out | refine below_set ?_ GE964.out | refine below_set ?_ GE965.out) | exact HB.out)⟩⟩
        ·rw [if_neg c86] at H
         have c86b0 : (t1021 == 0) = false := beq_eq_false_iff_ne.mpr c86
         have c86b1 : (t1021 != 0) = true := bne_iff_ne.mpr c86
         (first | rw [c86b0] | (simp only [i64_w, i32_w]; rw [c86b0]) | skip)
         replace H := Option.bind_eq_some_iff.mp H
         obtain ⟨⟨t1022, t1023, t1026⟩, A870, H⟩ := H
         try dsimp only at H
         have A87 := Aside0.mk A870
         clear A870
         replace H := Option.bind_eq_some_iff.mp H
         obtain ⟨⟨t1029, t1030, t1033, t1036⟩, A880, H⟩ := H
         try dsimp only at H
         have A88 := Aside0.mk A880
         clear A880
         by_cases c89 : t1036 = 0
         ·rw [if_pos c89] at H
          have c89b0 : (t1036 == 0) = true := beq_iff_eq.mpr c89
          have c89b1 : (t1036 != 0) = false := bne_eq_false_iff_eq.mpr c89
          clear c89
          replace H := Option.bind_eq_some_iff.mp H
          obtain ⟨t1038, A900, H⟩ := H
          try dsimp only at H
          have A90 := Aside0.mk A900
          clear A900
          by_cases c91 : t1038 = 0
          ·rw [if_pos c91] at H
           have c91b0 : (t1038 == 0) = true := beq_iff_eq.mpr c91
           have c91b1 : (t1038 != 0) = false := bne_eq_false_iff_eq.mpr c91
           clear c91
           have H' := Aside0.mk H
           clear H
           try go_wp2
           replace BK963 := Aside0.mk (blk_drew BK963.out)
           replace BK964 := Aside0.mk (blk_drew BK964.out)
           replace BK965 := Aside0.mk (blk_drew BK965.out)
           replace HB := Aside0.mk (below_drew1 HB.out)
           refine start_ (n := 11) (S := fun w' => w'.cell? ⟨gb963, 0, none⟩ = some (.bool a0_0) ∧ w'.cell? ⟨gb963, 1, none⟩ = some (.slice A0_1 l0_1.length c0_1) ∧ w'.cell? ⟨gb963, 2, none⟩ = some (.slice A0_2 l0_2.length c0_2) ∧ w'.cell? ⟨gb964, 0, none⟩ = some (.bool a1_0) ∧ w'.cell? ⟨gb964, 1, none⟩ = some (.slice A1_1 l1_1.length c1_1) ∧ w'.cell? ⟨gb964, 2, none⟩ = some (.slice A1_2 l1_2.length c1_2)) (ds := []) #[false, false, false, false, false, false, false, false, false, false, false] (by kernel_rfl) rfl rfl ⟨(blk_cell BK963.out 0).trans rfl, (blk_cell BK963.out 1).trans rfl, (blk_cell BK963.out 2).trans rfl, (blk_cell BK964.out 0).trans rfl, (blk_cell BK964.out 1).trans rfl, (blk_cell BK964.out 2).trans rfl⟩ (fun hHeld => ?_); refine with_tabW offcutlaw03_RatRules.tab6 offcutlaw03_RatRules.bits6 (fun HT_ HW_ => ?_)
           generalize w85.drew = w92 at BK963 BK964 BK965 HB hHeld ⊢
           refine Short.takeS_ (i := 0) (N := some 51) #[true, false, false, false, false, false, false, false, false, false, false] (take_ofW HT_.out HW_.out (by kernel_rfl)) hHeld ?_
           refine Short.takeS_ (i := 1) (N := some 52) #[true, true, false, false, false, false, false, false, false, false, false] (take_ofW HT_.out HW_.out (by kernel_rfl)) hHeld ?_
           refine Short.takeS_ (i := 3) (N := some 54) #[true, true, false, true, false, false, false, false, false, false, false] (take_ofW HT_.out HW_.out (by kernel_rfl)) hHeld ?_
           refine join_ (σ := Value × Value × Value × Value × Nat) 2 #[true, true, true, true, true, true, true, true, true, false, false] (fun s_ => [(53, .agg #[.bool t1022, s_.1, s_.2.1]), (55, .tuple #[.agg #[.bool t1029, s_.2.2.1, s_.2.2.2.1], .int .i64 t1036]), (7, .pointer (some ⟨s_.2.2.2.2, 0, none⟩)), (50, .tuple #[.agg #[.bool t1029, s_.2.2.1, s_.2.2.2.1], .int .i64 t1036]), (56, .agg #[.bool t1029, s_.2.2.1, s_.2.2.2.1]), (57, .int .i64 t1036)]) (fun s_ w' => (w'.cell? ⟨gb963, 0, none⟩ = some (.bool a0_0) ∧ w'.cell? ⟨gb963, 1, none⟩ = some (.slice A0_1 l0_1.length c0_1) ∧ w'.cell? ⟨gb963, 2, none⟩ = some (.slice A0_2 l0_2.length c0_2) ∧ w'.cell? ⟨gb964, 0, none⟩ = some (.bool a1_0) ∧ w'.cell? ⟨gb964, 1, none⟩ = some (.slice A1_1 l1_1.length c1_1) ∧ w'.cell? ⟨gb964, 2, none⟩ = some (.slice A1_2 l1_2.length c1_2)) ∧ (Kd.R (Kd.int .u32) 89 w' w.heap.size (fun k_ => some k_ ≠ (s_.2.1 : Value).ownBlock ∧ some k_ ≠ (s_.2.2.1 : Value).ownBlock ∧ some k_ ≠ (s_.2.2.2.1 : Value).ownBlock) s_.1 t1023) ∧ (Kd.R (Kd.int .u32) 89 w' w.heap.size (fun k_ => some k_ ≠ (s_.1 : Value).ownBlock ∧ some k_ ≠ (s_.2.2.1 : Value).ownBlock ∧ some k_ ≠ (s_.2.2.2.1 : Value).ownBlock) s_.2.1 t1026) ∧ (Kd.R (Kd.int .u32) 89 w' w.heap.size (fun k_ => some k_ ≠ (s_.1 : Value).ownBlock ∧ some k_ ≠ (s_.2.1 : Value).ownBlock ∧ some k_ ≠ (s_.2.2.2.1 : Value).ownBlock) s_.2.2.1 t1030) ∧ (Kd.R (Kd.int .u32) 89 w' w.heap.size (fun k_ => some k_ ≠ (s_.1 : Value).ownBlock ∧ some k_ ≠ (s_.2.1 : Value).ownBlock ∧ some k_ ≠ (s_.2.2.1 : Value).ownBlock) s_.2.2.2.1 t1033) ∧ (w'.heap[s_.2.2.2.2]? = some (.cells #[.bool false, .slice none 0 0, .slice none 0 0] 27 (0, 0))) ∧ (w'.heap[gb963]? = some (.cells #[.bool a0_0, .slice A0_1 l0_1.length c0_1, .slice A0_2 l0_2.length c0_2] 27 (0, 0))) ∧ (w'.heap[gb964]? = some (.cells #[.bool a1_0, .slice A1_1 l1_1.length c1_1, .slice A1_2 l1_2.length c1_2] 27 (0, 0))) ∧ (w'.heap[gb965]? = some (.cells #[.bool a2_0, .slice A2_1 l2_1.length c2_1, .slice A2_2 l2_2.length c2_2] 27 (0, 0))) ∧ (w.heap.size ≤ s_.2.2.2.2) ∧ (w.heap.size ≤ s_.2.2.2.2) ∧ (gb963 ≠ s_.2.2.2.2) ∧ (s_.2.2.2.2 ≠ gb963) ∧ (gb964 ≠ s_.2.2.2.2) ∧ (s_.2.2.2.2 ≠ gb964) ∧ (gb965 ≠ s_.2.2.2.2) ∧ (s_.2.2.2.2 ≠ gb965) ∧ (Below w.heap.size w w')) ?_ ?_
           rotate_left
           ·intro hCont
            refine two_ (i := 2) (j := 8) (Ni := some 53) (Nj := some 7) #[true, true, true, true, false, false, false, false, false, false, false] #[true, true, false, true, false, false, false, false, true, false, false] rfl rfl rfl rfl (two_of HT_.out (by kernel_rfl)) (by decide) (by decide) (fun K hK => ?_) (fun K hK => ?_)
            ·skip
             refine Short.goesD_ Try.func32 #[.agg #[.bool a0_0, .slice A0_1 l0_1.length c0_1, .slice A0_2 l0_2.length c0_2], .agg #[.bool a1_0, .slice A1_1 l1_1.length c1_1, .slice A1_2 l1_2.length c1_2]] ?_
             with_reducible refine (rat_Mul.calls kj35 a0_0 _ _ l0_1 _ _ l0_2 a1_0 _ _ l1_1 _ _ l1_2 t1022 t1023 t1026 _ (Kd.C_below HR0_1.out HB.out) HC0_1.out (Kd.C_below HR0_2.out HB.out) HC0_2.out (Kd.C_below HR1_1.out HB.out) HC1_1.out (Kd.C_below HR1_2.out HB.out) HC1_2.out A87.out).mono ?_
             rintro e w93 ⟨v1024, v1027, rfl, ho0, ho1, hb⟩
             refine ⟨_, rfl, ?_⟩
             have HO1025 := Aside0.mk (Kd.R_lower ho0 (below_size HB.out))
             have HO1028 := Aside0.mk (Kd.R_lower ho1 (below_size HB.out))
             replace BK963 := Aside0.mk (blk_below BK963.out hb)
             replace BK964 := Aside0.mk (blk_below BK964.out hb)
             replace BK965 := Aside0.mk (blk_below BK965.out hb)
             replace HB := Aside0.mk (below_step HB.out hb)
             (try clear hb)
             (try clear ho0)
             (try clear ho1)
             obtain ⟨Ao94, co94, eo94⟩ := Kd.R_slice HO1025.out
             (first | subst eo94 | (injection eo94 with f1_ f2_ f3_; have f4_ := f1_.symm; have f5_ := f3_.symm; clear f1_ f2_ f3_; subst f4_; subst f5_))
             obtain ⟨Ao95, co95, eo95⟩ := Kd.R_slice HO1028.out
             (first | subst eo95 | (injection eo95 with f1_ f2_ f3_; have f4_ := f1_.symm; have f5_ := f3_.symm; clear f1_ f2_ f3_; subst f4_; subst f5_))
             refine hK.out _ _ ⟨(blk_cell BK963.out 0).trans rfl, (blk_cell BK963.out 1).trans rfl, (blk_cell BK963.out 2).trans rfl, (blk_cell BK964.out 0).trans rfl, (blk_cell BK964.out 1).trans rfl, (blk_cell BK964.out 2).trans rfl⟩ (fun hHeld => ?_)
             clear hK K
             refine Short.normS_ ?_
             refine two_ (i := 4) (j := 8) (Ni := some 55) (Nj := some 7) #[true, true, true, true, true, false, false, false, false, false, false] #[true, true, true, true, false, false, false, false, true, false, false] rfl rfl rfl rfl (two_of HT_.out (by kernel_rfl)) (by decide) (by decide) (fun K hK => ?_) (fun K hK => ?_)
             ·skip
              refine Short.goesD_ Try.func12 #[.agg #[.bool t1022, .slice Ao94 t1023.length co94, .slice Ao95 t1026.length co95], .agg #[.bool a1_0, .slice A1_1 l1_1.length c1_1, .slice A1_2 l1_2.length c1_2]] ?_
              with_reducible refine (rat_Div.calls kj35 t1022 _ _ t1023 _ _ t1026 a1_0 _ _ l1_1 _ _ l1_2 t1029 t1030 t1033 t1036 _ ((Kd.R_reads' HO1025.out).2.2) ((Kd.R_reads' HO1025.out).2.1) ((Kd.R_reads' HO1028.out).2.2) ((Kd.R_reads' HO1028.out).2.1) (Kd.C_below HR1_1.out HB.out) HC1_1.out (Kd.C_below HR1_2.out HB.out) HC1_2.out A88.out).mono ?_
              rintro e w96 ⟨v1031, v1034, rfl, ho0, ho1, hb⟩
              refine ⟨_, rfl, ?_⟩
              have HO1032 := Aside0.mk (Kd.R_lower (Kd.R_new' (Kd.R_new' ho0 (Kd.R_lt HO1025.out)) (Kd.R_lt HO1028.out)) (below_size HB.out))
              have HO1035 := Aside0.mk (Kd.R_lower (Kd.R_new' (Kd.R_new' ho1 (Kd.R_lt HO1025.out)) (Kd.R_lt HO1028.out)) (below_size HB.out))
              replace HO1025 := Aside0.mk (Kd.R_mono (Kd.R_told (Kd.R_told (Kd.R_old HO1025.out hb) (Kd.R_base ho0)) (Kd.R_base ho1)) (fun _ h_ => h_.1))
              replace HO1028 := Aside0.mk (Kd.R_mono (Kd.R_told (Kd.R_told (Kd.R_old HO1028.out hb) (Kd.R_base ho0)) (Kd.R_base ho1)) (fun _ h_ => h_.1))
              replace BK963 := Aside0.mk (blk_below BK963.out hb)
              replace BK964 := Aside0.mk (blk_below BK964.out hb)
              replace BK965 := Aside0.mk (blk_below BK965.out hb)
              replace HB := Aside0.mk (below_step HB.out hb)
              (try clear hb)
              (try clear ho0)
              (try clear ho1)
              refine hK.out _ _ ⟨(blk_cell BK963.out 0).trans rfl, (blk_cell BK963.out 1).trans rfl, (blk_cell BK963.out 2).trans rfl, (blk_cell BK964.out 0).trans rfl, (blk_cell BK964.out 1).trans rfl, (blk_cell BK964.out 2).trans rfl⟩ (fun hHeld => ?_)
              clear hK K
              refine Short.normS_ ?_
              refine Short.pureS_ (i := 5) (N := some 50) #[true, true, true, true, true, true, false, false, false, false, false] (any_of HT_.out (by kernel_rfl)) ?_
              refine Short.pureS_ (i := 6) (N := some 56) #[true, true, true, true, true, true, true, false, false, false, false] (any_of HT_.out (by kernel_rfl)) ?_
              refine Short.pureS_ (i := 7) (N := some 57) #[true, true, true, true, true, true, true, true, false, false, false] (any_of HT_.out (by kernel_rfl)) ?_
              refine one_ (i := 8) (N := some 7) #[true, true, true, true, true, true, true, true, true, false, false] rfl rfl (one_of HT_.out (by kernel_rfl)) (by decide) (fun K hK => ?_)
              refine Short.boxD_ (N := 7) (cs := #[.bool false, .slice none 0 0, .slice none 0 0]) (t := 27) ?_
              intro gb1037 hg w97 hbox hb
              replace HO1025 := Aside0.mk (Kd.R_below HO1025.out hb)
              replace HO1028 := Aside0.mk (Kd.R_below HO1028.out hb)
              replace HO1032 := Aside0.mk (Kd.R_below HO1032.out hb)
              replace HO1035 := Aside0.mk (Kd.R_below HO1035.out hb)
              have BK1037 := Aside0.mk (hbox)
              have GW1037 := Aside0.mk ((by rw [hg]; exact (below_size HB.out) : w.heap.size ≤ gb1037))
              have GE1037 := Aside0.mk ((by rw [hg]; exact (below_size HB.out) : w.heap.size ≤ gb1037))
              replace HB := Aside0.mk (below_step HB.out hb)
              have NB963_1037 := Short.ltA_ hg BK963
              have NB1037_963 := Short.gtA_ hg BK963
              replace BK963 := Aside0.mk (blk_below BK963.out hb)
              have NB964_1037 := Short.ltA_ hg BK964
              have NB1037_964 := Short.gtA_ hg BK964
              replace BK964 := Aside0.mk (blk_below BK964.out hb)
              have NB965_1037 := Short.ltA_ hg BK965
              have NB1037_965 := Short.gtA_ hg BK965
              replace BK965 := Aside0.mk (blk_below BK965.out hb)
              clear hb hbox hg
              refine hK.out _ _ ⟨(blk_cell BK963.out 0).trans rfl, (blk_cell BK963.out 1).trans rfl, (blk_cell BK963.out 2).trans rfl, (blk_cell BK964.out 0).trans rfl, (blk_cell BK964.out 1).trans rfl, (blk_cell BK964.out 2).trans rfl⟩ (fun hHeld => ?_)
              clear hK K
              refine Short.normS_ ?_
              exact Short.normP_ (hCont (.slice Ao94 t1023.length co94, .slice Ao95 t1026.length co95, v1031, v1034, gb1037) _ ⟨hHeld, (by (with_reducible repeat (first | apply Kd.R_alloc | apply Kd.R_drewN | apply Kd.R_drew)); exact Kd.R_mono HO1025.out (fun _ hk => ⟨hk.1.1, ⟨hk.1.2, hk.2⟩⟩)), (by (with_reducible repeat (first | apply Kd.R_alloc | apply Kd.R_drewN | apply Kd.R_drew)); exact Kd.R_mono HO1028.out (fun _ hk => ⟨hk.1.1, ⟨hk.1.2, hk.2⟩⟩)), (by (with_reducible repeat (first | apply Kd.R_alloc | apply Kd.R_drewN | apply Kd.R_drew)); exact Kd.R_mono HO1032.out (fun _ hk => ⟨hk.1.2, ⟨hk.2, hk.1.1⟩⟩)), (by (with_reducible repeat (first | apply Kd.R_alloc | apply Kd.R_drewN | apply Kd.R_drew)); exact Kd.R_mono HO1035.out (fun _ hk => ⟨hk.1.2, ⟨hk.2, hk.1.1⟩⟩)), BK1037.out, BK963.out, BK964.out, BK965.out, GW1037.out, GE1037.out, NB963_1037.out, NB1037_963.out, NB964_1037.out, NB1037_964.out, NB965_1037.out, NB1037_965.out, HB.out⟩)
             ·skip
              refine Short.boxD_ (N := 7) (cs := #[.bool false, .slice none 0 0, .slice none 0 0]) (t := 27) ?_
              intro gb1037 hg w94 hbox hb
              replace HO1025 := Aside0.mk (Kd.R_below HO1025.out hb)
              replace HO1028 := Aside0.mk (Kd.R_below HO1028.out hb)
              have BK1037 := Aside0.mk (hbox)
              have GW1037 := Aside0.mk ((by rw [hg]; exact (below_size HB.out) : w.heap.size ≤ gb1037))
              have GE1037 := Aside0.mk ((by rw [hg]; exact (below_size HB.out) : w.heap.size ≤ gb1037))
              replace HB := Aside0.mk (below_step HB.out hb)
              have NB963_1037 := Short.ltA_ hg BK963
              have NB1037_963 := Short.gtA_ hg BK963
              replace BK963 := Aside0.mk (blk_below BK963.out hb)
              have NB964_1037 := Short.ltA_ hg BK964
              have NB1037_964 := Short.gtA_ hg BK964
              replace BK964 := Aside0.mk (blk_below BK964.out hb)
              have NB965_1037 := Short.ltA_ hg BK965
              have NB1037_965 := Short.gtA_ hg BK965
              replace BK965 := Aside0.mk (blk_below BK965.out hb)
              clear hb hbox hg
              obtain ⟨Ao95, co95, eo95⟩ := Kd.R_slice HO1025.out
              (first | subst eo95 | (injection eo95 with f1_ f2_ f3_; have f4_ := f1_.symm; have f5_ := f3_.symm; clear f1_ f2_ f3_; subst f4_; subst f5_))
              obtain ⟨Ao96, co96, eo96⟩ := Kd.R_slice HO1028.out
              (first | subst eo96 | (injection eo96 with f1_ f2_ f3_; have f4_ := f1_.symm; have f5_ := f3_.symm; clear f1_ f2_ f3_; subst f4_; subst f5_))
              refine hK.out _ _ ⟨(blk_cell BK963.out 0).trans rfl, (blk_cell BK963.out 1).trans rfl, (blk_cell BK963.out 2).trans rfl, (blk_cell BK964.out 0).trans rfl, (blk_cell BK964.out 1).trans rfl, (blk_cell BK964.out 2).trans rfl⟩ (fun hHeld => ?_)
              clear hK K
              refine Short.normS_ ?_
              refine one_ (i := 4) (N := some 55) #[true, true, true, true, true, false, false, false, true, false, false] rfl rfl (one_of HT_.out (by kernel_rfl)) (by decide) (fun K hK => ?_)
              refine Short.goesD_ Try.func12 #[.agg #[.bool t1022, .slice Ao95 t1023.length co95, .slice Ao96 t1026.length co96], .agg #[.bool a1_0, .slice A1_1 l1_1.length c1_1, .slice A1_2 l1_2.length c1_2]] ?_
              with_reducible refine (rat_Div.calls kj35 t1022 _ _ t1023 _ _ t1026 a1_0 _ _ l1_1 _ _ l1_2 t1029 t1030 t1033 t1036 _ ((Kd.R_reads' HO1025.out).2.2) ((Kd.R_reads' HO1025.out).2.1) ((Kd.R_reads' HO1028.out).2.2) ((Kd.R_reads' HO1028.out).2.1) (Kd.C_below HR1_1.out HB.out) HC1_1.out (Kd.C_below HR1_2.out HB.out) HC1_2.out A88.out).mono ?_
              rintro e w97 ⟨v1031, v1034, rfl, ho0, ho1, hb⟩
              refine ⟨_, rfl, ?_⟩
              have HO1032 := Aside0.mk (Kd.R_lower (Kd.R_new' (Kd.R_new' ho0 (Kd.R_lt HO1025.out)) (Kd.R_lt HO1028.out)) (below_size HB.out))
              have HO1035 := Aside0.mk (Kd.R_lower (Kd.R_new' (Kd.R_new' ho1 (Kd.R_lt HO1025.out)) (Kd.R_lt HO1028.out)) (below_size HB.out))
              replace HO1025 := Aside0.mk (Kd.R_mono (Kd.R_told (Kd.R_told (Kd.R_old HO1025.out hb) (Kd.R_base ho0)) (Kd.R_base ho1)) (fun _ h_ => h_.1))
              replace HO1028 := Aside0.mk (Kd.R_mono (Kd.R_told (Kd.R_told (Kd.R_old HO1028.out hb) (Kd.R_base ho0)) (Kd.R_base ho1)) (fun _ h_ => h_.1))
              replace BK963 := Aside0.mk (blk_below BK963.out hb)
              replace BK964 := Aside0.mk (blk_below BK964.out hb)
              replace BK965 := Aside0.mk (blk_below BK965.out hb)
              replace BK1037 := Aside0.mk (blk_below BK1037.out hb)
              replace HB := Aside0.mk (below_step HB.out hb)
              (try clear hb)
              (try clear ho0)
              (try clear ho1)
              refine hK.out _ _ ⟨(blk_cell BK963.out 0).trans rfl, (blk_cell BK963.out 1).trans rfl, (blk_cell BK963.out 2).trans rfl, (blk_cell BK964.out 0).trans rfl, (blk_cell BK964.out 1).trans rfl, (blk_cell BK964.out 2).trans rfl⟩ (fun hHeld => ?_)
              clear hK K
              refine Short.normS_ ?_
              refine Short.pureS_ (i := 5) (N := some 50) #[true, true, true, true, true, true, false, false, true, false, false] (any_of HT_.out (by kernel_rfl)) ?_
              refine Short.pureS_ (i := 6) (N := some 56) #[true, true, true, true, true, true, true, false, true, false, false] (any_of HT_.out (by kernel_rfl)) ?_
              refine Short.pureS_ (i := 7) (N := some 57) #[true, true, true, true, true, true, true, true, true, false, false] (any_of HT_.out (by kernel_rfl)) ?_
              exact Short.normP_ (hCont (.slice Ao95 t1023.length co95, .slice Ao96 t1026.length co96, v1031, v1034, gb1037) _ ⟨hHeld, (by (with_reducible repeat (first | apply Kd.R_alloc | apply Kd.R_drewN | apply Kd.R_drew)); exact Kd.R_mono HO1025.out (fun _ hk => ⟨hk.1.1, ⟨hk.1.2, hk.2⟩⟩)), (by (with_reducible repeat (first | apply Kd.R_alloc | apply Kd.R_drewN | apply Kd.R_drew)); exact Kd.R_mono HO1028.out (fun _ hk => ⟨hk.1.1, ⟨hk.1.2, hk.2⟩⟩)), (by (with_reducible repeat (first | apply Kd.R_alloc | apply Kd.R_drewN | apply Kd.R_drew)); exact Kd.R_mono HO1032.out (fun _ hk => ⟨hk.1.2, ⟨hk.2, hk.1.1⟩⟩)), (by (with_reducible repeat (first | apply Kd.R_alloc | apply Kd.R_drewN | apply Kd.R_drew)); exact Kd.R_mono HO1035.out (fun _ hk => ⟨hk.1.2, ⟨hk.2, hk.1.1⟩⟩)), BK1037.out, BK963.out, BK964.out, BK965.out, GW1037.out, GE1037.out, NB963_1037.out, NB1037_963.out, NB964_1037.out, NB1037_964.out, NB965_1037.out, NB1037_965.out, HB.out⟩)
            ·skip
             refine Short.boxD_ (N := 7) (cs := #[.bool false, .slice none 0 0, .slice none 0 0]) (t := 27) ?_
             intro gb1037 hg w93 hbox hb
             have BK1037 := Aside0.mk (hbox)
             have GW1037 := Aside0.mk ((by rw [hg]; exact (below_size HB.out) : w.heap.size ≤ gb1037))
             have GE1037 := Aside0.mk ((by rw [hg]; exact (below_size HB.out) : w.heap.size ≤ gb1037))
             replace HB := Aside0.mk (below_step HB.out hb)
             have NB963_1037 := Short.ltA_ hg BK963
             have NB1037_963 := Short.gtA_ hg BK963
             replace BK963 := Aside0.mk (blk_below BK963.out hb)
             have NB964_1037 := Short.ltA_ hg BK964
             have NB1037_964 := Short.gtA_ hg BK964
             replace BK964 := Aside0.mk (blk_below BK964.out hb)
             have NB965_1037 := Short.ltA_ hg BK965
             have NB1037_965 := Short.gtA_ hg BK965
             replace BK965 := Aside0.mk (blk_below BK965.out hb)
             clear hb hbox hg
             refine hK.out _ _ ⟨(blk_cell BK963.out 0).trans rfl, (blk_cell BK963.out 1).trans rfl, (blk_cell BK963.out 2).trans rfl, (blk_cell BK964.out 0).trans rfl, (blk_cell BK964.out 1).trans rfl, (blk_cell BK964.out 2).trans rfl⟩ (fun hHeld => ?_)
             clear hK K
             refine Short.normS_ ?_
             refine one_ (i := 2) (N := some 53) #[true, true, true, true, false, false, false, false, true, false, false] rfl rfl (one_of HT_.out (by kernel_rfl)) (by decide) (fun K hK => ?_)
             refine Short.goesD_ Try.func32 #[.agg #[.bool a0_0, .slice A0_1 l0_1.length c0_1, .slice A0_2 l0_2.length c0_2], .agg #[.bool a1_0, .slice A1_1 l1_1.length c1_1, .slice A1_2 l1_2.length c1_2]] ?_
             with_reducible refine (rat_Mul.calls kj35 a0_0 _ _ l0_1 _ _ l0_2 a1_0 _ _ l1_1 _ _ l1_2 t1022 t1023 t1026 _ (Kd.C_below HR0_1.out HB.out) HC0_1.out (Kd.C_below HR0_2.out HB.out) HC0_2.out (Kd.C_below HR1_1.out HB.out) HC1_1.out (Kd.C_below HR1_2.out HB.out) HC1_2.out A87.out).mono ?_
             rintro e w94 ⟨v1024, v1027, rfl, ho0, ho1, hb⟩
             refine ⟨_, rfl, ?_⟩
             have HO1025 := Aside0.mk (Kd.R_lower ho0 (below_size HB.out))
             have HO1028 := Aside0.mk (Kd.R_lower ho1 (below_size HB.out))
             replace BK963 := Aside0.mk (blk_below BK963.out hb)
             replace BK964 := Aside0.mk (blk_below BK964.out hb)
             replace BK965 := Aside0.mk (blk_below BK965.out hb)
             replace BK1037 := Aside0.mk (blk_below BK1037.out hb)
             replace HB := Aside0.mk (below_step HB.out hb)
             (try clear hb)
             (try clear ho0)
             (try clear ho1)
             obtain ⟨Ao95, co95, eo95⟩ := Kd.R_slice HO1025.out
             (first | subst eo95 | (injection eo95 with f1_ f2_ f3_; have f4_ := f1_.symm; have f5_ := f3_.symm; clear f1_ f2_ f3_; subst f4_; subst f5_))
             obtain ⟨Ao96, co96, eo96⟩ := Kd.R_slice HO1028.out
             (first | subst eo96 | (injection eo96 with f1_ f2_ f3_; have f4_ := f1_.symm; have f5_ := f3_.symm; clear f1_ f2_ f3_; subst f4_; subst f5_))
             refine hK.out _ _ ⟨(blk_cell BK963.out 0).trans rfl, (blk_cell BK963.out 1).trans rfl, (blk_cell BK963.out 2).trans rfl, (blk_cell BK964.out 0).trans rfl, (blk_cell BK964.out 1).trans rfl, (blk_cell BK964.out 2).trans rfl⟩ (fun hHeld => ?_)
             clear hK K
             refine Short.normS_ ?_
             refine one_ (i := 4) (N := some 55) #[true, true, true, true, true, false, false, false, true, false, false] rfl rfl (one_of HT_.out (by kernel_rfl)) (by decide) (fun K hK => ?_)
             refine Short.goesD_ Try.func12 #[.agg #[.bool t1022, .slice Ao95 t1023.length co95, .slice Ao96 t1026.length co96], .agg #[.bool a1_0, .slice A1_1 l1_1.length c1_1, .slice A1_2 l1_2.length c1_2]] ?_
             with_reducible refine (rat_Div.calls kj35 t1022 _ _ t1023 _ _ t1026 a1_0 _ _ l1_1 _ _ l1_2 t1029 t1030 t1033 t1036 _ ((Kd.R_reads' HO1025.out).2.2) ((Kd.R_reads' HO1025.out).2.1) ((Kd.R_reads' HO1028.out).2.2) ((Kd.R_reads' HO1028.out).2.1) (Kd.C_below HR1_1.out HB.out) HC1_1.out (Kd.C_below HR1_2.out HB.out) HC1_2.out A88.out).mono ?_
             rintro e w97 ⟨v1031, v1034, rfl, ho0, ho1, hb⟩
             refine ⟨_, rfl, ?_⟩
             have HO1032 := Aside0.mk (Kd.R_lower (Kd.R_new' (Kd.R_new' ho0 (Kd.R_lt HO1025.out)) (Kd.R_lt HO1028.out)) (below_size HB.out))
             have HO1035 := Aside0.mk (Kd.R_lower (Kd.R_new' (Kd.R_new' ho1 (Kd.R_lt HO1025.out)) (Kd.R_lt HO1028.out)) (below_size HB.out))
             replace HO1025 := Aside0.mk (Kd.R_mono (Kd.R_told (Kd.R_told (Kd.R_old HO1025.out hb) (Kd.R_base ho0)) (Kd.R_base ho1)) (fun _ h_ => h_.1))
             replace HO1028 := Aside0.mk (Kd.R_mono (Kd.R_told (Kd.R_told (Kd.R_old HO1028.out hb) (Kd.R_base ho0)) (Kd.R_base ho1)) (fun _ h_ => h_.1))
             replace BK963 := Aside0.mk (blk_below BK963.out hb)
             replace BK964 := Aside0.mk (blk_below BK964.out hb)
             replace BK965 := Aside0.mk (blk_below BK965.out hb)
             replace BK1037 := Aside0.mk (blk_below BK1037.out hb)
             replace HB := Aside0.mk (below_step HB.out hb)
             (try clear hb)
             (try clear ho0)
             (try clear ho1)
             refine hK.out _ _ ⟨(blk_cell BK963.out 0).trans rfl, (blk_cell BK963.out 1).trans rfl, (blk_cell BK963.out 2).trans rfl, (blk_cell BK964.out 0).trans rfl, (blk_cell BK964.out 1).trans rfl, (blk_cell BK964.out 2).trans rfl⟩ (fun hHeld => ?_)
             clear hK K
             refine Short.normS_ ?_
             refine Short.pureS_ (i := 5) (N := some 50) #[true, true, true, true, true, true, false, false, true, false, false] (any_of HT_.out (by kernel_rfl)) ?_
             refine Short.pureS_ (i := 6) (N := some 56) #[true, true, true, true, true, true, true, false, true, false, false] (any_of HT_.out (by kernel_rfl)) ?_
             refine Short.pureS_ (i := 7) (N := some 57) #[true, true, true, true, true, true, true, true, true, false, false] (any_of HT_.out (by kernel_rfl)) ?_
             exact Short.normP_ (hCont (.slice Ao95 t1023.length co95, .slice Ao96 t1026.length co96, v1031, v1034, gb1037) _ ⟨hHeld, (by (with_reducible repeat (first | apply Kd.R_alloc | apply Kd.R_drewN | apply Kd.R_drew)); exact Kd.R_mono HO1025.out (fun _ hk => ⟨hk.1.1, ⟨hk.1.2, hk.2⟩⟩)), (by (with_reducible repeat (first | apply Kd.R_alloc | apply Kd.R_drewN | apply Kd.R_drew)); exact Kd.R_mono HO1028.out (fun _ hk => ⟨hk.1.1, ⟨hk.1.2, hk.2⟩⟩)), (by (with_reducible repeat (first | apply Kd.R_alloc | apply Kd.R_drewN | apply Kd.R_drew)); exact Kd.R_mono HO1032.out (fun _ hk => ⟨hk.1.2, ⟨hk.2, hk.1.1⟩⟩)), (by (with_reducible repeat (first | apply Kd.R_alloc | apply Kd.R_drewN | apply Kd.R_drew)); exact Kd.R_mono HO1035.out (fun _ hk => ⟨hk.1.2, ⟨hk.2, hk.1.1⟩⟩)), BK1037.out, BK963.out, BK964.out, BK965.out, GW1037.out, GE1037.out, NB963_1037.out, NB1037_963.out, NB964_1037.out, NB1037_964.out, NB965_1037.out, NB1037_965.out, HB.out⟩)
           rintro ⟨v1024, v1027, v1031, v1034, gb1037⟩ w98 ⟨hS_, h0_, h1_, h2_, h3_, h4_, h5_, h6_, h7_, h8_, h9_, h10_, h11_, h12_, h13_, h14_, h15_, h16_⟩
           have HO1025 : Aside0 (Kd.R (Kd.int .u32) 89 w98 w.heap.size (fun k_ => some k_ ≠ (v1027 : Value).ownBlock ∧ some k_ ≠ (v1031 : Value).ownBlock ∧ some k_ ≠ (v1034 : Value).ownBlock) v1024 t1023) := ⟨h0_⟩
           have HO1028 : Aside0 (Kd.R (Kd.int .u32) 89 w98 w.heap.size (fun k_ => some k_ ≠ (v1024 : Value).ownBlock ∧ some k_ ≠ (v1031 : Value).ownBlock ∧ some k_ ≠ (v1034 : Value).ownBlock) v1027 t1026) := ⟨h1_⟩
           have HO1032 : Aside0 (Kd.R (Kd.int .u32) 89 w98 w.heap.size (fun k_ => some k_ ≠ (v1024 : Value).ownBlock ∧ some k_ ≠ (v1027 : Value).ownBlock ∧ some k_ ≠ (v1034 : Value).ownBlock) v1031 t1030) := ⟨h2_⟩
           have HO1035 : Aside0 (Kd.R (Kd.int .u32) 89 w98 w.heap.size (fun k_ => some k_ ≠ (v1024 : Value).ownBlock ∧ some k_ ≠ (v1027 : Value).ownBlock ∧ some k_ ≠ (v1031 : Value).ownBlock) v1034 t1033) := ⟨h3_⟩
           have BK1037 : Aside0 (w98.heap[gb1037]? = some (.cells #[.bool false, .slice none 0 0, .slice none 0 0] 27 (0, 0))) := ⟨h4_⟩
           replace BK963 : Aside0 (w98.heap[gb963]? = some (.cells #[.bool a0_0, .slice A0_1 l0_1.length c0_1, .slice A0_2 l0_2.length c0_2] 27 (0, 0))) := ⟨h5_⟩
           replace BK964 : Aside0 (w98.heap[gb964]? = some (.cells #[.bool a1_0, .slice A1_1 l1_1.length c1_1, .slice A1_2 l1_2.length c1_2] 27 (0, 0))) := ⟨h6_⟩
           replace BK965 : Aside0 (w98.heap[gb965]? = some (.cells #[.bool a2_0, .slice A2_1 l2_1.length c2_1, .slice A2_2 l2_2.length c2_2] 27 (0, 0))) := ⟨h7_⟩
           have GW1037 : Aside0 (w.heap.size ≤ gb1037) := ⟨h8_⟩
           have GE1037 : Aside0 (w.heap.size ≤ gb1037) := ⟨h9_⟩
           have NB963_1037 : Aside0 (gb963 ≠ gb1037) := ⟨h10_⟩
           have NB1037_963 : Aside0 (gb1037 ≠ gb963) := ⟨h11_⟩
           have NB964_1037 : Aside0 (gb964 ≠ gb1037) := ⟨h12_⟩
           have NB1037_964 : Aside0 (gb1037 ≠ gb964) := ⟨h13_⟩
           have NB965_1037 : Aside0 (gb965 ≠ gb1037) := ⟨h14_⟩
           have NB1037_965 : Aside0 (gb1037 ≠ gb965) := ⟨h15_⟩
           replace HB : Aside0 (Below w.heap.size w w98) := ⟨h16_⟩
           clear h0_ h1_ h2_ h3_ h4_ h5_ h6_ h7_ h8_ h9_ h10_ h11_ h12_ h13_ h14_ h15_ h16_
           have hHeld : w98.cell? ⟨gb963, 0, none⟩ = some (.bool a0_0) ∧ w98.cell? ⟨gb963, 1, none⟩ = some (.slice A0_1 l0_1.length c0_1) ∧ w98.cell? ⟨gb963, 2, none⟩ = some (.slice A0_2 l0_2.length c0_2) ∧ w98.cell? ⟨gb964, 0, none⟩ = some (.bool a1_0) ∧ w98.cell? ⟨gb964, 1, none⟩ = some (.slice A1_1 l1_1.length c1_1) ∧ w98.cell? ⟨gb964, 2, none⟩ = some (.slice A1_2 l1_2.length c1_2) := hS_
           obtain ⟨Ao100, co100, eo100⟩ := Kd.R_slice HO1032.out
           (first | subst eo100 | (injection eo100 with f1_ f2_ f3_; have f4_ := f1_.symm; have f5_ := f3_.symm; clear f1_ f2_ f3_; subst f4_; subst f5_))
           obtain ⟨Ao102, co102, eo102⟩ := Kd.R_slice HO1035.out
           (first | subst eo102 | (injection eo102 with f1_ f2_ f3_; have f4_ := f1_.symm; have f5_ := f3_.symm; clear f1_ f2_ f3_; subst f4_; subst f5_))
           refine norm_ (a' := ?_) ?_ ?_
           rotate_left
           ·simp only [putAll, Act.put, List.setIfInBounds_toArray, List.set_cons_zero, List.set_cons_succ]
            rfl
           refine one_ (i := 9) (N := none) #[true, true, true, true, true, true, true, true, true, true, false] rfl rfl (one_of HT_.out (by kernel_rfl)) (by decide) (fun K hK => ?_)
           have hs99 : w98.cell? ⟨gb1037, 0, none⟩ = some (.bool false) := (blk_cell BK1037.out 0).trans rfl
           have hfs99 := blk_frozen BK1037.out 0
           have hns99_0 := NB963_1037.out
           have hns99_1 := NB964_1037.out
           have hns99_2 := NB965_1037.out
           have hms99_0 := NB1037_963.out
           have hms99_1 := NB1037_964.out
           have hms99_2 := NB1037_965.out
           have hs101 : w98.cell? ⟨gb1037, 1, none⟩ = some (.slice none 0 0) := (blk_cell BK1037.out 1).trans rfl
           have hfs101 := blk_frozen BK1037.out 1
           have hns101_0 := NB963_1037.out
           have hns101_1 := NB964_1037.out
           have hns101_2 := NB965_1037.out
           have hms101_0 := NB1037_963.out
           have hms101_1 := NB1037_964.out
           have hms101_2 := NB1037_965.out
           have hs103 : w98.cell? ⟨gb1037, 2, none⟩ = some (.slice none 0 0) := (blk_cell BK1037.out 2).trans rfl
           have hfs103 := blk_frozen BK1037.out 2
           have hns103_0 := NB963_1037.out
           have hns103_1 := NB964_1037.out
           have hns103_2 := NB965_1037.out
           have hms103_0 := NB1037_963.out
           have hms103_1 := NB1037_964.out
           have hms103_2 := NB1037_965.out
           refine skip_ (w1 := ?_) (by rfl) rfl ?_ ?_
           rotate_left
           ·go_simp
            rfl
           refine hK.out _ _ ⟨((cell_far (p := ⟨gb1037, _, none⟩) NB963_1037.out _).trans (((cell_far (p := ⟨gb1037, _, none⟩) NB963_1037.out _).trans (((cell_far (p := ⟨gb1037, _, none⟩) NB963_1037.out _).trans (hHeld.1)))))), ((cell_far (p := ⟨gb1037, _, none⟩) NB963_1037.out _).trans (((cell_far (p := ⟨gb1037, _, none⟩) NB963_1037.out _).trans (((cell_far (p := ⟨gb1037, _, none⟩) NB963_1037.out _).trans (hHeld.2.1)))))), ((cell_far (p := ⟨gb1037, _, none⟩) NB963_1037.out _).trans (((cell_far (p := ⟨gb1037, _, none⟩) NB963_1037.out _).trans (((cell_far (p := ⟨gb1037, _, none⟩) NB963_1037.out _).trans (hHeld.2.2.1)))))), ((cell_far (p := ⟨gb1037, _, none⟩) NB964_1037.out _).trans (((cell_far (p := ⟨gb1037, _, none⟩) NB964_1037.out _).trans (((cell_far (p := ⟨gb1037, _, none⟩) NB964_1037.out _).trans (hHeld.2.2.2.1)))))), ((cell_far (p := ⟨gb1037, _, none⟩) NB964_1037.out _).trans (((cell_far (p := ⟨gb1037, _, none⟩) NB964_1037.out _).trans (((cell_far (p := ⟨gb1037, _, none⟩) NB964_1037.out _).trans (hHeld.2.2.2.2.1)))))), ((cell_far (p := ⟨gb1037, _, none⟩) NB964_1037.out _).trans (((cell_far (p := ⟨gb1037, _, none⟩) NB964_1037.out _).trans (((cell_far (p := ⟨gb1037, _, none⟩) NB964_1037.out _).trans (hHeld.2.2.2.2.2))))))⟩ (fun hHeld => ?_)
           clear hK K
           refine Short.pureS_ (i := 10) (N := some 8) #[true, true, true, true, true, true, true, true, true, true, true] (any_of HT_.out (by kernel_rfl)) ?_
           refine done_ (done_of HT_.out (by kernel_rfl)) ?_
           have hnb104 := NB1037_963.out
           have hnc104 := NB963_1037.out
           have hnb105 := NB1037_964.out
           have hnc105 := NB964_1037.out
           have hnb106 := NB1037_965.out
           have hnc106 := NB965_1037.out
           have hcz107_0 : w98.cell? ⟨gb1037, 0, none⟩ = some (.bool false) := (blk_cell BK1037.out 0).trans rfl
           have hcz107_1 : w98.cell? ⟨gb1037, 1, none⟩ = some (.slice none 0 0) := (blk_cell BK1037.out 1).trans rfl
           have hcz107_2 : w98.cell? ⟨gb1037, 2, none⟩ = some (.slice none 0 0) := (blk_cell BK1037.out 2).trans rfl
           have hfz107_0 := blk_frozen BK1037.out 0
           have hfz107_1 := blk_frozen BK1037.out 1
           have hfz107_2 := blk_frozen BK1037.out 2
           have hnb108 := NB963_964.out
           have hnc108 := NB964_963.out
           have hnb109 := NB963_965.out
           have hnc109 := NB965_963.out
           have hcz110_0 : w98.cell? ⟨gb963, 0, none⟩ = some (.bool a0_0) := (blk_cell BK963.out 0).trans rfl
           have hcz110_1 : w98.cell? ⟨gb963, 1, none⟩ = some (.slice A0_1 l0_1.length c0_1) := (blk_cell BK963.out 1).trans rfl
           have hcz110_2 : w98.cell? ⟨gb963, 2, none⟩ = some (.slice A0_2 l0_2.length c0_2) := (blk_cell BK963.out 2).trans rfl
           have hfz110_0 := blk_frozen BK963.out 0
           have hfz110_1 := blk_frozen BK963.out 1
           have hfz110_2 := blk_frozen BK963.out 2
           try go_wp2_with (first | (go_at_call 35; (with_reducible refine (rat_Compare.calls kj35 t1029 _ _ t1030 _ _ t1033 a0_0 _ _ l0_1 _ _ l0_2 t1038 _ ?side1 ?side2 ?side3 ?side4 ?side5 ?side6 ?side7 ?side8 A90.out).mono ?_); (case side1 => refine (Kd.R_reads' (e := 89) (base := w.heap.size) (ok := fun k_ => (some k_ ≠ (v1024 : Value).ownBlock ∧ (some k_ ≠ (v1027 : Value).ownBlock ∧ some k_ ≠ (.slice Ao102 t1033.length co102 : Value).ownBlock))) (n := t1030.length) (c := co100) ?_).2.2; exact (by (with_reducible repeat (first | apply Kd.R_alloc | apply Kd.R_drewN | apply Kd.R_drew)); exact (Kd.R_mono (Kd.R_far (p := ⟨gb1037, 2, none⟩) (Kd.R_far (p := ⟨gb1037, 1, none⟩) (Kd.R_far (p := ⟨gb1037, 0, none⟩) (Kd.R_types HO1032.out BK1037.out (by decide)) (fun _ hk => hk.2) (.bool t1029)) (fun _ hk => hk.2) (.slice Ao100 t1030.length co100)) (fun _ hk => hk.2) (.slice Ao102 t1033.length co102)) (fun _ h_ => h_.1)))); (case side2 => exact (Kd.R_reads' HO1032.out).2.1); (case side3 => refine (Kd.R_reads' (e := 89) (base := w.heap.size) (ok := fun k_ => (some k_ ≠ (v1024 : Value).ownBlock ∧ (some k_ ≠ (v1027 : Value).ownBlock ∧ some k_ ≠ (.slice Ao100 t1030.length co100 : Value).ownBlock))) (n := t1033.length) (c := co102) ?_).2.2; exact (by (with_reducible repeat (first | apply Kd.R_alloc | apply Kd.R_drewN | apply Kd.R_drew)); exact (Kd.R_mono (Kd.R_far (p := ⟨gb1037, 2, none⟩) (Kd.R_far (p := ⟨gb1037, 1, none⟩) (Kd.R_far (p := ⟨gb1037, 0, none⟩) (Kd.R_types HO1035.out BK1037.out (by decide)) (fun _ hk => hk.2) (.bool t1029)) (fun _ hk => hk.2) (.slice Ao100 t1030.length co100)) (fun _ hk => hk.2) (.slice Ao102 t1033.length co102)) (fun _ h_ => h_.1)))); (case side4 => exact (Kd.R_reads' HO1035.out).2.1); (case side5 => exact Kd.C_below HR0_1.out (by repeat (first | (with_reducible first | exact HB.out | apply below_alloc | apply pw_below_drewN | apply below_drew1 | refine below_set ?_ GE963.out | refine below_set ?_ GE964.out | refine below_set ?_ GE965.out | refine below_set ?_ GE1037.out) | exact HB.out))); (case side6 => exact HC0_1.out); (case side7 => exact Kd.C_below HR0_2.out (by repeat (first | (with_reducible first | exact HB.out | apply below_alloc | apply pw_below_drewN | apply below_drew1 | refine below_set ?_ GE963.out | refine below_set ?_ GE964.out | refine below_set ?_ GE965.out | refine below_set ?_ GE1037.out) | exact HB.out))); (case side8 => exact HC0_2.out); rintro e w111 ⟨rfl, hb⟩; replace HO1025 := Aside0.mk (Kd.R_below (by (with_reducible repeat (first | apply Kd.R_alloc | apply Kd.R_drewN | apply Kd.R_drew)); exact (Kd.R_mono (Kd.R_far (p := ⟨gb1037, 2, none⟩) (Kd.R_far (p := ⟨gb1037, 1, none⟩) (Kd.R_far (p := ⟨gb1037, 0, none⟩) (Kd.R_types HO1025.out BK1037.out (by decide)) (fun _ hk => hk.2) (.bool t1029)) (fun _ hk => hk.2) (.slice Ao100 t1030.length co100)) (fun _ hk => hk.2) (.slice Ao102 t1033.length co102)) (fun _ h_ => h_.1))) hb); replace HO1028 := Aside0.mk (Kd.R_below (by (with_reducible repeat (first | apply Kd.R_alloc | apply Kd.R_drewN | apply Kd.R_drew)); exact (Kd.R_mono (Kd.R_far (p := ⟨gb1037, 2, none⟩) (Kd.R_far (p := ⟨gb1037, 1, none⟩) (Kd.R_far (p := ⟨gb1037, 0, none⟩) (Kd.R_types HO1028.out BK1037.out (by decide)) (fun _ hk => hk.2) (.bool t1029)) (fun _ hk => hk.2) (.slice Ao100 t1030.length co100)) (fun _ hk => hk.2) (.slice Ao102 t1033.length co102)) (fun _ h_ => h_.1))) hb); replace HO1032 := Aside0.mk (Kd.R_below (by (with_reducible repeat (first | apply Kd.R_alloc | apply Kd.R_drewN | apply Kd.R_drew)); exact (Kd.R_mono (Kd.R_far (p := ⟨gb1037, 2, none⟩) (Kd.R_far (p := ⟨gb1037, 1, none⟩) (Kd.R_far (p := ⟨gb1037, 0, none⟩) (Kd.R_types HO1032.out BK1037.out (by decide)) (fun _ hk => hk.2) (.bool t1029)) (fun _ hk => hk.2) (.slice Ao100 t1030.length co100)) (fun _ hk => hk.2) (.slice Ao102 t1033.length co102)) (fun _ h_ => h_.1))) hb); replace HO1035 := Aside0.mk (Kd.R_below (by (with_reducible repeat (first | apply Kd.R_alloc | apply Kd.R_drewN | apply Kd.R_drew)); exact (Kd.R_mono (Kd.R_far (p := ⟨gb1037, 2, none⟩) (Kd.R_far (p := ⟨gb1037, 1, none⟩) (Kd.R_far (p := ⟨gb1037, 0, none⟩) (Kd.R_types HO1035.out BK1037.out (by decide)) (fun _ hk => hk.2) (.bool t1029)) (fun _ hk => hk.2) (.slice Ao100 t1030.length co100)) (fun _ hk => hk.2) (.slice Ao102 t1033.length co102)) (fun _ h_ => h_.1))) hb); replace BK963 := Aside0.mk (blk_below (g := gb963) (o := .cells #[.bool a0_0, .slice A0_1 l0_1.length c0_1, .slice A0_2 l0_2.length c0_2] 27 (0, 0)) (by (with_reducible repeat (first | refine blk_drewN ?_ _ | refine blk_drew ?_ | refine blk_alloc ?_ _)); refine blk_far ?_ NB963_1037.out _; (with_reducible repeat (first | refine blk_drewN ?_ _ | refine blk_drew ?_ | refine blk_alloc ?_ _)); refine blk_far ?_ NB963_1037.out _; (with_reducible repeat (first | refine blk_drewN ?_ _ | refine blk_drew ?_ | refine blk_alloc ?_ _)); refine blk_far ?_ NB963_1037.out _; (with_reducible repeat (first | refine blk_drewN ?_ _ | refine blk_drew ?_ | refine blk_alloc ?_ _)); exact BK963.out) hb); replace BK964 := Aside0.mk (blk_below (g := gb964) (o := .cells #[.bool a1_0, .slice A1_1 l1_1.length c1_1, .slice A1_2 l1_2.length c1_2] 27 (0, 0)) (by (with_reducible repeat (first | refine blk_drewN ?_ _ | refine blk_drew ?_ | refine blk_alloc ?_ _)); refine blk_far ?_ NB964_1037.out _; (with_reducible repeat (first | refine blk_drewN ?_ _ | refine blk_drew ?_ | refine blk_alloc ?_ _)); refine blk_far ?_ NB964_1037.out _; (with_reducible repeat (first | refine blk_drewN ?_ _ | refine blk_drew ?_ | refine blk_alloc ?_ _)); refine blk_far ?_ NB964_1037.out _; (with_reducible repeat (first | refine blk_drewN ?_ _ | refine blk_drew ?_ | refine blk_alloc ?_ _)); exact BK964.out) hb); replace BK965 := Aside0.mk (blk_below (g := gb965) (o := .cells #[.bool a2_0, .slice A2_1 l2_1.length c2_1, .slice A2_2 l2_2.length c2_2] 27 (0, 0)) (by (with_reducible repeat (first | refine blk_drewN ?_ _ | refine blk_drew ?_ | refine blk_alloc ?_ _)); refine blk_far ?_ NB965_1037.out _; (with_reducible repeat (first | refine blk_drewN ?_ _ | refine blk_drew ?_ | refine blk_alloc ?_ _)); refine blk_far ?_ NB965_1037.out _; (with_reducible repeat (first | refine blk_drewN ?_ _ | refine blk_drew ?_ | refine blk_alloc ?_ _)); refine blk_far ?_ NB965_1037.out _; (with_reducible repeat (first | refine blk_drewN ?_ _ | refine blk_drew ?_ | refine blk_alloc ?_ _)); exact BK965.out) hb); replace BK1037 := Aside0.mk (blk_below (g := gb1037) (o := .cells #[.bool t1029, .slice Ao100 t1030.length co100, .slice Ao102 t1033.length co102] 27 (0, 0)) (by (with_reducible repeat (first | refine blk_drewN ?_ _ | refine blk_drew ?_ | refine blk_alloc ?_ _)); refine blk_put (cs := #[.bool t1029, .slice Ao100 t1030.length co100, .slice none 0 0]) ?_ 2 _ rfl; (with_reducible repeat (first | refine blk_drewN ?_ _ | refine blk_drew ?_ | refine blk_alloc ?_ _)); refine blk_put (cs := #[.bool t1029, .slice none 0 0, .slice none 0 0]) ?_ 1 _ rfl; (with_reducible repeat (first | refine blk_drewN ?_ _ | refine blk_drew ?_ | refine blk_alloc ?_ _)); refine blk_put (cs := #[.bool false, .slice none 0 0, .slice none 0 0]) ?_ 0 _ rfl; (with_reducible repeat (first | refine blk_drewN ?_ _ | refine blk_drew ?_ | refine blk_alloc ?_ _)); exact BK1037.out) hb); replace HB := Short.stepB_ (w := w) hb; (try clear hb)))
           go_meet
           case rel => exact ⟨_, H', ⟨by have := HJ3.out; have := HJ35.out; first | omega | exact Nat.le_refl _⟩, ⟨by (with_reducible repeat (first | refine blk_drewN ?_ _ | refine blk_drew ?_ | refine blk_alloc ?_ _)); exact BK963.out⟩, ⟨by (with_reducible repeat (first | refine blk_drewN ?_ _ | refine blk_drew ?_ | refine blk_alloc ?_ _)); exact BK964.out⟩, ⟨by (with_reducible repeat (first | refine blk_drewN ?_ _ | refine blk_drew ?_ | refine blk_alloc ?_ _)); exact BK965.out⟩, ⟨by repeat (first | (with_reducible first | exact HB.out | apply below_alloc | apply pw_below_drewN | apply below_drew1 | refine below_set ?_ GE963.out | refine below_set ?_ GE964.out | refine below_set ?_ GE965.out | refine below_set ?_ GE1037.out) | exact HB.out)⟩⟩
          ·rw [if_neg c91] at H
           have c91b0 : (t1038 == 0) = false := beq_eq_false_iff_ne.mpr c91
           have c91b1 : (t1038 != 0) = true := bne_iff_ne.mpr c91
           obtain rfl := Option.some.inj H
           exact absurd HRT.out (by decide)
         ·rw [if_neg c89] at H
          have c89b0 : (t1036 == 0) = false := beq_eq_false_iff_ne.mpr c89
          have c89b1 : (t1036 != 0) = true := bne_iff_ne.mpr c89
          obtain rfl := Option.some.inj H
          exact absurd HRT.out (by decide)
       case rest =>
        clear HC81
        try clear c1
        try clear c2
        try clear p2
        try clear c3
        try clear c12
        try clear c32
        obtain ⟨kq, HA, HJ80, BK963, BK964, BK965, HB⟩ := hcut
        cases kq with
        | zero => exact absurd HA.out (by simp [offcutlaw03_RatRules.j2])
        | succ kj80 =>
         have H := HA.out
         clear HA
         simp only [offcutlaw03_RatRules.j2] at H
         replace H := Option.bind_eq_some_iff.mp H
         obtain ⟨t1039, A1440, H⟩ := H
         try dsimp only at H
         have A144 := Aside0.mk A1440
         clear A1440
         replace H := Option.bind_eq_some_iff.mp H
         obtain ⟨⟨t1040, t1041, t1044⟩, A1450, H⟩ := H
         try dsimp only at H
         have A145 := Aside0.mk A1450
         clear A1450
         replace H := Option.bind_eq_some_iff.mp H
         obtain ⟨⟨t1047, t1048, t1051⟩, A1460, H⟩ := H
         try dsimp only at H
         have A146 := Aside0.mk A1460
         clear A1460
         replace H := Option.bind_eq_some_iff.mp H
         obtain ⟨t1054, A1470, H⟩ := H
         try dsimp only at H
         have A147 := Aside0.mk A1470
         clear A1470
         by_cases c148 : t1039 = t1054
         ·rw [if_pos c148] at H
          have c148b0 : (t1039 == t1054) = true := beq_iff_eq.mpr c148
          have c148b1 : (t1039 != t1054) = false := bne_eq_false_iff_eq.mpr c148
          clear c148
          replace H := Option.bind_eq_some_iff.mp H
          obtain ⟨t1055, A1490, H⟩ := H
          replace H : (some t1055) = some r := H
          have A149 := Aside0.mk A1490
          clear A1490
          obtain rfl := Option.some.inj H
          try go_wp2
          replace BK963 := Aside0.mk (blk_drew BK963.out)
          replace BK964 := Aside0.mk (blk_drew BK964.out)
          replace BK965 := Aside0.mk (blk_drew BK965.out)
          replace HB := Aside0.mk (below_drew1 HB.out)
          refine start_ (n := 15) (S := fun w' => w'.cell? ⟨gb963, 0, none⟩ = some (.bool a0_0) ∧ w'.cell? ⟨gb963, 1, none⟩ = some (.slice A0_1 l0_1.length c0_1) ∧ w'.cell? ⟨gb963, 2, none⟩ = some (.slice A0_2 l0_2.length c0_2) ∧ w'.cell? ⟨gb964, 0, none⟩ = some (.bool a1_0) ∧ w'.cell? ⟨gb964, 1, none⟩ = some (.slice A1_1 l1_1.length c1_1) ∧ w'.cell? ⟨gb964, 2, none⟩ = some (.slice A1_2 l1_2.length c1_2) ∧ w'.cell? ⟨gb965, 0, none⟩ = some (.bool a2_0) ∧ w'.cell? ⟨gb965, 1, none⟩ = some (.slice A2_1 l2_1.length c2_1) ∧ w'.cell? ⟨gb965, 2, none⟩ = some (.slice A2_2 l2_2.length c2_2)) (ds := []) #[false, false, false, false, false, false, false, false, false, false, false, false, false, false, false] (by kernel_rfl) rfl rfl ⟨(blk_cell BK963.out 0).trans rfl, (blk_cell BK963.out 1).trans rfl, (blk_cell BK963.out 2).trans rfl, (blk_cell BK964.out 0).trans rfl, (blk_cell BK964.out 1).trans rfl, (blk_cell BK964.out 2).trans rfl, (blk_cell BK965.out 0).trans rfl, (blk_cell BK965.out 1).trans rfl, (blk_cell BK965.out 2).trans rfl⟩ (fun hHeld => ?_); refine with_tabW offcutlaw03_RatRules.tab9 offcutlaw03_RatRules.bits9 (fun HT_ HW_ => ?_)
          generalize wc.drew = w150 at BK963 BK964 BK965 HB hHeld ⊢
          refine Short.takeS_ (i := 0) (N := some 66) #[true, false, false, false, false, false, false, false, false, false, false, false, false, false, false] (take_ofW HT_.out HW_.out (by kernel_rfl)) hHeld ?_
          refine Short.takeS_ (i := 1) (N := some 67) #[true, true, false, false, false, false, false, false, false, false, false, false, false, false, false] (take_ofW HT_.out HW_.out (by kernel_rfl)) hHeld ?_
          refine Short.takeS_ (i := 3) (N := some 69) #[true, true, false, true, false, false, false, false, false, false, false, false, false, false, false] (take_ofW HT_.out HW_.out (by kernel_rfl)) hHeld ?_
          refine Short.takeS_ (i := 4) (N := some 70) #[true, true, false, true, true, false, false, false, false, false, false, false, false, false, false] (take_ofW HT_.out HW_.out (by kernel_rfl)) hHeld ?_
          refine Short.takeS_ (i := 6) (N := some 72) #[true, true, false, true, true, false, true, false, false, false, false, false, false, false, false] (take_ofW HT_.out HW_.out (by kernel_rfl)) hHeld ?_
          refine Short.takeS_ (i := 7) (N := some 73) #[true, true, false, true, true, false, true, true, false, false, false, false, false, false, false] (take_ofW HT_.out HW_.out (by kernel_rfl)) hHeld ?_
          refine one_ (i := 2) (N := some 68) #[true, true, true, true, true, false, true, true, false, false, false, false, false, false, false] rfl rfl (one_of HT_.out (by kernel_rfl)) (by decide) (fun K hK => ?_)
          refine Short.goesD_ Try.func35 #[.agg #[.bool a0_0, .slice A0_1 l0_1.length c0_1, .slice A0_2 l0_2.length c0_2], .agg #[.bool a1_0, .slice A1_1 l1_1.length c1_1, .slice A1_2 l1_2.length c1_2]] ?_
          with_reducible refine (rat_Compare.calls kj80 a0_0 _ _ l0_1 _ _ l0_2 a1_0 _ _ l1_1 _ _ l1_2 t1039 _ (Kd.C_below HR0_1.out HB.out) HC0_1.out (Kd.C_below HR0_2.out HB.out) HC0_2.out (Kd.C_below HR1_1.out HB.out) HC1_1.out (Kd.C_below HR1_2.out HB.out) HC1_2.out A144.out).mono ?_
          rintro e w151 ⟨rfl, hb⟩
          refine ⟨_, rfl, ?_⟩
          replace BK963 := Aside0.mk (blk_below BK963.out hb)
          replace BK964 := Aside0.mk (blk_below BK964.out hb)
          replace BK965 := Aside0.mk (blk_below BK965.out hb)
          replace HB := Aside0.mk (below_step HB.out hb)
          (try clear hb)
          refine hK.out _ _ ⟨(blk_cell BK963.out 0).trans rfl, (blk_cell BK963.out 1).trans rfl, (blk_cell BK963.out 2).trans rfl, (blk_cell BK964.out 0).trans rfl, (blk_cell BK964.out 1).trans rfl, (blk_cell BK964.out 2).trans rfl, (blk_cell BK965.out 0).trans rfl, (blk_cell BK965.out 1).trans rfl, (blk_cell BK965.out 2).trans rfl⟩ (fun hHeld => ?_)
          clear hK K
          refine Short.normS_ ?_
          refine one_ (i := 5) (N := some 71) #[true, true, true, true, true, true, true, true, false, false, false, false, false, false, false] rfl rfl (one_of HT_.out (by kernel_rfl)) (by decide) (fun K hK => ?_)
          refine Short.goesD_ Try.func30 #[.agg #[.bool a0_0, .slice A0_1 l0_1.length c0_1, .slice A0_2 l0_2.length c0_2], .agg #[.bool a2_0, .slice A2_1 l2_1.length c2_1, .slice A2_2 l2_2.length c2_2]] ?_
          with_reducible refine (rat_Sub.calls kj80 a0_0 _ _ l0_1 _ _ l0_2 a2_0 _ _ l2_1 _ _ l2_2 t1040 t1041 t1044 _ (Kd.C_below HR0_1.out HB.out) HC0_1.out (Kd.C_below HR0_2.out HB.out) HC0_2.out (Kd.C_below HR2_1.out HB.out) HC2_1.out (Kd.C_below HR2_2.out HB.out) HC2_2.out A145.out).mono ?_
          rintro e w152 ⟨v1042, v1045, rfl, ho0, ho1, hb⟩
          refine ⟨_, rfl, ?_⟩
          have HO1043 := Aside0.mk (Kd.R_lower ho0 (below_size HB.out))
          have HO1046 := Aside0.mk (Kd.R_lower ho1 (below_size HB.out))
          replace BK963 := Aside0.mk (blk_below BK963.out hb)
          replace BK964 := Aside0.mk (blk_below BK964.out hb)
          replace BK965 := Aside0.mk (blk_below BK965.out hb)
          replace HB := Aside0.mk (below_step HB.out hb)
          (try clear hb)
          (try clear ho0)
          (try clear ho1)
          refine hK.out _ _ ⟨(blk_cell BK963.out 0).trans rfl, (blk_cell BK963.out 1).trans rfl, (blk_cell BK963.out 2).trans rfl, (blk_cell BK964.out 0).trans rfl, (blk_cell BK964.out 1).trans rfl, (blk_cell BK964.out 2).trans rfl, (blk_cell BK965.out 0).trans rfl, (blk_cell BK965.out 1).trans rfl, (blk_cell BK965.out 2).trans rfl⟩ (fun hHeld => ?_)
          clear hK K
          refine Short.normS_ ?_
          refine one_ (i := 8) (N := some 74) #[true, true, true, true, true, true, true, true, true, false, false, false, false, false, false] rfl rfl (one_of HT_.out (by kernel_rfl)) (by decide) (fun K hK => ?_)
          refine Short.goesD_ Try.func30 #[.agg #[.bool a1_0, .slice A1_1 l1_1.length c1_1, .slice A1_2 l1_2.length c1_2], .agg #[.bool a2_0, .slice A2_1 l2_1.length c2_1, .slice A2_2 l2_2.length c2_2]] ?_
          with_reducible refine (rat_Sub.calls kj80 a1_0 _ _ l1_1 _ _ l1_2 a2_0 _ _ l2_1 _ _ l2_2 t1047 t1048 t1051 _ (Kd.C_below HR1_1.out HB.out) HC1_1.out (Kd.C_below HR1_2.out HB.out) HC1_2.out (Kd.C_below HR2_1.out HB.out) HC2_1.out (Kd.C_below HR2_2.out HB.out) HC2_2.out A146.out).mono ?_
          rintro e w153 ⟨v1049, v1052, rfl, ho0, ho1, hb⟩
          refine ⟨_, rfl, ?_⟩
          have HO1050 := Aside0.mk (Kd.R_lower (Kd.R_new' (Kd.R_new' ho0 (Kd.R_lt HO1043.out)) (Kd.R_lt HO1046.out)) (below_size HB.out))
          have HO1053 := Aside0.mk (Kd.R_lower (Kd.R_new' (Kd.R_new' ho1 (Kd.R_lt HO1043.out)) (Kd.R_lt HO1046.out)) (below_size HB.out))
          replace HO1043 := Aside0.mk (Kd.R_mono (Kd.R_told (Kd.R_told (Kd.R_old HO1043.out hb) (Kd.R_base ho0)) (Kd.R_base ho1)) (fun _ h_ => h_.1))
          replace HO1046 := Aside0.mk (Kd.R_mono (Kd.R_told (Kd.R_told (Kd.R_old HO1046.out hb) (Kd.R_base ho0)) (Kd.R_base ho1)) (fun _ h_ => h_.1))
          replace BK963 := Aside0.mk (blk_below BK963.out hb)
          replace BK964 := Aside0.mk (blk_below BK964.out hb)
          replace BK965 := Aside0.mk (blk_below BK965.out hb)
          replace HB := Aside0.mk (below_step HB.out hb)
          (try clear hb)
          (try clear ho0)
          (try clear ho1)
          obtain ⟨Ao154, co154, eo154⟩ := Kd.R_slice HO1043.out
          (first | subst eo154 | (injection eo154 with f1_ f2_ f3_; have f4_ := f1_.symm; have f5_ := f3_.symm; clear f1_ f2_ f3_; subst f4_; subst f5_))
          obtain ⟨Ao155, co155, eo155⟩ := Kd.R_slice HO1046.out
          (first | subst eo155 | (injection eo155 with f1_ f2_ f3_; have f4_ := f1_.symm; have f5_ := f3_.symm; clear f1_ f2_ f3_; subst f4_; subst f5_))
          obtain ⟨Ao156, co156, eo156⟩ := Kd.R_slice HO1050.out
          (first | subst eo156 | (injection eo156 with f1_ f2_ f3_; have f4_ := f1_.symm; have f5_ := f3_.symm; clear f1_ f2_ f3_; subst f4_; subst f5_))
          obtain ⟨Ao157, co157, eo157⟩ := Kd.R_slice HO1053.out
          (first | subst eo157 | (injection eo157 with f1_ f2_ f3_; have f4_ := f1_.symm; have f5_ := f3_.symm; clear f1_ f2_ f3_; subst f4_; subst f5_))
          refine hK.out _ _ ⟨(blk_cell BK963.out 0).trans rfl, (blk_cell BK963.out 1).trans rfl, (blk_cell BK963.out 2).trans rfl, (blk_cell BK964.out 0).trans rfl, (blk_cell BK964.out 1).trans rfl, (blk_cell BK964.out 2).trans rfl, (blk_cell BK965.out 0).trans rfl, (blk_cell BK965.out 1).trans rfl, (blk_cell BK965.out 2).trans rfl⟩ (fun hHeld => ?_)
          clear hK K
          refine Short.normS_ ?_
          refine one_ (i := 9) (N := some 75) #[true, true, true, true, true, true, true, true, true, true, false, false, false, false, false] rfl rfl (one_of HT_.out (by kernel_rfl)) (by decide) (fun K hK => ?_)
          refine Short.goesD_ Try.func35 #[.agg #[.bool t1040, .slice Ao154 t1041.length co154, .slice Ao155 t1044.length co155], .agg #[.bool t1047, .slice Ao156 t1048.length co156, .slice Ao157 t1051.length co157]] ?_
          with_reducible refine (rat_Compare.calls kj80 t1040 _ _ t1041 _ _ t1044 t1047 _ _ t1048 _ _ t1051 t1054 _ ((Kd.R_reads' HO1043.out).2.2) ((Kd.R_reads' HO1043.out).2.1) ((Kd.R_reads' HO1046.out).2.2) ((Kd.R_reads' HO1046.out).2.1) ((Kd.R_reads' HO1050.out).2.2) ((Kd.R_reads' HO1050.out).2.1) ((Kd.R_reads' HO1053.out).2.2) ((Kd.R_reads' HO1053.out).2.1) A147.out).mono ?_
          rintro e w158 ⟨rfl, hb⟩
          refine ⟨_, rfl, ?_⟩
          replace HO1043 := Aside0.mk (Kd.R_below HO1043.out hb)
          replace HO1046 := Aside0.mk (Kd.R_below HO1046.out hb)
          replace HO1050 := Aside0.mk (Kd.R_below HO1050.out hb)
          replace HO1053 := Aside0.mk (Kd.R_below HO1053.out hb)
          replace BK963 := Aside0.mk (blk_below BK963.out hb)
          replace BK964 := Aside0.mk (blk_below BK964.out hb)
          replace BK965 := Aside0.mk (blk_below BK965.out hb)
          replace HB := Aside0.mk (below_step HB.out hb)
          (try clear hb)
          refine hK.out _ _ ⟨(blk_cell BK963.out 0).trans rfl, (blk_cell BK963.out 1).trans rfl, (blk_cell BK963.out 2).trans rfl, (blk_cell BK964.out 0).trans rfl, (blk_cell BK964.out 1).trans rfl, (blk_cell BK964.out 2).trans rfl, (blk_cell BK965.out 0).trans rfl, (blk_cell BK965.out 1).trans rfl, (blk_cell BK965.out 2).trans rfl⟩ (fun hHeld => ?_)
          clear hK K
          refine Short.normS_ ?_
          refine Short.pureS_ (i := 10) (N := some 76) #[true, true, true, true, true, true, true, true, true, true, true, false, false, false, false] (any_of HT_.out (by kernel_rfl)) ?_
          refine Short.pureS_ (i := 11) (N := some 77) #[true, true, true, true, true, true, true, true, true, true, true, true, false, false, false] (any_of HT_.out (by kernel_rfl)) ?_
          refine one_ (i := 12) (N := some 78) #[true, true, true, true, true, true, true, true, true, true, true, true, true, false, false] rfl rfl (one_of HT_.out (by kernel_rfl)) (by decide) (fun K hK => ?_)
          refine Short.goesD_ Try.func11 #[] ?_
          with_reducible refine (offcutlaw03_awake.calls kj80  t1055 _ HRT.out A149.out).mono ?_
          rintro e w159 ⟨rfl, hb⟩
          refine ⟨_, rfl, ?_⟩
          replace HO1043 := Aside0.mk (Kd.R_below HO1043.out hb)
          replace HO1046 := Aside0.mk (Kd.R_below HO1046.out hb)
          replace HO1050 := Aside0.mk (Kd.R_below HO1050.out hb)
          replace HO1053 := Aside0.mk (Kd.R_below HO1053.out hb)
          replace BK963 := Aside0.mk (blk_below BK963.out hb)
          replace BK964 := Aside0.mk (blk_below BK964.out hb)
          replace BK965 := Aside0.mk (blk_below BK965.out hb)
          replace HB := Aside0.mk (below_step HB.out hb)
          (try clear hb)
          refine hK.out _ _ ⟨(blk_cell BK963.out 0).trans rfl, (blk_cell BK963.out 1).trans rfl, (blk_cell BK963.out 2).trans rfl, (blk_cell BK964.out 0).trans rfl, (blk_cell BK964.out 1).trans rfl, (blk_cell BK964.out 2).trans rfl, (blk_cell BK965.out 0).trans rfl, (blk_cell BK965.out 1).trans rfl, (blk_cell BK965.out 2).trans rfl⟩ (fun hHeld => ?_)
          clear hK K
          refine Short.normS_ ?_
          refine Short.pureS_ (i := 13) (N := some 79) #[true, true, true, true, true, true, true, true, true, true, true, true, true, true, false] (any_of HT_.out (by kernel_rfl)) ?_
          refine Short.pureS_ (i := 14) (N := some 6) #[true, true, true, true, true, true, true, true, true, true, true, true, true, true, true] (any_of HT_.out (by kernel_rfl)) ?_
          refine done_ (done_of HT_.out (by kernel_rfl)) ?_
          try go_wp2
          go_ret
          exact ⟨by rfl, by repeat (first | (with_reducible first | exact HB.out | apply below_alloc | apply pw_below_drewN | apply below_drew1 | refine below_set ?_ GE963.out | refine below_set ?_ GE964.out | refine below_set ?_ GE965.out) | exact HB.out)⟩
         ·rw [if_neg c148] at H
          have c148b0 : (t1039 == t1054) = false := beq_eq_false_iff_ne.mpr c148
          have c148b1 : (t1039 != t1054) = true := bne_iff_ne.mpr c148
          obtain rfl := Option.some.inj H
          exact absurd HRT.out (by decide)

end Go.Proofs.Ytcdkopidgibijaa.PR
