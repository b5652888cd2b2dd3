import Derived.Test.YtcdkopidgibijaaShort
import Derived.Test.YtcdkopidgibijaaPRg0
import Derived.Test.YtcdkopidgibijaaPRg15
import Derived.Test.YtcdkopidgibijaaPRx31
import Derived.Test.YtcdkopidgibijaaPRg32
import Derived.Test.YtcdkopidgibijaaPRg47
import Derived.Test.YtcdkopidgibijaaPRg67
namespace Go.Proofs.Ytcdkopidgibijaa.PR
open Go.RowKit Go.Proofs.YtcdkopidgibijaaW.PrintWords Go.Proofs.YtcdkopidgibijaaW.PrintLast Go.Proofs.YtcdkopidgibijaaW.PrintMore
attribute [local go_sem] max2_int min2_int max_two min_two max_three min_three max_four min_four   -- for this text's walks alone
set_option linter.unusedVariables false
set_option linter.unusedSimpArgs false

/-! ### offcutlaw03_RatRounds: function 4 -/
def offcutlaw03_RatRounds.j0 : Nat → ByteArray → ByteArray → ByteArray → Bool → List Int → List Int → Option (Bool)
 | 0, _, _, _, _, _, _ => none
 | k + 1, x4, x5, x6, x738000, x738001, x738002 => (rat_Floor.f k x738000 x738001 x738002).bind fun bt746 => ((whole_Text.f k bt746.1 bt746.2).bind fun t750 => (if t750.toList = x4.toList then ((rat_Ceil.f k x738000 x738001 x738002).bind fun bt751 => ((whole_Text.f k bt751.1 bt751.2).bind fun t755 => (if t755.toList = x6.toList then ((rat_Whole.f k x738000 x738001 x738002).bind fun t756 => (if (t756 == (x5.toList == ([48] : List UInt8))) = true then ((offcutlaw03_awake.f k).bind fun t757 => (some t757)) else (some false))) else (some false)))) else (some false)))
def offcutlaw03_RatRounds.f (k : Nat) (a0_0 : Bool) (l0_1 : List Int) (l0_2 : List Int) : Option (Bool) := (offcutlaw03_few.f a0_0 l0_1 l0_2).bind fun t738 => (if t738 = true then ((offcutlaw03_Of.f k a0_0 l0_1 l0_2).bind fun bt740 => ((offcutref02_Floor.f k bt740.1 bt740.2).bind fun bt743 => (if bt743.2.toList = ([48] : List UInt8) then (offcutlaw03_RatRounds.j0 k bt743.1 bt743.2 bt743.1 a0_0 l0_1 l0_2) else ((offcutref02_Add.f k bt743.1 (⟨#[49]⟩ : ByteArray)).bind fun t745 => (offcutlaw03_RatRounds.j0 k bt743.1 bt743.2 t745 a0_0 l0_1 l0_2))))) else ((offcutlaw03_awake.f k).bind fun t739 => (some t739)))
set_option maxHeartbeats 8000000 in
set_option maxRecDepth 100000 in
theorem offcutlaw03_RatRounds.calls (k : Nat) (a0_0 : Bool) (A0_1 : Option Addr) (c0_1 : Nat) (l0_1 : List Int) (A0_2 : Option Addr) (c0_2 : Nat) (l0_2 : List Int) (r : Bool) (w : World) (hr0_1 : Kd.C (Kd.int .u32) w A0_1 l0_1.length l0_1) (hc0_1 : l0_1.length ≤ c0_1) (hr0_2 : Kd.C (Kd.int .u32) w A0_2 l0_2.length l0_2) (hc0_2 : l0_2.length ≤ c0_2) (hrt : r = true) (h : offcutlaw03_RatRounds.f k a0_0 l0_1 l0_2 = some r) :
  Calls Try.prog 4 #[.agg #[.bool a0_0, .slice A0_1 l0_1.length c0_1, .slice A0_2 l0_2.length c0_2]] w fun e w' => e = .returned (.bool r) ∧ Below w.heap.size w w' := by
 have hu27 := Try.underlying27
 have hu34 := Try.underlying34
 have HRT := Aside0.mk hrt
 clear hrt
 have HR0_1 := Aside0.mk hr0_1
 have HC0_1 := Aside0.mk hc0_1
 clear hr0_1 hc0_1
 have HR0_2 := Aside0.mk hr0_2
 have HC0_2 := Aside0.mk hc0_2
 clear hr0_2 hc0_2
 have HB := Aside0.mk (Below.refl w.heap.size w)
 have H : ((offcutlaw03_few.f a0_0 l0_1 l0_2).bind fun t738 => (if t738 = true then ((offcutlaw03_Of.f k a0_0 l0_1 l0_2).bind fun bt740 => ((offcutref02_Floor.f k bt740.1 bt740.2).bind fun bt743 => (if bt743.2.toList = ([48] : List UInt8) then (offcutlaw03_RatRounds.j0 k bt743.1 bt743.2 bt743.1 a0_0 l0_1 l0_2) else ((offcutref02_Add.f k bt743.1 (⟨#[49]⟩ : ByteArray)).bind fun t745 => (offcutlaw03_RatRounds.j0 k bt743.1 bt743.2 t745 a0_0 l0_1 l0_2))))) else ((offcutlaw03_awake.f k).bind fun t739 => (some t739)))) = some r := h
 clear h
 replace H := Option.bind_eq_some_iff.mp H
 obtain ⟨t738, A20, H⟩ := H
 try dsimp only at H
 have A2 := Aside0.mk A20
 clear A20
 by_cases c3 : t738 = true
 ·subst c3
  have H1 : ((offcutlaw03_Of.f k a0_0 l0_1 l0_2).bind fun bt740 => ((offcutref02_Floor.f k bt740.1 bt740.2).bind fun bt743 => (if bt743.2.toList = ([48] : List UInt8) then (offcutlaw03_RatRounds.j0 k bt743.1 bt743.2 bt743.1 a0_0 l0_1 l0_2) else ((offcutref02_Add.f k bt743.1 (⟨#[49]⟩ : ByteArray)).bind fun t745 => (offcutlaw03_RatRounds.j0 k bt743.1 bt743.2 t745 a0_0 l0_1 l0_2))))) = some r := by rw [if_pos rfl] at H; exact H
  clear H
  have H := H1
  clear H1
  replace H := Option.bind_eq_some_iff.mp H
  obtain ⟨⟨t740, t741⟩, A40, H⟩ := H
  try dsimp only at H
  have A4 := Aside0.mk A40
  clear A40
  replace H := Option.bind_eq_some_iff.mp H
  obtain ⟨⟨t743, t744⟩, A50, H⟩ := H
  try dsimp only at H
  have A5 := Aside0.mk A50
  clear A50
  have HC6 := Aside0.mk H
  clear H
  go_enter Try.func4, Try.ntmps4
  go_upto_if 23 with (first | ((with_reducible refine gate_dst (N := 1) rfl ?_); refine Short.boxS_ (N := 1) (cs := #[.bool a0_0, .slice A0_1 l0_1.length c0_1, .slice A0_2 l0_2.length c0_2]) (t := 27) ?_; intro gb737 hg w7 hbox hb; have BK737 := Aside0.mk (hbox); have GW737 := Aside0.mk ((by rw [hg]; exact (below_size (by repeat (first | (with_reducible first | exact HB.out | apply below_alloc | apply pw_below_drewN | apply below_drew1) | exact HB.out))) : w.heap.size ≤ gb737)); have GE737 := Aside0.mk ((by rw [hg]; exact (below_size (by repeat (first | (with_reducible first | exact HB.out | apply below_alloc | apply pw_below_drewN | apply below_drew1) | exact HB.out))) : w.heap.size ≤ gb737)); replace HB := Aside0.mk (below_step (by repeat (first | (with_reducible first | exact HB.out | apply below_alloc | apply pw_below_drewN | apply below_drew1) | exact HB.out)) hb); clear hb hbox hg; have hcz8_0 : w7.cell? ⟨gb737, 0, none⟩ = some (.bool a0_0) := (blk_cell BK737.out 0).trans rfl; have hcz8_1 : w7.cell? ⟨gb737, 1, none⟩ = some (.slice A0_1 l0_1.length c0_1) := (blk_cell BK737.out 1).trans rfl; have hcz8_2 : w7.cell? ⟨gb737, 2, none⟩ = some (.slice A0_2 l0_2.length c0_2) := (blk_cell BK737.out 2).trans rfl; have hfz8_0 := blk_frozen BK737.out 0; have hfz8_1 := blk_frozen BK737.out 1; have hfz8_2 := blk_frozen BK737.out 2) | ((with_reducible refine gate_callee (f := 10) rfl ?_); refine Short.goesS_ (some 8) Try.func10 #[.agg #[.bool a0_0, .slice A0_1 l0_1.length c0_1, .slice A0_2 l0_2.length c0_2]] ?_; (with_reducible refine (offcutlaw03_few.calls a0_0 _ _ l0_1 _ _ l0_2 true _ ?side1 HC0_1.out ?side3 HC0_2.out A2.out).mono ?_); (case side1 => repeat (first | exact (Kd.C_below HR0_1.out HB.out) | (with_reducible refine Kd.C_alloc ?_ _) | (with_reducible refine Kd.C_drewN ?_ _) | (with_reducible refine Kd.C_drew ?_))); (case side3 => repeat (first | exact (Kd.C_below HR0_2.out HB.out) | (with_reducible refine Kd.C_alloc ?_ _) | (with_reducible refine Kd.C_drewN ?_ _) | (with_reducible refine Kd.C_drew ?_))); rintro e w9 ⟨rfl, hb⟩; refine ⟨_, rfl, ?_⟩; replace BK737 := Short.blkB_ (g := gb737) hb; replace HB := Short.stepB_ (w := w) hb; (try clear hb); have hcz10_0 : w9.cell? ⟨gb737, 0, none⟩ = some (.bool a0_0) := (blk_cell BK737.out 0).trans rfl; have hcz10_1 : w9.cell? ⟨gb737, 1, none⟩ = some (.slice A0_1 l0_1.length c0_1) := (blk_cell BK737.out 1).trans rfl; have hcz10_2 : w9.cell? ⟨gb737, 2, none⟩ = some (.slice A0_2 l0_2.length c0_2) := (blk_cell BK737.out 2).trans rfl; have hfz10_0 := blk_frozen BK737.out 0; have hfz10_1 := blk_frozen BK737.out 1; have hfz10_2 := blk_frozen BK737.out 2) | ((with_reducible refine gate_callee (f := 13) rfl ?_); refine Short.goesS_ (some 12) Try.func13 #[.agg #[.bool a0_0, .slice A0_1 l0_1.length c0_1, .slice A0_2 l0_2.length c0_2]] ?_; (with_reducible refine (offcutlaw03_Of.calls k a0_0 _ _ l0_1 _ _ l0_2 t740 t741 _ ?side1 HC0_1.out ?side3 HC0_2.out A4.out).mono ?_); (case side1 => repeat (first | exact (Kd.C_below HR0_1.out HB.out) | (with_reducible refine Kd.C_alloc ?_ _) | (with_reducible refine Kd.C_drewN ?_ _) | (with_reducible refine Kd.C_drew ?_))); (case side3 => repeat (first | exact (Kd.C_below HR0_2.out HB.out) | (with_reducible refine Kd.C_alloc ?_ _) | (with_reducible refine Kd.C_drewN ?_ _) | (with_reducible refine Kd.C_drew ?_))); rintro e w11 ⟨rfl, hb⟩; refine ⟨_, rfl, ?_⟩; replace BK737 := Short.blkB_ (g := gb737) hb; replace HB := Short.stepB_ (w := w) hb; (try clear hb)) | ((with_reducible refine gate_dst (N := 3) rfl ?_); refine Short.boxS_ (N := 3) (cs := #[.string (⟨#[]⟩ : ByteArray), .string (⟨#[]⟩ : ByteArray)]) (t := 34) ?_; intro gb742 hg w12 hbox hb; have BK742 := Aside0.mk (hbox); have GW742 := Short.sizeB_ (w := w) hg; have GE742 := Short.sizeB_ (w := w) hg; replace HB := Short.stepB_ (w := w) hb; have NB737_742 := Short.ltB_ (g := gb737) hg; have NB742_737 := Short.gtB_ (g := gb737) hg; replace BK737 := Short.blkB_ (g := gb737) hb; clear hb hbox hg; have hnb13 := NB742_737.out; have hnc13 := NB737_742.out; have hcz14_0 : w12.cell? ⟨gb742, 0, none⟩ = some (.string (⟨#[]⟩ : ByteArray)) := (blk_cell BK742.out 0).trans rfl; have hcz14_1 : w12.cell? ⟨gb742, 1, none⟩ = some (.string (⟨#[]⟩ : ByteArray)) := (blk_cell BK742.out 1).trans rfl; have hfz14_0 := blk_frozen BK742.out 0; have hfz14_1 := blk_frozen BK742.out 1) | ((with_reducible refine gate_callee (f := 18) rfl ?_); refine Short.goesS_ (some 18) Try.func18 #[.string t740, .string t741] ?_; (with_reducible refine (offcutref02_Floor.calls k t740 t741 t743 t744 _ A5.out).mono ?_); rintro e w15 ⟨rfl, hb⟩; refine ⟨_, rfl, ?_⟩; replace BK737 := Aside0.mk (blk_below (g := gb737) (o := .cells #[.bool a0_0, .slice A0_1 l0_1.length c0_1, .slice A0_2 l0_2.length c0_2] 27 (0, 0)) (by (with_reducible repeat (first | refine blk_drewN ?_ _ | refine blk_drew ?_ | refine blk_alloc ?_ _)); refine blk_far ?_ NB737_742.out _; (with_reducible repeat (first | refine blk_drewN ?_ _ | refine blk_drew ?_ | refine blk_alloc ?_ _)); refine blk_far ?_ NB737_742.out _; (with_reducible repeat (first | refine blk_drewN ?_ _ | refine blk_drew ?_ | refine blk_alloc ?_ _)); exact BK737.out) hb); replace BK742 := Aside0.mk (blk_below (g := gb742) (o := .cells #[.string t740, .string t741] 34 (0, 0)) (by (with_reducible repeat (first | refine blk_drewN ?_ _ | refine blk_drew ?_ | refine blk_alloc ?_ _)); refine blk_put (cs := #[.string t740, .string (⟨#[]⟩ : ByteArray)]) ?_ 1 _ rfl; (with_reducible repeat (first | refine blk_drewN ?_ _ | refine blk_drew ?_ | refine blk_alloc ?_ _)); refine blk_put (cs := #[.string (⟨#[]⟩ : ByteArray), .string (⟨#[]⟩ : ByteArray)]) ?_ 0 _ rfl; (with_reducible repeat (first | refine blk_drewN ?_ _ | refine blk_drew ?_ | refine blk_alloc ?_ _)); exact BK742.out) hb); replace HB := Short.stepB_ (w := w) hb; (try clear hb)))
  (try simp only [Act.put, List.setIfInBounds_toArray, List.set_cons_zero, List.set_cons_succ])
  go_cut [6] (fun v6 wc => ∃ (kq : Nat) (x6_5 : ByteArray), v6 = .string x6_5 ∧ Aside0 (offcutlaw03_RatRounds.j0 kq t743 t744 x6_5 a0_0 l0_1 l0_2 = some r) ∧ Aside0 (kq ≤ k) ∧ Aside0 (wc.heap[gb737]? = some (.cells #[.bool a0_0, (.slice A0_1 l0_1.length c0_1), (.slice A0_2 l0_2.length c0_2)] 27 (0, 0))) ∧ Aside0 (wc.heap[gb742]? = some (.cells #[.string t740, .string t741] 34 (0, 0))) ∧ Aside0 (Below w.heap.size w wc))
  case first =>
   have H := HC6.out
   clear HC6
   by_cases c16 : t744.toList = ([48] : List UInt8)
   ·rw [if_pos c16] at H
    have c16b0 : (t744.toList == ([48] : List UInt8)) = true := beq_iff_eq.mpr c16
    have c16b1 : (t744.toList != ([48] : List UInt8)) = false := bne_eq_false_iff_eq.mpr c16
    clear c16
    (first | rw [c16b0] | (simp only [i64_w, i32_w]; rw [c16b0]) | skip)
    have H' := Aside0.mk H
    clear H
    go_wp2
    go_meet
    case rel => exact ⟨_, (t743), (by first | rfl | (simp; done) | (simp [*]; done)), H', ⟨by first | omega | exact Nat.le_refl _⟩, ⟨by (with_reducible repeat (first | refine blk_drewN ?_ _ | refine blk_drew ?_ | refine blk_alloc ?_ _)); exact BK737.out⟩, ⟨by (with_reducible repeat (first | refine blk_drewN ?_ _ | refine blk_drew ?_ | refine blk_alloc ?_ _)); exact BK742.out⟩, ⟨by repeat (first | (with_reducible first | exact HB.out | apply below_alloc | apply pw_below_drewN | apply below_drew1 | refine below_set ?_ GE737.out | refine below_set ?_ GE742.out) | exact HB.out)⟩⟩
   ·rw [if_neg c16] at H
    have c16b0 : (t744.toList == ([48] : List UInt8)) = false := beq_eq_false_iff_ne.mpr c16
    have c16b1 : (t744.toList != ([48] : List UInt8)) = true := bne_iff_ne.mpr c16
    (first | rw [c16b0] | (simp only [i64_w, i32_w]; rw [c16b0]) | skip)
    replace H := Option.bind_eq_some_iff.mp H
    obtain ⟨t745, A170, H⟩ := H
    try dsimp only at H
    have A17 := Aside0.mk A170
    clear A170
    have H' := Aside0.mk H
    clear H
    go_wp2_with (first | ((with_reducible refine gate_callee (f := 19) rfl ?_); refine Short.goesS_ (some 25) Try.func19 #[.string t743, .string (⟨#[49]⟩ : ByteArray)] ?_; (with_reducible refine (offcutref02_Add.calls k t743 (⟨#[49]⟩ : ByteArray) t745 _ A17.out).mono ?_); rintro e w' ⟨rfl, ⟨nd, rfl⟩⟩; refine ⟨_, rfl, ?_⟩))
    go_meet
    case rel => exact ⟨_, (t745), (by first | rfl | (simp; done) | (simp [*]; done)), H', ⟨by first | omega | exact Nat.le_refl _⟩, ⟨by (with_reducible repeat (first | refine blk_drewN ?_ _ | refine blk_drew ?_ | refine blk_alloc ?_ _)); exact BK737.out⟩, ⟨by (with_reducible repeat (first | refine blk_drewN ?_ _ | refine blk_drew ?_ | refine blk_alloc ?_ _)); exact BK742.out⟩, ⟨by repeat (first | (with_reducible first | exact HB.out | apply below_alloc | apply pw_below_drewN | apply below_drew1 | refine below_set ?_ GE737.out | refine below_set ?_ GE742.out) | exact HB.out)⟩⟩
  case rest =>
   clear HC6
   try clear c1
   try clear p2
   try clear c3
   try clear c4
   try clear c10
   try clear c13
   try clear c16
   try clear c16b0
   try clear c16b1
   try clear hcz10_0
   try clear hcz10_1
   try clear hcz10_2
   try clear hcz14_0
   try clear hcz14_1
   try clear hcz8_0
   try clear hcz8_1
   try clear hcz8_2
   try clear hfz10_0
   try clear hfz10_1
   try clear hfz10_2
   try clear hfz14_0
   try clear hfz14_1
   try clear hfz8_0
   try clear hfz8_1
   try clear hfz8_2
   obtain ⟨kq, x6_5, rfl, HA, HJ5, BK737, BK742, HB⟩ := hcut
   cases kq with
   | zero => exact absurd HA.out (by simp [offcutlaw03_RatRounds.j0])
   | succ kj5 =>
    have H := HA.out
    clear HA
    simp only [offcutlaw03_RatRounds.j0] at H
    replace H := Option.bind_eq_some_iff.mp H
    obtain ⟨⟨t746, t747⟩, A180, H⟩ := H
    try dsimp only at H
    have A18 := Aside0.mk A180
    clear A180
    replace H := Option.bind_eq_some_iff.mp H
    obtain ⟨t750, A190, H⟩ := H
    try dsimp only at H
    have A19 := Aside0.mk A190
    clear A190
    by_cases c20 : t750.toList = t743.toList
    ·rw [if_pos c20] at H
     have c20b0 : (t750.toList == t743.toList) = true := beq_iff_eq.mpr c20
     have c20b1 : (t750.toList != t743.toList) = false := bne_eq_false_iff_eq.mpr c20
     clear c20
     replace H := Option.bind_eq_some_iff.mp H
     obtain ⟨⟨t751, t752⟩, A210, H⟩ := H
     try dsimp only at H
     have A21 := Aside0.mk A210
     clear A210
     replace H := Option.bind_eq_some_iff.mp H
     obtain ⟨t755, A220, H⟩ := H
     try dsimp only at H
     have A22 := Aside0.mk A220
     clear A220
     by_cases c23 : t755.toList = x6_5.toList
     ·rw [if_pos c23] at H
      have c23b0 : (t755.toList == x6_5.toList) = true := beq_iff_eq.mpr c23
      have c23b1 : (t755.toList != x6_5.toList) = false := bne_eq_false_iff_eq.mpr c23
      clear c23
      replace H := Option.bind_eq_some_iff.mp H
      obtain ⟨t756, A240, H⟩ := H
      try dsimp only at H
      have A24 := Aside0.mk A240
      clear A240
      by_cases c25 : (t756 == (t744.toList == ([48] : List UInt8))) = true
      ·rw [if_pos c25] at H
       have c25b0 : (t756 == (t744.toList == ([48] : List UInt8))) = true := c25
       (try (have c25b1 : decide (t756 = (t744.toList == ([48] : List UInt8))) = true := by simpa using c25))
       (try (have c25b2 : (t756 == (t744.toList == ([48] : List UInt8))) = true := by simpa using c25))
       clear c25
       replace H := Option.bind_eq_some_iff.mp H
       obtain ⟨t757, A260, H⟩ := H
       replace H : (some t757) = some r := H
       have A26 := Aside0.mk A260
       clear A260
       obtain rfl := Option.some.inj H
       have hnb27 := NB737_742.out
       have hnc27 := NB742_737.out
       have hcz28_0 : wc.cell? ⟨gb737, 0, none⟩ = some (.bool a0_0) := (blk_cell BK737.out 0).trans rfl
       have hcz28_1 : wc.cell? ⟨gb737, 1, none⟩ = some (.slice A0_1 l0_1.length c0_1) := (blk_cell BK737.out 1).trans rfl
       have hcz28_2 : wc.cell? ⟨gb737, 2, none⟩ = some (.slice A0_2 l0_2.length c0_2) := (blk_cell BK737.out 2).trans rfl
       have hfz28_0 := blk_frozen BK737.out 0
       have hfz28_1 := blk_frozen BK737.out 1
       have hfz28_2 := blk_frozen BK737.out 2
       go_wp2_with (first | ((with_reducible refine gate_callee (f := 21) rfl ?_); refine Short.goesS_ (some 27) Try.func21 #[.agg #[.bool a0_0, .slice A0_1 l0_1.length c0_1, .slice A0_2 l0_2.length c0_2]] ?_; (with_reducible refine (rat_Floor.calls kj5 a0_0 _ _ l0_1 _ _ l0_2 t746 t747 _ ?side1 HC0_1.out ?side3 HC0_2.out A18.out).mono ?_); (case side1 => repeat (first | exact (Kd.C_below HR0_1.out HB.out) | (with_reducible refine Kd.C_alloc ?_ _) | (with_reducible refine Kd.C_drewN ?_ _) | (with_reducible refine Kd.C_drew ?_))); (case side3 => repeat (first | exact (Kd.C_below HR0_2.out HB.out) | (with_reducible refine Kd.C_alloc ?_ _) | (with_reducible refine Kd.C_drewN ?_ _) | (with_reducible refine Kd.C_drew ?_))); rintro e w29 ⟨v748, rfl, ho0, hb⟩; refine ⟨_, rfl, ?_⟩; have HO749 := Aside0.mk (Kd.R_lower ho0 (Short.sizeA_ (w := w))); replace BK737 := Short.blkB_ (g := gb737) hb; replace BK742 := Short.blkB_ (g := gb742) hb; replace HB := Short.stepB_ (w := w) hb; (try clear hb); (try clear ho0); obtain ⟨Ao30, co30, eo30⟩ := Kd.R_slice HO749.out; subst eo30) | ((with_reducible refine gate_callee (f := 20) rfl ?_); refine Short.goesS_ (some 28) Try.func20 #[.agg #[.bool t746, .slice Ao30 t747.length co30]] ?_; (with_reducible refine (whole_Text.calls kj5 t746 _ _ t747 t750 _ ?side1 ((Kd.R_reads' HO749.out).2.1) A19.out).mono ?_); (case side1 => repeat (first | exact (Kd.R_reads' HO749.out).2.2 | (with_reducible refine Kd.C_alloc ?_ _) | (with_reducible refine Kd.C_drewN ?_ _) | (with_reducible refine Kd.C_drew ?_))); rintro e w31 ⟨rfl, hb⟩; refine ⟨_, rfl, ?_⟩; replace HO749 := Aside0.mk (Kd.R_below (by (with_reducible repeat (first | apply Kd.R_alloc | apply Kd.R_drewN | apply Kd.R_drew)); exact HO749.out) hb); replace BK737 := Short.blkB_ (g := gb737) hb; replace BK742 := Short.blkB_ (g := gb742) hb; replace HB := Short.stepB_ (w := w) hb; (try clear hb); have hcz32_0 : w31.cell? ⟨gb737, 0, none⟩ = some (.bool a0_0) := (blk_cell BK737.out 0).trans rfl; have hcz32_1 : w31.cell? ⟨gb737, 1, none⟩ = some (.slice A0_1 l0_1.length c0_1) := (blk_cell BK737.out 1).trans rfl; have hcz32_2 : w31.cell? ⟨gb737, 2, none⟩ = some (.slice A0_2 l0_2.length c0_2) := (blk_cell BK737.out 2).trans rfl; have hfz32_0 := blk_frozen BK737.out 0; have hfz32_1 := blk_frozen BK737.out 1; have hfz32_2 := blk_frozen BK737.out 2) | (go_at_call 22; (with_reducible refine (rat_Ceil.calls kj5 a0_0 _ _ l0_1 _ _ l0_2 t751 t752 _ ?side1 HC0_1.out ?side3 HC0_2.out A21.out).mono ?_); (case side1 => repeat (first | exact (Kd.C_below HR0_1.out HB.out) | (with_reducible refine Kd.C_alloc ?_ _) | (with_reducible refine Kd.C_drewN ?_ _) | (with_reducible refine Kd.C_drew ?_))); (case side3 => repeat (first | exact (Kd.C_below HR0_2.out HB.out) | (with_reducible refine Kd.C_alloc ?_ _) | (with_reducible refine Kd.C_drewN ?_ _) | (with_reducible refine Kd.C_drew ?_))); rintro e w33 ⟨v753, rfl, ho0, hb⟩; have HO754 := Aside0.mk (Kd.R_lower (Kd.R_new' ho0 (Kd.R_lt (by (with_reducible repeat (first | apply Kd.R_alloc | apply Kd.R_drewN | apply Kd.R_drew)); exact HO749.out))) (Short.sizeA_ (w := w))); replace HO749 := Aside0.mk (Kd.R_elder' (by (with_reducible repeat (first | apply Kd.R_alloc | apply Kd.R_drewN | apply Kd.R_drew)); exact HO749.out) (Kd.R_base ho0) hb); replace BK737 := Short.blkB_ (g := gb737) hb; replace BK742 := Short.blkB_ (g := gb742) hb; replace HB := Short.stepB_ (w := w) hb; (try clear hb); (try clear ho0); obtain ⟨Ao34, co34, eo34⟩ := Kd.R_slice HO754.out; subst eo34) | (go_at_call 20; (with_reducible refine (whole_Text.calls kj5 t751 _ _ t752 t755 _ ?side1 ((Kd.R_reads' HO754.out).2.1) A22.out).mono ?_); (case side1 => repeat (first | exact (Kd.R_reads' HO754.out).2.2 | (with_reducible refine Kd.C_alloc ?_ _) | (with_reducible refine Kd.C_drewN ?_ _) | (with_reducible refine Kd.C_drew ?_))); rintro e w35 ⟨rfl, hb⟩; replace HO749 := Aside0.mk (Kd.R_below (by (with_reducible repeat (first | apply Kd.R_alloc | apply Kd.R_drewN | apply Kd.R_drew)); exact HO749.out) hb); replace HO754 := Aside0.mk (Kd.R_below (by (with_reducible repeat (first | apply Kd.R_alloc | apply Kd.R_drewN | apply Kd.R_drew)); exact HO754.out) hb); replace BK737 := Short.blkB_ (g := gb737) hb; replace BK742 := Short.blkB_ (g := gb742) hb; replace HB := Short.stepB_ (w := w) hb; (try clear hb); have hcz36_0 : w35.cell? ⟨gb737, 0, none⟩ = some (.bool a0_0) := (blk_cell BK737.out 0).trans rfl; have hcz36_1 : w35.cell? ⟨gb737, 1, none⟩ = some (.slice A0_1 l0_1.length c0_1) := (blk_cell BK737.out 1).trans rfl; have hcz36_2 : w35.cell? ⟨gb737, 2, none⟩ = some (.slice A0_2 l0_2.length c0_2) := (blk_cell BK737.out 2).trans rfl; have hfz36_0 := blk_frozen BK737.out 0; have hfz36_1 := blk_frozen BK737.out 1; have hfz36_2 := blk_frozen BK737.out 2) | (go_at_call 23; (with_reducible refine (rat_Whole.calls kj5 a0_0 _ _ l0_1 _ _ l0_2 t756 _ ?side1 HC0_1.out ?side3 HC0_2.out A24.out).mono ?_); (case side1 => repeat (first | exact (Kd.C_below HR0_1.out HB.out) | (with_reducible refine Kd.C_alloc ?_ _) | (with_reducible refine Kd.C_drewN ?_ _) | (with_reducible refine Kd.C_drew ?_))); (case side3 => repeat (first | exact (Kd.C_below HR0_2.out HB.out) | (with_reducible refine Kd.C_alloc ?_ _) | (with_reducible refine Kd.C_drewN ?_ _) | (with_reducible refine Kd.C_drew ?_))); rintro e w37 ⟨rfl, hb⟩; replace HO749 := Aside0.mk (Kd.R_below (by (with_reducible repeat (first | apply Kd.R_alloc | apply Kd.R_drewN | apply Kd.R_drew)); exact HO749.out) hb); replace HO754 := Aside0.mk (Kd.R_below (by (with_reducible repeat (first | apply Kd.R_alloc | apply Kd.R_drewN | apply Kd.R_drew)); exact HO754.out) hb); replace BK737 := Short.blkB_ (g := gb737) hb; replace BK742 := Short.blkB_ (g := gb742) hb; replace HB := Short.stepB_ (w := w) hb; (try clear hb)) | (go_at_call 11; (with_reducible refine (offcutlaw03_awake.calls kj5  t757 _ HRT.out A26.out).mono ?_); rintro e w38 ⟨rfl, hb⟩; replace HO749 := Aside0.mk (Kd.R_below (by (with_reducible repeat (first | apply Kd.R_alloc | apply Kd.R_drewN | apply Kd.R_drew)); exact HO749.out) hb); replace HO754 := Aside0.mk (Kd.R_below (by (with_reducible repeat (first | apply Kd.R_alloc | apply Kd.R_drewN | apply Kd.R_drew)); exact HO754.out) hb); replace BK737 := Short.blkB_ (g := gb737) hb; replace BK742 := Short.blkB_ (g := gb742) hb; replace HB := Short.stepB_ (w := w) hb; (try clear hb)))
       go_ret
       exact ⟨by rfl, by repeat (first | (with_reducible first | exact HB.out | apply below_alloc | apply pw_below_drewN | apply below_drew1 | refine below_set ?_ GE737.out | refine below_set ?_ GE742.out) | exact HB.out)⟩
      ·rw [if_neg c25] at H
       have c25b0 : (t756 == (t744.toList == ([48] : List UInt8))) = false := by simpa using c25
       (try (have c25b1 : decide (t756 = (t744.toList == ([48] : List UInt8))) = false := by simpa using c25))
       (try (have c25b2 : (t756 == (t744.toList == ([48] : List UInt8))) = false := by simpa using c25))
       (try (have c25b3 : ¬ (t756 = (t744.toList == ([48] : List UInt8))) := by simpa using c25))
       clear c25
       obtain rfl := Option.some.inj H
       exact absurd HRT.out (by decide)
     ·rw [if_neg c23] at H
      have c23b0 : (t755.toList == x6_5.toList) = false := beq_eq_false_iff_ne.mpr c23
      have c23b1 : (t755.toList != x6_5.toList) = true := bne_iff_ne.mpr c23
      obtain rfl := Option.some.inj H
      exact absurd HRT.out (by decide)
    ·rw [if_neg c20] at H
     have c20b0 : (t750.toList == t743.toList) = false := beq_eq_false_iff_ne.mpr c20
     have c20b1 : (t750.toList != t743.toList) = true := bne_iff_ne.mpr c20
     obtain rfl := Option.some.inj H
     exact absurd HRT.out (by decide)
 ·replace c3 := Bool.eq_false_iff.mpr c3
  subst c3
  have H1 : ((offcutlaw03_awake.f k).bind fun t739 => (some t739)) = some r := by rw [if_neg (show ¬ (false = true) by decide)] at H; exact H
  clear H
  have H := H1
  clear H1
  replace H := Option.bind_eq_some_iff.mp H
  obtain ⟨t739, A640, H⟩ := H
  replace H : (some t739) = some r := H
  have A64 := Aside0.mk A640
  clear A640
  obtain rfl := Option.some.inj H
  go_enter Try.func4, Try.ntmps4
  go_wp2_with (first | ((with_reducible refine gate_dst (N := 1) rfl ?_); refine Short.boxS_ (N := 1) (cs := #[.bool a0_0, .slice A0_1 l0_1.length c0_1, .slice A0_2 l0_2.length c0_2]) (t := 27) ?_; intro gb737 hg w65 hbox hb; have BK737 := Aside0.mk (hbox); have GW737 := Aside0.mk ((by rw [hg]; exact (below_size (by repeat (first | (with_reducible first | exact HB.out | apply below_alloc | apply pw_below_drewN | apply below_drew1) | exact HB.out))) : w.heap.size ≤ gb737)); have GE737 := Aside0.mk ((by rw [hg]; exact (below_size (by repeat (first | (with_reducible first | exact HB.out | apply below_alloc | apply pw_below_drewN | apply below_drew1) | exact HB.out))) : w.heap.size ≤ gb737)); replace HB := Aside0.mk (below_step (by repeat (first | (with_reducible first | exact HB.out | apply below_alloc | apply pw_below_drewN | apply below_drew1) | exact HB.out)) hb); clear hb hbox hg; have hcz66_0 : w65.cell? ⟨gb737, 0, none⟩ = some (.bool a0_0) := (blk_cell BK737.out 0).trans rfl; have hcz66_1 : w65.cell? ⟨gb737, 1, none⟩ = some (.slice A0_1 l0_1.length c0_1) := (blk_cell BK737.out 1).trans rfl; have hcz66_2 : w65.cell? ⟨gb737, 2, none⟩ = some (.slice A0_2 l0_2.length c0_2) := (blk_cell BK737.out 2).trans rfl; have hfz66_0 := blk_frozen BK737.out 0; have hfz66_1 := blk_frozen BK737.out 1; have hfz66_2 := blk_frozen BK737.out 2) | ((with_reducible refine gate_callee (f := 10) rfl ?_); refine Short.goesS_ (some 8) Try.func10 #[.agg #[.bool a0_0, .slice A0_1 l0_1.length c0_1, .slice A0_2 l0_2.length c0_2]] ?_; (with_reducible refine (offcutlaw03_few.calls a0_0 _ _ l0_1 _ _ l0_2 false _ ?side1 HC0_1.out ?side3 HC0_2.out A2.out).mono ?_); (case side1 => repeat (first | exact (Kd.C_below HR0_1.out HB.out) | (with_reducible refine Kd.C_alloc ?_ _) | (with_reducible refine Kd.C_drewN ?_ _) | (with_reducible refine Kd.C_drew ?_))); (case side3 => repeat (first | exact (Kd.C_below HR0_2.out HB.out) | (with_reducible refine Kd.C_alloc ?_ _) | (with_reducible refine Kd.C_drewN ?_ _) | (with_reducible refine Kd.C_drew ?_))); rintro e w67 ⟨rfl, hb⟩; refine ⟨_, rfl, ?_⟩; replace BK737 := Short.blkB_ (g := gb737) hb; replace HB := Short.stepB_ (w := w) hb; (try clear hb)) | ((with_reducible refine gate_callee (f := 11) rfl ?_); refine Short.goesS_ (some 10) Try.func11 #[] ?_; (with_reducible refine (offcutlaw03_awake.calls k  t739 _ HRT.out A64.out).mono ?_); rintro e w68 ⟨rfl, hb⟩; refine ⟨_, rfl, ?_⟩; replace BK737 := Short.blkB_ (g := gb737) hb; replace HB := Short.stepB_ (w := w) hb; (try clear hb)))
  go_ret
  exact ⟨by rfl, by repeat (first | (with_reducible first | exact HB.out | apply below_alloc | apply pw_below_drewN | apply below_drew1 | refine below_set ?_ GE737.out) | exact HB.out)⟩

end Go.Proofs.Ytcdkopidgibijaa.PR
