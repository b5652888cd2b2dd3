/- Several functions' printed texts in one file. -/
import Derived.Test.YtcdkopidgibijaaShort
import Derived.Test.YtcdkopidgibijaaPRg0
import Derived.Test.YtcdkopidgibijaaPRg72
namespace Go.Proofs.Ytcdkopidgibijaa.PR
open Go.RowKit Go.Proofs.YtcdkopidgibijaaW.PrintWords Go.Proofs.YtcdkopidgibijaaW.PrintLast Go.Proofs.YtcdkopidgibijaaW.PrintMore
attribute [local go_sem] max2_int min2_int max_two min_two max_three min_three max_four min_four   -- for this text's walks alone
set_option linter.unusedVariables false
set_option linter.unusedSimpArgs false
/-! ### whole_Compare: function 68 -/
def whole_Compare.f (k : Nat) (a0_0 : Bool) (l0_1 : List Int) (a1_0 : Bool) (l1_1 : List Int) : Option (Int) := (whole_Sign.f k a0_0 l0_1).bind fun t948 => ((whole_Sign.f k a1_0 l1_1).bind fun t949 => (if t948 = t949 then (if t948 < 0 then ((nat_Compare.f k l1_1 l0_1).bind fun t950 => (some t950)) else ((nat_Compare.f k l0_1 l1_1).bind fun t951 => (some t951))) else (some (mn (mx (wrap64 (t948 - t949)) (-1)) 1))))
set_option maxHeartbeats 8000000 in
set_option maxRecDepth 100000 in
theorem whole_Compare.calls (k : Nat) (a0_0 : Bool) (A0_1 : Option Addr) (c0_1 : Nat) (l0_1 : List Int) (a1_0 : Bool) (A1_1 : Option Addr) (c1_1 : Nat) (l1_1 : List Int) (r : Int) (w : World) (hr0_1 : Kd.C (Kd.int .u32) w A0_1 l0_1.length l0_1) (hc0_1 : l0_1.length ≤ c0_1) (hr1_1 : Kd.C (Kd.int .u32) w A1_1 l1_1.length l1_1) (hc1_1 : l1_1.length ≤ c1_1) (h : whole_Compare.f k a0_0 l0_1 a1_0 l1_1 = some r) :
  Calls Try.prog 68 #[.agg #[.bool a0_0, .slice A0_1 l0_1.length c0_1], .agg #[.bool a1_0, .slice A1_1 l1_1.length c1_1]] w fun e w' => e = .returned (.int .i64 r) ∧ Below w.heap.size w w' := by
 have hu25 := Try.underlying25
 have HR0_1 := Aside0.mk hr0_1
 have HC0_1 := Aside0.mk hc0_1
 clear hr0_1 hc0_1
 have HR1_1 := Aside0.mk hr1_1
 have HC1_1 := Aside0.mk hc1_1
 clear hr1_1 hc1_1
 have HB := Aside0.mk (Below.refl w.heap.size w)
 have H : ((whole_Sign.f k a0_0 l0_1).bind fun t948 => ((whole_Sign.f k a1_0 l1_1).bind fun t949 => (if t948 = t949 then (if t948 < 0 then ((nat_Compare.f k l1_1 l0_1).bind fun t950 => (some t950)) else ((nat_Compare.f k l0_1 l1_1).bind fun t951 => (some t951))) else (some (mn (mx (wrap64 (t948 - t949)) (-1)) 1))))) = some r := h
 clear h
 replace H := Option.bind_eq_some_iff.mp H
 obtain ⟨t948, A30, H⟩ := H
 try dsimp only at H
 have A3 := Aside0.mk A30
 clear A30
 replace H := Option.bind_eq_some_iff.mp H
 obtain ⟨t949, A40, H⟩ := H
 try dsimp only at H
 have A4 := Aside0.mk A40
 clear A40
 by_cases c5 : t948 = t949
 ·rw [if_pos c5] at H
  have c5b0 : (t948 == t949) = true := beq_iff_eq.mpr c5
  have c5b1 : (t948 != t949) = false := bne_eq_false_iff_eq.mpr c5
  clear c5
  by_cases c6 : t948 < 0
  ·rw [if_pos c6] at H
   have c6b0 : decide (t948 < 0) = true := decide_eq_true c6
   clear c6
   replace H := Option.bind_eq_some_iff.mp H
   obtain ⟨t950, A70, H⟩ := H
   replace H : (some t950) = some r := H
   have A7 := Aside0.mk A70
   clear A70
   obtain rfl := Option.some.inj H
   go_enter Try.func68, Try.ntmps68
   try go_wp2_with (first | ((with_reducible refine gate_dst (N := 2) rfl ?_); refine Short.boxS_ (N := 2) (cs := #[.bool a0_0, .slice A0_1 l0_1.length c0_1]) (t := 25) ?_; intro gb946 hg w8 hbox hb; have BK946 := Aside0.mk (hbox); have GW946 := Aside0.mk ((by rw [hg]; exact (below_size (by repeat (first | (with_reducible first | exact HB.out | apply below_alloc | apply pw_below_drewN | apply below_drew1) | exact HB.out))) : w.heap.size ≤ gb946)); have GE946 := Aside0.mk ((by rw [hg]; exact (below_size (by repeat (first | (with_reducible first | exact HB.out | apply below_alloc | apply pw_below_drewN | apply below_drew1) | exact HB.out))) : w.heap.size ≤ gb946)); replace HB := Aside0.mk (below_step (by repeat (first | (with_reducible first | exact HB.out | apply below_alloc | apply pw_below_drewN | apply below_drew1) | exact HB.out)) hb); clear hb hbox hg) | ((with_reducible refine gate_dst (N := 3) rfl ?_); refine Short.boxS_ (N := 3) (cs := #[.bool a1_0, .slice A1_1 l1_1.length c1_1]) (t := 25) ?_; intro gb947 hg w9 hbox hb; have BK947 := Aside0.mk (hbox); have GW947 := Aside0.mk ((by rw [hg]; exact (below_size HB.out) : w.heap.size ≤ gb947)); have GE947 := Aside0.mk ((by rw [hg]; exact (below_size HB.out) : w.heap.size ≤ gb947)); replace HB := Aside0.mk (below_step HB.out hb); have NB946_947 := Short.ltA_ hg BK946; have NB947_946 := Short.gtA_ hg BK946; replace BK946 := Aside0.mk (blk_below BK946.out hb); clear hb hbox hg))
   replace BK946 := Aside0.mk (blk_drew BK946.out)
   replace BK947 := Aside0.mk (blk_drew BK947.out)
   replace HB := Aside0.mk (below_drew1 HB.out)
   refine start_ (n := 6) (S := fun w' => w'.cell? ⟨gb946, 0, none⟩ = some (.bool a0_0) ∧ w'.cell? ⟨gb946, 1, none⟩ = some (.slice A0_1 l0_1.length c0_1) ∧ w'.cell? ⟨gb947, 0, none⟩ = some (.bool a1_0) ∧ w'.cell? ⟨gb947, 1, none⟩ = some (.slice A1_1 l1_1.length c1_1)) (ds := []) #[false, false, false, false, false, false] (by kernel_rfl) rfl rfl ⟨(blk_cell BK946.out 0).trans rfl, (blk_cell BK946.out 1).trans rfl, (blk_cell BK947.out 0).trans rfl, (blk_cell BK947.out 1).trans rfl⟩ (fun hHeld => ?_)
   generalize w9.drew = w10 at BK946 BK947 HB hHeld ⊢
   refine Short.takeS_ (i := 0) (N := some 7) #[true, false, false, false, false, false] (by kernel_rfl) hHeld ?_
   refine Short.takeS_ (i := 2) (N := some 9) #[true, false, true, false, false, false] (by kernel_rfl) hHeld ?_
   refine one_ (i := 1) (N := some 8) #[true, true, true, false, false, false] rfl rfl (by kernel_rfl) (by decide) (fun K hK => ?_)
   refine Short.goesD_ Try.func49 #[.agg #[.bool a0_0, .slice A0_1 l0_1.length c0_1]] ?_
   with_reducible refine (whole_Sign.calls k a0_0 _ _ l0_1 t948 _ (Kd.C_below HR0_1.out HB.out) HC0_1.out A3.out).mono ?_
   rintro e w11 ⟨rfl, hb⟩
   refine ⟨_, rfl, ?_⟩
   replace BK946 := Aside0.mk (blk_below BK946.out hb)
   replace BK947 := Aside0.mk (blk_below BK947.out hb)
   replace HB := Aside0.mk (below_step HB.out hb)
   (try clear hb)
   refine hK.out _ _ ⟨(blk_cell BK946.out 0).trans rfl, (blk_cell BK946.out 1).trans rfl, (blk_cell BK947.out 0).trans rfl, (blk_cell BK947.out 1).trans rfl⟩ (fun hHeld => ?_)
   clear hK K
   refine Short.normS_ ?_
   refine one_ (i := 3) (N := some 10) #[true, true, true, true, false, false] rfl rfl (by kernel_rfl) (by decide) (fun K hK => ?_)
   refine Short.goesD_ Try.func49 #[.agg #[.bool a1_0, .slice A1_1 l1_1.length c1_1]] ?_
   with_reducible refine (whole_Sign.calls k a1_0 _ _ l1_1 t949 _ (Kd.C_below HR1_1.out HB.out) HC1_1.out A4.out).mono ?_
   rintro e w12 ⟨rfl, hb⟩
   refine ⟨_, rfl, ?_⟩
   replace BK946 := Aside0.mk (blk_below BK946.out hb)
   replace BK947 := Aside0.mk (blk_below BK947.out hb)
   replace HB := Aside0.mk (below_step HB.out hb)
   (try clear hb)
   refine hK.out _ _ ⟨(blk_cell BK946.out 0).trans rfl, (blk_cell BK946.out 1).trans rfl, (blk_cell BK947.out 0).trans rfl, (blk_cell BK947.out 1).trans rfl⟩ (fun hHeld => ?_)
   clear hK K
   refine Short.normS_ ?_
   refine Short.pureS_ (i := 4) (N := some 5) #[true, true, true, true, true, false] (by kernel_rfl) ?_
   refine Short.pureS_ (i := 5) (N := some 6) #[true, true, true, true, true, true] (by kernel_rfl) ?_
   refine done_ (by kernel_rfl) ?_
   have hnb13 := NB947_946.out
   have hnc13 := NB946_947.out
   have hcz14_0 : w12.cell? ⟨gb947, 0, none⟩ = some (.bool a1_0) := (blk_cell BK947.out 0).trans rfl
   have hcz14_1 : w12.cell? ⟨gb947, 1, none⟩ = some (.slice A1_1 l1_1.length c1_1) := (blk_cell BK947.out 1).trans rfl
   have hfz14_0 := blk_frozen BK947.out 0
   have hfz14_1 := blk_frozen BK947.out 1
   have hcz15_0 : w12.cell? ⟨gb946, 0, none⟩ = some (.bool a0_0) := (blk_cell BK946.out 0).trans rfl
   have hcz15_1 : w12.cell? ⟨gb946, 1, none⟩ = some (.slice A0_1 l0_1.length c0_1) := (blk_cell BK946.out 1).trans rfl
   have hfz15_0 := blk_frozen BK946.out 0
   have hfz15_1 := blk_frozen BK946.out 1
   try go_wp2_with (first | ((with_reducible refine gate_callee (f := 62) rfl ?_); refine Short.goesS_ (some 25) Try.func62 #[.slice A1_1 l1_1.length c1_1, .slice A0_1 l0_1.length c0_1] ?_; (with_reducible refine (nat_Compare.calls k _ _ l1_1 _ _ l0_1 t950 _ (Kd.C_below HR1_1.out HB.out) HC1_1.out (Kd.C_below HR0_1.out HB.out) HC0_1.out A7.out).mono ?_); rintro e w16 ⟨rfl, hb⟩; refine ⟨_, rfl, ?_⟩; replace BK946 := Aside0.mk (blk_below BK946.out hb); replace BK947 := Aside0.mk (blk_below BK947.out hb); replace HB := Aside0.mk (below_step HB.out hb); (try clear hb)))
   go_ret
   exact ⟨by rfl, by repeat (first | (with_reducible first | exact HB.out | apply below_alloc | apply pw_below_drewN | apply below_drew1 | refine below_set ?_ GE946.out | refine below_set ?_ GE947.out) | exact HB.out)⟩
  ·rw [if_neg c6] at H
   have c6b0 : decide (t948 < 0) = false := decide_eq_false c6
   clear c6
   replace H := Option.bind_eq_some_iff.mp H
   obtain ⟨t951, A170, H⟩ := H
   replace H : (some t951) = some r := H
   have A17 := Aside0.mk A170
   clear A170
   obtain rfl := Option.some.inj H
   go_enter Try.func68, Try.ntmps68
   try go_wp2_with (first | ((with_reducible refine gate_dst (N := 2) rfl ?_); refine Short.boxS_ (N := 2) (cs := #[.bool a0_0, .slice A0_1 l0_1.length c0_1]) (t := 25) ?_; intro gb946 hg w18 hbox hb; have BK946 := Aside0.mk (hbox); have GW946 := Aside0.mk ((by rw [hg]; exact (below_size (by repeat (first | (with_reducible first | exact HB.out | apply below_alloc | apply pw_below_drewN | apply below_drew1) | exact HB.out))) : w.heap.size ≤ gb946)); have GE946 := Aside0.mk ((by rw [hg]; exact (below_size (by repeat (first | (with_reducible first | exact HB.out | apply below_alloc | apply pw_below_drewN | apply below_drew1) | exact HB.out))) : w.heap.size ≤ gb946)); replace HB := Aside0.mk (below_step (by repeat (first | (with_reducible first | exact HB.out | apply below_alloc | apply pw_below_drewN | apply below_drew1) | exact HB.out)) hb); clear hb hbox hg) | ((with_reducible refine gate_dst (N := 3) rfl ?_); refine Short.boxS_ (N := 3) (cs := #[.bool a1_0, .slice A1_1 l1_1.length c1_1]) (t := 25) ?_; intro gb947 hg w19 hbox hb; have BK947 := Aside0.mk (hbox); have GW947 := Aside0.mk ((by rw [hg]; exact (below_size HB.out) : w.heap.size ≤ gb947)); have GE947 := Aside0.mk ((by rw [hg]; exact (below_size HB.out) : w.heap.size ≤ gb947)); replace HB := Aside0.mk (below_step HB.out hb); have NB946_947 := Short.ltA_ hg BK946; have NB947_946 := Short.gtA_ hg BK946; replace BK946 := Aside0.mk (blk_below BK946.out hb); clear hb hbox hg))
   replace BK946 := Aside0.mk (blk_drew BK946.out)
   replace BK947 := Aside0.mk (blk_drew BK947.out)
   replace HB := Aside0.mk (below_drew1 HB.out)
   refine start_ (n := 6) (S := fun w' => w'.cell? ⟨gb946, 0, none⟩ = some (.bool a0_0) ∧ w'.cell? ⟨gb946, 1, none⟩ = some (.slice A0_1 l0_1.length c0_1) ∧ w'.cell? ⟨gb947, 0, none⟩ = some (.bool a1_0) ∧ w'.cell? ⟨gb947, 1, none⟩ = some (.slice A1_1 l1_1.length c1_1)) (ds := []) #[false, false, false, false, false, false] (by kernel_rfl) rfl rfl ⟨(blk_cell BK946.out 0).trans rfl, (blk_cell BK946.out 1).trans rfl, (blk_cell BK947.out 0).trans rfl, (blk_cell BK947.out 1).trans rfl⟩ (fun hHeld => ?_)
   generalize w19.drew = w20 at BK946 BK947 HB hHeld ⊢
   refine Short.takeS_ (i := 0) (N := some 7) #[true, false, false, false, false, false] (by kernel_rfl) hHeld ?_
   refine Short.takeS_ (i := 2) (N := some 9) #[true, false, true, false, false, false] (by kernel_rfl) hHeld ?_
   refine one_ (i := 1) (N := some 8) #[true, true, true, false, false, false] rfl rfl (by kernel_rfl) (by decide) (fun K hK => ?_)
   refine Short.goesD_ Try.func49 #[.agg #[.bool a0_0, .slice A0_1 l0_1.length c0_1]] ?_
   with_reducible refine (whole_Sign.calls k a0_0 _ _ l0_1 t948 _ (Kd.C_below HR0_1.out HB.out) HC0_1.out A3.out).mono ?_
   rintro e w21 ⟨rfl, hb⟩
   refine ⟨_, rfl, ?_⟩
   replace BK946 := Aside0.mk (blk_below BK946.out hb)
   replace BK947 := Aside0.mk (blk_below BK947.out hb)
   replace HB := Aside0.mk (below_step HB.out hb)
   (try clear hb)
   refine hK.out _ _ ⟨(blk_cell BK946.out 0).trans rfl, (blk_cell BK946.out 1).trans rfl, (blk_cell BK947.out 0).trans rfl, (blk_cell BK947.out 1).trans rfl⟩ (fun hHeld => ?_)
   clear hK K
   refine Short.normS_ ?_
   refine one_ (i := 3) (N := some 10) #[true, true, true, true, false, false] rfl rfl (by kernel_rfl) (by decide) (fun K hK => ?_)
   refine Short.goesD_ Try.func49 #[.agg #[.bool a1_0, .slice A1_1 l1_1.length c1_1]] ?_
   with_reducible refine (whole_Sign.calls k a1_0 _ _ l1_1 t949 _ (Kd.C_below HR1_1.out HB.out) HC1_1.out A4.out).mono ?_
   rintro e w22 ⟨rfl, hb⟩
   refine ⟨_, rfl, ?_⟩
   replace BK946 := Aside0.mk (blk_below BK946.out hb)
   replace BK947 := Aside0.mk (blk_below BK947.out hb)
   replace HB := Aside0.mk (below_step HB.out hb)
   (try clear hb)
   refine hK.out _ _ ⟨(blk_cell BK946.out 0).trans rfl, (blk_cell BK946.out 1).trans rfl, (blk_cell BK947.out 0).trans rfl, (blk_cell BK947.out 1).trans rfl⟩ (fun hHeld => ?_)
   clear hK K
   refine Short.normS_ ?_
   refine Short.pureS_ (i := 4) (N := some 5) #[true, true, true, true, true, false] (by kernel_rfl) ?_
   refine Short.pureS_ (i := 5) (N := some 6) #[true, true, true, true, true, true] (by kernel_rfl) ?_
   refine done_ (by kernel_rfl) ?_
   have hnb23 := NB946_947.out
   have hnc23 := NB947_946.out
   have hcz24_0 : w22.cell? ⟨gb946, 0, none⟩ = some (.bool a0_0) := (blk_cell BK946.out 0).trans rfl
   have hcz24_1 : w22.cell? ⟨gb946, 1, none⟩ = some (.slice A0_1 l0_1.length c0_1) := (blk_cell BK946.out 1).trans rfl
   have hfz24_0 := blk_frozen BK946.out 0
   have hfz24_1 := blk_frozen BK946.out 1
   have hcz25_0 : w22.cell? ⟨gb947, 0, none⟩ = some (.bool a1_0) := (blk_cell BK947.out 0).trans rfl
   have hcz25_1 : w22.cell? ⟨gb947, 1, none⟩ = some (.slice A1_1 l1_1.length c1_1) := (blk_cell BK947.out 1).trans rfl
   have hfz25_0 := blk_frozen BK947.out 0
   have hfz25_1 := blk_frozen BK947.out 1
   try go_wp2_with (first | ((with_reducible refine gate_callee (f := 62) rfl ?_); refine Short.goesS_ (some 30) Try.func62 #[.slice A0_1 l0_1.length c0_1, .slice A1_1 l1_1.length c1_1] ?_; (with_reducible refine (nat_Compare.calls k _ _ l0_1 _ _ l1_1 t951 _ (Kd.C_below HR0_1.out HB.out) HC0_1.out (Kd.C_below HR1_1.out HB.out) HC1_1.out A17.out).mono ?_); rintro e w26 ⟨rfl, hb⟩; refine ⟨_, rfl, ?_⟩; replace BK946 := Aside0.mk (blk_below BK946.out hb); replace BK947 := Aside0.mk (blk_below BK947.out hb); replace HB := Aside0.mk (below_step HB.out hb); (try clear hb)))
   go_ret
   exact ⟨by rfl, by repeat (first | (with_reducible first | exact HB.out | apply below_alloc | apply pw_below_drewN | apply below_drew1 | refine below_set ?_ GE946.out | refine below_set ?_ GE947.out) | exact HB.out)⟩
 ·rw [if_neg c5] at H
  have c5b0 : (t948 == t949) = false := beq_eq_false_iff_ne.mpr c5
  have c5b1 : (t948 != t949) = true := bne_iff_ne.mpr c5
  obtain ⟨ji27, hji27⟩ : ∃ j_ : Int, (mx (wrap64 (t948 - t949)) (-1)) = j_ := ⟨_, rfl⟩
  replace H : (some (mn (ji27) 1)) = some r := by first | (rw [hji27] at H; exact H) | (simp only [hji27] at H ⊢; exact H)
  (try rw [hji27] at A3)
  (try rw [hji27] at A4)
  have hji27_ : (if (wrap64 (t948 - t949)) < (-1) then (-1) else (wrap64 (t948 - t949))) = ji27 := hji27
  obtain ⟨ji28, hji28⟩ : ∃ j_ : Int, (mn (ji27) 1) = j_ := ⟨_, rfl⟩
  replace H : (some ji28) = some r := by first | (rw [hji28] at H; exact H) | (simp only [hji28] at H ⊢; exact H)
  (try rw [hji28] at A3)
  (try rw [hji28] at A4)
  have hji28_ : (if 1 < (ji27) then 1 else (ji27)) = ji28 := hji28
  obtain rfl := Option.some.inj H
  go_enter Try.func68, Try.ntmps68
  try go_wp2_with (first | ((with_reducible refine gate_dst (N := 2) rfl ?_); refine Short.boxS_ (N := 2) (cs := #[.bool a0_0, .slice A0_1 l0_1.length c0_1]) (t := 25) ?_; intro gb946 hg w29 hbox hb; have BK946 := Aside0.mk (hbox); have GW946 := Aside0.mk ((by rw [hg]; exact (below_size (by repeat (first | (with_reducible first | exact HB.out | apply below_alloc | apply pw_below_drewN | apply below_drew1) | exact HB.out))) : w.heap.size ≤ gb946)); have GE946 := Aside0.mk ((by rw [hg]; exact (below_size (by repeat (first | (with_reducible first | exact HB.out | apply below_alloc | apply pw_below_drewN | apply below_drew1) | exact HB.out))) : w.heap.size ≤ gb946)); replace HB := Aside0.mk (below_step (by repeat (first | (with_reducible first | exact HB.out | apply below_alloc | apply pw_below_drewN | apply below_drew1) | exact HB.out)) hb); clear hb hbox hg) | ((with_reducible refine gate_dst (N := 3) rfl ?_); refine Short.boxS_ (N := 3) (cs := #[.bool a1_0, .slice A1_1 l1_1.length c1_1]) (t := 25) ?_; intro gb947 hg w30 hbox hb; have BK947 := Aside0.mk (hbox); have GW947 := Aside0.mk ((by rw [hg]; exact (below_size HB.out) : w.heap.size ≤ gb947)); have GE947 := Aside0.mk ((by rw [hg]; exact (below_size HB.out) : w.heap.size ≤ gb947)); replace HB := Aside0.mk (below_step HB.out hb); have NB946_947 := Short.ltA_ hg BK946; have NB947_946 := Short.gtA_ hg BK946; replace BK946 := Aside0.mk (blk_below BK946.out hb); clear hb hbox hg))
  replace BK946 := Aside0.mk (blk_drew BK946.out)
  replace BK947 := Aside0.mk (blk_drew BK947.out)
  replace HB := Aside0.mk (below_drew1 HB.out)
  refine start_ (n := 6) (S := fun w' => w'.cell? ⟨gb946, 0, none⟩ = some (.bool a0_0) ∧ w'.cell? ⟨gb946, 1, none⟩ = some (.slice A0_1 l0_1.length c0_1) ∧ w'.cell? ⟨gb947, 0, none⟩ = some (.bool a1_0) ∧ w'.cell? ⟨gb947, 1, none⟩ = some (.slice A1_1 l1_1.length c1_1)) (ds := []) #[false, false, false, false, false, false] (by kernel_rfl) rfl rfl ⟨(blk_cell BK946.out 0).trans rfl, (blk_cell BK946.out 1).trans rfl, (blk_cell BK947.out 0).trans rfl, (blk_cell BK947.out 1).trans rfl⟩ (fun hHeld => ?_)
  generalize w30.drew = w31 at BK946 BK947 HB hHeld ⊢
  refine Short.takeS_ (i := 0) (N := some 7) #[true, false, false, false, false, false] (by kernel_rfl) hHeld ?_
  refine Short.takeS_ (i := 2) (N := some 9) #[true, false, true, false, false, false] (by kernel_rfl) hHeld ?_
  refine one_ (i := 1) (N := some 8) #[true, true, true, false, false, false] rfl rfl (by kernel_rfl) (by decide) (fun K hK => ?_)
  refine Short.goesD_ Try.func49 #[.agg #[.bool a0_0, .slice A0_1 l0_1.length c0_1]] ?_
  with_reducible refine (whole_Sign.calls k a0_0 _ _ l0_1 t948 _ (Kd.C_below HR0_1.out HB.out) HC0_1.out A3.out).mono ?_
  rintro e w32 ⟨rfl, hb⟩
  refine ⟨_, rfl, ?_⟩
  replace BK946 := Aside0.mk (blk_below BK946.out hb)
  replace BK947 := Aside0.mk (blk_below BK947.out hb)
  replace HB := Aside0.mk (below_step HB.out hb)
  (try clear hb)
  refine hK.out _ _ ⟨(blk_cell BK946.out 0).trans rfl, (blk_cell BK946.out 1).trans rfl, (blk_cell BK947.out 0).trans rfl, (blk_cell BK947.out 1).trans rfl⟩ (fun hHeld => ?_)
  clear hK K
  refine Short.normS_ ?_
  refine one_ (i := 3) (N := some 10) #[true, true, true, true, false, false] rfl rfl (by kernel_rfl) (by decide) (fun K hK => ?_)
  refine Short.goesD_ Try.func49 #[.agg #[.bool a1_0, .slice A1_1 l1_1.length c1_1]] ?_
  with_reducible refine (whole_Sign.calls k a1_0 _ _ l1_1 t949 _ (Kd.C_below HR1_1.out HB.out) HC1_1.out A4.out).mono ?_
  rintro e w33 ⟨rfl, hb⟩
  refine ⟨_, rfl, ?_⟩
  replace BK946 := Aside0.mk (blk_below BK946.out hb)
  replace BK947 := Aside0.mk (blk_below BK947.out hb)
  replace HB := Aside0.mk (below_step HB.out hb)
  (try clear hb)
  refine hK.out _ _ ⟨(blk_cell BK946.out 0).trans rfl, (blk_cell BK946.out 1).trans rfl, (blk_cell BK947.out 0).trans rfl, (blk_cell BK947.out 1).trans rfl⟩ (fun hHeld => ?_)
  clear hK K
  refine Short.normS_ ?_
  refine Short.pureS_ (i := 4) (N := some 5) #[true, true, true, true, true, false] (by kernel_rfl) ?_
  refine Short.pureS_ (i := 5) (N := some 6) #[true, true, true, true, true, true] (by kernel_rfl) ?_
  refine done_ (by kernel_rfl) ?_
  try go_wp2
  go_ret
  exact ⟨by first | rfl | (simp [errW_none, errW_some] <;> rfl) | (simp only [← hji27, ← hji28]; first | rfl | (simp [errW_none, errW_some] <;> rfl)) | (simp [*, errW_none, errW_some] <;> rfl), by repeat (first | (with_reducible first | exact HB.out | apply below_alloc | apply pw_below_drewN | apply below_drew1 | refine below_set ?_ GE946.out | refine below_set ?_ GE947.out) | exact HB.out)⟩

theorem whole_Compare.ev {m m' : Bool} {l l' : List Int} {a b : Int} {K J : Nat} (ha : Zn.Is m l a K) (hb : Zn.Is m' l' b J) (hK : K < 1000000) (hJ : J < 1000000) : Ev (fun k => whole_Compare.f k m l m' l') (a - b).sign := by
 unfold whole_Compare.f
 refine Ev.bind (whole_Sign.ev ha hK) (Ev.bind (whole_Sign.ev hb hJ) ?_)
 have oa := ha.ok hK
 have ob := hb.ok hJ
 by_cases h : a.sign = b.sign
 ·refine Dec.yes h ?_
  by_cases ha0 : a < 0
  ·have hb0 : b < 0 := (Zn.sign_lt b).1 (h ▸ (Zn.sign_lt a).2 ha0)
   have C : ∀ k, nat_Compare.f k l' l = some (a - b).sign := fun k => by unfold nat_Compare.f; rw [if_pos ob, if_pos oa, ← hb.abs, ← ha.abs, Zn.cmp_neg ha0 hb0]
   exact Dec.yes ((Zn.sign_lt a).2 ha0) (Dec.val C (Ev.now _))
  ·have hb0 : ¬ b < 0 := fun e => ha0 ((Zn.sign_lt a).1 (h ▸ (Zn.sign_lt b).2 e))
   have C : ∀ k, nat_Compare.f k l l' = some (a - b).sign := fun k => by unfold nat_Compare.f; rw [if_pos oa, if_pos ob, ← hb.abs, ← ha.abs, Zn.cmp_pos ha0 hb0]
   exact Dec.no (fun e => ha0 ((Zn.sign_lt a).1 e)) (Dec.val C (Ev.now _))
 ·rw [← Zn.clamp h]
  exact Dec.no h (Ev.now _)
/-! ### rat_Compare: function 35 -/
def rat_Compare.f (k : Nat) (a0_0 : Bool) (l0_1 : List Int) (l0_2 : List Int) (a1_0 : Bool) (l1_1 : List Int) (l1_2 : List Int) : Option (Int) := (rat_over.f k a0_0 l0_1 l0_2 a1_0 l1_1 l1_2).bind fun bt954 => ((rat_over.f k a1_0 l1_1 l1_2 a0_0 l0_1 l0_2).bind fun bt958 => ((whole_Compare.f k bt954.1 bt954.2 bt958.1 bt958.2).bind fun t962 => (some t962)))
def rat_Compare.T1 : Bool × List (List Nat × List Nat) := (true, [([], []), ([], []), ([0, 1], [0, 1]), ([], []), ([], []), ([3, 4, 2], [3, 4]), ([2, 5, 5], [2, 5]), ([6, 6, 0, 1, 2, 3, 4, 5, 6], [6])])
def rat_Compare.B1 : List Nat := [0, 0, 3, 0, 0, 31, 63, 127]
theorem rat_Compare.tab1 : rtab .any (opsOf Try.f35 1) = rat_Compare.T1 := by kernel_rfl
theorem rat_Compare.bits1 : waitsOk rat_Compare.T1.2 rat_Compare.B1 = true := by kernel_rfl
set_option maxHeartbeats 8000000 in
set_option maxRecDepth 100000 in
theorem rat_Compare.calls (k : Nat) (a0_0 : Bool) (A0_1 : Option Addr) (c0_1 : Nat) (l0_1 : List Int) (A0_2 : Option Addr) (c0_2 : Nat) (l0_2 : List Int) (a1_0 : Bool) (A1_1 : Option Addr) (c1_1 : Nat) (l1_1 : List Int) (A1_2 : Option Addr) (c1_2 : Nat) (l1_2 : List Int) (r : Int) (w : World) (hr0_1 : Kd.C (Kd.int .u32) w A0_1 l0_1.length l0_1) (hc0_1 : l0_1.length ≤ c0_1) (hr0_2 : Kd.C (Kd.int .u32) w A0_2 l0_2.length l0_2) (hc0_2 : l0_2.length ≤ c0_2) (hr1_1 : Kd.C (Kd.int .u32) w A1_1 l1_1.length l1_1) (hc1_1 : l1_1.length ≤ c1_1) (hr1_2 : Kd.C (Kd.int .u32) w A1_2 l1_2.length l1_2) (hc1_2 : l1_2.length ≤ c1_2) (h : rat_Compare.f k a0_0 l0_1 l0_2 a1_0 l1_1 l1_2 = some r) :
  Calls Try.prog 35 #[.agg #[.bool a0_0, .slice A0_1 l0_1.length c0_1, .slice A0_2 l0_2.length c0_2], .agg #[.bool a1_0, .slice A1_1 l1_1.length c1_1, .slice A1_2 l1_2.length c1_2]] w fun e w' => e = .returned (.int .i64 r) ∧ Below w.heap.size w w' := by
 have hu27 := Try.underlying27
 have HR0_1 := Aside0.mk hr0_1
 have HC0_1 := Aside0.mk hc0_1
 clear hr0_1 hc0_1
 have HR0_2 := Aside0.mk hr0_2
 have HC0_2 := Aside0.mk hc0_2
 clear hr0_2 hc0_2
 have HR1_1 := Aside0.mk hr1_1
 have HC1_1 := Aside0.mk hc1_1
 clear hr1_1 hc1_1
 have HR1_2 := Aside0.mk hr1_2
 have HC1_2 := Aside0.mk hc1_2
 clear hr1_2 hc1_2
 have HB := Aside0.mk (Below.refl w.heap.size w)
 have H : ((rat_over.f k a0_0 l0_1 l0_2 a1_0 l1_1 l1_2).bind fun bt954 => ((rat_over.f k a1_0 l1_1 l1_2 a0_0 l0_1 l0_2).bind fun bt958 => ((whole_Compare.f k bt954.1 bt954.2 bt958.1 bt958.2).bind fun t962 => (some t962)))) = some r := h
 clear h
 replace H := Option.bind_eq_some_iff.mp H
 obtain ⟨⟨t954, t955⟩, A30, H⟩ := H
 try dsimp only at H
 have A3 := Aside0.mk A30
 clear A30
 replace H := Option.bind_eq_some_iff.mp H
 obtain ⟨⟨t958, t959⟩, A40, H⟩ := H
 try dsimp only at H
 have A4 := Aside0.mk A40
 clear A40
 replace H := Option.bind_eq_some_iff.mp H
 obtain ⟨t962, A50, H⟩ := H
 replace H : (some t962) = some r := H
 have A5 := Aside0.mk A50
 clear A50
 obtain rfl := Option.some.inj H
 go_enter Try.func35, Try.ntmps35
 try go_wp2_with (first | ((with_reducible refine gate_dst (N := 2) rfl ?_); refine Short.boxS_ (N := 2) (cs := #[.bool a0_0, .slice A0_1 l0_1.length c0_1, .slice A0_2 l0_2.length c0_2]) (t := 27) ?_; intro gb952 hg w6 hbox hb; have BK952 := Aside0.mk (hbox); have GW952 := Aside0.mk ((by rw [hg]; exact (below_size (by repeat (first | (with_reducible first | exact HB.out | apply below_alloc | apply pw_below_drewN | apply below_drew1) | exact HB.out))) : w.heap.size ≤ gb952)); have GE952 := Aside0.mk ((by rw [hg]; exact (below_size (by repeat (first | (with_reducible first | exact HB.out | apply below_alloc | apply pw_below_drewN | apply below_drew1) | exact HB.out))) : w.heap.size ≤ gb952)); replace HB := Aside0.mk (below_step (by repeat (first | (with_reducible first | exact HB.out | apply below_alloc | apply pw_below_drewN | apply below_drew1) | exact HB.out)) hb); clear hb hbox hg) | ((with_reducible refine gate_dst (N := 3) rfl ?_); refine Short.boxS_ (N := 3) (cs := #[.bool a1_0, .slice A1_1 l1_1.length c1_1, .slice A1_2 l1_2.length c1_2]) (t := 27) ?_; intro gb953 hg w7 hbox hb; have BK953 := Aside0.mk (hbox); have GW953 := Aside0.mk ((by rw [hg]; exact (below_size HB.out) : w.heap.size ≤ gb953)); have GE953 := Aside0.mk ((by rw [hg]; exact (below_size HB.out) : w.heap.size ≤ gb953)); replace HB := Aside0.mk (below_step HB.out hb); have NB952_953 := Short.ltA_ hg BK952; have NB953_952 := Short.gtA_ hg BK952; replace BK952 := Aside0.mk (blk_below BK952.out hb); clear hb hbox hg))
 replace BK952 := Aside0.mk (blk_drew BK952.out)
 replace BK953 := Aside0.mk (blk_drew BK953.out)
 replace HB := Aside0.mk (below_drew1 HB.out)
 refine start_ (n := 8) (S := fun w' => w'.cell? ⟨gb952, 0, none⟩ = some (.bool a0_0) ∧ w'.cell? ⟨gb952, 1, none⟩ = some (.slice A0_1 l0_1.length c0_1) ∧ w'.cell? ⟨gb952, 2, none⟩ = some (.slice A0_2 l0_2.length c0_2) ∧ w'.cell? ⟨gb953, 0, none⟩ = some (.bool a1_0) ∧ w'.cell? ⟨gb953, 1, none⟩ = some (.slice A1_1 l1_1.length c1_1) ∧ w'.cell? ⟨gb953, 2, none⟩ = some (.slice A1_2 l1_2.length c1_2)) (ds := []) #[false, false, false, false, false, false, false, false] (by kernel_rfl) rfl rfl ⟨(blk_cell BK952.out 0).trans rfl, (blk_cell BK952.out 1).trans rfl, (blk_cell BK952.out 2).trans rfl, (blk_cell BK953.out 0).trans rfl, (blk_cell BK953.out 1).trans rfl, (blk_cell BK953.out 2).trans rfl⟩ (fun hHeld => ?_); refine with_tabW rat_Compare.tab1 rat_Compare.bits1 (fun HT_ HW_ => ?_)
 generalize w7.drew = w8 at BK952 BK953 HB hHeld ⊢
 refine Short.takeS_ (i := 0) (N := some 5) #[true, false, false, false, false, false, false, false] (take_ofW HT_.out HW_.out (by kernel_rfl)) hHeld ?_
 refine Short.takeS_ (i := 1) (N := some 6) #[true, true, false, false, false, false, false, false] (take_ofW HT_.out HW_.out (by kernel_rfl)) hHeld ?_
 refine Short.takeS_ (i := 3) (N := some 8) #[true, true, false, true, false, false, false, false] (take_ofW HT_.out HW_.out (by kernel_rfl)) hHeld ?_
 refine Short.takeS_ (i := 4) (N := some 9) #[true, true, false, true, true, false, false, false] (take_ofW HT_.out HW_.out (by kernel_rfl)) hHeld ?_
 refine one_ (i := 2) (N := some 7) #[true, true, true, true, true, false, false, false] rfl rfl (one_of HT_.out (by kernel_rfl)) (by decide) (fun K hK => ?_)
 refine Short.goesD_ Try.func65 #[.agg #[.bool a0_0, .slice A0_1 l0_1.length c0_1, .slice A0_2 l0_2.length c0_2], .agg #[.bool a1_0, .slice A1_1 l1_1.length c1_1, .slice A1_2 l1_2.length c1_2]] ?_
 with_reducible refine (rat_over.calls k a0_0 _ _ l0_1 _ _ l0_2 a1_0 _ _ l1_1 _ _ l1_2 t954 t955 _ (Kd.C_below HR0_1.out HB.out) HC0_1.out (Kd.C_below HR0_2.out HB.out) HC0_2.out (Kd.C_below HR1_1.out HB.out) HC1_1.out (Kd.C_below HR1_2.out HB.out) HC1_2.out A3.out).mono ?_
 rintro e w9 ⟨v956, rfl, ho0, hb⟩
 refine ⟨_, rfl, ?_⟩
 have HO957 := Aside0.mk (Kd.R_lower ho0 (below_size HB.out))
 replace BK952 := Aside0.mk (blk_below BK952.out hb)
 replace BK953 := Aside0.mk (blk_below BK953.out hb)
 replace HB := Aside0.mk (below_step HB.out hb)
 (try clear hb)
 (try clear ho0)
 refine hK.out _ _ ⟨(blk_cell BK952.out 0).trans rfl, (blk_cell BK952.out 1).trans rfl, (blk_cell BK952.out 2).trans rfl, (blk_cell BK953.out 0).trans rfl, (blk_cell BK953.out 1).trans rfl, (blk_cell BK953.out 2).trans rfl⟩ (fun hHeld => ?_)
 clear hK K
 refine Short.normS_ ?_
 refine one_ (i := 5) (N := some 10) #[true, true, true, true, true, true, false, false] rfl rfl (one_of HT_.out (by kernel_rfl)) (by decide) (fun K hK => ?_)
 refine Short.goesD_ Try.func65 #[.agg #[.bool a1_0, .slice A1_1 l1_1.length c1_1, .slice A1_2 l1_2.length c1_2], .agg #[.bool a0_0, .slice A0_1 l0_1.length c0_1, .slice A0_2 l0_2.length c0_2]] ?_
 with_reducible refine (rat_over.calls k a1_0 _ _ l1_1 _ _ l1_2 a0_0 _ _ l0_1 _ _ l0_2 t958 t959 _ (Kd.C_below HR1_1.out HB.out) HC1_1.out (Kd.C_below HR1_2.out HB.out) HC1_2.out (Kd.C_below HR0_1.out HB.out) HC0_1.out (Kd.C_below HR0_2.out HB.out) HC0_2.out A4.out).mono ?_
 rintro e w10 ⟨v960, rfl, ho0, hb⟩
 refine ⟨_, rfl, ?_⟩
 have HO961 := Aside0.mk (Kd.R_lower (Kd.R_new' ho0 (Kd.R_lt HO957.out)) (below_size HB.out))
 replace HO957 := Aside0.mk (Kd.R_elder' HO957.out (Kd.R_base ho0) hb)
 replace BK952 := Aside0.mk (blk_below BK952.out hb)
 replace BK953 := Aside0.mk (blk_below BK953.out hb)
 replace HB := Aside0.mk (below_step HB.out hb)
 (try clear hb)
 (try clear ho0)
 obtain ⟨Ao11, co11, eo11⟩ := Kd.R_slice HO957.out
 (first | subst eo11 | (injection eo11 with f1_ f2_ f3_; have f4_ := f1_.symm; have f5_ := f3_.symm; clear f1_ f2_ f3_; subst f4_; subst f5_))
 obtain ⟨Ao12, co12, eo12⟩ := Kd.R_slice HO961.out
 (first | subst eo12 | (injection eo12 with f1_ f2_ f3_; have f4_ := f1_.symm; have f5_ := f3_.symm; clear f1_ f2_ f3_; subst f4_; subst f5_))
 refine hK.out _ _ ⟨(blk_cell BK952.out 0).trans rfl, (blk_cell BK952.out 1).trans rfl, (blk_cell BK952.out 2).trans rfl, (blk_cell BK953.out 0).trans rfl, (blk_cell BK953.out 1).trans rfl, (blk_cell BK953.out 2).trans rfl⟩ (fun hHeld => ?_)
 clear hK K
 refine Short.normS_ ?_
 refine one_ (i := 6) (N := some 11) #[true, true, true, true, true, true, true, false] rfl rfl (one_of HT_.out (by kernel_rfl)) (by decide) (fun K hK => ?_)
 refine Short.goesD_ Try.func68 #[.agg #[.bool t954, .slice Ao11 t955.length co11], .agg #[.bool t958, .slice Ao12 t959.length co12]] ?_
 with_reducible refine (whole_Compare.calls k t954 _ _ t955 t958 _ _ t959 t962 _ ((Kd.R_reads' HO957.out).2.2) ((Kd.R_reads' HO957.out).2.1) ((Kd.R_reads' HO961.out).2.2) ((Kd.R_reads' HO961.out).2.1) A5.out).mono ?_
 rintro e w13 ⟨rfl, hb⟩
 refine ⟨_, rfl, ?_⟩
 replace HO957 := Aside0.mk (Kd.R_below HO957.out hb)
 replace HO961 := Aside0.mk (Kd.R_below HO961.out hb)
 replace BK952 := Aside0.mk (blk_below BK952.out hb)
 replace BK953 := Aside0.mk (blk_below BK953.out hb)
 replace HB := Aside0.mk (below_step HB.out hb)
 (try clear hb)
 refine hK.out _ _ ⟨(blk_cell BK952.out 0).trans rfl, (blk_cell BK952.out 1).trans rfl, (blk_cell BK952.out 2).trans rfl, (blk_cell BK953.out 0).trans rfl, (blk_cell BK953.out 1).trans rfl, (blk_cell BK953.out 2).trans rfl⟩ (fun hHeld => ?_)
 clear hK K
 refine Short.normS_ ?_
 refine Short.pureS_ (i := 7) (N := some 4) #[true, true, true, true, true, true, true, true] (any_of HT_.out (by kernel_rfl)) ?_
 refine done_ (done_of HT_.out (by kernel_rfl)) ?_
 try go_wp2
 go_ret
 exact ⟨by rfl, by repeat (first | (with_reducible first | exact HB.out | apply below_alloc | apply pw_below_drewN | apply below_drew1 | refine below_set ?_ GE952.out | refine below_set ?_ GE953.out) | exact HB.out)⟩

theorem rat_Compare.ev {m m' : Bool} {l1 l2 k1 k2 : List Int} {a b : Rat} {K J : Nat} (ha : Qn.Is m l1 l2 a K) (hb : Qn.Is m' k1 k2 b J) (hK1 : 1 ≤ K) (hJ1 : 1 ≤ J) (hK : K + J < 300000) : Ev (fun k => rat_Compare.f k m l1 l2 m' k1 k2) (a - b).num.sign := by
 have da := Qn.dn_lt ha.ws ha.len hK1
 have db := Qn.dn_lt hb.ws hb.len hJ1
 have x1 := Zn.abs_mul ha.num.lt (Qn.cast_abs db)
 have x2 := Zn.abs_mul hb.num.lt (Qn.cast_abs da)
 have C := whole_Compare.ev (Zn.Is.zd x1) (Zn.Is.zd x2) (by omega) (by omega)
 rw [← Qn.sign_num _ (Qn.dn (Num.nv l2) * Qn.dn (Num.nv k2)) (Nat.mul_ne_zero (Qn.dn_ne _) (Qn.dn_ne _)), ← Qn.sub_mk _ _ (Qn.dn_ne _) (Qn.dn_ne _), ha.val, hb.val] at C
 unfold rat_Compare.f
 exact Ev.bind (rat_over.ev ha hb hJ1 (by omega)) (Ev.bind (rat_over.ev hb ha hK1 (by omega)) (Ev.bind C (Ev.now _)))
end Go.Proofs.Ytcdkopidgibijaa.PR
