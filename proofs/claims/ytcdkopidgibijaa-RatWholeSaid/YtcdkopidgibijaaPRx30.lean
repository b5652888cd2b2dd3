import Derived.Test.YtcdkopidgibijaaShort
import Derived.Test.YtcdkopidgibijaaClo
import Derived.Test.YtcdkopidgibijaaPRg0
import Derived.Test.YtcdkopidgibijaaPRg15
import Derived.Test.YtcdkopidgibijaaPRg21
namespace Go.Proofs.Ytcdkopidgibijaa.PR
open Go.RowKit Go.Proofs.YtcdkopidgibijaaW.PrintWords Go.Proofs.YtcdkopidgibijaaW.PrintLast Go.Proofs.YtcdkopidgibijaaW.PrintMore
attribute [local go_sem] max2_int min2_int max_two min_two max_three min_three max_four min_four   -- for this text's walks alone
set_option linter.unusedVariables false
set_option linter.unusedSimpArgs false

/-! ### whole_Floor: function 60 -/
def whole_Floor.f (k : Nat) (a0_0 : Bool) (l0_1 : List Int) (a1_0 : Bool) (l1_1 : List Int) : Option (Bool × List Int × Bool × List Int × Int) := (nat_DivMod.f k l0_1 l1_1).bind fun bt334 => (if bt334.2.2 = 0 then ((whole_Sign.f k a0_0 l0_1).bind fun t341 => ((whole_Sign.f k a1_0 l1_1).bind fun t342 => ((whole_Make.f k (decide ((wrap64 (t341 * t342)) < 0)) bt334.1).bind fun bt343 => ((whole_Floor_cl1.f k a0_0 l0_1 a1_0 l1_1 bt343.1 bt343.2).bind fun bt348 => ((whole_Sign.f k bt348.1 bt348.2).bind fun t352 => ((whole_Sign.f k a1_0 l1_1).bind fun t353 => (if (wrap64 (t352 * t353)) < 0 then ((whole_Of.f k 1).bind fun bt354 => ((whole_Sub.f k bt343.1 bt343.2 bt354.1 bt354.2).bind fun bt358 => ((whole_Floor_cl1.f k a0_0 l0_1 a1_0 l1_1 bt358.1 bt358.2).bind fun bt362 => (some (bt358.1, bt358.2, bt362.1, bt362.2, 0))))) else ((whole_Floor_cl1.f k a0_0 l0_1 a1_0 l1_1 bt343.1 bt343.2).bind fun bt366 => (some (bt343.1, bt343.2, bt366.1, bt366.2, 0)))))))))) else (some (false, ([] : List Int), false, ([] : List Int), bt334.2.2)))
def whole_Floor.T4 : Bool × List (List Nat × List Nat) := (true, [([], []), ([0], [0]), ([], []), ([2, 1], [2]), ([1, 3], [1, 3]), ([4], [4]), ([], []), ([5, 6, 3], [5, 6]), ([], []), ([8, 7, 7, 0, 1, 2, 3, 4, 5, 6, 7, 8], [7, 8])])
def whole_Floor.B4 : List Nat := [0, 1, 0, 7, 15, 31, 0, 127, 0, 511]
theorem whole_Floor.tab4 : rtab .any (opsOf Try.f60 4) = whole_Floor.T4 := by kernel_rfl
theorem whole_Floor.bits4 : waitsOk whole_Floor.T4.2 whole_Floor.B4 = true := by kernel_rfl
set_option maxHeartbeats 8000000 in
set_option maxRecDepth 100000 in
theorem whole_Floor.calls (k : Nat) (a0_0 : Bool) (A0_1 : Option Addr) (c0_1 : Nat) (l0_1 : List Int) (a1_0 : Bool) (A1_1 : Option Addr) (c1_1 : Nat) (l1_1 : List Int) (r1 : Bool) (r2 : List Int) (r3 : Bool) (r4 : List Int) (r5 : Int) (w : World) (hr0_1 : Kd.C (Kd.int .u32) w A0_1 l0_1.length l0_1) (hc0_1 : l0_1.length ≤ c0_1) (hr1_1 : Kd.C (Kd.int .u32) w A1_1 l1_1.length l1_1) (hc1_1 : l1_1.length ≤ c1_1) (h : whole_Floor.f k a0_0 l0_1 a1_0 l1_1 = some (r1, r2, r3, r4, r5)) :
  Calls Try.prog 60 #[.agg #[.bool a0_0, .slice A0_1 l0_1.length c0_1], .agg #[.bool a1_0, .slice A1_1 l1_1.length c1_1]] w fun e w' => ∃ v1_ v3_ : Value, e = .returned (.tuple #[.agg #[.bool r1, v1_], .agg #[.bool r3, v3_], .int .i64 r5]) ∧ Kd.R (Kd.int .u32) 89 w' w.heap.size (fun k_ => some k_ ≠ (v3_ : Value).ownBlock) v1_ r2 ∧ Kd.R (Kd.int .u32) 89 w' w.heap.size (fun k_ => some k_ ≠ (v1_ : Value).ownBlock) v3_ r4 ∧ Below w.heap.size w w' := by
 have hu25 := Try.underlying25
 have HR0_1 := Aside0.mk hr0_1
 have HC0_1 := Aside0.mk hc0_1
 clear hr0_1 hc0_1
 have HR1_1 := Aside0.mk hr1_1
 have HC1_1 := Aside0.mk hc1_1
 clear hr1_1 hc1_1
 have HB := Aside0.mk (Below.refl w.heap.size w)
 have H : ((nat_DivMod.f k l0_1 l1_1).bind fun bt334 => (if bt334.2.2 = 0 then ((whole_Sign.f k a0_0 l0_1).bind fun t341 => ((whole_Sign.f k a1_0 l1_1).bind fun t342 => ((whole_Make.f k (decide ((wrap64 (t341 * t342)) < 0)) bt334.1).bind fun bt343 => ((whole_Floor_cl1.f k a0_0 l0_1 a1_0 l1_1 bt343.1 bt343.2).bind fun bt348 => ((whole_Sign.f k bt348.1 bt348.2).bind fun t352 => ((whole_Sign.f k a1_0 l1_1).bind fun t353 => (if (wrap64 (t352 * t353)) < 0 then ((whole_Of.f k 1).bind fun bt354 => ((whole_Sub.f k bt343.1 bt343.2 bt354.1 bt354.2).bind fun bt358 => ((whole_Floor_cl1.f k a0_0 l0_1 a1_0 l1_1 bt358.1 bt358.2).bind fun bt362 => (some (bt358.1, bt358.2, bt362.1, bt362.2, 0))))) else ((whole_Floor_cl1.f k a0_0 l0_1 a1_0 l1_1 bt343.1 bt343.2).bind fun bt366 => (some (bt343.1, bt343.2, bt366.1, bt366.2, 0)))))))))) else (some (false, ([] : List Int), false, ([] : List Int), bt334.2.2)))) = some (r1, r2, r3, r4, r5) := h
 clear h
 replace H := Option.bind_eq_some_iff.mp H
 obtain ⟨⟨t334, t337, t340⟩, A30, H⟩ := H
 try dsimp only at H
 have A3 := Aside0.mk A30
 clear A30
 by_cases c4 : t340 = 0
 ·rw [if_pos c4] at H
  have c4b0 : (t340 == 0) = true := beq_iff_eq.mpr c4
  have c4b1 : (t340 != 0) = false := bne_eq_false_iff_eq.mpr c4
  clear c4
  replace H := Option.bind_eq_some_iff.mp H
  obtain ⟨t341, A50, H⟩ := H
  try dsimp only at H
  have A5 := Aside0.mk A50
  clear A50
  replace H := Option.bind_eq_some_iff.mp H
  obtain ⟨t342, A60, H⟩ := H
  try dsimp only at H
  have A6 := Aside0.mk A60
  clear A60
  replace H := Option.bind_eq_some_iff.mp H
  obtain ⟨⟨t343, t344⟩, A70, H⟩ := H
  try dsimp only at H
  have A7 := Aside0.mk A70
  clear A70
  replace H := Option.bind_eq_some_iff.mp H
  obtain ⟨⟨t348, t349⟩, A80, H⟩ := H
  try dsimp only at H
  have A8 := Aside0.mk A80
  clear A80
  replace H := Option.bind_eq_some_iff.mp H
  obtain ⟨t352, A90, H⟩ := H
  try dsimp only at H
  have A9 := Aside0.mk A90
  clear A90
  replace H := Option.bind_eq_some_iff.mp H
  obtain ⟨t353, A100, H⟩ := H
  try dsimp only at H
  have A10 := Aside0.mk A100
  clear A100
  have HTEST := Aside0.mk H
  clear H
  go_enter Try.func60, Try.ntmps60
  try go_wp2_with (first | ((with_reducible refine gate_dst (N := 2) rfl ?_); refine Short.boxS_ (N := 2) (cs := #[.bool a0_0, .slice A0_1 l0_1.length c0_1]) (t := 25) ?_; intro gb330 hg w15 hbox hb; have BK330 := Aside0.mk (hbox); have GW330 := Aside0.mk ((by rw [hg]; exact (below_size (by repeat (first | (with_reducible first | exact HB.out | apply below_alloc | apply pw_below_drewN | apply below_drew1) | exact HB.out))) : w.heap.size ≤ gb330)); have GE330 := Aside0.mk ((by rw [hg]; exact (below_size (by repeat (first | (with_reducible first | exact HB.out | apply below_alloc | apply pw_below_drewN | apply below_drew1) | exact HB.out))) : w.heap.size ≤ gb330)); replace HB := Aside0.mk (below_step (by repeat (first | (with_reducible first | exact HB.out | apply below_alloc | apply pw_below_drewN | apply below_drew1) | exact HB.out)) hb); clear hb hbox hg) | ((with_reducible refine gate_dst (N := 3) rfl ?_); refine Short.boxS_ (N := 3) (cs := #[.bool a1_0, .slice A1_1 l1_1.length c1_1]) (t := 25) ?_; intro gb331 hg w16 hbox hb; have BK331 := Aside0.mk (hbox); have GW331 := Aside0.mk ((by rw [hg]; exact (below_size HB.out) : w.heap.size ≤ gb331)); have GE331 := Aside0.mk ((by rw [hg]; exact (below_size HB.out) : w.heap.size ≤ gb331)); replace HB := Aside0.mk (below_step HB.out hb); have NB330_331 := Short.ltA_ hg BK330; have NB331_330 := Short.gtA_ hg BK330; replace BK330 := Aside0.mk (blk_below BK330.out hb); clear hb hbox hg) | ((with_reducible refine gate_dst (N := 4) rfl ?_); refine Short.boxS_ (N := 4) (cs := #[.bool false, .slice none 0 0]) (t := 25) ?_; intro gb332 hg w17 hbox hb; have BK332 := Aside0.mk (hbox); have GW332 := Aside0.mk ((by rw [hg]; exact (below_size HB.out) : w.heap.size ≤ gb332)); have GE332 := Aside0.mk ((by rw [hg]; exact (below_size HB.out) : w.heap.size ≤ gb332)); replace HB := Aside0.mk (below_step HB.out hb); have NB330_332 := Short.ltA_ hg BK330; have NB332_330 := Short.gtA_ hg BK330; replace BK330 := Aside0.mk (blk_below BK330.out hb); have NB331_332 := Short.ltA_ hg BK331; have NB332_331 := Short.gtA_ hg BK331; replace BK331 := Aside0.mk (blk_below BK331.out hb); clear hb hbox hg) | ((with_reducible refine gate_dst (N := 5) rfl ?_); refine Short.boxS_ (N := 5) (cs := #[.bool false, .slice none 0 0]) (t := 25) ?_; intro gb333 hg w18 hbox hb; have BK333 := Aside0.mk (hbox); have GW333 := Aside0.mk ((by rw [hg]; exact (below_size HB.out) : w.heap.size ≤ gb333)); have GE333 := Aside0.mk ((by rw [hg]; exact (below_size HB.out) : w.heap.size ≤ gb333)); replace HB := Aside0.mk (below_step HB.out hb); have NB330_333 := Short.ltA_ hg BK330; have NB333_330 := Short.gtA_ hg BK330; replace BK330 := Aside0.mk (blk_below BK330.out hb); have NB331_333 := Short.ltA_ hg BK331; have NB333_331 := Short.gtA_ hg BK331; replace BK331 := Aside0.mk (blk_below BK331.out hb); have NB332_333 := Short.ltA_ hg BK332; have NB333_332 := Short.gtA_ hg BK332; replace BK332 := Aside0.mk (blk_below BK332.out hb); clear hb hbox hg; have hnb19 := NB330_331.out; have hnc19 := NB331_330.out; have hnb20 := NB330_332.out; have hnc20 := NB332_330.out; have hnb21 := NB330_333.out; have hnc21 := NB333_330.out; have hcz22_0 : w18.cell? ⟨gb330, 0, none⟩ = some (.bool a0_0) := (blk_cell BK330.out 0).trans rfl; have hcz22_1 : w18.cell? ⟨gb330, 1, none⟩ = some (.slice A0_1 l0_1.length c0_1) := (blk_cell BK330.out 1).trans rfl; have hfz22_0 := blk_frozen BK330.out 0; have hfz22_1 := blk_frozen BK330.out 1; have hnb23 := NB331_332.out; have hnc23 := NB332_331.out; have hnb24 := NB331_333.out; have hnc24 := NB333_331.out; have hcz25_0 : w18.cell? ⟨gb331, 0, none⟩ = some (.bool a1_0) := (blk_cell BK331.out 0).trans rfl; have hcz25_1 : w18.cell? ⟨gb331, 1, none⟩ = some (.slice A1_1 l1_1.length c1_1) := (blk_cell BK331.out 1).trans rfl; have hfz25_0 := blk_frozen BK331.out 0; have hfz25_1 := blk_frozen BK331.out 1) | ((with_reducible refine gate_callee (f := 70) rfl ?_); refine Short.goesS_ (some 17) Try.func70 #[.slice A0_1 l0_1.length c0_1, .slice A1_1 l1_1.length c1_1] ?_; (with_reducible refine (nat_DivMod.calls k _ _ l0_1 _ _ l1_1 t334 t337 t340 _ (Kd.C_below HR0_1.out HB.out) HC0_1.out (Kd.C_below HR1_1.out HB.out) HC1_1.out A3.out).mono ?_); rintro e w26 ⟨v335, v338, rfl, ho0, ho1, hb⟩; refine ⟨_, rfl, ?_⟩; have HO336 := Aside0.mk (Kd.R_lower (Kd.R_mono (ok' := fun k_ => True) ho0 (fun _ hk_ => trivial)) (below_size HB.out)); have HO339 := Aside0.mk (Kd.V_lower (Kd.V_mono (ok' := fun k_ => some k_ ≠ (v335 : Value).ownBlock ∧ k_ ≠ gb330 ∧ k_ ≠ gb331 ∧ k_ ≠ gb332 ∧ k_ ≠ gb333) ho1 (fun k_ hk_ => ⟨hk_.2, (Kd.freshB (g := gb330) (o := .cells #[.bool a0_0, .slice A0_1 l0_1.length c0_1] 25 (0, 0)) BK330.out k_ hk_.1), (Kd.freshB (g := gb331) (o := .cells #[.bool a1_0, .slice A1_1 l1_1.length c1_1] 25 (0, 0)) BK331.out k_ hk_.1), (Kd.freshB (g := gb332) (o := .cells #[.bool false, .slice none 0 0] 25 (0, 0)) BK332.out k_ hk_.1), (Kd.freshB (g := gb333) (o := .cells #[.bool false, .slice none 0 0] 25 (0, 0)) BK333.out k_ hk_.1)⟩)) (below_size HB.out)); replace BK330 := Aside0.mk (blk_below BK330.out hb); replace BK331 := Aside0.mk (blk_below BK331.out hb); replace BK332 := Aside0.mk (blk_below BK332.out hb); replace BK333 := Aside0.mk (blk_below BK333.out hb); replace HB := Aside0.mk (below_step HB.out hb); (try clear hb); (try clear ho0); (try clear ho1); obtain ⟨Ao27, co27, eo27⟩ := Kd.R_slice HO336.out; subst eo27))
  replace HO336 := Aside0.mk (Kd.R_drew HO336.out)
  replace HO339 := Aside0.mk (Kd.V_drew HO339.out)
  replace BK330 := Aside0.mk (blk_drew BK330.out)
  replace BK331 := Aside0.mk (blk_drew BK331.out)
  replace BK332 := Aside0.mk (blk_drew BK332.out)
  replace BK333 := Aside0.mk (blk_drew BK333.out)
  replace HB := Aside0.mk (below_drew1 HB.out)
  refine start_ (n := 10) (S := fun w' => w'.cell? ⟨gb330, 0, none⟩ = some (.bool a0_0) ∧ w'.cell? ⟨gb330, 1, none⟩ = some (.slice A0_1 l0_1.length c0_1) ∧ w'.cell? ⟨gb331, 0, none⟩ = some (.bool a1_0) ∧ w'.cell? ⟨gb331, 1, none⟩ = some (.slice A1_1 l1_1.length c1_1)) (ds := []) #[false, false, false, false, false, false, false, false, false, false] (by kernel_rfl) rfl rfl ⟨(blk_cell BK330.out 0).trans rfl, (blk_cell BK330.out 1).trans rfl, (blk_cell BK331.out 0).trans rfl, (blk_cell BK331.out 1).trans rfl⟩ (fun hHeld => ?_); refine with_tabW whole_Floor.tab4 whole_Floor.bits4 (fun HT_ HW_ => ?_)
  generalize w26.drew = w28 at HO336 HO339 BK330 BK331 BK332 BK333 HB hHeld ⊢
  refine Short.pureS_ (i := 6) (N := some 32) #[false, false, false, false, false, false, true, false, false, false] (any_of HT_.out (by kernel_rfl)) ?_
  refine Short.takeS_ (i := 0) (N := some 26) #[true, false, false, false, false, false, true, false, false, false] (take_ofW HT_.out HW_.out (by kernel_rfl)) hHeld ?_
  refine Short.takeS_ (i := 2) (N := some 28) #[true, false, true, false, false, false, true, false, false, false] (take_ofW HT_.out HW_.out (by kernel_rfl)) hHeld ?_
  refine join_ (σ := Value × Nat) 1 #[true, true, true, true, true, true, true, true, true, false] (fun s_ => [(27, .int .i64 t341), (29, .int .i64 t342), (33, .agg #[.bool t343, s_.1]), (10, .pointer (some ⟨s_.2, 0, none⟩)), (30, .int .i64 (wrap64 (t341 * t342))), (31, .bool (decide ((wrap64 (t341 * t342)) < 0)))]) (fun s_ w' => (w'.cell? ⟨gb330, 0, none⟩ = some (.bool a0_0) ∧ w'.cell? ⟨gb330, 1, none⟩ = some (.slice A0_1 l0_1.length c0_1) ∧ w'.cell? ⟨gb331, 0, none⟩ = some (.bool a1_0) ∧ w'.cell? ⟨gb331, 1, none⟩ = some (.slice A1_1 l1_1.length c1_1)) ∧ (Kd.R (Kd.int .u32) 89 w' w.heap.size (fun k_ => some k_ ≠ (s_.1 : Value).ownBlock) (.slice Ao27 t334.length co27) t334) ∧ (Kd.V (Kd.int .u32) 89 w' w.heap.size (fun k_ => some k_ ≠ (.slice Ao27 t334.length co27 : Value).ownBlock ∧ some k_ ≠ (s_.1 : Value).ownBlock ∧ k_ ≠ gb330 ∧ k_ ≠ gb331 ∧ k_ ≠ gb332 ∧ k_ ≠ gb333 ∧ k_ ≠ s_.2) v338 t337) ∧ (Kd.R (Kd.int .u32) 89 w' w.heap.size (fun k_ => some k_ ≠ (.slice Ao27 t334.length co27 : Value).ownBlock) s_.1 t344) ∧ (w'.heap[gb330]? = some (.cells #[.bool a0_0, .slice A0_1 l0_1.length c0_1] 25 (0, 0))) ∧ (w'.heap[gb331]? = some (.cells #[.bool a1_0, .slice A1_1 l1_1.length c1_1] 25 (0, 0))) ∧ (w'.heap[gb332]? = some (.cells #[.bool false, .slice none 0 0] 25 (0, 0))) ∧ (w'.heap[gb333]? = some (.cells #[.bool false, .slice none 0 0] 25 (0, 0))) ∧ (w'.heap[s_.2]? = some (.cells #[.bool false, .slice none 0 0] 25 (0, 0))) ∧ (w.heap.size ≤ s_.2) ∧ (w.heap.size ≤ s_.2) ∧ (gb330 ≠ s_.2) ∧ (s_.2 ≠ gb330) ∧ (gb331 ≠ s_.2) ∧ (s_.2 ≠ gb331) ∧ (gb332 ≠ s_.2) ∧ (s_.2 ≠ gb332) ∧ (gb333 ≠ s_.2) ∧ (s_.2 ≠ gb333) ∧ (Below w.heap.size w w')) ?_ ?_
  rotate_left
  ·intro hCont
   refine two_ (i := 1) (j := 8) (Ni := some 27) (Nj := some 10) #[true, true, true, false, false, false, true, false, false, false] #[true, false, true, false, false, false, true, false, true, false] rfl rfl rfl rfl (two_of HT_.out (by kernel_rfl)) (by decide) (by decide) (fun K hK => ?_) (fun K hK => ?_)
   ·skip
    refine Short.goesD_ Try.func49 #[.agg #[.bool a0_0, .slice A0_1 l0_1.length c0_1]] ?_
    with_reducible refine (whole_Sign.calls k a0_0 _ _ l0_1 t341 _ (Kd.C_below HR0_1.out HB.out) HC0_1.out A5.out).mono ?_
    rintro e w29 ⟨rfl, hb⟩
    refine ⟨_, rfl, ?_⟩
    replace HO336 := Aside0.mk (Kd.R_below HO336.out hb)
    replace HO339 := Aside0.mk (Kd.V_below HO339.out hb)
    replace BK330 := Aside0.mk (blk_below BK330.out hb)
    replace BK331 := Aside0.mk (blk_below BK331.out hb)
    replace BK332 := Aside0.mk (blk_below BK332.out hb)
    replace BK333 := Aside0.mk (blk_below BK333.out hb)
    replace HB := Aside0.mk (below_step HB.out hb)
    (try clear hb)
    refine hK.out _ _ ⟨(blk_cell BK330.out 0).trans rfl, (blk_cell BK330.out 1).trans rfl, (blk_cell BK331.out 0).trans rfl, (blk_cell BK331.out 1).trans rfl⟩ (fun hHeld => ?_)
    clear hK K
    refine Short.normS_ ?_
    refine two_ (i := 3) (j := 8) (Ni := some 29) (Nj := some 10) #[true, true, true, true, false, false, true, false, false, false] #[true, true, true, false, false, false, true, false, true, false] rfl rfl rfl rfl (two_of HT_.out (by kernel_rfl)) (by decide) (by decide) (fun K hK => ?_) (fun K hK => ?_)
    ·skip
     refine Short.goesD_ Try.func49 #[.agg #[.bool a1_0, .slice A1_1 l1_1.length c1_1]] ?_
     with_reducible refine (whole_Sign.calls k a1_0 _ _ l1_1 t342 _ (Kd.C_below HR1_1.out HB.out) HC1_1.out A6.out).mono ?_
     rintro e w30 ⟨rfl, hb⟩
     refine ⟨_, rfl, ?_⟩
     replace HO336 := Aside0.mk (Kd.R_below HO336.out hb)
     replace HO339 := Aside0.mk (Kd.V_below HO339.out hb)
     replace BK330 := Aside0.mk (blk_below BK330.out hb)
     replace BK331 := Aside0.mk (blk_below BK331.out hb)
     replace BK332 := Aside0.mk (blk_below BK332.out hb)
     replace BK333 := Aside0.mk (blk_below BK333.out hb)
     replace HB := Aside0.mk (below_step HB.out hb)
     (try clear hb)
     refine hK.out _ _ ⟨(blk_cell BK330.out 0).trans rfl, (blk_cell BK330.out 1).trans rfl, (blk_cell BK331.out 0).trans rfl, (blk_cell BK331.out 1).trans rfl⟩ (fun hHeld => ?_)
     clear hK K
     refine Short.normS_ ?_
     refine Short.pureS_ (i := 4) (N := some 30) #[true, true, true, true, true, false, true, false, false, false] (any_of HT_.out (by kernel_rfl)) ?_
     refine Short.pureS_ (i := 5) (N := some 31) #[true, true, true, true, true, true, true, false, false, false] (any_of HT_.out (by kernel_rfl)) ?_
     refine two_ (i := 7) (j := 8) (Ni := some 33) (Nj := some 10) #[true, true, true, true, true, true, true, true, false, false] #[true, true, true, true, true, true, true, false, true, false] rfl rfl rfl rfl (two_of HT_.out (by kernel_rfl)) (by decide) (by decide) (fun K hK => ?_) (fun K hK => ?_)
     ·skip
      refine Short.goesD_ Try.func45 #[.bool (decide ((wrap64 (t341 * t342)) < 0)), .slice Ao27 t334.length co27] ?_
      with_reducible refine (whole_Make.calls k (decide ((wrap64 (t341 * t342)) < 0)) _ _ t334 t343 t344 _ ((Kd.R_reads' HO336.out).2.2) ((Kd.R_reads' HO336.out).2.1) A7.out).mono ?_
      rintro e w31 ⟨v345, rfl, ho0, hb⟩
      refine ⟨_, rfl, ?_⟩
      replace HO339 := Aside0.mk (Kd.V_elder' HO339.out (Kd.R_base ho0) hb)
      have HO346 := Aside0.mk (Kd.R_lower (Kd.R_new' ho0 (Kd.R_lt HO336.out)) (below_size HB.out))
      replace HO336 := Aside0.mk (Kd.R_elder' HO336.out (Kd.R_base ho0) hb)
      replace BK330 := Aside0.mk (blk_below BK330.out hb)
      replace BK331 := Aside0.mk (blk_below BK331.out hb)
      replace BK332 := Aside0.mk (blk_below BK332.out hb)
      replace BK333 := Aside0.mk (blk_below BK333.out hb)
      replace HB := Aside0.mk (below_step HB.out hb)
      (try clear hb)
      (try clear ho0)
      refine hK.out _ _ ⟨(blk_cell BK330.out 0).trans rfl, (blk_cell BK330.out 1).trans rfl, (blk_cell BK331.out 0).trans rfl, (blk_cell BK331.out 1).trans rfl⟩ (fun hHeld => ?_)
      clear hK K
      refine Short.normS_ ?_
      refine one_ (i := 8) (N := some 10) #[true, true, true, true, true, true, true, true, true, false] rfl rfl (one_of HT_.out (by kernel_rfl)) (by decide) (fun K hK => ?_)
      refine Short.boxD_ (N := 10) (cs := #[.bool false, .slice none 0 0]) (t := 25) ?_
      intro gb347 hg w32 hbox hb
      replace HO336 := Aside0.mk (Kd.R_below HO336.out hb)
      replace HO339 := Aside0.mk (Kd.V_below (Kd.V_elderB HO339.out gb347 (Nat.le_of_eq hg.symm)) hb)
      replace HO346 := Aside0.mk (Kd.R_below HO346.out hb)
      have BK347 := Aside0.mk (hbox)
      have GW347 := Aside0.mk ((by rw [hg]; exact (below_size HB.out) : w.heap.size ≤ gb347))
      have GE347 := Aside0.mk ((by rw [hg]; exact (below_size HB.out) : w.heap.size ≤ gb347))
      replace HB := Aside0.mk (below_step HB.out hb)
      have NB330_347 := Short.ltA_ hg BK330
      have NB347_330 := Short.gtA_ hg BK330
      replace BK330 := Aside0.mk (blk_below BK330.out hb)
      have NB331_347 := Short.ltA_ hg BK331
      have NB347_331 := Short.gtA_ hg BK331
      replace BK331 := Aside0.mk (blk_below BK331.out hb)
      have NB332_347 := Short.ltA_ hg BK332
      have NB347_332 := Short.gtA_ hg BK332
      replace BK332 := Aside0.mk (blk_below BK332.out hb)
      have NB333_347 := Short.ltA_ hg BK333
      have NB347_333 := Short.gtA_ hg BK333
      replace BK333 := Aside0.mk (blk_below BK333.out hb)
      clear hb hbox hg
      refine hK.out _ _ ⟨(blk_cell BK330.out 0).trans rfl, (blk_cell BK330.out 1).trans rfl, (blk_cell BK331.out 0).trans rfl, (blk_cell BK331.out 1).trans rfl⟩ (fun hHeld => ?_)
      clear hK K
      refine Short.normS_ ?_
      exact Short.normP_ (hCont (v345, gb347) _ ⟨hHeld, (by (with_reducible repeat (first | apply Kd.R_alloc | apply Kd.R_drewN | apply Kd.R_drew)); exact Kd.R_mono HO336.out (fun _ hk => hk.2)), (by (with_reducible repeat (first | apply Kd.V_alloc | apply Kd.V_drewN | apply Kd.V_drew)); exact Kd.V_mono HO339.out (fun _ hk => ⟨hk.1.1.1, ⟨hk.1.2, ⟨hk.1.1.2.1, ⟨hk.1.1.2.2.1, ⟨hk.1.1.2.2.2.1, ⟨hk.1.1.2.2.2.2, hk.2⟩⟩⟩⟩⟩⟩)), (by (with_reducible repeat (first | apply Kd.R_alloc | apply Kd.R_drewN | apply Kd.R_drew)); exact Kd.R_mono HO346.out (fun _ hk => hk.2)), BK330.out, BK331.out, BK332.out, BK333.out, BK347.out, GW347.out, GE347.out, NB330_347.out, NB347_330.out, NB331_347.out, NB347_331.out, NB332_347.out, NB347_332.out, NB333_347.out, NB347_333.out, HB.out⟩)
     ·skip
      refine Short.boxD_ (N := 10) (cs := #[.bool false, .slice none 0 0]) (t := 25) ?_
      intro gb347 hg w31 hbox hb
      replace HO336 := Aside0.mk (Kd.R_below HO336.out hb)
      replace HO339 := Aside0.mk (Kd.V_below (Kd.V_elderB HO339.out gb347 (Nat.le_of_eq hg.symm)) hb)
      have BK347 := Aside0.mk (hbox)
      have GW347 := Aside0.mk ((by rw [hg]; exact (below_size HB.out) : w.heap.size ≤ gb347))
      have GE347 := Aside0.mk ((by rw [hg]; exact (below_size HB.out) : w.heap.size ≤ gb347))
      replace HB := Aside0.mk (below_step HB.out hb)
      have NB330_347 := Short.ltA_ hg BK330
      have NB347_330 := Short.gtA_ hg BK330
      replace BK330 := Aside0.mk (blk_below BK330.out hb)
      have NB331_347 := Short.ltA_ hg BK331
      have NB347_331 := Short.gtA_ hg BK331
      replace BK331 := Aside0.mk (blk_below BK331.out hb)
      have NB332_347 := Short.ltA_ hg BK332
      have NB347_332 := Short.gtA_ hg BK332
      replace BK332 := Aside0.mk (blk_below BK332.out hb)
      have NB333_347 := Short.ltA_ hg BK333
      have NB347_333 := Short.gtA_ hg BK333
      replace BK333 := Aside0.mk (blk_below BK333.out hb)
      clear hb hbox hg
      refine hK.out _ _ ⟨(blk_cell BK330.out 0).trans rfl, (blk_cell BK330.out 1).trans rfl, (blk_cell BK331.out 0).trans rfl, (blk_cell BK331.out 1).trans rfl⟩ (fun hHeld => ?_)
      clear hK K
      refine Short.normS_ ?_
      refine one_ (i := 7) (N := some 33) #[true, true, true, true, true, true, true, true, true, false] rfl rfl (one_of HT_.out (by kernel_rfl)) (by decide) (fun K hK => ?_)
      refine Short.goesD_ Try.func45 #[.bool (decide ((wrap64 (t341 * t342)) < 0)), .slice Ao27 t334.length co27] ?_
      with_reducible refine (whole_Make.calls k (decide ((wrap64 (t341 * t342)) < 0)) _ _ t334 t343 t344 _ ((Kd.R_reads' HO336.out).2.2) ((Kd.R_reads' HO336.out).2.1) A7.out).mono ?_
      rintro e w32 ⟨v345, rfl, ho0, hb⟩
      refine ⟨_, rfl, ?_⟩
      replace HO339 := Aside0.mk (Kd.V_elder' HO339.out (Kd.R_base ho0) hb)
      have HO346 := Aside0.mk (Kd.R_lower (Kd.R_new' ho0 (Kd.R_lt HO336.out)) (below_size HB.out))
      replace HO336 := Aside0.mk (Kd.R_elder' HO336.out (Kd.R_base ho0) hb)
      replace BK330 := Aside0.mk (blk_below BK330.out hb)
      replace BK331 := Aside0.mk (blk_below BK331.out hb)
      replace BK332 := Aside0.mk (blk_below BK332.out hb)
      replace BK333 := Aside0.mk (blk_below BK333.out hb)
      replace BK347 := Aside0.mk (blk_below BK347.out hb)
      replace HB := Aside0.mk (below_step HB.out hb)
      (try clear hb)
      (try clear ho0)
      refine hK.out _ _ ⟨(blk_cell BK330.out 0).trans rfl, (blk_cell BK330.out 1).trans rfl, (blk_cell BK331.out 0).trans rfl, (blk_cell BK331.out 1).trans rfl⟩ (fun hHeld => ?_)
      clear hK K
      refine Short.normS_ ?_
      exact Short.normP_ (hCont (v345, gb347) _ ⟨hHeld, (by (with_reducible repeat (first | apply Kd.R_alloc | apply Kd.R_drewN | apply Kd.R_drew)); exact Kd.R_mono HO336.out (fun _ hk => hk.2)), (by (with_reducible repeat (first | apply Kd.V_alloc | apply Kd.V_drewN | apply Kd.V_drew)); exact Kd.V_mono HO339.out (fun _ hk => ⟨hk.1.1.1, ⟨hk.2, ⟨hk.1.1.2.1, ⟨hk.1.1.2.2.1, ⟨hk.1.1.2.2.2.1, ⟨hk.1.1.2.2.2.2, hk.1.2⟩⟩⟩⟩⟩⟩)), (by (with_reducible repeat (first | apply Kd.R_alloc | apply Kd.R_drewN | apply Kd.R_drew)); exact Kd.R_mono HO346.out (fun _ hk => hk.2)), BK330.out, BK331.out, BK332.out, BK333.out, BK347.out, GW347.out, GE347.out, NB330_347.out, NB347_330.out, NB331_347.out, NB347_331.out, NB332_347.out, NB347_332.out, NB333_347.out, NB347_333.out, HB.out⟩)
    ·skip
     refine Short.boxD_ (N := 10) (cs := #[.bool false, .slice none 0 0]) (t := 25) ?_
     intro gb347 hg w30 hbox hb
     replace HO336 := Aside0.mk (Kd.R_below HO336.out hb)
     replace HO339 := Aside0.mk (Kd.V_below (Kd.V_elderB HO339.out gb347 (Nat.le_of_eq hg.symm)) hb)
     have BK347 := Aside0.mk (hbox)
     have GW347 := Aside0.mk ((by rw [hg]; exact (below_size HB.out) : w.heap.size ≤ gb347))
     have GE347 := Aside0.mk ((by rw [hg]; exact (below_size HB.out) : w.heap.size ≤ gb347))
     replace HB := Aside0.mk (below_step HB.out hb)
     have NB330_347 := Short.ltA_ hg BK330
     have NB347_330 := Short.gtA_ hg BK330
     replace BK330 := Aside0.mk (blk_below BK330.out hb)
     have NB331_347 := Short.ltA_ hg BK331
     have NB347_331 := Short.gtA_ hg BK331
     replace BK331 := Aside0.mk (blk_below BK331.out hb)
     have NB332_347 := Short.ltA_ hg BK332
     have NB347_332 := Short.gtA_ hg BK332
     replace BK332 := Aside0.mk (blk_below BK332.out hb)
     have NB333_347 := Short.ltA_ hg BK333
     have NB347_333 := Short.gtA_ hg BK333
     replace BK333 := Aside0.mk (blk_below BK333.out hb)
     clear hb hbox hg
     refine hK.out _ _ ⟨(blk_cell BK330.out 0).trans rfl, (blk_cell BK330.out 1).trans rfl, (blk_cell BK331.out 0).trans rfl, (blk_cell BK331.out 1).trans rfl⟩ (fun hHeld => ?_)
     clear hK K
     refine Short.normS_ ?_
     refine one_ (i := 3) (N := some 29) #[true, true, true, true, false, false, true, false, true, false] rfl rfl (one_of HT_.out (by kernel_rfl)) (by decide) (fun K hK => ?_)
     refine Short.goesD_ Try.func49 #[.agg #[.bool a1_0, .slice A1_1 l1_1.length c1_1]] ?_
     with_reducible refine (whole_Sign.calls k a1_0 _ _ l1_1 t342 _ (Kd.C_below HR1_1.out HB.out) HC1_1.out A6.out).mono ?_
     rintro e w31 ⟨rfl, hb⟩
     refine ⟨_, rfl, ?_⟩
     replace HO336 := Aside0.mk (Kd.R_below HO336.out hb)
     replace HO339 := Aside0.mk (Kd.V_below HO339.out hb)
     replace BK330 := Aside0.mk (blk_below BK330.out hb)
     replace BK331 := Aside0.mk (blk_below BK331.out hb)
     replace BK332 := Aside0.mk (blk_below BK332.out hb)
     replace BK333 := Aside0.mk (blk_below BK333.out hb)
     replace BK347 := Aside0.mk (blk_below BK347.out hb)
     replace HB := Aside0.mk (below_step HB.out hb)
     (try clear hb)
     refine hK.out _ _ ⟨(blk_cell BK330.out 0).trans rfl, (blk_cell BK330.out 1).trans rfl, (blk_cell BK331.out 0).trans rfl, (blk_cell BK331.out 1).trans rfl⟩ (fun hHeld => ?_)
     clear hK K
     refine Short.normS_ ?_
     refine Short.pureS_ (i := 4) (N := some 30) #[true, true, true, true, true, false, true, false, true, false] (any_of HT_.out (by kernel_rfl)) ?_
     refine Short.pureS_ (i := 5) (N := some 31) #[true, true, true, true, true, true, true, false, true, false] (any_of HT_.out (by kernel_rfl)) ?_
     refine one_ (i := 7) (N := some 33) #[true, true, true, true, true, true, true, true, true, false] rfl rfl (one_of HT_.out (by kernel_rfl)) (by decide) (fun K hK => ?_)
     refine Short.goesD_ Try.func45 #[.bool (decide ((wrap64 (t341 * t342)) < 0)), .slice Ao27 t334.length co27] ?_
     with_reducible refine (whole_Make.calls k (decide ((wrap64 (t341 * t342)) < 0)) _ _ t334 t343 t344 _ ((Kd.R_reads' HO336.out).2.2) ((Kd.R_reads' HO336.out).2.1) A7.out).mono ?_
     rintro e w32 ⟨v345, rfl, ho0, hb⟩
     refine ⟨_, rfl, ?_⟩
     replace HO339 := Aside0.mk (Kd.V_elder' HO339.out (Kd.R_base ho0) hb)
     have HO346 := Aside0.mk (Kd.R_lower (Kd.R_new' ho0 (Kd.R_lt HO336.out)) (below_size HB.out))
     replace HO336 := Aside0.mk (Kd.R_elder' HO336.out (Kd.R_base ho0) hb)
     replace BK330 := Aside0.mk (blk_below BK330.out hb)
     replace BK331 := Aside0.mk (blk_below BK331.out hb)
     replace BK332 := Aside0.mk (blk_below BK332.out hb)
     replace BK333 := Aside0.mk (blk_below BK333.out hb)
     replace BK347 := Aside0.mk (blk_below BK347.out hb)
     replace HB := Aside0.mk (below_step HB.out hb)
     (try clear hb)
     (try clear ho0)
     refine hK.out _ _ ⟨(blk_cell BK330.out 0).trans rfl, (blk_cell BK330.out 1).trans rfl, (blk_cell BK331.out 0).trans rfl, (blk_cell BK331.out 1).trans rfl⟩ (fun hHeld => ?_)
     clear hK K
     refine Short.normS_ ?_
     exact Short.normP_ (hCont (v345, gb347) _ ⟨hHeld, (by (with_reducible repeat (first | apply Kd.R_alloc | apply Kd.R_drewN | apply Kd.R_drew)); exact Kd.R_mono HO336.out (fun _ hk => hk.2)), (by (with_reducible repeat (first | apply Kd.V_alloc | apply Kd.V_drewN | apply Kd.V_drew)); exact Kd.V_mono HO339.out (fun _ hk => ⟨hk.1.1.1, ⟨hk.2, ⟨hk.1.1.2.1, ⟨hk.1.1.2.2.1, ⟨hk.1.1.2.2.2.1, ⟨hk.1.1.2.2.2.2, hk.1.2⟩⟩⟩⟩⟩⟩)), (by (with_reducible repeat (first | apply Kd.R_alloc | apply Kd.R_drewN | apply Kd.R_drew)); exact Kd.R_mono HO346.out (fun _ hk => hk.2)), BK330.out, BK331.out, BK332.out, BK333.out, BK347.out, GW347.out, GE347.out, NB330_347.out, NB347_330.out, NB331_347.out, NB347_331.out, NB332_347.out, NB347_332.out, NB333_347.out, NB347_333.out, HB.out⟩)
   ·skip
    refine Short.boxD_ (N := 10) (cs := #[.bool false, .slice none 0 0]) (t := 25) ?_
    intro gb347 hg w29 hbox hb
    replace HO336 := Aside0.mk (Kd.R_below HO336.out hb)
    replace HO339 := Aside0.mk (Kd.V_below (Kd.V_elderB HO339.out gb347 (Nat.le_of_eq hg.symm)) hb)
    have BK347 := Aside0.mk (hbox)
    have GW347 := Aside0.mk ((by rw [hg]; exact (below_size HB.out) : w.heap.size ≤ gb347))
    have GE347 := Aside0.mk ((by rw [hg]; exact (below_size HB.out) : w.heap.size ≤ gb347))
    replace HB := Aside0.mk (below_step HB.out hb)
    have NB330_347 := Short.ltA_ hg BK330
    have NB347_330 := Short.gtA_ hg BK330
    replace BK330 := Aside0.mk (blk_below BK330.out hb)
    have NB331_347 := Short.ltA_ hg BK331
    have NB347_331 := Short.gtA_ hg BK331
    replace BK331 := Aside0.mk (blk_below BK331.out hb)
    have NB332_347 := Short.ltA_ hg BK332
    have NB347_332 := Short.gtA_ hg BK332
    replace BK332 := Aside0.mk (blk_below BK332.out hb)
    have NB333_347 := Short.ltA_ hg BK333
    have NB347_333 := Short.gtA_ hg BK333
    replace BK333 := Aside0.mk (blk_below BK333.out hb)
    clear hb hbox hg
    refine hK.out _ _ ⟨(blk_cell BK330.out 0).trans rfl, (blk_cell BK330.out 1).trans rfl, (blk_cell BK331.out 0).trans rfl, (blk_cell BK331.out 1).trans rfl⟩ (fun hHeld => ?_)
    clear hK K
    refine Short.normS_ ?_
    refine one_ (i := 1) (N := some 27) #[true, true, true, false, false, false, true, false, true, false] rfl rfl (one_of HT_.out (by kernel_rfl)) (by decide) (fun K hK => ?_)
    refine Short.goesD_ Try.func49 #[.agg #[.bool a0_0, .slice A0_1 l0_1.length c0_1]] ?_
    with_reducible refine (whole_Sign.calls k a0_0 _ _ l0_1 t341 _ (Kd.C_below HR0_1.out HB.out) HC0_1.out A5.out).mono ?_
    rintro e w30 ⟨rfl, hb⟩
    refine ⟨_, rfl, ?_⟩
    replace HO336 := Aside0.mk (Kd.R_below HO336.out hb)
    replace HO339 := Aside0.mk (Kd.V_below HO339.out hb)
    replace BK330 := Aside0.mk (blk_below BK330.out hb)
    replace BK331 := Aside0.mk (blk_below BK331.out hb)
    replace BK332 := Aside0.mk (blk_below BK332.out hb)
    replace BK333 := Aside0.mk (blk_below BK333.out hb)
    replace BK347 := Aside0.mk (blk_below BK347.out hb)
    replace HB := Aside0.mk (below_step HB.out hb)
    (try clear hb)
    refine hK.out _ _ ⟨(blk_cell BK330.out 0).trans rfl, (blk_cell BK330.out 1).trans rfl, (blk_cell BK331.out 0).trans rfl, (blk_cell BK331.out 1).trans rfl⟩ (fun hHeld => ?_)
    clear hK K
    refine Short.normS_ ?_
    refine one_ (i := 3) (N := some 29) #[true, true, true, true, false, false, true, false, true, false] rfl rfl (one_of HT_.out (by kernel_rfl)) (by decide) (fun K hK => ?_)
    refine Short.goesD_ Try.func49 #[.agg #[.bool a1_0, .slice A1_1 l1_1.length c1_1]] ?_
    with_reducible refine (whole_Sign.calls k a1_0 _ _ l1_1 t342 _ (Kd.C_below HR1_1.out HB.out) HC1_1.out A6.out).mono ?_
    rintro e w31 ⟨rfl, hb⟩
    refine ⟨_, rfl, ?_⟩
    replace HO336 := Aside0.mk (Kd.R_below HO336.out hb)
    replace HO339 := Aside0.mk (Kd.V_below HO339.out hb)
    replace BK330 := Aside0.mk (blk_below BK330.out hb)
    replace BK331 := Aside0.mk (blk_below BK331.out hb)
    replace BK332 := Aside0.mk (blk_below BK332.out hb)
    replace BK333 := Aside0.mk (blk_below BK333.out hb)
    replace BK347 := Aside0.mk (blk_below BK347.out hb)
    replace HB := Aside0.mk (below_step HB.out hb)
    (try clear hb)
    refine hK.out _ _ ⟨(blk_cell BK330.out 0).trans rfl, (blk_cell BK330.out 1).trans rfl, (blk_cell BK331.out 0).trans rfl, (blk_cell BK331.out 1).trans rfl⟩ (fun hHeld => ?_)
    clear hK K
    refine Short.normS_ ?_
    refine Short.pureS_ (i := 4) (N := some 30) #[true, true, true, true, true, false, true, false, true, false] (any_of HT_.out (by kernel_rfl)) ?_
    refine Short.pureS_ (i := 5) (N := some 31) #[true, true, true, true, true, true, true, false, true, false] (any_of HT_.out (by kernel_rfl)) ?_
    refine one_ (i := 7) (N := some 33) #[true, true, true, true, true, true, true, true, true, false] rfl rfl (one_of HT_.out (by kernel_rfl)) (by decide) (fun K hK => ?_)
    refine Short.goesD_ Try.func45 #[.bool (decide ((wrap64 (t341 * t342)) < 0)), .slice Ao27 t334.length co27] ?_
    with_reducible refine (whole_Make.calls k (decide ((wrap64 (t341 * t342)) < 0)) _ _ t334 t343 t344 _ ((Kd.R_reads' HO336.out).2.2) ((Kd.R_reads' HO336.out).2.1) A7.out).mono ?_
    rintro e w32 ⟨v345, rfl, ho0, hb⟩
    refine ⟨_, rfl, ?_⟩
    replace HO339 := Aside0.mk (Kd.V_elder' HO339.out (Kd.R_base ho0) hb)
    have HO346 := Aside0.mk (Kd.R_lower (Kd.R_new' ho0 (Kd.R_lt HO336.out)) (below_size HB.out))
    replace HO336 := Aside0.mk (Kd.R_elder' HO336.out (Kd.R_base ho0) hb)
    replace BK330 := Aside0.mk (blk_below BK330.out hb)
    replace BK331 := Aside0.mk (blk_below BK331.out hb)
    replace BK332 := Aside0.mk (blk_below BK332.out hb)
    replace BK333 := Aside0.mk (blk_below BK333.out hb)
    replace BK347 := Aside0.mk (blk_below BK347.out hb)
    replace HB := Aside0.mk (below_step HB.out hb)
    (try clear hb)
    (try clear ho0)
    refine hK.out _ _ ⟨(blk_cell BK330.out 0).trans rfl, (blk_cell BK330.out 1).trans rfl, (blk_cell BK331.out 0).trans rfl, (blk_cell BK331.out 1).trans rfl⟩ (fun hHeld => ?_)
    clear hK K
    refine Short.normS_ ?_
    exact Short.normP_ (hCont (v345, gb347) _ ⟨hHeld, (by (with_reducible repeat (first | apply Kd.R_alloc | apply Kd.R_drewN | apply Kd.R_drew)); exact Kd.R_mono HO336.out (fun _ hk => hk.2)), (by (with_reducible repeat (first | apply Kd.V_alloc | apply Kd.V_drewN | apply Kd.V_drew)); exact Kd.V_mono HO339.out (fun _ hk => ⟨hk.1.1.1, ⟨hk.2, ⟨hk.1.1.2.1, ⟨hk.1.1.2.2.1, ⟨hk.1.1.2.2.2.1, ⟨hk.1.1.2.2.2.2, hk.1.2⟩⟩⟩⟩⟩⟩)), (by (with_reducible repeat (first | apply Kd.R_alloc | apply Kd.R_drewN | apply Kd.R_drew)); exact Kd.R_mono HO346.out (fun _ hk => hk.2)), BK330.out, BK331.out, BK332.out, BK333.out, BK347.out, GW347.out, GE347.out, NB330_347.out, NB347_330.out, NB331_347.out, NB347_331.out, NB332_347.out, NB347_332.out, NB333_347.out, NB347_333.out, HB.out⟩)
  rintro ⟨v345, gb347⟩ w33 ⟨hS_, h0_, h1_, h2_, h3_, h4_, h5_, h6_, h7_, h8_, h9_, h10_, h11_, h12_, h13_, h14_, h15_, h16_, h17_, h18_⟩
  replace HO336 : Aside0 (Kd.R (Kd.int .u32) 89 w33 w.heap.size (fun k_ => some k_ ≠ (v345 : Value).ownBlock) (.slice Ao27 t334.length co27) t334) := ⟨h0_⟩
  replace HO339 : Aside0 (Kd.V (Kd.int .u32) 89 w33 w.heap.size (fun k_ => some k_ ≠ (.slice Ao27 t334.length co27 : Value).ownBlock ∧ some k_ ≠ (v345 : Value).ownBlock ∧ k_ ≠ gb330 ∧ k_ ≠ gb331 ∧ k_ ≠ gb332 ∧ k_ ≠ gb333 ∧ k_ ≠ gb347) v338 t337) := ⟨h1_⟩
  have HO346 : Aside0 (Kd.R (Kd.int .u32) 89 w33 w.heap.size (fun k_ => some k_ ≠ (.slice Ao27 t334.length co27 : Value).ownBlock) v345 t344) := ⟨h2_⟩
  replace BK330 : Aside0 (w33.heap[gb330]? = some (.cells #[.bool a0_0, .slice A0_1 l0_1.length c0_1] 25 (0, 0))) := ⟨h3_⟩
  replace BK331 : Aside0 (w33.heap[gb331]? = some (.cells #[.bool a1_0, .slice A1_1 l1_1.length c1_1] 25 (0, 0))) := ⟨h4_⟩
  replace BK332 : Aside0 (w33.heap[gb332]? = some (.cells #[.bool false, .slice none 0 0] 25 (0, 0))) := ⟨h5_⟩
  replace BK333 : Aside0 (w33.heap[gb333]? = some (.cells #[.bool false, .slice none 0 0] 25 (0, 0))) := ⟨h6_⟩
  have BK347 : Aside0 (w33.heap[gb347]? = some (.cells #[.bool false, .slice none 0 0] 25 (0, 0))) := ⟨h7_⟩
  have GW347 : Aside0 (w.heap.size ≤ gb347) := ⟨h8_⟩
  have GE347 : Aside0 (w.heap.size ≤ gb347) := ⟨h9_⟩
  have NB330_347 : Aside0 (gb330 ≠ gb347) := ⟨h10_⟩
  have NB347_330 : Aside0 (gb347 ≠ gb330) := ⟨h11_⟩
  have NB331_347 : Aside0 (gb331 ≠ gb347) := ⟨h12_⟩
  have NB347_331 : Aside0 (gb347 ≠ gb331) := ⟨h13_⟩
  have NB332_347 : Aside0 (gb332 ≠ gb347) := ⟨h14_⟩
  have NB347_332 : Aside0 (gb347 ≠ gb332) := ⟨h15_⟩
  have NB333_347 : Aside0 (gb333 ≠ gb347) := ⟨h16_⟩
  have NB347_333 : Aside0 (gb347 ≠ gb333) := ⟨h17_⟩
  replace HB : Aside0 (Below w.heap.size w w33) := ⟨h18_⟩
  clear h0_ h1_ h2_ h3_ h4_ h5_ h6_ h7_ h8_ h9_ h10_ h11_ h12_ h13_ h14_ h15_ h16_ h17_ h18_
  have hHeld : w33.cell? ⟨gb330, 0, none⟩ = some (.bool a0_0) ∧ w33.cell? ⟨gb330, 1, none⟩ = some (.slice A0_1 l0_1.length c0_1) ∧ w33.cell? ⟨gb331, 0, none⟩ = some (.bool a1_0) ∧ w33.cell? ⟨gb331, 1, none⟩ = some (.slice A1_1 l1_1.length c1_1) := hS_
  obtain ⟨Ao35, co35, eo35⟩ := Kd.R_slice HO346.out
  (first | subst eo35 | (injection eo35 with f1_ f2_ f3_; have f4_ := f1_.symm; have f5_ := f3_.symm; clear f1_ f2_ f3_; subst f4_; subst f5_))
  refine norm_ (a' := ?_) ?_ ?_
  rotate_left
  ·simp only [putAll, Act.put, List.setIfInBounds_toArray, List.set_cons_zero, List.set_cons_succ]
   rfl
  refine one_ (i := 9) (N := none) #[true, true, true, true, true, true, true, true, true, true] rfl rfl (one_of HT_.out (by kernel_rfl)) (by decide) (fun K hK => ?_)
  have hs34 : w33.cell? ⟨gb347, 0, none⟩ = some (.bool false) := (blk_cell BK347.out 0).trans rfl
  have hfs34 := blk_frozen BK347.out 0
  have hns34_0 := NB330_347.out
  have hns34_1 := NB331_347.out
  have hns34_2 := NB332_347.out
  have hns34_3 := NB333_347.out
  have hms34_0 := NB347_330.out
  have hms34_1 := NB347_331.out
  have hms34_2 := NB347_332.out
  have hms34_3 := NB347_333.out
  have hs36 : w33.cell? ⟨gb347, 1, none⟩ = some (.slice none 0 0) := (blk_cell BK347.out 1).trans rfl
  have hfs36 := blk_frozen BK347.out 1
  have hns36_0 := NB330_347.out
  have hns36_1 := NB331_347.out
  have hns36_2 := NB332_347.out
  have hns36_3 := NB333_347.out
  have hms36_0 := NB347_330.out
  have hms36_1 := NB347_331.out
  have hms36_2 := NB347_332.out
  have hms36_3 := NB347_333.out
  refine skip_ (w1 := ?_) (by rfl) rfl ?_ ?_
  rotate_left
  ·go_simp
   rfl
  refine hK.out _ _ ⟨((cell_far (p := ⟨gb347, _, none⟩) NB330_347.out _).trans (((cell_far (p := ⟨gb347, _, none⟩) NB330_347.out _).trans (hHeld.1)))), ((cell_far (p := ⟨gb347, _, none⟩) NB330_347.out _).trans (((cell_far (p := ⟨gb347, _, none⟩) NB330_347.out _).trans (hHeld.2.1)))), ((cell_far (p := ⟨gb347, _, none⟩) NB331_347.out _).trans (((cell_far (p := ⟨gb347, _, none⟩) NB331_347.out _).trans (hHeld.2.2.1)))), ((cell_far (p := ⟨gb347, _, none⟩) NB331_347.out _).trans (((cell_far (p := ⟨gb347, _, none⟩) NB331_347.out _).trans (hHeld.2.2.2))))⟩ (fun hHeld => ?_)
  clear hK K
  refine done_ (done_of HT_.out (by kernel_rfl)) ?_
  try go_wp2
  have n0_ : Aside0 (Kd.R (Kd.int .u32) 89 ((w33.setCell ⟨gb347, 0, none⟩ (.bool t343)).setCell ⟨gb347, 1, none⟩ (.slice Ao35 t344.length co35)) w.heap.size (fun k_ => some k_ ≠ (.slice Ao35 t344.length co35 : Value).ownBlock) (.slice Ao27 t334.length co27) t334) := ⟨by (with_reducible repeat (first | apply Kd.R_alloc | apply Kd.R_drewN | apply Kd.R_drew)); exact Kd.R_mono (Kd.R_far (p := ⟨gb347, 1, none⟩) (Kd.R_far (p := ⟨gb347, 0, none⟩) (Kd.R_types HO336.out BK347.out (by decide)) (fun _ hk => hk.2) (.bool t343)) (fun _ hk => hk.2) (.slice Ao35 t344.length co35)) (fun _ hk => hk.1)⟩
  have n1_ : Aside0 (Kd.V (Kd.int .u32) 89 ((w33.setCell ⟨gb347, 0, none⟩ (.bool t343)).setCell ⟨gb347, 1, none⟩ (.slice Ao35 t344.length co35)) w.heap.size (fun k_ => some k_ ≠ (.slice Ao27 t334.length co27 : Value).ownBlock ∧ some k_ ≠ (.slice Ao35 t344.length co35 : Value).ownBlock ∧ k_ ≠ gb330 ∧ k_ ≠ gb331 ∧ k_ ≠ gb332 ∧ k_ ≠ gb333 ∧ k_ ≠ gb347) v338 t337) := ⟨by (with_reducible repeat (first | apply Kd.V_alloc | apply Kd.V_drewN | apply Kd.V_drew)); exact Kd.V_mono (Kd.V_far (p := ⟨gb347, 1, none⟩) (Kd.V_far (p := ⟨gb347, 0, none⟩) (Kd.V_mono HO339.out (fun k_ hk => (⟨hk, hk.2.2.2.2.2.2⟩ : _ ∧ k_ ≠ gb347))) (fun _ hk => hk.2) (.bool t343)) (fun _ hk => hk.2) (.slice Ao35 t344.length co35)) (fun _ hk => ⟨hk.1.1, ⟨hk.1.2.1, ⟨hk.1.2.2.1, ⟨hk.1.2.2.2.1, ⟨hk.1.2.2.2.2.1, ⟨hk.1.2.2.2.2.2.1, hk.1.2.2.2.2.2.2⟩⟩⟩⟩⟩⟩)⟩
  have n2_ : Aside0 (Kd.R (Kd.int .u32) 89 ((w33.setCell ⟨gb347, 0, none⟩ (.bool t343)).setCell ⟨gb347, 1, none⟩ (.slice Ao35 t344.length co35)) w.heap.size (fun k_ => some k_ ≠ (.slice Ao27 t334.length co27 : Value).ownBlock) (.slice Ao35 t344.length co35) t344) := ⟨by (with_reducible repeat (first | apply Kd.R_alloc | apply Kd.R_drewN | apply Kd.R_drew)); exact Kd.R_mono (Kd.R_far (p := ⟨gb347, 1, none⟩) (Kd.R_far (p := ⟨gb347, 0, none⟩) (Kd.R_types HO346.out BK347.out (by decide)) (fun _ hk => hk.2) (.bool t343)) (fun _ hk => hk.2) (.slice Ao35 t344.length co35)) (fun _ hk => hk.1)⟩
  have n3_ : Aside0 (((w33.setCell ⟨gb347, 0, none⟩ (.bool t343)).setCell ⟨gb347, 1, none⟩ (.slice Ao35 t344.length co35)).heap[gb330]? = some (.cells #[.bool a0_0, .slice A0_1 l0_1.length c0_1] 25 (0, 0))) := ⟨by (with_reducible repeat (first | refine blk_drewN ?_ _ | refine blk_drew ?_ | refine blk_alloc ?_ _)); refine blk_far ?_ NB330_347.out _; (with_reducible repeat (first | refine blk_drewN ?_ _ | refine blk_drew ?_ | refine blk_alloc ?_ _)); refine blk_far ?_ NB330_347.out _; (with_reducible repeat (first | refine blk_drewN ?_ _ | refine blk_drew ?_ | refine blk_alloc ?_ _)); exact BK330.out⟩
  have n4_ : Aside0 (((w33.setCell ⟨gb347, 0, none⟩ (.bool t343)).setCell ⟨gb347, 1, none⟩ (.slice Ao35 t344.length co35)).heap[gb331]? = some (.cells #[.bool a1_0, .slice A1_1 l1_1.length c1_1] 25 (0, 0))) := ⟨by (with_reducible repeat (first | refine blk_drewN ?_ _ | refine blk_drew ?_ | refine blk_alloc ?_ _)); refine blk_far ?_ NB331_347.out _; (with_reducible repeat (first | refine blk_drewN ?_ _ | refine blk_drew ?_ | refine blk_alloc ?_ _)); refine blk_far ?_ NB331_347.out _; (with_reducible repeat (first | refine blk_drewN ?_ _ | refine blk_drew ?_ | refine blk_alloc ?_ _)); exact BK331.out⟩
  have n5_ : Aside0 (((w33.setCell ⟨gb347, 0, none⟩ (.bool t343)).setCell ⟨gb347, 1, none⟩ (.slice Ao35 t344.length co35)).heap[gb332]? = some (.cells #[.bool false, .slice none 0 0] 25 (0, 0))) := ⟨by (with_reducible repeat (first | refine blk_drewN ?_ _ | refine blk_drew ?_ | refine blk_alloc ?_ _)); refine blk_far ?_ NB332_347.out _; (with_reducible repeat (first | refine blk_drewN ?_ _ | refine blk_drew ?_ | refine blk_alloc ?_ _)); refine blk_far ?_ NB332_347.out _; (with_reducible repeat (first | refine blk_drewN ?_ _ | refine blk_drew ?_ | refine blk_alloc ?_ _)); exact BK332.out⟩
  have n6_ : Aside0 (((w33.setCell ⟨gb347, 0, none⟩ (.bool t343)).setCell ⟨gb347, 1, none⟩ (.slice Ao35 t344.length co35)).heap[gb333]? = some (.cells #[.bool false, .slice none 0 0] 25 (0, 0))) := ⟨by (with_reducible repeat (first | refine blk_drewN ?_ _ | refine blk_drew ?_ | refine blk_alloc ?_ _)); refine blk_far ?_ NB333_347.out _; (with_reducible repeat (first | refine blk_drewN ?_ _ | refine blk_drew ?_ | refine blk_alloc ?_ _)); refine blk_far ?_ NB333_347.out _; (with_reducible repeat (first | refine blk_drewN ?_ _ | refine blk_drew ?_ | refine blk_alloc ?_ _)); exact BK333.out⟩
  have n7_ : Aside0 (((w33.setCell ⟨gb347, 0, none⟩ (.bool t343)).setCell ⟨gb347, 1, none⟩ (.slice Ao35 t344.length co35)).heap[gb347]? = some (.cells #[.bool t343, .slice Ao35 t344.length co35] 25 (0, 0))) := ⟨by (with_reducible repeat (first | refine blk_drewN ?_ _ | refine blk_drew ?_ | refine blk_alloc ?_ _)); refine blk_put (cs := #[.bool t343, .slice none 0 0]) ?_ 1 _ rfl; (with_reducible repeat (first | refine blk_drewN ?_ _ | refine blk_drew ?_ | refine blk_alloc ?_ _)); refine blk_put (cs := #[.bool false, .slice none 0 0]) ?_ 0 _ rfl; (with_reducible repeat (first | refine blk_drewN ?_ _ | refine blk_drew ?_ | refine blk_alloc ?_ _)); exact BK347.out⟩
  have n8_ : Aside0 (Below w.heap.size w ((w33.setCell ⟨gb347, 0, none⟩ (.bool t343)).setCell ⟨gb347, 1, none⟩ (.slice Ao35 t344.length co35))) := ⟨by repeat (first | (with_reducible first | exact HB.out | apply below_alloc | apply pw_below_drewN | apply below_drew1 | refine below_set ?_ GE330.out | refine below_set ?_ GE331.out | refine below_set ?_ GE332.out | refine below_set ?_ GE333.out | refine below_set ?_ GE347.out) | exact HB.out)⟩
  (try clear HO336)
  (try clear HO339)
  (try clear HO346)
  (try clear BK330)
  (try clear BK331)
  (try clear BK332)
  (try clear BK333)
  (try clear BK347)
  (try clear HB)
  generalize ((w33.setCell ⟨gb347, 0, none⟩ (.bool t343)).setCell ⟨gb347, 1, none⟩ (.slice Ao35 t344.length co35)) = w37 at n0_ n1_ n2_ n3_ n4_ n5_ n6_ n7_ n8_ ⊢
  have HO336 := n0_
  have HO339 := n1_
  have HO346 := n2_
  have BK330 := n3_
  have BK331 := n4_
  have BK332 := n5_
  have BK333 := n6_
  have BK347 := n7_
  have HB := n8_
  clear n0_ n1_ n2_ n3_ n4_ n5_ n6_ n7_ n8_
  replace HO336 := Aside0.mk (Kd.R_drew HO336.out)
  replace HO339 := Aside0.mk (Kd.V_drew HO339.out)
  replace HO346 := Aside0.mk (Kd.R_drew HO346.out)
  replace BK330 := Aside0.mk (blk_drew BK330.out)
  replace BK331 := Aside0.mk (blk_drew BK331.out)
  replace BK332 := Aside0.mk (blk_drew BK332.out)
  replace BK333 := Aside0.mk (blk_drew BK333.out)
  replace BK347 := Aside0.mk (blk_drew BK347.out)
  replace HB := Aside0.mk (below_drew1 HB.out)
  refine start_ (n := 7) (S := fun w' => w'.cell? ⟨gb347, 0, none⟩ = some (.bool t343) ∧ w'.cell? ⟨gb347, 1, none⟩ = some (.slice Ao35 t344.length co35) ∧ w'.cell? ⟨gb331, 0, none⟩ = some (.bool a1_0) ∧ w'.cell? ⟨gb331, 1, none⟩ = some (.slice A1_1 l1_1.length c1_1)) (ds := []) #[false, false, false, false, false, false, false] (by kernel_rfl) rfl rfl ⟨(blk_cell BK347.out 0).trans rfl, (blk_cell BK347.out 1).trans rfl, (blk_cell BK331.out 0).trans rfl, (blk_cell BK331.out 1).trans rfl⟩ (fun hHeld => ?_)
  generalize w37.drew = w38 at HO336 HO339 HO346 BK330 BK331 BK332 BK333 BK347 HB hHeld ⊢
  refine Short.pureS_ (i := 0) (N := some 35) #[true, false, false, false, false, false, false] (by kernel_rfl) ?_
  refine Short.takeS_ (i := 3) (N := some 38) #[true, false, false, true, false, false, false] (by kernel_rfl) hHeld ?_
  refine one_ (i := 1) (N := some 36) #[true, true, false, true, false, false, false] rfl rfl (by kernel_rfl) (by decide) (fun K hK => ?_)
  refine Clo.goesF_ Try.func85 (by kernel_rfl) rfl #[.pointer (some ⟨gb330, 0, none⟩), .pointer (some ⟨gb331, 0, none⟩), .pointer (some ⟨gb347, 0, none⟩)] (by rfl) rfl rfl (by rfl) ?_
  with_reducible refine (whole_Floor_cl1.calls k gb330 gb331 gb347 a0_0 _ _ l0_1 a1_0 _ _ l1_1 t343 _ _ t344 t348 t349 _ (Kd.C_below HR0_1.out HB.out) HC0_1.out (Kd.C_below HR1_1.out HB.out) HC1_1.out ((Kd.R_reads' HO346.out).2.2) ((Kd.R_reads' HO346.out).2.1) BK330.out BK331.out BK347.out A8.out).mono ?_
  rintro e w39 ⟨v350, rfl, ho0, hb⟩
  refine ⟨_, rfl, ?_⟩
  replace HO339 := Aside0.mk (Kd.V_elder' HO339.out (Kd.R_base ho0) hb)
  have HO351 := Aside0.mk (Kd.R_lower (Kd.R_new' (Kd.R_new' ho0 (Kd.R_lt HO336.out)) (Kd.R_lt HO346.out)) (below_size HB.out))
  replace HO336 := Aside0.mk (Kd.R_elder' HO336.out (Kd.R_base ho0) hb)
  replace HO346 := Aside0.mk (Kd.R_elder' HO346.out (Kd.R_base ho0) hb)
  replace BK330 := Aside0.mk (blk_below BK330.out hb)
  replace BK331 := Aside0.mk (blk_below BK331.out hb)
  replace BK332 := Aside0.mk (blk_below BK332.out hb)
  replace BK333 := Aside0.mk (blk_below BK333.out hb)
  replace BK347 := Aside0.mk (blk_below BK347.out hb)
  replace HB := Aside0.mk (below_step HB.out hb)
  (try clear hb)
  (try clear ho0)
  obtain ⟨Ao40, co40, eo40⟩ := Kd.R_slice HO351.out
  (first | subst eo40 | (injection eo40 with f1_ f2_ f3_; have f4_ := f1_.symm; have f5_ := f3_.symm; clear f1_ f2_ f3_; subst f4_; subst f5_))
  refine hK.out _ _ ⟨(blk_cell BK347.out 0).trans rfl, (blk_cell BK347.out 1).trans rfl, (blk_cell BK331.out 0).trans rfl, (blk_cell BK331.out 1).trans rfl⟩ (fun hHeld => ?_)
  clear hK K
  refine Short.normS_ ?_
  refine one_ (i := 2) (N := some 37) #[true, true, true, true, false, false, false] rfl rfl (by kernel_rfl) (by decide) (fun K hK => ?_)
  refine Short.goesD_ Try.func49 #[.agg #[.bool t348, .slice Ao40 t349.length co40]] ?_
  with_reducible refine (whole_Sign.calls k t348 _ _ t349 t352 _ ((Kd.R_reads' HO351.out).2.2) ((Kd.R_reads' HO351.out).2.1) A9.out).mono ?_
  rintro e w41 ⟨rfl, hb⟩
  refine ⟨_, rfl, ?_⟩
  replace HO336 := Aside0.mk (Kd.R_below HO336.out hb)
  replace HO339 := Aside0.mk (Kd.V_below HO339.out hb)
  replace HO346 := Aside0.mk (Kd.R_below HO346.out hb)
  replace HO351 := Aside0.mk (Kd.R_below HO351.out hb)
  replace BK330 := Aside0.mk (blk_below BK330.out hb)
  replace BK331 := Aside0.mk (blk_below BK331.out hb)
  replace BK332 := Aside0.mk (blk_below BK332.out hb)
  replace BK333 := Aside0.mk (blk_below BK333.out hb)
  replace BK347 := Aside0.mk (blk_below BK347.out hb)
  replace HB := Aside0.mk (below_step HB.out hb)
  (try clear hb)
  refine hK.out _ _ ⟨(blk_cell BK347.out 0).trans rfl, (blk_cell BK347.out 1).trans rfl, (blk_cell BK331.out 0).trans rfl, (blk_cell BK331.out 1).trans rfl⟩ (fun hHeld => ?_)
  clear hK K
  refine Short.normS_ ?_
  refine one_ (i := 4) (N := some 39) #[true, true, true, true, true, false, false] rfl rfl (by kernel_rfl) (by decide) (fun K hK => ?_)
  refine Short.goesD_ Try.func49 #[.agg #[.bool a1_0, .slice A1_1 l1_1.length c1_1]] ?_
  with_reducible refine (whole_Sign.calls k a1_0 _ _ l1_1 t353 _ (Kd.C_below HR1_1.out HB.out) HC1_1.out A10.out).mono ?_
  rintro e w42 ⟨rfl, hb⟩
  refine ⟨_, rfl, ?_⟩
  replace HO336 := Aside0.mk (Kd.R_below HO336.out hb)
  replace HO339 := Aside0.mk (Kd.V_below HO339.out hb)
  replace HO346 := Aside0.mk (Kd.R_below HO346.out hb)
  replace HO351 := Aside0.mk (Kd.R_below HO351.out hb)
  replace BK330 := Aside0.mk (blk_below BK330.out hb)
  replace BK331 := Aside0.mk (blk_below BK331.out hb)
  replace BK332 := Aside0.mk (blk_below BK332.out hb)
  replace BK333 := Aside0.mk (blk_below BK333.out hb)
  replace BK347 := Aside0.mk (blk_below BK347.out hb)
  replace HB := Aside0.mk (below_step HB.out hb)
  (try clear hb)
  refine hK.out _ _ ⟨(blk_cell BK347.out 0).trans rfl, (blk_cell BK347.out 1).trans rfl, (blk_cell BK331.out 0).trans rfl, (blk_cell BK331.out 1).trans rfl⟩ (fun hHeld => ?_)
  clear hK K
  refine Short.normS_ ?_
  refine Short.pureS_ (i := 5) (N := some 40) #[true, true, true, true, true, true, false] (by kernel_rfl) ?_
  refine Short.pureS_ (i := 6) (N := some 41) #[true, true, true, true, true, true, true] (by kernel_rfl) ?_
  refine done_ (by kernel_rfl) ?_
  have H := HTEST.out
  clear HTEST
  by_cases c11 : (wrap64 (t352 * t353)) < 0
  ·rw [if_pos c11] at H
   have c11b0 : decide ((wrap64 (t352 * t353)) < 0) = true := decide_eq_true c11
   clear c11
   replace H := Option.bind_eq_some_iff.mp H
   obtain ⟨⟨t354, t355⟩, A120, H⟩ := H
   try dsimp only at H
   have A12 := Aside0.mk A120
   clear A120
   replace H := Option.bind_eq_some_iff.mp H
   obtain ⟨⟨t358, t359⟩, A130, H⟩ := H
   try dsimp only at H
   have A13 := Aside0.mk A130
   clear A130
   replace H := Option.bind_eq_some_iff.mp H
   obtain ⟨⟨t362, t363⟩, A140, H⟩ := H
   replace H : (some (t358, t359, t362, t363, 0)) = some (r1, r2, r3, r4, r5) := H
   have A14 := Aside0.mk A140
   clear A140
   simp only [Option.some.injEq, Prod.mk.injEq] at H
   obtain ⟨rfl, rfl, rfl, rfl, rfl⟩ := H
   rw [c11b0]
   try go_wp2
   replace HO336 := Aside0.mk (Kd.R_drew HO336.out)
   replace HO339 := Aside0.mk (Kd.V_drew HO339.out)
   replace HO346 := Aside0.mk (Kd.R_drew HO346.out)
   replace HO351 := Aside0.mk (Kd.R_drew HO351.out)
   replace BK330 := Aside0.mk (blk_drew BK330.out)
   replace BK331 := Aside0.mk (blk_drew BK331.out)
   replace BK332 := Aside0.mk (blk_drew BK332.out)
   replace BK333 := Aside0.mk (blk_drew BK333.out)
   replace BK347 := Aside0.mk (blk_drew BK347.out)
   replace HB := Aside0.mk (below_drew1 HB.out)
   refine start_ (n := 4) (S := fun w' => w'.cell? ⟨gb347, 0, none⟩ = some (.bool t343) ∧ w'.cell? ⟨gb347, 1, none⟩ = some (.slice Ao35 t344.length co35)) (ds := [3]) #[false, false, false, false] (by kernel_rfl) rfl rfl ⟨(blk_cell BK347.out 0).trans rfl, (blk_cell BK347.out 1).trans rfl⟩ (fun hHeld => ?_)
   generalize w42.drew = w43 at HO336 HO339 HO346 HO351 BK330 BK331 BK332 BK333 BK347 HB hHeld ⊢
   refine Short.takeS_ (i := 0) (N := some 42) #[true, false, false, false] (by kernel_rfl) hHeld ?_
   refine one_ (i := 1) (N := some 43) #[true, true, false, false] rfl rfl (by kernel_rfl) (by decide) (fun K hK => ?_)
   refine Short.goesD_ Try.func26 #[.int .i64 1] ?_
   with_reducible refine (whole_Of.calls k 1 t354 t355 _ A12.out).mono ?_
   rintro e w44 ⟨v356, rfl, ho0, hb⟩
   refine ⟨_, rfl, ?_⟩
   replace HO339 := Aside0.mk (Kd.V_elder' HO339.out (Kd.R_base ho0) hb)
   have HO357 := Aside0.mk (Kd.R_lower (Kd.R_new' (Kd.R_new' (Kd.R_new' ho0 (Kd.R_lt HO336.out)) (Kd.R_lt HO346.out)) (Kd.R_lt HO351.out)) (below_size HB.out))
   replace HO336 := Aside0.mk (Kd.R_elder' HO336.out (Kd.R_base ho0) hb)
   replace HO346 := Aside0.mk (Kd.R_elder' HO346.out (Kd.R_base ho0) hb)
   replace HO351 := Aside0.mk (Kd.R_elder' HO351.out (Kd.R_base ho0) hb)
   replace BK330 := Aside0.mk (blk_below BK330.out hb)
   replace BK331 := Aside0.mk (blk_below BK331.out hb)
   replace BK332 := Aside0.mk (blk_below BK332.out hb)
   replace BK333 := Aside0.mk (blk_below BK333.out hb)
   replace BK347 := Aside0.mk (blk_below BK347.out hb)
   replace HB := Aside0.mk (below_step HB.out hb)
   (try clear hb)
   (try clear ho0)
   obtain ⟨Ao45, co45, eo45⟩ := Kd.R_slice HO357.out
   (first | subst eo45 | (injection eo45 with f1_ f2_ f3_; have f4_ := f1_.symm; have f5_ := f3_.symm; clear f1_ f2_ f3_; subst f4_; subst f5_))
   refine hK.out _ _ ⟨(blk_cell BK347.out 0).trans rfl, (blk_cell BK347.out 1).trans rfl⟩ (fun hHeld => ?_)
   clear hK K
   refine Short.normS_ ?_
   refine one_ (i := 2) (N := some 44) #[true, true, true, false] rfl rfl (by kernel_rfl) (by decide) (fun K hK => ?_)
   refine Short.goesD_ Try.func86 #[.agg #[.bool t343, .slice Ao35 t344.length co35], .agg #[.bool t354, .slice Ao45 t355.length co45]] ?_
   with_reducible refine (whole_Sub.calls k t343 _ _ t344 t354 _ _ t355 t358 t359 _ ((Kd.R_reads' HO346.out).2.2) ((Kd.R_reads' HO346.out).2.1) ((Kd.R_reads' HO357.out).2.2) ((Kd.R_reads' HO357.out).2.1) A13.out).mono ?_
   rintro e w46 ⟨v360, rfl, ho0, hb⟩
   refine ⟨_, rfl, ?_⟩
   replace HO339 := Aside0.mk (Kd.V_elder' HO339.out (Kd.R_base ho0) hb)
   have HO361 := Aside0.mk (Kd.R_lower (Kd.R_new' (Kd.R_new' (Kd.R_new' (Kd.R_new' ho0 (Kd.R_lt HO336.out)) (Kd.R_lt HO346.out)) (Kd.R_lt HO351.out)) (Kd.R_lt HO357.out)) (below_size HB.out))
   replace HO336 := Aside0.mk (Kd.R_elder' HO336.out (Kd.R_base ho0) hb)
   replace HO346 := Aside0.mk (Kd.R_elder' HO346.out (Kd.R_base ho0) hb)
   replace HO351 := Aside0.mk (Kd.R_elder' HO351.out (Kd.R_base ho0) hb)
   replace HO357 := Aside0.mk (Kd.R_elder' HO357.out (Kd.R_base ho0) hb)
   replace BK330 := Aside0.mk (blk_below BK330.out hb)
   replace BK331 := Aside0.mk (blk_below BK331.out hb)
   replace BK332 := Aside0.mk (blk_below BK332.out hb)
   replace BK333 := Aside0.mk (blk_below BK333.out hb)
   replace BK347 := Aside0.mk (blk_below BK347.out hb)
   replace HB := Aside0.mk (below_step HB.out hb)
   (try clear hb)
   (try clear ho0)
   obtain ⟨Ao48, co48, eo48⟩ := Kd.R_slice HO361.out
   (first | subst eo48 | (injection eo48 with f1_ f2_ f3_; have f4_ := f1_.symm; have f5_ := f3_.symm; clear f1_ f2_ f3_; subst f4_; subst f5_))
   refine hK.out _ _ ⟨(blk_cell BK347.out 0).trans rfl, (blk_cell BK347.out 1).trans rfl⟩ (fun hHeld => ?_)
   clear hK K
   refine Short.normS_ ?_
   refine last_ (i := 3) (N := none) #[true, true, true, true] rfl rfl (by kernel_rfl) (by decide) (fun K hK => ?_)
   have hs47 : w46.cell? ⟨gb347, 0, none⟩ = some (.bool t343) := (blk_cell BK347.out 0).trans rfl
   have hfs47 := blk_frozen BK347.out 0
   have hns47_0 := NB330_347.out
   have hns47_1 := NB331_347.out
   have hns47_2 := NB332_347.out
   have hns47_3 := NB333_347.out
   have hms47_0 := NB347_330.out
   have hms47_1 := NB347_331.out
   have hms47_2 := NB347_332.out
   have hms47_3 := NB347_333.out
   have hs49 : w46.cell? ⟨gb347, 1, none⟩ = some (.slice Ao35 t344.length co35) := (blk_cell BK347.out 1).trans rfl
   have hfs49 := blk_frozen BK347.out 1
   have hns49_0 := NB330_347.out
   have hns49_1 := NB331_347.out
   have hns49_2 := NB332_347.out
   have hns49_3 := NB333_347.out
   have hms49_0 := NB347_330.out
   have hms49_1 := NB347_331.out
   have hms49_2 := NB347_332.out
   have hms49_3 := NB347_333.out
   refine skip_ (w1 := ?_) (by rfl) rfl ?_ ?_
   rotate_left
   ·go_simp
    rfl
   refine hK.out _ _ ?_
   clear hK K
   refine done_ (by kernel_rfl) ?_
   try go_wp2
   have n0_ : Aside0 (Kd.R (Kd.int .u32) 89 ((w46.setCell ⟨gb347, 0, none⟩ (.bool t358)).setCell ⟨gb347, 1, none⟩ (.slice Ao48 t359.length co48)) w.heap.size (fun k_ => some k_ ≠ (.slice Ao35 t344.length co35 : Value).ownBlock ∧ some k_ ≠ (.slice Ao40 t349.length co40 : Value).ownBlock ∧ some k_ ≠ (.slice Ao45 t355.length co45 : Value).ownBlock ∧ some k_ ≠ (.slice Ao48 t359.length co48 : Value).ownBlock) (.slice Ao27 t334.length co27) t334) := ⟨by (with_reducible repeat (first | apply Kd.R_alloc | apply Kd.R_drewN | apply Kd.R_drew)); exact Kd.R_mono (Kd.R_far (p := ⟨gb347, 1, none⟩) (Kd.R_far (p := ⟨gb347, 0, none⟩) (Kd.R_types HO336.out BK347.out (by decide)) (fun _ hk => hk.2) (.bool t358)) (fun _ hk => hk.2) (.slice Ao48 t359.length co48)) (fun _ hk => ⟨hk.1.1.1.1, ⟨hk.1.1.1.2, ⟨hk.1.1.2, hk.1.2⟩⟩⟩)⟩
   have n1_ : Aside0 (Kd.V (Kd.int .u32) 89 ((w46.setCell ⟨gb347, 0, none⟩ (.bool t358)).setCell ⟨gb347, 1, none⟩ (.slice Ao48 t359.length co48)) w.heap.size (fun k_ => some k_ ≠ (.slice Ao27 t334.length co27 : Value).ownBlock ∧ some k_ ≠ (.slice Ao35 t344.length co35 : Value).ownBlock ∧ some k_ ≠ (.slice Ao40 t349.length co40 : Value).ownBlock ∧ some k_ ≠ (.slice Ao45 t355.length co45 : Value).ownBlock ∧ some k_ ≠ (.slice Ao48 t359.length co48 : Value).ownBlock ∧ k_ ≠ gb330 ∧ k_ ≠ gb331 ∧ k_ ≠ gb332 ∧ k_ ≠ gb333 ∧ k_ ≠ gb347) v338 t337) := ⟨by (with_reducible repeat (first | apply Kd.V_alloc | apply Kd.V_drewN | apply Kd.V_drew)); exact Kd.V_mono (Kd.V_far (p := ⟨gb347, 1, none⟩) (Kd.V_far (p := ⟨gb347, 0, none⟩) (Kd.V_mono HO339.out (fun k_ hk => (⟨hk, hk.1.1.1.2.2.2.2.2.2⟩ : _ ∧ k_ ≠ gb347))) (fun _ hk => hk.2) (.bool t358)) (fun _ hk => hk.2) (.slice Ao48 t359.length co48)) (fun _ hk => ⟨hk.1.1.1.1.1, ⟨hk.1.1.1.1.2.1, ⟨hk.1.1.1.2, ⟨hk.1.1.2, ⟨hk.1.2, ⟨hk.1.1.1.1.2.2.1, ⟨hk.1.1.1.1.2.2.2.1, ⟨hk.1.1.1.1.2.2.2.2.1, ⟨hk.1.1.1.1.2.2.2.2.2.1, hk.1.1.1.1.2.2.2.2.2.2⟩⟩⟩⟩⟩⟩⟩⟩⟩)⟩
   have n2_ : Aside0 (Kd.R (Kd.int .u32) 89 ((w46.setCell ⟨gb347, 0, none⟩ (.bool t358)).setCell ⟨gb347, 1, none⟩ (.slice Ao48 t359.length co48)) w.heap.size (fun k_ => some k_ ≠ (.slice Ao27 t334.length co27 : Value).ownBlock ∧ some k_ ≠ (.slice Ao40 t349.length co40 : Value).ownBlock ∧ some k_ ≠ (.slice Ao45 t355.length co45 : Value).ownBlock ∧ some k_ ≠ (.slice Ao48 t359.length co48 : Value).ownBlock) (.slice Ao35 t344.length co35) t344) := ⟨by (with_reducible repeat (first | apply Kd.R_alloc | apply Kd.R_drewN | apply Kd.R_drew)); exact Kd.R_mono (Kd.R_far (p := ⟨gb347, 1, none⟩) (Kd.R_far (p := ⟨gb347, 0, none⟩) (Kd.R_types HO346.out BK347.out (by decide)) (fun _ hk => hk.2) (.bool t358)) (fun _ hk => hk.2) (.slice Ao48 t359.length co48)) (fun _ hk => ⟨hk.1.1.1.1, ⟨hk.1.1.1.2, ⟨hk.1.1.2, hk.1.2⟩⟩⟩)⟩
   have n3_ : Aside0 (Kd.R (Kd.int .u32) 89 ((w46.setCell ⟨gb347, 0, none⟩ (.bool t358)).setCell ⟨gb347, 1, none⟩ (.slice Ao48 t359.length co48)) w.heap.size (fun k_ => some k_ ≠ (.slice Ao27 t334.length co27 : Value).ownBlock ∧ some k_ ≠ (.slice Ao35 t344.length co35 : Value).ownBlock ∧ some k_ ≠ (.slice Ao45 t355.length co45 : Value).ownBlock ∧ some k_ ≠ (.slice Ao48 t359.length co48 : Value).ownBlock) (.slice Ao40 t349.length co40) t349) := ⟨by (with_reducible repeat (first | apply Kd.R_alloc | apply Kd.R_drewN | apply Kd.R_drew)); exact Kd.R_mono (Kd.R_far (p := ⟨gb347, 1, none⟩) (Kd.R_far (p := ⟨gb347, 0, none⟩) (Kd.R_types HO351.out BK347.out (by decide)) (fun _ hk => hk.2) (.bool t358)) (fun _ hk => hk.2) (.slice Ao48 t359.length co48)) (fun _ hk => ⟨hk.1.1.1.1.2, ⟨hk.1.1.1.2, ⟨hk.1.1.2, hk.1.2⟩⟩⟩)⟩
   have n4_ : Aside0 (Kd.R (Kd.int .u32) 89 ((w46.setCell ⟨gb347, 0, none⟩ (.bool t358)).setCell ⟨gb347, 1, none⟩ (.slice Ao48 t359.length co48)) w.heap.size (fun k_ => some k_ ≠ (.slice Ao27 t334.length co27 : Value).ownBlock ∧ some k_ ≠ (.slice Ao35 t344.length co35 : Value).ownBlock ∧ some k_ ≠ (.slice Ao40 t349.length co40 : Value).ownBlock ∧ some k_ ≠ (.slice Ao48 t359.length co48 : Value).ownBlock) (.slice Ao45 t355.length co45) t355) := ⟨by (with_reducible repeat (first | apply Kd.R_alloc | apply Kd.R_drewN | apply Kd.R_drew)); exact Kd.R_mono (Kd.R_far (p := ⟨gb347, 1, none⟩) (Kd.R_far (p := ⟨gb347, 0, none⟩) (Kd.R_types HO357.out BK347.out (by decide)) (fun _ hk => hk.2) (.bool t358)) (fun _ hk => hk.2) (.slice Ao48 t359.length co48)) (fun _ hk => ⟨hk.1.1.1.1.2, ⟨hk.1.1.1.2, ⟨hk.1.1.2, hk.1.2⟩⟩⟩)⟩
   have n5_ : Aside0 (Kd.R (Kd.int .u32) 89 ((w46.setCell ⟨gb347, 0, none⟩ (.bool t358)).setCell ⟨gb347, 1, none⟩ (.slice Ao48 t359.length co48)) w.heap.size (fun k_ => some k_ ≠ (.slice Ao27 t334.length co27 : Value).ownBlock ∧ some k_ ≠ (.slice Ao35 t344.length co35 : Value).ownBlock ∧ some k_ ≠ (.slice Ao40 t349.length co40 : Value).ownBlock ∧ some k_ ≠ (.slice Ao45 t355.length co45 : Value).ownBlock) (.slice Ao48 t359.length co48) t359) := ⟨by (with_reducible repeat (first | apply Kd.R_alloc | apply Kd.R_drewN | apply Kd.R_drew)); exact Kd.R_mono (Kd.R_far (p := ⟨gb347, 1, none⟩) (Kd.R_far (p := ⟨gb347, 0, none⟩) (Kd.R_types HO361.out BK347.out (by decide)) (fun _ hk => hk.2) (.bool t358)) (fun _ hk => hk.2) (.slice Ao48 t359.length co48)) (fun _ hk => ⟨hk.1.1.1.1.2, ⟨hk.1.1.1.2, ⟨hk.1.1.2, hk.1.2⟩⟩⟩)⟩
   have n6_ : Aside0 (((w46.setCell ⟨gb347, 0, none⟩ (.bool t358)).setCell ⟨gb347, 1, none⟩ (.slice Ao48 t359.length co48)).heap[gb330]? = some (.cells #[.bool a0_0, .slice A0_1 l0_1.length c0_1] 25 (0, 0))) := ⟨by (with_reducible repeat (first | refine blk_drewN ?_ _ | refine blk_drew ?_ | refine blk_alloc ?_ _)); refine blk_far ?_ NB330_347.out _; (with_reducible repeat (first | refine blk_drewN ?_ _ | refine blk_drew ?_ | refine blk_alloc ?_ _)); refine blk_far ?_ NB330_347.out _; (with_reducible repeat (first | refine blk_drewN ?_ _ | refine blk_drew ?_ | refine blk_alloc ?_ _)); exact BK330.out⟩
   have n7_ : Aside0 (((w46.setCell ⟨gb347, 0, none⟩ (.bool t358)).setCell ⟨gb347, 1, none⟩ (.slice Ao48 t359.length co48)).heap[gb331]? = some (.cells #[.bool a1_0, .slice A1_1 l1_1.length c1_1] 25 (0, 0))) := ⟨by (with_reducible repeat (first | refine blk_drewN ?_ _ | refine blk_drew ?_ | refine blk_alloc ?_ _)); refine blk_far ?_ NB331_347.out _; (with_reducible repeat (first | refine blk_drewN ?_ _ | refine blk_drew ?_ | refine blk_alloc ?_ _)); refine blk_far ?_ NB331_347.out _; (with_reducible repeat (first | refine blk_drewN ?_ _ | refine blk_drew ?_ | refine blk_alloc ?_ _)); exact BK331.out⟩
   have n8_ : Aside0 (((w46.setCell ⟨gb347, 0, none⟩ (.bool t358)).setCell ⟨gb347, 1, none⟩ (.slice Ao48 t359.length co48)).heap[gb332]? = some (.cells #[.bool false, .slice none 0 0] 25 (0, 0))) := ⟨by (with_reducible repeat (first | refine blk_drewN ?_ _ | refine blk_drew ?_ | refine blk_alloc ?_ _)); refine blk_far ?_ NB332_347.out _; (with_reducible repeat (first | refine blk_drewN ?_ _ | refine blk_drew ?_ | refine blk_alloc ?_ _)); refine blk_far ?_ NB332_347.out _; (with_reducible repeat (first | refine blk_drewN ?_ _ | refine blk_drew ?_ | refine blk_alloc ?_ _)); exact BK332.out⟩
   have n9_ : Aside0 (((w46.setCell ⟨gb347, 0, none⟩ (.bool t358)).setCell ⟨gb347, 1, none⟩ (.slice Ao48 t359.length co48)).heap[gb333]? = some (.cells #[.bool false, .slice none 0 0] 25 (0, 0))) := ⟨by (with_reducible repeat (first | refine blk_drewN ?_ _ | refine blk_drew ?_ | refine blk_alloc ?_ _)); refine blk_far ?_ NB333_347.out _; (with_reducible repeat (first | refine blk_drewN ?_ _ | refine blk_drew ?_ | refine blk_alloc ?_ _)); refine blk_far ?_ NB333_347.out _; (with_reducible repeat (first | refine blk_drewN ?_ _ | refine blk_drew ?_ | refine blk_alloc ?_ _)); exact BK333.out⟩
   have n10_ : Aside0 (((w46.setCell ⟨gb347, 0, none⟩ (.bool t358)).setCell ⟨gb347, 1, none⟩ (.slice Ao48 t359.length co48)).heap[gb347]? = some (.cells #[.bool t358, .slice Ao48 t359.length co48] 25 (0, 0))) := ⟨by (with_reducible repeat (first | refine blk_drewN ?_ _ | refine blk_drew ?_ | refine blk_alloc ?_ _)); refine blk_put (cs := #[.bool t358, .slice Ao35 t344.length co35]) ?_ 1 _ rfl; (with_reducible repeat (first | refine blk_drewN ?_ _ | refine blk_drew ?_ | refine blk_alloc ?_ _)); refine blk_put (cs := #[.bool t343, .slice Ao35 t344.length co35]) ?_ 0 _ rfl; (with_reducible repeat (first | refine blk_drewN ?_ _ | refine blk_drew ?_ | refine blk_alloc ?_ _)); exact BK347.out⟩
   have n11_ : Aside0 (Below w.heap.size w ((w46.setCell ⟨gb347, 0, none⟩ (.bool t358)).setCell ⟨gb347, 1, none⟩ (.slice Ao48 t359.length co48))) := ⟨by repeat (first | (with_reducible first | exact HB.out | apply below_alloc | apply pw_below_drewN | apply below_drew1 | refine below_set ?_ GE330.out | refine below_set ?_ GE331.out | refine below_set ?_ GE332.out | refine below_set ?_ GE333.out | refine below_set ?_ GE347.out) | exact HB.out)⟩
   (try clear HO336)
   (try clear HO339)
   (try clear HO346)
   (try clear HO351)
   (try clear HO357)
   (try clear HO361)
   (try clear BK330)
   (try clear BK331)
   (try clear BK332)
   (try clear BK333)
   (try clear BK347)
   (try clear HB)
   generalize ((w46.setCell ⟨gb347, 0, none⟩ (.bool t358)).setCell ⟨gb347, 1, none⟩ (.slice Ao48 t359.length co48)) = w50 at n0_ n1_ n2_ n3_ n4_ n5_ n6_ n7_ n8_ n9_ n10_ n11_ ⊢
   have HO336 := n0_
   have HO339 := n1_
   have HO346 := n2_
   have HO351 := n3_
   have HO357 := n4_
   have HO361 := n5_
   have BK330 := n6_
   have BK331 := n7_
   have BK332 := n8_
   have BK333 := n9_
   have BK347 := n10_
   have HB := n11_
   clear n0_ n1_ n2_ n3_ n4_ n5_ n6_ n7_ n8_ n9_ n10_ n11_
   replace HO336 := Aside0.mk (Kd.R_drew HO336.out)
   replace HO339 := Aside0.mk (Kd.V_drew HO339.out)
   replace HO346 := Aside0.mk (Kd.R_drew HO346.out)
   replace HO351 := Aside0.mk (Kd.R_drew HO351.out)
   replace HO357 := Aside0.mk (Kd.R_drew HO357.out)
   replace HO361 := Aside0.mk (Kd.R_drew HO361.out)
   replace BK330 := Aside0.mk (blk_drew BK330.out)
   replace BK331 := Aside0.mk (blk_drew BK331.out)
   replace BK332 := Aside0.mk (blk_drew BK332.out)
   replace BK333 := Aside0.mk (blk_drew BK333.out)
   replace BK347 := Aside0.mk (blk_drew BK347.out)
   replace HB := Aside0.mk (below_drew1 HB.out)
   refine start_ (n := 6) (S := fun w' => w'.cell? ⟨gb347, 0, none⟩ = some (.bool t358) ∧ w'.cell? ⟨gb347, 1, none⟩ = some (.slice Ao48 t359.length co48)) (ds := []) #[false, false, false, false, false, false] (by kernel_rfl) rfl rfl ⟨(blk_cell BK347.out 0).trans rfl, (blk_cell BK347.out 1).trans rfl⟩ (fun hHeld => ?_)
   generalize w50.drew = w51 at HO336 HO339 HO346 HO351 HO357 HO361 BK330 BK331 BK332 BK333 BK347 HB hHeld ⊢
   refine Short.takeS_ (i := 0) (N := some 45) #[true, false, false, false, false, false] (by kernel_rfl) hHeld ?_
   refine Short.pureS_ (i := 1) (N := some 46) #[true, true, false, false, false, false] (by kernel_rfl) ?_
   refine one_ (i := 2) (N := some 47) #[true, true, true, false, false, false] rfl rfl (by kernel_rfl) (by decide) (fun K hK => ?_)
   refine Clo.goesF_ Try.func85 (by kernel_rfl) rfl #[.pointer (some ⟨gb330, 0, none⟩), .pointer (some ⟨gb331, 0, none⟩), .pointer (some ⟨gb347, 0, none⟩)] (by rfl) rfl rfl (by rfl) ?_
   with_reducible refine (whole_Floor_cl1.calls k gb330 gb331 gb347 a0_0 _ _ l0_1 a1_0 _ _ l1_1 t358 _ _ t359 t362 t363 _ (Kd.C_below HR0_1.out HB.out) HC0_1.out (Kd.C_below HR1_1.out HB.out) HC1_1.out ((Kd.R_reads' HO361.out).2.2) ((Kd.R_reads' HO361.out).2.1) BK330.out BK331.out BK347.out A14.out).mono ?_
   rintro e w52 ⟨v364, rfl, ho0, hb⟩
   refine ⟨_, rfl, ?_⟩
   replace HO339 := Aside0.mk (Kd.V_elder' HO339.out (Kd.R_base ho0) hb)
   have HO365 := Aside0.mk (Kd.R_lower (Kd.R_new' (Kd.R_new' (Kd.R_new' (Kd.R_new' (Kd.R_new' ho0 (Kd.R_lt HO336.out)) (Kd.R_lt HO346.out)) (Kd.R_lt HO351.out)) (Kd.R_lt HO357.out)) (Kd.R_lt HO361.out)) (below_size HB.out))
   replace HO336 := Aside0.mk (Kd.R_elder' HO336.out (Kd.R_base ho0) hb)
   replace HO346 := Aside0.mk (Kd.R_elder' HO346.out (Kd.R_base ho0) hb)
   replace HO351 := Aside0.mk (Kd.R_elder' HO351.out (Kd.R_base ho0) hb)
   replace HO357 := Aside0.mk (Kd.R_elder' HO357.out (Kd.R_base ho0) hb)
   replace HO361 := Aside0.mk (Kd.R_elder' HO361.out (Kd.R_base ho0) hb)
   replace BK330 := Aside0.mk (blk_below BK330.out hb)
   replace BK331 := Aside0.mk (blk_below BK331.out hb)
   replace BK332 := Aside0.mk (blk_below BK332.out hb)
   replace BK333 := Aside0.mk (blk_below BK333.out hb)
   replace BK347 := Aside0.mk (blk_below BK347.out hb)
   replace HB := Aside0.mk (below_step HB.out hb)
   (try clear hb)
   (try clear ho0)
   obtain ⟨Ao56, co56, eo56⟩ := Kd.R_slice HO365.out
   (first | subst eo56 | (injection eo56 with f1_ f2_ f3_; have f4_ := f1_.symm; have f5_ := f3_.symm; clear f1_ f2_ f3_; subst f4_; subst f5_))
   refine hK.out _ _ ⟨(blk_cell BK347.out 0).trans rfl, (blk_cell BK347.out 1).trans rfl⟩ (fun hHeld => ?_)
   clear hK K
   refine Short.normS_ ?_
   refine one_ (i := 3) (N := none) #[true, true, true, true, false, false] rfl rfl (by kernel_rfl) (by decide) (fun K hK => ?_)
   have hs53 : w52.cell? ⟨gb332, 0, none⟩ = some (.bool false) := (blk_cell BK332.out 0).trans rfl
   have hfs53 := blk_frozen BK332.out 0
   have hns53_0 := NB330_332.out
   have hns53_1 := NB331_332.out
   have hns53_3 := NB333_332.out
   have hns53_4 := NB347_332.out
   have hms53_0 := NB332_330.out
   have hms53_1 := NB332_331.out
   have hms53_3 := NB332_333.out
   have hms53_4 := NB332_347.out
   have hs54 : w52.cell? ⟨gb332, 1, none⟩ = some (.slice none 0 0) := (blk_cell BK332.out 1).trans rfl
   have hfs54 := blk_frozen BK332.out 1
   have hns54_0 := NB330_332.out
   have hns54_1 := NB331_332.out
   have hns54_3 := NB333_332.out
   have hns54_4 := NB347_332.out
   have hms54_0 := NB332_330.out
   have hms54_1 := NB332_331.out
   have hms54_3 := NB332_333.out
   have hms54_4 := NB332_347.out
   refine skip_ (w1 := ?_) (by rfl) rfl ?_ ?_
   rotate_left
   ·go_simp
    rfl
   refine hK.out _ _ ⟨((cell_far (p := ⟨gb332, _, none⟩) NB347_332.out _).trans (((cell_far (p := ⟨gb332, _, none⟩) NB347_332.out _).trans (hHeld.1)))), ((cell_far (p := ⟨gb332, _, none⟩) NB347_332.out _).trans (((cell_far (p := ⟨gb332, _, none⟩) NB347_332.out _).trans (hHeld.2))))⟩ (fun hHeld => ?_)
   clear hK K
   refine one_ (i := 4) (N := none) #[true, true, true, true, true, false] rfl rfl (by kernel_rfl) (by decide) (fun K hK => ?_)
   have hs55 : w52.cell? ⟨gb333, 0, none⟩ = some (.bool false) := (blk_cell BK333.out 0).trans rfl
   have hfs55 := blk_frozen BK333.out 0
   have hns55_0 := NB330_333.out
   have hns55_1 := NB331_333.out
   have hns55_2 := NB332_333.out
   have hns55_4 := NB347_333.out
   have hms55_0 := NB333_330.out
   have hms55_1 := NB333_331.out
   have hms55_2 := NB333_332.out
   have hms55_4 := NB333_347.out
   have hs57 : w52.cell? ⟨gb333, 1, none⟩ = some (.slice none 0 0) := (blk_cell BK333.out 1).trans rfl
   have hfs57 := blk_frozen BK333.out 1
   have hns57_0 := NB330_333.out
   have hns57_1 := NB331_333.out
   have hns57_2 := NB332_333.out
   have hns57_4 := NB347_333.out
   have hms57_0 := NB333_330.out
   have hms57_1 := NB333_331.out
   have hms57_2 := NB333_332.out
   have hms57_4 := NB333_347.out
   refine skip_ (w1 := ?_) (by rfl) rfl ?_ ?_
   rotate_left
   ·go_simp
    rfl
   refine hK.out _ _ ⟨((cell_far (p := ⟨gb333, _, none⟩) NB347_333.out _).trans (((cell_far (p := ⟨gb333, _, none⟩) NB347_333.out _).trans (hHeld.1)))), ((cell_far (p := ⟨gb333, _, none⟩) NB347_333.out _).trans (((cell_far (p := ⟨gb333, _, none⟩) NB347_333.out _).trans (hHeld.2))))⟩ (fun hHeld => ?_)
   clear hK K
   refine Short.pureS_ (i := 5) (N := some 6) #[true, true, true, true, true, true] (by kernel_rfl) ?_
   refine done_ (by kernel_rfl) ?_
   try go_wp2
   refine bodyPost_ret (results_list (rs := [.cell 4 25, .cell 5 25, .tmp 6]) rfl (by simp) (.cell gb332 25 #[.bool t358, .slice Ao48 t359.length co48] (0, 0) _ rfl (by (with_reducible repeat (first | refine blk_drewN ?_ _ | refine blk_drew ?_ | refine blk_alloc ?_ _)); refine blk_far ?_ NB332_333.out _; (with_reducible repeat (first | refine blk_drewN ?_ _ | refine blk_drew ?_ | refine blk_alloc ?_ _)); refine blk_far ?_ NB332_333.out _; (with_reducible repeat (first | refine blk_drewN ?_ _ | refine blk_drew ?_ | refine blk_alloc ?_ _)); refine blk_put (cs := #[.bool t358, .slice none 0 0]) ?_ 1 _ rfl; (with_reducible repeat (first | refine blk_drewN ?_ _ | refine blk_drew ?_ | refine blk_alloc ?_ _)); refine blk_put (cs := #[.bool false, .slice none 0 0]) ?_ 0 _ rfl; (with_reducible repeat (first | refine blk_drewN ?_ _ | refine blk_drew ?_ | refine blk_alloc ?_ _)); exact BK332.out) Try.underlying25 rfl (by kernel_rfl) (.cell gb333 25 #[.bool t362, .slice Ao56 t363.length co56] (0, 0) _ rfl (by (with_reducible repeat (first | refine blk_drewN ?_ _ | refine blk_drew ?_ | refine blk_alloc ?_ _)); refine blk_put (cs := #[.bool t362, .slice none 0 0]) ?_ 1 _ rfl; (with_reducible repeat (first | refine blk_drewN ?_ _ | refine blk_drew ?_ | refine blk_alloc ?_ _)); refine blk_put (cs := #[.bool false, .slice none 0 0]) ?_ 0 _ rfl; (with_reducible repeat (first | refine blk_drewN ?_ _ | refine blk_drew ?_ | refine blk_alloc ?_ _)); refine blk_far ?_ NB333_332.out _; (with_reducible repeat (first | refine blk_drewN ?_ _ | refine blk_drew ?_ | refine blk_alloc ?_ _)); refine blk_far ?_ NB333_332.out _; (with_reducible repeat (first | refine blk_drewN ?_ _ | refine blk_drew ?_ | refine blk_alloc ?_ _)); exact BK333.out) Try.underlying25 rfl (by kernel_rfl) (.tmp .nil)))) rfl ?_
   exact ⟨_, _, by rfl, by (with_reducible repeat (first | apply Kd.R_alloc | apply Kd.R_drewN | apply Kd.R_drew)); exact Kd.R_mono (Kd.R_far (p := ⟨gb333, 1, none⟩) (Kd.R_far (p := ⟨gb333, 0, none⟩) (Kd.R_far (p := ⟨gb332, 1, none⟩) (Kd.R_far (p := ⟨gb332, 0, none⟩) (Kd.R_types (Kd.R_types HO361.out BK332.out (by decide)) BK333.out (by decide)) (fun _ hk => hk.1.2) (.bool t358)) (fun _ hk => hk.1.2) (.slice Ao48 t359.length co48)) (fun _ hk => hk.2) (.bool t362)) (fun _ hk => hk.2) (.slice Ao56 t363.length co56)) (fun _ hk => hk.1.1.2), by (with_reducible repeat (first | apply Kd.R_alloc | apply Kd.R_drewN | apply Kd.R_drew)); exact Kd.R_mono (Kd.R_far (p := ⟨gb333, 1, none⟩) (Kd.R_far (p := ⟨gb333, 0, none⟩) (Kd.R_far (p := ⟨gb332, 1, none⟩) (Kd.R_far (p := ⟨gb332, 0, none⟩) (Kd.R_types (Kd.R_types HO365.out BK332.out (by decide)) BK333.out (by decide)) (fun _ hk => hk.1.2) (.bool t358)) (fun _ hk => hk.1.2) (.slice Ao48 t359.length co48)) (fun _ hk => hk.2) (.bool t362)) (fun _ hk => hk.2) (.slice Ao56 t363.length co56)) (fun _ hk => hk.1.1.2), by repeat (first | (with_reducible first | exact HB.out | apply below_alloc | apply pw_below_drewN | apply below_drew1 | refine below_set ?_ GE330.out | refine below_set ?_ GE331.out | refine below_set ?_ GE332.out | refine below_set ?_ GE333.out | refine below_set ?_ GE347.out) | exact HB.out)⟩
  ·rw [if_neg c11] at H
   have c11b0 : decide ((wrap64 (t352 * t353)) < 0) = false := decide_eq_false c11
   clear c11
   replace H := Option.bind_eq_some_iff.mp H
   obtain ⟨⟨t366, t367⟩, A580, H⟩ := H
   replace H : (some (t343, t344, t366, t367, 0)) = some (r1, r2, r3, r4, r5) := H
   have A58 := Aside0.mk A580
   clear A580
   simp only [Option.some.injEq, Prod.mk.injEq] at H
   obtain ⟨rfl, rfl, rfl, rfl, rfl⟩ := H
   rw [c11b0]
   try go_wp2
   replace HO336 := Aside0.mk (Kd.R_drew HO336.out)
   replace HO339 := Aside0.mk (Kd.V_drew HO339.out)
   replace HO346 := Aside0.mk (Kd.R_drew HO346.out)
   replace HO351 := Aside0.mk (Kd.R_drew HO351.out)
   replace BK330 := Aside0.mk (blk_drew BK330.out)
   replace BK331 := Aside0.mk (blk_drew BK331.out)
   replace BK332 := Aside0.mk (blk_drew BK332.out)
   replace BK333 := Aside0.mk (blk_drew BK333.out)
   replace BK347 := Aside0.mk (blk_drew BK347.out)
   replace HB := Aside0.mk (below_drew1 HB.out)
   refine start_ (n := 6) (S := fun w' => w'.cell? ⟨gb347, 0, none⟩ = some (.bool t343) ∧ w'.cell? ⟨gb347, 1, none⟩ = some (.slice Ao35 t344.length co35)) (ds := []) #[false, false, false, false, false, false] (by kernel_rfl) rfl rfl ⟨(blk_cell BK347.out 0).trans rfl, (blk_cell BK347.out 1).trans rfl⟩ (fun hHeld => ?_)
   generalize w42.drew = w87 at HO336 HO339 HO346 HO351 BK330 BK331 BK332 BK333 BK347 HB hHeld ⊢
   refine Short.takeS_ (i := 0) (N := some 45) #[true, false, false, false, false, false] (by kernel_rfl) hHeld ?_
   refine Short.pureS_ (i := 1) (N := some 46) #[true, true, false, false, false, false] (by kernel_rfl) ?_
   refine one_ (i := 2) (N := some 47) #[true, true, true, false, false, false] rfl rfl (by kernel_rfl) (by decide) (fun K hK => ?_)
   refine Clo.goesF_ Try.func85 (by kernel_rfl) rfl #[.pointer (some ⟨gb330, 0, none⟩), .pointer (some ⟨gb331, 0, none⟩), .pointer (some ⟨gb347, 0, none⟩)] (by rfl) rfl rfl (by rfl) ?_
   with_reducible refine (whole_Floor_cl1.calls k gb330 gb331 gb347 a0_0 _ _ l0_1 a1_0 _ _ l1_1 t343 _ _ t344 t366 t367 _ (Kd.C_below HR0_1.out HB.out) HC0_1.out (Kd.C_below HR1_1.out HB.out) HC1_1.out ((Kd.R_reads' HO346.out).2.2) ((Kd.R_reads' HO346.out).2.1) BK330.out BK331.out BK347.out A58.out).mono ?_
   rintro e w88 ⟨v368, rfl, ho0, hb⟩
   refine ⟨_, rfl, ?_⟩
   replace HO339 := Aside0.mk (Kd.V_elder' HO339.out (Kd.R_base ho0) hb)
   have HO369 := Aside0.mk (Kd.R_lower (Kd.R_new' (Kd.R_new' (Kd.R_new' ho0 (Kd.R_lt HO336.out)) (Kd.R_lt HO346.out)) (Kd.R_lt HO351.out)) (below_size HB.out))
   replace HO336 := Aside0.mk (Kd.R_elder' HO336.out (Kd.R_base ho0) hb)
   replace HO346 := Aside0.mk (Kd.R_elder' HO346.out (Kd.R_base ho0) hb)
   replace HO351 := Aside0.mk (Kd.R_elder' HO351.out (Kd.R_base ho0) hb)
   replace BK330 := Aside0.mk (blk_below BK330.out hb)
   replace BK331 := Aside0.mk (blk_below BK331.out hb)
   replace BK332 := Aside0.mk (blk_below BK332.out hb)
   replace BK333 := Aside0.mk (blk_below BK333.out hb)
   replace BK347 := Aside0.mk (blk_below BK347.out hb)
   replace HB := Aside0.mk (below_step HB.out hb)
   (try clear hb)
   (try clear ho0)
   obtain ⟨Ao92, co92, eo92⟩ := Kd.R_slice HO369.out
   (first | subst eo92 | (injection eo92 with f1_ f2_ f3_; have f4_ := f1_.symm; have f5_ := f3_.symm; clear f1_ f2_ f3_; subst f4_; subst f5_))
   refine hK.out _ _ ⟨(blk_cell BK347.out 0).trans rfl, (blk_cell BK347.out 1).trans rfl⟩ (fun hHeld => ?_)
   clear hK K
   refine Short.normS_ ?_
   refine one_ (i := 3) (N := none) #[true, true, true, true, false, false] rfl rfl (by kernel_rfl) (by decide) (fun K hK => ?_)
   have hs89 : w88.cell? ⟨gb332, 0, none⟩ = some (.bool false) := (blk_cell BK332.out 0).trans rfl
   have hfs89 := blk_frozen BK332.out 0
   have hns89_0 := NB330_332.out
   have hns89_1 := NB331_332.out
   have hns89_3 := NB333_332.out
   have hns89_4 := NB347_332.out
   have hms89_0 := NB332_330.out
   have hms89_1 := NB332_331.out
   have hms89_3 := NB332_333.out
   have hms89_4 := NB332_347.out
   have hs90 : w88.cell? ⟨gb332, 1, none⟩ = some (.slice none 0 0) := (blk_cell BK332.out 1).trans rfl
   have hfs90 := blk_frozen BK332.out 1
   have hns90_0 := NB330_332.out
   have hns90_1 := NB331_332.out
   have hns90_3 := NB333_332.out
   have hns90_4 := NB347_332.out
   have hms90_0 := NB332_330.out
   have hms90_1 := NB332_331.out
   have hms90_3 := NB332_333.out
   have hms90_4 := NB332_347.out
   refine skip_ (w1 := ?_) (by rfl) rfl ?_ ?_
   rotate_left
   ·go_simp
    rfl
   refine hK.out _ _ ⟨((cell_far (p := ⟨gb332, _, none⟩) NB347_332.out _).trans (((cell_far (p := ⟨gb332, _, none⟩) NB347_332.out _).trans (hHeld.1)))), ((cell_far (p := ⟨gb332, _, none⟩) NB347_332.out _).trans (((cell_far (p := ⟨gb332, _, none⟩) NB347_332.out _).trans (hHeld.2))))⟩ (fun hHeld => ?_)
   clear hK K
   refine one_ (i := 4) (N := none) #[true, true, true, true, true, false] rfl rfl (by kernel_rfl) (by decide) (fun K hK => ?_)
   have hs91 : w88.cell? ⟨gb333, 0, none⟩ = some (.bool false) := (blk_cell BK333.out 0).trans rfl
   have hfs91 := blk_frozen BK333.out 0
   have hns91_0 := NB330_333.out
   have hns91_1 := NB331_333.out
   have hns91_2 := NB332_333.out
   have hns91_4 := NB347_333.out
   have hms91_0 := NB333_330.out
   have hms91_1 := NB333_331.out
   have hms91_2 := NB333_332.out
   have hms91_4 := NB333_347.out
   have hs93 : w88.cell? ⟨gb333, 1, none⟩ = some (.slice none 0 0) := (blk_cell BK333.out 1).trans rfl
   have hfs93 := blk_frozen BK333.out 1
   have hns93_0 := NB330_333.out
   have hns93_1 := NB331_333.out
   have hns93_2 := NB332_333.out
   have hns93_4 := NB347_333.out
   have hms93_0 := NB333_330.out
   have hms93_1 := NB333_331.out
   have hms93_2 := NB333_332.out
   have hms93_4 := NB333_347.out
   refine skip_ (w1 := ?_) (by rfl) rfl ?_ ?_
   rotate_left
   ·go_simp
    rfl
   refine hK.out _ _ ⟨((cell_far (p := ⟨gb333, _, none⟩) NB347_333.out _).trans (((cell_far (p := ⟨gb333, _, none⟩) NB347_333.out _).trans (hHeld.1)))), ((cell_far (p := ⟨gb333, _, none⟩) NB347_333.out _).trans (((cell_far (p := ⟨gb333, _, none⟩) NB347_333.out _).trans (hHeld.2))))⟩ (fun hHeld => ?_)
   clear hK K
   refine Short.pureS_ (i := 5) (N := some 6) #[true, true, true, true, true, true] (by kernel_rfl) ?_
   refine done_ (by kernel_rfl) ?_
   try go_wp2
   refine bodyPost_ret (results_list (rs := [.cell 4 25, .cell 5 25, .tmp 6]) rfl (by simp) (.cell gb332 25 #[.bool t343, .slice Ao35 t344.length co35] (0, 0) _ rfl (by (with_reducible repeat (first | refine blk_drewN ?_ _ | refine blk_drew ?_ | refine blk_alloc ?_ _)); refine blk_far ?_ NB332_333.out _; (with_reducible repeat (first | refine blk_drewN ?_ _ | refine blk_drew ?_ | refine blk_alloc ?_ _)); refine blk_far ?_ NB332_333.out _; (with_reducible repeat (first | refine blk_drewN ?_ _ | refine blk_drew ?_ | refine blk_alloc ?_ _)); refine blk_put (cs := #[.bool t343, .slice none 0 0]) ?_ 1 _ rfl; (with_reducible repeat (first | refine blk_drewN ?_ _ | refine blk_drew ?_ | refine blk_alloc ?_ _)); refine blk_put (cs := #[.bool false, .slice none 0 0]) ?_ 0 _ rfl; (with_reducible repeat (first | refine blk_drewN ?_ _ | refine blk_drew ?_ | refine blk_alloc ?_ _)); exact BK332.out) Try.underlying25 rfl (by kernel_rfl) (.cell gb333 25 #[.bool t366, .slice Ao92 t367.length co92] (0, 0) _ rfl (by (with_reducible repeat (first | refine blk_drewN ?_ _ | refine blk_drew ?_ | refine blk_alloc ?_ _)); refine blk_put (cs := #[.bool t366, .slice none 0 0]) ?_ 1 _ rfl; (with_reducible repeat (first | refine blk_drewN ?_ _ | refine blk_drew ?_ | refine blk_alloc ?_ _)); refine blk_put (cs := #[.bool false, .slice none 0 0]) ?_ 0 _ rfl; (with_reducible repeat (first | refine blk_drewN ?_ _ | refine blk_drew ?_ | refine blk_alloc ?_ _)); refine blk_far ?_ NB333_332.out _; (with_reducible repeat (first | refine blk_drewN ?_ _ | refine blk_drew ?_ | refine blk_alloc ?_ _)); refine blk_far ?_ NB333_332.out _; (with_reducible repeat (first | refine blk_drewN ?_ _ | refine blk_drew ?_ | refine blk_alloc ?_ _)); exact BK333.out) Try.underlying25 rfl (by kernel_rfl) (.tmp .nil)))) rfl ?_
   exact ⟨_, _, by rfl, by (with_reducible repeat (first | apply Kd.R_alloc | apply Kd.R_drewN | apply Kd.R_drew)); exact Kd.R_mono (Kd.R_far (p := ⟨gb333, 1, none⟩) (Kd.R_far (p := ⟨gb333, 0, none⟩) (Kd.R_far (p := ⟨gb332, 1, none⟩) (Kd.R_far (p := ⟨gb332, 0, none⟩) (Kd.R_types (Kd.R_types HO346.out BK332.out (by decide)) BK333.out (by decide)) (fun _ hk => hk.1.2) (.bool t343)) (fun _ hk => hk.1.2) (.slice Ao35 t344.length co35)) (fun _ hk => hk.2) (.bool t366)) (fun _ hk => hk.2) (.slice Ao92 t367.length co92)) (fun _ hk => hk.1.1.2), by (with_reducible repeat (first | apply Kd.R_alloc | apply Kd.R_drewN | apply Kd.R_drew)); exact Kd.R_mono (Kd.R_far (p := ⟨gb333, 1, none⟩) (Kd.R_far (p := ⟨gb333, 0, none⟩) (Kd.R_far (p := ⟨gb332, 1, none⟩) (Kd.R_far (p := ⟨gb332, 0, none⟩) (Kd.R_types (Kd.R_types HO369.out BK332.out (by decide)) BK333.out (by decide)) (fun _ hk => hk.1.2) (.bool t343)) (fun _ hk => hk.1.2) (.slice Ao35 t344.length co35)) (fun _ hk => hk.2) (.bool t366)) (fun _ hk => hk.2) (.slice Ao92 t367.length co92)) (fun _ hk => hk.1.1.1.2), by repeat (first | (with_reducible first | exact HB.out | apply below_alloc | apply pw_below_drewN | apply below_drew1 | refine below_set ?_ GE330.out | refine below_set ?_ GE331.out | refine below_set ?_ GE332.out | refine below_set ?_ GE333.out | refine below_set ?_ GE347.out) | exact HB.out)⟩
 ·rw [if_neg c4] at H
  have c4b0 : (t340 == 0) = false := beq_eq_false_iff_ne.mpr c4
  have c4b1 : (t340 != 0) = true := bne_iff_ne.mpr c4
  simp only [Option.some.injEq, Prod.mk.injEq] at H
  obtain ⟨rfl, rfl, rfl, rfl, rfl⟩ := H
  go_enter Try.func60, Try.ntmps60
  go_wp2_with (first | ((with_reducible refine gate_dst (N := 2) rfl ?_); refine Short.boxS_ (N := 2) (cs := #[.bool a0_0, .slice A0_1 l0_1.length c0_1]) (t := 25) ?_; intro gb330 hg w94 hbox hb; have BK330 := Aside0.mk (hbox); have GW330 := Aside0.mk ((by rw [hg]; exact (below_size (by repeat (first | (with_reducible first | exact HB.out | apply below_alloc | apply pw_below_drewN | apply below_drew1) | exact HB.out))) : w.heap.size ≤ gb330)); have GE330 := Aside0.mk ((by rw [hg]; exact (below_size (by repeat (first | (with_reducible first | exact HB.out | apply below_alloc | apply pw_below_drewN | apply below_drew1) | exact HB.out))) : w.heap.size ≤ gb330)); replace HB := Aside0.mk (below_step (by repeat (first | (with_reducible first | exact HB.out | apply below_alloc | apply pw_below_drewN | apply below_drew1) | exact HB.out)) hb); clear hb hbox hg) | ((with_reducible refine gate_dst (N := 3) rfl ?_); refine Short.boxS_ (N := 3) (cs := #[.bool a1_0, .slice A1_1 l1_1.length c1_1]) (t := 25) ?_; intro gb331 hg w95 hbox hb; have BK331 := Aside0.mk (hbox); have GW331 := Aside0.mk ((by rw [hg]; exact (below_size HB.out) : w.heap.size ≤ gb331)); have GE331 := Aside0.mk ((by rw [hg]; exact (below_size HB.out) : w.heap.size ≤ gb331)); replace HB := Aside0.mk (below_step HB.out hb); have NB330_331 := Short.ltA_ hg BK330; have NB331_330 := Short.gtA_ hg BK330; replace BK330 := Aside0.mk (blk_below BK330.out hb); clear hb hbox hg) | ((with_reducible refine gate_dst (N := 4) rfl ?_); refine Short.boxS_ (N := 4) (cs := #[.bool false, .slice none 0 0]) (t := 25) ?_; intro gb332 hg w96 hbox hb; have BK332 := Aside0.mk (hbox); have GW332 := Aside0.mk ((by rw [hg]; exact (below_size HB.out) : w.heap.size ≤ gb332)); have GE332 := Aside0.mk ((by rw [hg]; exact (below_size HB.out) : w.heap.size ≤ gb332)); replace HB := Aside0.mk (below_step HB.out hb); have NB330_332 := Short.ltA_ hg BK330; have NB332_330 := Short.gtA_ hg BK330; replace BK330 := Aside0.mk (blk_below BK330.out hb); have NB331_332 := Short.ltA_ hg BK331; have NB332_331 := Short.gtA_ hg BK331; replace BK331 := Aside0.mk (blk_below BK331.out hb); clear hb hbox hg) | ((with_reducible refine gate_dst (N := 5) rfl ?_); refine Short.boxS_ (N := 5) (cs := #[.bool false, .slice none 0 0]) (t := 25) ?_; intro gb333 hg w97 hbox hb; have BK333 := Aside0.mk (hbox); have GW333 := Aside0.mk ((by rw [hg]; exact (below_size HB.out) : w.heap.size ≤ gb333)); have GE333 := Aside0.mk ((by rw [hg]; exact (below_size HB.out) : w.heap.size ≤ gb333)); replace HB := Aside0.mk (below_step HB.out hb); have NB330_333 := Short.ltA_ hg BK330; have NB333_330 := Short.gtA_ hg BK330; replace BK330 := Aside0.mk (blk_below BK330.out hb); have NB331_333 := Short.ltA_ hg BK331; have NB333_331 := Short.gtA_ hg BK331; replace BK331 := Aside0.mk (blk_below BK331.out hb); have NB332_333 := Short.ltA_ hg BK332; have NB333_332 := Short.gtA_ hg BK332; replace BK332 := Aside0.mk (blk_below BK332.out hb); clear hb hbox hg; have hnb98 := NB330_331.out; have hnc98 := NB331_330.out; have hnb99 := NB330_332.out; have hnc99 := NB332_330.out; have hnb100 := NB330_333.out; have hnc100 := NB333_330.out; have hcz101_0 : w97.cell? ⟨gb330, 0, none⟩ = some (.bool a0_0) := (blk_cell BK330.out 0).trans rfl; have hcz101_1 : w97.cell? ⟨gb330, 1, none⟩ = some (.slice A0_1 l0_1.length c0_1) := (blk_cell BK330.out 1).trans rfl; have hfz101_0 := blk_frozen BK330.out 0; have hfz101_1 := blk_frozen BK330.out 1; have hnb102 := NB331_332.out; have hnc102 := NB332_331.out; have hnb103 := NB331_333.out; have hnc103 := NB333_331.out; have hcz104_0 : w97.cell? ⟨gb331, 0, none⟩ = some (.bool a1_0) := (blk_cell BK331.out 0).trans rfl; have hcz104_1 : w97.cell? ⟨gb331, 1, none⟩ = some (.slice A1_1 l1_1.length c1_1) := (blk_cell BK331.out 1).trans rfl; have hfz104_0 := blk_frozen BK331.out 0; have hfz104_1 := blk_frozen BK331.out 1) | ((with_reducible refine gate_callee (f := 70) rfl ?_); refine Short.goesS_ (some 17) Try.func70 #[.slice A0_1 l0_1.length c0_1, .slice A1_1 l1_1.length c1_1] ?_; (with_reducible refine (nat_DivMod.calls k _ _ l0_1 _ _ l1_1 t334 t337 t340 _ (Kd.C_below HR0_1.out HB.out) HC0_1.out (Kd.C_below HR1_1.out HB.out) HC1_1.out A3.out).mono ?_); rintro e w105 ⟨v335, v338, rfl, ho0, ho1, hb⟩; refine ⟨_, rfl, ?_⟩; have HO336 := Aside0.mk (Kd.R_lower (Kd.R_mono (ok' := fun k_ => True) ho0 (fun _ hk_ => trivial)) (below_size HB.out)); have HO339 := Aside0.mk (Kd.V_lower (Kd.V_mono (ok' := fun k_ => some k_ ≠ (v335 : Value).ownBlock ∧ k_ ≠ gb330 ∧ k_ ≠ gb331 ∧ k_ ≠ gb332 ∧ k_ ≠ gb333) ho1 (fun k_ hk_ => ⟨hk_.2, (Kd.freshB (g := gb330) (o := .cells #[.bool a0_0, .slice A0_1 l0_1.length c0_1] 25 (0, 0)) BK330.out k_ hk_.1), (Kd.freshB (g := gb331) (o := .cells #[.bool a1_0, .slice A1_1 l1_1.length c1_1] 25 (0, 0)) BK331.out k_ hk_.1), (Kd.freshB (g := gb332) (o := .cells #[.bool false, .slice none 0 0] 25 (0, 0)) BK332.out k_ hk_.1), (Kd.freshB (g := gb333) (o := .cells #[.bool false, .slice none 0 0] 25 (0, 0)) BK333.out k_ hk_.1)⟩)) (below_size HB.out)); replace BK330 := Aside0.mk (blk_below BK330.out hb); replace BK331 := Aside0.mk (blk_below BK331.out hb); replace BK332 := Aside0.mk (blk_below BK332.out hb); replace BK333 := Aside0.mk (blk_below BK333.out hb); replace HB := Aside0.mk (below_step HB.out hb); (try clear hb); (try clear ho0); (try clear ho1); have hnb106 := NB332_333.out; have hnc106 := NB333_332.out; have hcz107_0 : w105.cell? ⟨gb332, 0, none⟩ = some (.bool false) := (blk_cell BK332.out 0).trans rfl; have hcz107_1 : w105.cell? ⟨gb332, 1, none⟩ = some (.slice none 0 0) := (blk_cell BK332.out 1).trans rfl; have hfz107_0 := blk_frozen BK332.out 0; have hfz107_1 := blk_frozen BK332.out 1; have hcz108_0 : w105.cell? ⟨gb333, 0, none⟩ = some (.bool false) := (blk_cell BK333.out 0).trans rfl; have hcz108_1 : w105.cell? ⟨gb333, 1, none⟩ = some (.slice none 0 0) := (blk_cell BK333.out 1).trans rfl; have hfz108_0 := blk_frozen BK333.out 0; have hfz108_1 := blk_frozen BK333.out 1))
  refine bodyPost_ret (results_list (rs := [.cell 4 25, .cell 5 25, .tmp 6]) rfl (by simp) (.cell gb332 25 #[.bool false, .slice none 0 0] (0, 0) _ rfl (by (with_reducible repeat (first | refine blk_drewN ?_ _ | refine blk_drew ?_ | refine blk_alloc ?_ _)); refine blk_far ?_ NB332_333.out _; (with_reducible repeat (first | refine blk_drewN ?_ _ | refine blk_drew ?_ | refine blk_alloc ?_ _)); refine blk_far ?_ NB332_333.out _; (with_reducible repeat (first | refine blk_drewN ?_ _ | refine blk_drew ?_ | refine blk_alloc ?_ _)); refine blk_put (cs := #[.bool false, .slice none 0 0]) ?_ 1 _ rfl; (with_reducible repeat (first | refine blk_drewN ?_ _ | refine blk_drew ?_ | refine blk_alloc ?_ _)); refine blk_put (cs := #[.bool false, .slice none 0 0]) ?_ 0 _ rfl; (with_reducible repeat (first | refine blk_drewN ?_ _ | refine blk_drew ?_ | refine blk_alloc ?_ _)); exact BK332.out) Try.underlying25 rfl (by kernel_rfl) (.cell gb333 25 #[.bool false, .slice none 0 0] (0, 0) _ rfl (by (with_reducible repeat (first | refine blk_drewN ?_ _ | refine blk_drew ?_ | refine blk_alloc ?_ _)); refine blk_put (cs := #[.bool false, .slice none 0 0]) ?_ 1 _ rfl; (with_reducible repeat (first | refine blk_drewN ?_ _ | refine blk_drew ?_ | refine blk_alloc ?_ _)); refine blk_put (cs := #[.bool false, .slice none 0 0]) ?_ 0 _ rfl; (with_reducible repeat (first | refine blk_drewN ?_ _ | refine blk_drew ?_ | refine blk_alloc ?_ _)); refine blk_far ?_ NB333_332.out _; (with_reducible repeat (first | refine blk_drewN ?_ _ | refine blk_drew ?_ | refine blk_alloc ?_ _)); refine blk_far ?_ NB333_332.out _; (with_reducible repeat (first | refine blk_drewN ?_ _ | refine blk_drew ?_ | refine blk_alloc ?_ _)); exact BK333.out) Try.underlying25 rfl (by kernel_rfl) (.tmp .nil)))) rfl ?_
  exact ⟨_, _, by rfl, by first | exact Kd.R_nil _ _ _ _ _ | exact Kd.N_nil _ _ _ _ _ | exact Kd.V_nil _ _ _ _ _ | exact Kd.Q_nil _ _ _ _ _ | exact Kd.S_nil _ _ _ _ _, by first | exact Kd.R_nil _ _ _ _ _ | exact Kd.N_nil _ _ _ _ _ | exact Kd.V_nil _ _ _ _ _ | exact Kd.Q_nil _ _ _ _ _ | exact Kd.S_nil _ _ _ _ _, by repeat (first | (with_reducible first | exact HB.out | apply below_alloc | apply pw_below_drewN | apply below_drew1 | refine below_set ?_ GE330.out | refine below_set ?_ GE331.out | refine below_set ?_ GE332.out | refine below_set ?_ GE333.out) | exact HB.out)⟩

theorem whole_Floor.ev0 {m m' : Bool} {l l' : List Int} {a b : Int} {K : Nat} (ha : Zn.Is m l a K) (hb : Zn.Is m' l' b K) (hK : K < 400000) (h0 : b = 0) : Ev (fun k => whole_Floor.f k m l m' l') (false, [], false, [], 5) := by
 have la := ha.len
 have lb := hb.len
 have D : ∀ k, nat_DivMod.f k l l' = some ([], [], 5) := fun k => by
  unfold nat_DivMod.f
  rw [if_pos ((Num.okd_iff l).2 ⟨by omega, ha.ws⟩), if_pos ((Num.okd_iff l').2 ⟨by omega, hb.ws⟩), if_pos (by rw [← hb.abs, h0]; rfl)]
 unfold whole_Floor.f
 exact Dec.val D (Dec.no (by decide) (Ev.now _))
theorem whole_Floor.ev {m m' : Bool} {l l' : List Int} {a b : Int} {K : Nat} (ha : Zn.Is m l a K) (hb : Zn.Is m' l' b K) (hK : K < 400000) (h0 : b ≠ 0) :
  Ev (fun k => whole_Floor.f k m l m' l') ((Zn.zd (Zn.fl a b).1).1, (Zn.zd (Zn.fl a b).1).2, (Zn.zd (Zn.fl a b).2).1, (Zn.zd (Zn.fl a b).2).2, 0) := by
 have la := ha.len
 have lb := hb.len
 have aa := ha.lt
 have D : ∀ k, nat_DivMod.f k l l' = some (Num.nd (a.natAbs / b.natAbs), Num.nd (a.natAbs % b.natAbs), 0) := fun k => by
  unfold nat_DivMod.f
  rw [if_pos ((Num.okd_iff l).2 ⟨by omega, ha.ws⟩), if_pos ((Num.okd_iff l').2 ⟨by omega, hb.ws⟩), if_neg (by rw [← hb.abs]; omega), ← ha.abs, ← hb.abs]
 have d : decide (wrap64 (a.sign * b.sign) < 0) = decide (a * b < 0) := by rw [Zn.w64_sign]; exact decide_eq_decide.2 (Zn.sign_mul_neg a b)
 have M := whole_Make.ev (Zn.Is.nd (m := decide (a * b < 0)) (Nat.lt_of_le_of_lt (Nat.div_le_self a.natAbs b.natAbs) aa)) (by omega)
 have eq : Zn.zv (decide (a * b < 0)) (a.natAbs / b.natAbs) = Zn.flq a b := rfl
 rw [eq] at M
 have hq : (Zn.flq a b).natAbs < 2 ^ (32 * K) := by
  unfold Zn.flq
  rw [Zn.natAbs_zv]
  exact Nat.lt_of_le_of_lt (Nat.div_le_self _ _) aa
 have Iq := Zn.Is.zd (Zn.abs_le hq (show K ≤ K + 1 by omega))
 have ha' := ha.le (show K ≤ K + (K + 1) by omega)
 have C1 := whole_Floor_cl1.ev ha' hb Iq (by omega)
 have er : a - b * Zn.flq a b = Zn.flr a b := rfl
 rw [er] at C1
 have hr : (Zn.flr a b).natAbs < 2 ^ (32 * K) := Nat.lt_trans (Zn.flr_lt a b h0) hb.lt
 have Ir := Zn.Is.zd hr
 unfold whole_Floor.f
 refine Dec.val D (Dec.yes rfl (Ev.bind (whole_Sign.ev ha (by omega)) (Ev.bind (whole_Sign.ev hb (by omega)) ?_)))
 refine Ev.congr (f := fun k => (whole_Make.f k (decide (a * b < 0)) (Num.nd (a.natAbs / b.natAbs))).bind fun bt310 => (whole_Floor_cl1.f k m l m' l' bt310.1 bt310.2).bind fun bt315 => (whole_Sign.f k bt315.1 bt315.2).bind fun t319 => (whole_Sign.f k m' l').bind fun t320 => if (wrap64 (t319 * t320)) < 0 then ((whole_Of.f k 1).bind fun bt321 => ((whole_Sub.f k bt310.1 bt310.2 bt321.1 bt321.2).bind fun bt325 => ((whole_Floor_cl1.f k m l m' l' bt325.1 bt325.2).bind fun bt329 => (some (bt325.1, bt325.2, bt329.1, bt329.2, 0))))) else ((whole_Floor_cl1.f k m l m' l' bt310.1 bt310.2).bind fun bt333 => (some (bt310.1, bt310.2, bt333.1, bt333.2, 0)))) (fun k => by rw [d]) ?_
 refine Ev.bind M (Ev.bind C1 (Ev.bind (whole_Sign.ev Ir (by omega)) (Ev.bind (whole_Sign.ev hb (by omega)) ?_)))
 by_cases hn : Zn.flr a b * b < 0
 ·have e1 : Zn.fl a b = (Zn.flq a b - 1, a - b * (Zn.flq a b - 1)) := if_pos hn
  rw [e1]
  have O := whole_Of.ev 1 (by omega) (by omega)
  have I1 : Zn.Is (Zn.zd 1).1 (Zn.zd 1).2 1 K := Zn.Is.zd (by
   have := hb.lt
   have : 1 ≤ b.natAbs := by omega
   show 1 < _
   rcases Nat.eq_zero_or_pos K with e | e
   ·subst e; omega
   ·exact Nat.lt_of_lt_of_le (show 1 < 2 ^ 32 by decide) (Nat.pow_le_pow_right (by omega) (by omega)))
  have S := whole_Sub.ev (Zn.Is.zd hq) I1 (by omega)
  have Ix : Zn.Is (Zn.zd (Zn.flq a b - 1)).1 (Zn.zd (Zn.flq a b - 1)).2 (Zn.flq a b - 1) (K + 1) := Zn.Is.zd (Zn.abs_sub hq I1.lt)
  have C2 := whole_Floor_cl1.ev ha' hb Ix (by omega)
  exact Dec.yes (by rw [Zn.w64_sign]; exact (Zn.sign_mul_neg _ _).2 hn) (Ev.bind O (Ev.bind S (Ev.bind C2 (Ev.now _))))
 ·have e1 : Zn.fl a b = (Zn.flq a b, Zn.flr a b) := if_neg hn
  rw [e1]
  exact Dec.no (by rw [Zn.w64_sign]; exact fun e => hn ((Zn.sign_mul_neg _ _).1 e)) (Ev.bind C1 (Ev.now _))

end Go.Proofs.Ytcdkopidgibijaa.PR
