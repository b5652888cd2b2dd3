/- Several functions' printed texts in one file. -/
import Derived.Test.YtcdkopidgibijaaShort
import Derived.Test.YtcdkopidgibijaaPRg0
import Derived.Test.YtcdkopidgibijaaPRg21
import Derived.Test.YtcdkopidgibijaaPRg32
namespace Go.Proofs.Ytcdkopidgibijaa.PR
open Go.RowKit Go.Proofs.YtcdkopidgibijaaW.PrintWords Go.Proofs.YtcdkopidgibijaaW.PrintLast Go.Proofs.YtcdkopidgibijaaW.PrintMore
attribute [local go_sem] max2_int min2_int max_two min_two max_three min_three max_four min_four   -- for this text's walks alone
set_option linter.unusedVariables false
set_option linter.unusedSimpArgs false
/-! ### rat_over: function 65 -/
def rat_over.f (k : Nat) (a0_0 : Bool) (l0_1 : List Int) (l0_2 : List Int) (a1_0 : Bool) (l1_1 : List Int) (l1_2 : List Int) : Option (Bool × List Int) := (rat_den.f k a1_0 l1_1 l1_2).bind fun t804 => ((whole_Make.f k false t804).bind fun bt807 => ((whole_Mul.f k a0_0 l0_1 bt807.1 bt807.2).bind fun bt811 => (some (bt811.1, bt811.2))))
set_option maxHeartbeats 8000000 in
set_option maxRecDepth 100000 in
theorem rat_over.calls (k : Nat) (a0_0 : Bool) (A0_1 : Option Addr) (c0_1 : Nat) (l0_1 : List Int) (A0_2 : Option Addr) (c0_2 : Nat) (l0_2 : List Int) (a1_0 : Bool) (A1_1 : Option Addr) (c1_1 : Nat) (l1_1 : List Int) (A1_2 : Option Addr) (c1_2 : Nat) (l1_2 : List Int) (r1 : Bool) (r2 : List Int) (w : World) (hr0_1 : Kd.C (Kd.int .u32) w A0_1 l0_1.length l0_1) (hc0_1 : l0_1.length ≤ c0_1) (hr0_2 : Kd.C (Kd.int .u32) w A0_2 l0_2.length l0_2) (hc0_2 : l0_2.length ≤ c0_2) (hr1_1 : Kd.C (Kd.int .u32) w A1_1 l1_1.length l1_1) (hc1_1 : l1_1.length ≤ c1_1) (hr1_2 : Kd.C (Kd.int .u32) w A1_2 l1_2.length l1_2) (hc1_2 : l1_2.length ≤ c1_2) (h : rat_over.f k a0_0 l0_1 l0_2 a1_0 l1_1 l1_2 = some (r1, r2)) :
  Calls Try.prog 65 #[.agg #[.bool a0_0, .slice A0_1 l0_1.length c0_1, .slice A0_2 l0_2.length c0_2], .agg #[.bool a1_0, .slice A1_1 l1_1.length c1_1, .slice A1_2 l1_2.length c1_2]] w fun e w' => ∃ v1_ : Value, e = .returned (.agg #[.bool r1, v1_]) ∧ Kd.R (Kd.int .u32) 89 w' w.heap.size (fun _ => True) v1_ r2 ∧ Below w.heap.size w w' := by
 have hu27 := Try.underlying27
 have hu25 := Try.underlying25
 have HR0_1 := Aside0.mk hr0_1
 have HC0_1 := Aside0.mk hc0_1
 clear hr0_1 hc0_1
 have HR0_2 := Aside0.mk hr0_2
 have HC0_2 := Aside0.mk hc0_2
 clear hr0_2 hc0_2
 have HR1_1 := Aside0.mk hr1_1
 have HC1_1 := Aside0.mk hc1_1
 clear hr1_1 hc1_1
 have HR1_2 := Aside0.mk hr1_2
 have HC1_2 := Aside0.mk hc1_2
 clear hr1_2 hc1_2
 have HB := Aside0.mk (Below.refl w.heap.size w)
 have H : ((rat_den.f k a1_0 l1_1 l1_2).bind fun t804 => ((whole_Make.f k false t804).bind fun bt807 => ((whole_Mul.f k a0_0 l0_1 bt807.1 bt807.2).bind fun bt811 => (some (bt811.1, bt811.2))))) = some (r1, r2) := h
 clear h
 replace H := Option.bind_eq_some_iff.mp H
 obtain ⟨t804, A30, H⟩ := H
 try dsimp only at H
 have A3 := Aside0.mk A30
 clear A30
 replace H := Option.bind_eq_some_iff.mp H
 obtain ⟨⟨t807, t808⟩, A40, H⟩ := H
 try dsimp only at H
 have A4 := Aside0.mk A40
 clear A40
 replace H := Option.bind_eq_some_iff.mp H
 obtain ⟨⟨t811, t812⟩, A50, H⟩ := H
 replace H : (some (t811, t812)) = some (r1, r2) := H
 have A5 := Aside0.mk A50
 clear A50
 simp only [Option.some.injEq, Prod.mk.injEq] at H
 obtain ⟨rfl, rfl⟩ := H
 go_enter Try.func65, Try.ntmps65
 try go_wp2_with (first | ((with_reducible refine gate_dst (N := 2) rfl ?_); refine Short.boxS_ (N := 2) (cs := #[.bool a0_0, .slice A0_1 l0_1.length c0_1, .slice A0_2 l0_2.length c0_2]) (t := 27) ?_; intro gb801 hg w6 hbox hb; have BK801 := Aside0.mk (hbox); have GW801 := Aside0.mk ((by rw [hg]; exact (below_size (by repeat (first | (with_reducible first | exact HB.out | apply below_alloc | apply pw_below_drewN | apply below_drew1) | exact HB.out))) : w.heap.size ≤ gb801)); have GE801 := Aside0.mk ((by rw [hg]; exact (below_size (by repeat (first | (with_reducible first | exact HB.out | apply below_alloc | apply pw_below_drewN | apply below_drew1) | exact HB.out))) : w.heap.size ≤ gb801)); replace HB := Aside0.mk (below_step (by repeat (first | (with_reducible first | exact HB.out | apply below_alloc | apply pw_below_drewN | apply below_drew1) | exact HB.out)) hb); clear hb hbox hg) | ((with_reducible refine gate_dst (N := 3) rfl ?_); refine Short.boxS_ (N := 3) (cs := #[.bool a1_0, .slice A1_1 l1_1.length c1_1, .slice A1_2 l1_2.length c1_2]) (t := 27) ?_; intro gb802 hg w7 hbox hb; have BK802 := Aside0.mk (hbox); have GW802 := Aside0.mk ((by rw [hg]; exact (below_size HB.out) : w.heap.size ≤ gb802)); have GE802 := Aside0.mk ((by rw [hg]; exact (below_size HB.out) : w.heap.size ≤ gb802)); replace HB := Aside0.mk (below_step HB.out hb); have NB801_802 := Short.ltA_ hg BK801; have NB802_801 := Short.gtA_ hg BK801; replace BK801 := Aside0.mk (blk_below BK801.out hb); clear hb hbox hg) | ((with_reducible refine gate_dst (N := 4) rfl ?_); refine Short.boxS_ (N := 4) (cs := #[.bool false, .slice none 0 0]) (t := 25) ?_; intro gb803 hg w8 hbox hb; have BK803 := Aside0.mk (hbox); have GW803 := Aside0.mk ((by rw [hg]; exact (below_size HB.out) : w.heap.size ≤ gb803)); have GE803 := Aside0.mk ((by rw [hg]; exact (below_size HB.out) : w.heap.size ≤ gb803)); replace HB := Aside0.mk (below_step HB.out hb); have NB801_803 := Short.ltA_ hg BK801; have NB803_801 := Short.gtA_ hg BK801; replace BK801 := Aside0.mk (blk_below BK801.out hb); have NB802_803 := Short.ltA_ hg BK802; have NB803_802 := Short.gtA_ hg BK802; replace BK802 := Aside0.mk (blk_below BK802.out hb); clear hb hbox hg))
 replace BK801 := Aside0.mk (blk_drew BK801.out)
 replace BK802 := Aside0.mk (blk_drew BK802.out)
 replace BK803 := Aside0.mk (blk_drew BK803.out)
 replace HB := Aside0.mk (below_drew1 HB.out)
 refine start_ (n := 7) (S := fun w' => w'.cell? ⟨gb801, 0, none⟩ = some (.bool a0_0) ∧ w'.cell? ⟨gb801, 1, none⟩ = some (.slice A0_1 l0_1.length c0_1) ∧ w'.cell? ⟨gb801, 2, none⟩ = some (.slice A0_2 l0_2.length c0_2) ∧ w'.cell? ⟨gb802, 0, none⟩ = some (.bool a1_0) ∧ w'.cell? ⟨gb802, 1, none⟩ = some (.slice A1_1 l1_1.length c1_1) ∧ w'.cell? ⟨gb802, 2, none⟩ = some (.slice A1_2 l1_2.length c1_2)) (ds := []) #[false, false, false, false, false, false, false] (by kernel_rfl) rfl rfl ⟨(blk_cell BK801.out 0).trans rfl, (blk_cell BK801.out 1).trans rfl, (blk_cell BK801.out 2).trans rfl, (blk_cell BK802.out 0).trans rfl, (blk_cell BK802.out 1).trans rfl, (blk_cell BK802.out 2).trans rfl⟩ (fun hHeld => ?_)
 generalize w8.drew = w9 at BK801 BK802 BK803 HB hHeld ⊢
 refine Short.pureS_ (i := 0) (N := some 5) #[true, false, false, false, false, false, false] (by kernel_rfl) ?_
 refine Short.takeS_ (i := 1) (N := some 6) #[true, true, false, false, false, false, false] (by kernel_rfl) hHeld ?_
 refine Short.takeS_ (i := 2) (N := some 7) #[true, true, true, false, false, false, false] (by kernel_rfl) hHeld ?_
 refine one_ (i := 3) (N := some 8) #[true, true, true, true, false, false, false] rfl rfl (by kernel_rfl) (by decide) (fun K hK => ?_)
 refine Short.goesD_ Try.func46 #[.agg #[.bool a1_0, .slice A1_1 l1_1.length c1_1, .slice A1_2 l1_2.length c1_2]] ?_
 with_reducible refine (rat_den.calls k a1_0 _ _ l1_1 (fun k_ => k_ < w.heap.size) _ _ l1_2 t804 _ (Kd.C_below HR1_1.out HB.out) HC1_1.out ?side3 A3.out).mono ?_
 (case side3 => exact Kd.V_mk HC1_2.out (Kd.F_below (Kd.C_F (Kd.heap_int .u32) HR1_2.out) HB.out))
 rintro e w10 ⟨v805, rfl, ho0, hb⟩
 refine ⟨_, rfl, ?_⟩
 have HO806 := Aside0.mk (Kd.V_lower (Kd.V_mono (ok' := fun k_ => k_ ≠ gb801 ∧ k_ ≠ gb802 ∧ k_ ≠ gb803) ho0 (fun k_ hk_ => ⟨Or.elim hk_ (fun hs_ => fun e_ => Nat.not_le.2 hs_ (by rw [e_]; exact GW801.out)) (fun hn_ => (Kd.freshB (g := gb801) (o := .cells #[.bool a0_0, .slice A0_1 l0_1.length c0_1, .slice A0_2 l0_2.length c0_2] 27 (0, 0)) BK801.out k_ hn_)), Or.elim hk_ (fun hs_ => fun e_ => Nat.not_le.2 hs_ (by rw [e_]; exact GW802.out)) (fun hn_ => (Kd.freshB (g := gb802) (o := .cells #[.bool a1_0, .slice A1_1 l1_1.length c1_1, .slice A1_2 l1_2.length c1_2] 27 (0, 0)) BK802.out k_ hn_)), Or.elim hk_ (fun hs_ => fun e_ => Nat.not_le.2 hs_ (by rw [e_]; exact GW803.out)) (fun hn_ => (Kd.freshB (g := gb803) (o := .cells #[.bool false, .slice none 0 0] 25 (0, 0)) BK803.out k_ hn_))⟩)) (below_size HB.out))
 replace BK801 := Aside0.mk (blk_below BK801.out hb)
 replace BK802 := Aside0.mk (blk_below BK802.out hb)
 replace BK803 := Aside0.mk (blk_below BK803.out hb)
 replace HB := Aside0.mk (below_step HB.out hb)
 (try clear hb)
 (try clear ho0)
 obtain ⟨Ao11, co11, eo11⟩ := Kd.V_slice HO806.out
 (first | subst eo11 | (injection eo11 with f1_ f2_ f3_; have f4_ := f1_.symm; have f5_ := f3_.symm; clear f1_ f2_ f3_; subst f4_; subst f5_))
 refine hK.out _ _ ⟨(blk_cell BK801.out 0).trans rfl, (blk_cell BK801.out 1).trans rfl, (blk_cell BK801.out 2).trans rfl, (blk_cell BK802.out 0).trans rfl, (blk_cell BK802.out 1).trans rfl, (blk_cell BK802.out 2).trans rfl⟩ (fun hHeld => ?_)
 clear hK K
 refine Short.normS_ ?_
 refine one_ (i := 4) (N := some 9) #[true, true, true, true, true, false, false] rfl rfl (by kernel_rfl) (by decide) (fun K hK => ?_)
 refine Short.goesD_ Try.func45 #[.bool false, .slice Ao11 t804.length co11] ?_
 with_reducible refine (whole_Make.calls k false _ _ t804 t807 t808 _ ((Kd.V_reads' HO806.out).2.2) ((Kd.V_reads' HO806.out).2.1) A4.out).mono ?_
 rintro e w12 ⟨v809, rfl, ho0, hb⟩
 refine ⟨_, rfl, ?_⟩
 replace HO806 := Aside0.mk (Kd.V_elder' HO806.out (Kd.R_base ho0) hb)
 have HO810 := Aside0.mk (Kd.R_lower ho0 (below_size HB.out))
 replace BK801 := Aside0.mk (blk_below BK801.out hb)
 replace BK802 := Aside0.mk (blk_below BK802.out hb)
 replace BK803 := Aside0.mk (blk_below BK803.out hb)
 replace HB := Aside0.mk (below_step HB.out hb)
 (try clear hb)
 (try clear ho0)
 obtain ⟨Ao13, co13, eo13⟩ := Kd.R_slice HO810.out
 (first | subst eo13 | (injection eo13 with f1_ f2_ f3_; have f4_ := f1_.symm; have f5_ := f3_.symm; clear f1_ f2_ f3_; subst f4_; subst f5_))
 refine hK.out _ _ ⟨(blk_cell BK801.out 0).trans rfl, (blk_cell BK801.out 1).trans rfl, (blk_cell BK801.out 2).trans rfl, (blk_cell BK802.out 0).trans rfl, (blk_cell BK802.out 1).trans rfl, (blk_cell BK802.out 2).trans rfl⟩ (fun hHeld => ?_)
 clear hK K
 refine Short.normS_ ?_
 refine one_ (i := 5) (N := some 10) #[true, true, true, true, true, true, false] rfl rfl (by kernel_rfl) (by decide) (fun K hK => ?_)
 refine Short.goesD_ Try.func67 #[.agg #[.bool a0_0, .slice A0_1 l0_1.length c0_1], .agg #[.bool t807, .slice Ao13 t808.length co13]] ?_
 with_reducible refine (whole_Mul.calls k a0_0 _ _ l0_1 t807 _ _ t808 t811 t812 _ (Kd.C_below HR0_1.out HB.out) HC0_1.out ((Kd.R_reads' HO810.out).2.2) ((Kd.R_reads' HO810.out).2.1) A5.out).mono ?_
 rintro e w14 ⟨v813, rfl, ho0, hb⟩
 refine ⟨_, rfl, ?_⟩
 replace HO806 := Aside0.mk (Kd.V_elder' HO806.out (Kd.R_base ho0) hb)
 have HO814 := Aside0.mk (Kd.R_lower (Kd.R_new' ho0 (Kd.R_lt HO810.out)) (below_size HB.out))
 replace HO810 := Aside0.mk (Kd.R_elder' HO810.out (Kd.R_base ho0) hb)
 replace BK801 := Aside0.mk (blk_below BK801.out hb)
 replace BK802 := Aside0.mk (blk_below BK802.out hb)
 replace BK803 := Aside0.mk (blk_below BK803.out hb)
 replace HB := Aside0.mk (below_step HB.out hb)
 (try clear hb)
 (try clear ho0)
 obtain ⟨Ao16, co16, eo16⟩ := Kd.R_slice HO814.out
 (first | subst eo16 | (injection eo16 with f1_ f2_ f3_; have f4_ := f1_.symm; have f5_ := f3_.symm; clear f1_ f2_ f3_; subst f4_; subst f5_))
 refine hK.out _ _ ⟨(blk_cell BK801.out 0).trans rfl, (blk_cell BK801.out 1).trans rfl, (blk_cell BK801.out 2).trans rfl, (blk_cell BK802.out 0).trans rfl, (blk_cell BK802.out 1).trans rfl, (blk_cell BK802.out 2).trans rfl⟩ (fun hHeld => ?_)
 clear hK K
 refine Short.normS_ ?_
 refine one_ (i := 6) (N := none) #[true, true, true, true, true, true, true] rfl rfl (by kernel_rfl) (by decide) (fun K hK => ?_)
 have hs15 : w14.cell? ⟨gb803, 0, none⟩ = some (.bool false) := (blk_cell BK803.out 0).trans rfl
 have hfs15 := blk_frozen BK803.out 0
 have hns15_0 := NB801_803.out
 have hns15_1 := NB802_803.out
 have hms15_0 := NB803_801.out
 have hms15_1 := NB803_802.out
 have hs17 : w14.cell? ⟨gb803, 1, none⟩ = some (.slice none 0 0) := (blk_cell BK803.out 1).trans rfl
 have hfs17 := blk_frozen BK803.out 1
 have hns17_0 := NB801_803.out
 have hns17_1 := NB802_803.out
 have hms17_0 := NB803_801.out
 have hms17_1 := NB803_802.out
 refine skip_ (w1 := ?_) (by rfl) rfl ?_ ?_
 rotate_left
 ·go_simp
  rfl
 refine hK.out _ _ ⟨((cell_far (p := ⟨gb803, _, none⟩) NB801_803.out _).trans (((cell_far (p := ⟨gb803, _, none⟩) NB801_803.out _).trans (hHeld.1)))), ((cell_far (p := ⟨gb803, _, none⟩) NB801_803.out _).trans (((cell_far (p := ⟨gb803, _, none⟩) NB801_803.out _).trans (hHeld.2.1)))), ((cell_far (p := ⟨gb803, _, none⟩) NB801_803.out _).trans (((cell_far (p := ⟨gb803, _, none⟩) NB801_803.out _).trans (hHeld.2.2.1)))), ((cell_far (p := ⟨gb803, _, none⟩) NB802_803.out _).trans (((cell_far (p := ⟨gb803, _, none⟩) NB802_803.out _).trans (hHeld.2.2.2.1)))), ((cell_far (p := ⟨gb803, _, none⟩) NB802_803.out _).trans (((cell_far (p := ⟨gb803, _, none⟩) NB802_803.out _).trans (hHeld.2.2.2.2.1)))), ((cell_far (p := ⟨gb803, _, none⟩) NB802_803.out _).trans (((cell_far (p := ⟨gb803, _, none⟩) NB802_803.out _).trans (hHeld.2.2.2.2.2))))⟩ (fun hHeld => ?_)
 clear hK K
 refine done_ (by kernel_rfl) ?_
 try go_wp2
 refine bodyPost_ret (results_cell_row rfl _ _ gb803 25 #[.bool t811, .slice Ao16 t812.length co16] (0, 0) _ rfl (by (with_reducible repeat (first | refine blk_drewN ?_ _ | refine blk_drew ?_ | refine blk_alloc ?_ _)); refine blk_put (cs := #[.bool t811, .slice none 0 0]) ?_ 1 _ rfl; (with_reducible repeat (first | refine blk_drewN ?_ _ | refine blk_drew ?_ | refine blk_alloc ?_ _)); refine blk_put (cs := #[.bool false, .slice none 0 0]) ?_ 0 _ rfl; (with_reducible repeat (first | refine blk_drewN ?_ _ | refine blk_drew ?_ | refine blk_alloc ?_ _)); exact BK803.out) Try.underlying25 rfl (by kernel_rfl)) rfl ?_
 exact ⟨_, by rfl, by (with_reducible repeat (first | apply Kd.R_alloc | apply Kd.R_drewN | apply Kd.R_drew)); exact Kd.R_mono (Kd.R_far (p := ⟨gb803, 1, none⟩) (Kd.R_far (p := ⟨gb803, 0, none⟩) (Kd.R_types HO814.out BK803.out (by decide)) (fun _ hk => hk.2) (.bool t811)) (fun _ hk => hk.2) (.slice Ao16 t812.length co16)) (fun _ hk => trivial), by repeat (first | (with_reducible first | exact HB.out | apply below_alloc | apply pw_below_drewN | apply below_drew1 | refine below_set ?_ GE801.out | refine below_set ?_ GE802.out | refine below_set ?_ GE803.out) | exact HB.out)⟩

theorem rat_over.ev {m m' : Bool} {l1 l2 k1 k2 : List Int} {a b : Rat} {K J : Nat} (ha : Qn.Is m l1 l2 a K) (hb : Qn.Is m' k1 k2 b J) (hJ1 : 1 ≤ J) (hK : K + J < 400000) : Ev (fun k => rat_over.f k m l1 l2 m' k1 k2) (Zn.zd (Zn.zv m (Num.nv l1) * ((Qn.dn (Num.nv k2) : Nat) : Int))) := by
 have lb := hb.len
 have Lb := Qn.len_dl lb hJ1
 have I : Zn.Is false (Qn.dl k2) ((Qn.dn (Num.nv k2) : Nat) : Int) J := ⟨Qn.ws_dl hb.ws, Lb, by rw [Qn.nv_dl]; rfl⟩
 unfold rat_over.f
 exact Ev.bind (rat_den.ev hb.ws (by omega)) (Ev.bind (whole_Make.ev I (by omega)) (Ev.bind (whole_Mul.ev ha.num (Zn.Is.zd I.lt) (by omega)) (Ev.now _)))
/-! ### rat_Add: function 28 -/
def rat_Add.f (k : Nat) (a0_0 : Bool) (l0_1 : List Int) (l0_2 : List Int) (a1_0 : Bool) (l1_1 : List Int) (l1_2 : List Int) : Option (Bool × List Int × List Int) := (rat_over.f k a0_0 l0_1 l0_2 a1_0 l1_1 l1_2).bind fun bt818 => ((rat_over.f k a1_0 l1_1 l1_2 a0_0 l0_1 l0_2).bind fun bt822 => ((whole_Add.f k bt818.1 bt818.2 bt822.1 bt822.2).bind fun bt826 => ((rat_den.f k a0_0 l0_1 l0_2).bind fun t830 => ((rat_den.f k a1_0 l1_1 l1_2).bind fun t833 => ((nat_Mul.f k t830 t833).bind fun t836 => ((rat_Make.f k bt826.1 bt826.2 t836).bind fun bt839 => (some (bt839.1, bt839.2.1, bt839.2.2))))))))
def rat_Add.T1 : Bool × List (List Nat × List Nat) := (true, [([], []), ([], []), ([0, 1], [0, 1]), ([], []), ([], []), ([3, 4, 2], [3, 4]), ([2, 5, 5], [2, 5]), ([], []), ([7, 6], [7]), ([], []), ([9, 8], [9]), ([8, 10, 10], [8, 10]), ([6, 11, 11], [6, 11]), ([12, 12, 0, 1, 2, 3, 4, 5, 6, 7, 8, 9, 10, 11, 12], [12])])
def rat_Add.B1 : List Nat := [0, 0, 3, 0, 0, 31, 63, 0, 255, 0, 1023, 2047, 4095, 8191]
theorem rat_Add.tab1 : rtab .any (opsOf Try.f28 1) = rat_Add.T1 := by kernel_rfl
theorem rat_Add.bits1 : waitsOk rat_Add.T1.2 rat_Add.B1 = true := by kernel_rfl
set_option maxHeartbeats 8000000 in
set_option maxRecDepth 100000 in
theorem rat_Add.calls (k : Nat) (a0_0 : Bool) (A0_1 : Option Addr) (c0_1 : Nat) (l0_1 : List Int) (A0_2 : Option Addr) (c0_2 : Nat) (l0_2 : List Int) (a1_0 : Bool) (A1_1 : Option Addr) (c1_1 : Nat) (l1_1 : List Int) (A1_2 : Option Addr) (c1_2 : Nat) (l1_2 : List Int) (r1 : Bool) (r2 : List Int) (r3 : List Int) (w : World) (hr0_1 : Kd.C (Kd.int .u32) w A0_1 l0_1.length l0_1) (hc0_1 : l0_1.length ≤ c0_1) (hr0_2 : Kd.C (Kd.int .u32) w A0_2 l0_2.length l0_2) (hc0_2 : l0_2.length ≤ c0_2) (hr1_1 : Kd.C (Kd.int .u32) w A1_1 l1_1.length l1_1) (hc1_1 : l1_1.length ≤ c1_1) (hr1_2 : Kd.C (Kd.int .u32) w A1_2 l1_2.length l1_2) (hc1_2 : l1_2.length ≤ c1_2) (h : rat_Add.f k a0_0 l0_1 l0_2 a1_0 l1_1 l1_2 = some (r1, r2, r3)) :
  Calls Try.prog 28 #[.agg #[.bool a0_0, .slice A0_1 l0_1.length c0_1, .slice A0_2 l0_2.length c0_2], .agg #[.bool a1_0, .slice A1_1 l1_1.length c1_1, .slice A1_2 l1_2.length c1_2]] w fun e w' => ∃ v1_ v2_ : Value, e = .returned (.agg #[.bool r1, v1_, v2_]) ∧ Kd.R (Kd.int .u32) 89 w' w.heap.size (fun k_ => some k_ ≠ (v2_ : Value).ownBlock) v1_ r2 ∧ Kd.R (Kd.int .u32) 89 w' w.heap.size (fun k_ => some k_ ≠ (v1_ : Value).ownBlock) v2_ r3 ∧ Below w.heap.size w w' := by
 have hu27 := Try.underlying27
 have HR0_1 := Aside0.mk hr0_1
 have HC0_1 := Aside0.mk hc0_1
 clear hr0_1 hc0_1
 have HR0_2 := Aside0.mk hr0_2
 have HC0_2 := Aside0.mk hc0_2
 clear hr0_2 hc0_2
 have HR1_1 := Aside0.mk hr1_1
 have HC1_1 := Aside0.mk hc1_1
 clear hr1_1 hc1_1
 have HR1_2 := Aside0.mk hr1_2
 have HC1_2 := Aside0.mk hc1_2
 clear hr1_2 hc1_2
 have HB := Aside0.mk (Below.refl w.heap.size w)
 have H : ((rat_over.f k a0_0 l0_1 l0_2 a1_0 l1_1 l1_2).bind fun bt818 => ((rat_over.f k a1_0 l1_1 l1_2 a0_0 l0_1 l0_2).bind fun bt822 => ((whole_Add.f k bt818.1 bt818.2 bt822.1 bt822.2).bind fun bt826 => ((rat_den.f k a0_0 l0_1 l0_2).bind fun t830 => ((rat_den.f k a1_0 l1_1 l1_2).bind fun t833 => ((nat_Mul.f k t830 t833).bind fun t836 => ((rat_Make.f k bt826.1 bt826.2 t836).bind fun bt839 => (some (bt839.1, bt839.2.1, bt839.2.2))))))))) = some (r1, r2, r3) := h
 clear h
 replace H := Option.bind_eq_some_iff.mp H
 obtain ⟨⟨t818, t819⟩, A30, H⟩ := H
 try dsimp only at H
 have A3 := Aside0.mk A30
 clear A30
 replace H := Option.bind_eq_some_iff.mp H
 obtain ⟨⟨t822, t823⟩, A40, H⟩ := H
 try dsimp only at H
 have A4 := Aside0.mk A40
 clear A40
 replace H := Option.bind_eq_some_iff.mp H
 obtain ⟨⟨t826, t827⟩, A50, H⟩ := H
 try dsimp only at H
 have A5 := Aside0.mk A50
 clear A50
 replace H := Option.bind_eq_some_iff.mp H
 obtain ⟨t830, A60, H⟩ := H
 try dsimp only at H
 have A6 := Aside0.mk A60
 clear A60
 replace H := Option.bind_eq_some_iff.mp H
 obtain ⟨t833, A70, H⟩ := H
 try dsimp only at H
 have A7 := Aside0.mk A70
 clear A70
 replace H := Option.bind_eq_some_iff.mp H
 obtain ⟨t836, A80, H⟩ := H
 try dsimp only at H
 have A8 := Aside0.mk A80
 clear A80
 replace H := Option.bind_eq_some_iff.mp H
 obtain ⟨⟨t839, t840, t843⟩, A90, H⟩ := H
 replace H : (some (t839, t840, t843)) = some (r1, r2, r3) := H
 have A9 := Aside0.mk A90
 clear A90
 simp only [Option.some.injEq, Prod.mk.injEq] at H
 obtain ⟨rfl, rfl, rfl⟩ := H
 go_enter Try.func28, Try.ntmps28
 try go_wp2_with (first | ((with_reducible refine gate_dst (N := 2) rfl ?_); refine Short.boxS_ (N := 2) (cs := #[.bool a0_0, .slice A0_1 l0_1.length c0_1, .slice A0_2 l0_2.length c0_2]) (t := 27) ?_; intro gb815 hg w10 hbox hb; have BK815 := Aside0.mk (hbox); have GW815 := Aside0.mk ((by rw [hg]; exact (below_size (by repeat (first | (with_reducible first | exact HB.out | apply below_alloc | apply pw_below_drewN | apply below_drew1) | exact HB.out))) : w.heap.size ≤ gb815)); have GE815 := Aside0.mk ((by rw [hg]; exact (below_size (by repeat (first | (with_reducible first | exact HB.out | apply below_alloc | apply pw_below_drewN | apply below_drew1) | exact HB.out))) : w.heap.size ≤ gb815)); replace HB := Aside0.mk (below_step (by repeat (first | (with_reducible first | exact HB.out | apply below_alloc | apply pw_below_drewN | apply below_drew1) | exact HB.out)) hb); clear hb hbox hg) | ((with_reducible refine gate_dst (N := 3) rfl ?_); refine Short.boxS_ (N := 3) (cs := #[.bool a1_0, .slice A1_1 l1_1.length c1_1, .slice A1_2 l1_2.length c1_2]) (t := 27) ?_; intro gb816 hg w11 hbox hb; have BK816 := Aside0.mk (hbox); have GW816 := Aside0.mk ((by rw [hg]; exact (below_size HB.out) : w.heap.size ≤ gb816)); have GE816 := Aside0.mk ((by rw [hg]; exact (below_size HB.out) : w.heap.size ≤ gb816)); replace HB := Aside0.mk (below_step HB.out hb); have NB815_816 := Short.ltA_ hg BK815; have NB816_815 := Short.gtA_ hg BK815; replace BK815 := Aside0.mk (blk_below BK815.out hb); clear hb hbox hg) | ((with_reducible refine gate_dst (N := 4) rfl ?_); refine Short.boxS_ (N := 4) (cs := #[.bool false, .slice none 0 0, .slice none 0 0]) (t := 27) ?_; intro gb817 hg w12 hbox hb; have BK817 := Aside0.mk (hbox); have GW817 := Aside0.mk ((by rw [hg]; exact (below_size HB.out) : w.heap.size ≤ gb817)); have GE817 := Aside0.mk ((by rw [hg]; exact (below_size HB.out) : w.heap.size ≤ gb817)); replace HB := Aside0.mk (below_step HB.out hb); have NB815_817 := Short.ltA_ hg BK815; have NB817_815 := Short.gtA_ hg BK815; replace BK815 := Aside0.mk (blk_below BK815.out hb); have NB816_817 := Short.ltA_ hg BK816; have NB817_816 := Short.gtA_ hg BK816; replace BK816 := Aside0.mk (blk_below BK816.out hb); clear hb hbox hg))
 replace BK815 := Aside0.mk (blk_drew BK815.out)
 replace BK816 := Aside0.mk (blk_drew BK816.out)
 replace BK817 := Aside0.mk (blk_drew BK817.out)
 replace HB := Aside0.mk (below_drew1 HB.out)
 refine start_ (n := 14) (S := fun w' => w'.cell? ⟨gb815, 0, none⟩ = some (.bool a0_0) ∧ w'.cell? ⟨gb815, 1, none⟩ = some (.slice A0_1 l0_1.length c0_1) ∧ w'.cell? ⟨gb815, 2, none⟩ = some (.slice A0_2 l0_2.length c0_2) ∧ w'.cell? ⟨gb816, 0, none⟩ = some (.bool a1_0) ∧ w'.cell? ⟨gb816, 1, none⟩ = some (.slice A1_1 l1_1.length c1_1) ∧ w'.cell? ⟨gb816, 2, none⟩ = some (.slice A1_2 l1_2.length c1_2)) (ds := []) #[false, false, false, false, false, false, false, false, false, false, false, false, false, false] (by kernel_rfl) rfl rfl ⟨(blk_cell BK815.out 0).trans rfl, (blk_cell BK815.out 1).trans rfl, (blk_cell BK815.out 2).trans rfl, (blk_cell BK816.out 0).trans rfl, (blk_cell BK816.out 1).trans rfl, (blk_cell BK816.out 2).trans rfl⟩ (fun hHeld => ?_); refine with_tabW rat_Add.tab1 rat_Add.bits1 (fun HT_ HW_ => ?_)
 generalize w12.drew = w13 at BK815 BK816 BK817 HB hHeld ⊢
 refine Short.takeS_ (i := 0) (N := some 5) #[true, false, false, false, false, false, false, false, false, false, false, false, false, false] (take_ofW HT_.out HW_.out (by kernel_rfl)) hHeld ?_
 refine Short.takeS_ (i := 1) (N := some 6) #[true, true, false, false, false, false, false, false, false, false, false, false, false, false] (take_ofW HT_.out HW_.out (by kernel_rfl)) hHeld ?_
 refine Short.takeS_ (i := 3) (N := some 8) #[true, true, false, true, false, false, false, false, false, false, false, false, false, false] (take_ofW HT_.out HW_.out (by kernel_rfl)) hHeld ?_
 refine Short.takeS_ (i := 4) (N := some 9) #[true, true, false, true, true, false, false, false, false, false, false, false, false, false] (take_ofW HT_.out HW_.out (by kernel_rfl)) hHeld ?_
 refine Short.takeS_ (i := 7) (N := some 12) #[true, true, false, true, true, false, false, true, false, false, false, false, false, false] (take_ofW HT_.out HW_.out (by kernel_rfl)) hHeld ?_
 refine Short.takeS_ (i := 9) (N := some 14) #[true, true, false, true, true, false, false, true, false, true, false, false, false, false] (take_ofW HT_.out HW_.out (by kernel_rfl)) hHeld ?_
 refine one_ (i := 2) (N := some 7) #[true, true, true, true, true, false, false, true, false, true, false, false, false, false] rfl rfl (one_of HT_.out (by kernel_rfl)) (by decide) (fun K hK => ?_)
 refine Short.goesD_ Try.func65 #[.agg #[.bool a0_0, .slice A0_1 l0_1.length c0_1, .slice A0_2 l0_2.length c0_2], .agg #[.bool a1_0, .slice A1_1 l1_1.length c1_1, .slice A1_2 l1_2.length c1_2]] ?_
 with_reducible refine (rat_over.calls k a0_0 _ _ l0_1 _ _ l0_2 a1_0 _ _ l1_1 _ _ l1_2 t818 t819 _ (Kd.C_below HR0_1.out HB.out) HC0_1.out (Kd.C_below HR0_2.out HB.out) HC0_2.out (Kd.C_below HR1_1.out HB.out) HC1_1.out (Kd.C_below HR1_2.out HB.out) HC1_2.out A3.out).mono ?_
 rintro e w14 ⟨v820, rfl, ho0, hb⟩
 refine ⟨_, rfl, ?_⟩
 have HO821 := Aside0.mk (Kd.R_lower ho0 (below_size HB.out))
 replace BK815 := Aside0.mk (blk_below BK815.out hb)
 replace BK816 := Aside0.mk (blk_below BK816.out hb)
 replace BK817 := Aside0.mk (blk_below BK817.out hb)
 replace HB := Aside0.mk (below_step HB.out hb)
 (try clear hb)
 (try clear ho0)
 refine hK.out _ _ ⟨(blk_cell BK815.out 0).trans rfl, (blk_cell BK815.out 1).trans rfl, (blk_cell BK815.out 2).trans rfl, (blk_cell BK816.out 0).trans rfl, (blk_cell BK816.out 1).trans rfl, (blk_cell BK816.out 2).trans rfl⟩ (fun hHeld => ?_)
 clear hK K
 refine Short.normS_ ?_
 refine one_ (i := 5) (N := some 10) #[true, true, true, true, true, true, false, true, false, true, false, false, false, false] rfl rfl (one_of HT_.out (by kernel_rfl)) (by decide) (fun K hK => ?_)
 refine Short.goesD_ Try.func65 #[.agg #[.bool a1_0, .slice A1_1 l1_1.length c1_1, .slice A1_2 l1_2.length c1_2], .agg #[.bool a0_0, .slice A0_1 l0_1.length c0_1, .slice A0_2 l0_2.length c0_2]] ?_
 with_reducible refine (rat_over.calls k a1_0 _ _ l1_1 _ _ l1_2 a0_0 _ _ l0_1 _ _ l0_2 t822 t823 _ (Kd.C_below HR1_1.out HB.out) HC1_1.out (Kd.C_below HR1_2.out HB.out) HC1_2.out (Kd.C_below HR0_1.out HB.out) HC0_1.out (Kd.C_below HR0_2.out HB.out) HC0_2.out A4.out).mono ?_
 rintro e w15 ⟨v824, rfl, ho0, hb⟩
 refine ⟨_, rfl, ?_⟩
 have HO825 := Aside0.mk (Kd.R_lower (Kd.R_new' ho0 (Kd.R_lt HO821.out)) (below_size HB.out))
 replace HO821 := Aside0.mk (Kd.R_elder' HO821.out (Kd.R_base ho0) hb)
 replace BK815 := Aside0.mk (blk_below BK815.out hb)
 replace BK816 := Aside0.mk (blk_below BK816.out hb)
 replace BK817 := Aside0.mk (blk_below BK817.out hb)
 replace HB := Aside0.mk (below_step HB.out hb)
 (try clear hb)
 (try clear ho0)
 obtain ⟨Ao16, co16, eo16⟩ := Kd.R_slice HO821.out
 (first | subst eo16 | (injection eo16 with f1_ f2_ f3_; have f4_ := f1_.symm; have f5_ := f3_.symm; clear f1_ f2_ f3_; subst f4_; subst f5_))
 obtain ⟨Ao17, co17, eo17⟩ := Kd.R_slice HO825.out
 (first | subst eo17 | (injection eo17 with f1_ f2_ f3_; have f4_ := f1_.symm; have f5_ := f3_.symm; clear f1_ f2_ f3_; subst f4_; subst f5_))
 refine hK.out _ _ ⟨(blk_cell BK815.out 0).trans rfl, (blk_cell BK815.out 1).trans rfl, (blk_cell BK815.out 2).trans rfl, (blk_cell BK816.out 0).trans rfl, (blk_cell BK816.out 1).trans rfl, (blk_cell BK816.out 2).trans rfl⟩ (fun hHeld => ?_)
 clear hK K
 refine Short.normS_ ?_
 refine one_ (i := 6) (N := some 11) #[true, true, true, true, true, true, true, true, false, true, false, false, false, false] rfl rfl (one_of HT_.out (by kernel_rfl)) (by decide) (fun K hK => ?_)
 refine Short.goesD_ Try.func64 #[.agg #[.bool t818, .slice Ao16 t819.length co16], .agg #[.bool t822, .slice Ao17 t823.length co17]] ?_
 with_reducible refine (whole_Add.calls k t818 _ _ t819 t822 _ _ t823 t826 t827 _ ((Kd.R_reads' HO821.out).2.2) ((Kd.R_reads' HO821.out).2.1) ((Kd.R_reads' HO825.out).2.2) ((Kd.R_reads' HO825.out).2.1) A5.out).mono ?_
 rintro e w18 ⟨v828, rfl, ho0, hb⟩
 refine ⟨_, rfl, ?_⟩
 have HO829 := Aside0.mk (Kd.R_lower (Kd.R_new' (Kd.R_new' ho0 (Kd.R_lt HO821.out)) (Kd.R_lt HO825.out)) (below_size HB.out))
 replace HO821 := Aside0.mk (Kd.R_elder' HO821.out (Kd.R_base ho0) hb)
 replace HO825 := Aside0.mk (Kd.R_elder' HO825.out (Kd.R_base ho0) hb)
 replace BK815 := Aside0.mk (blk_below BK815.out hb)
 replace BK816 := Aside0.mk (blk_below BK816.out hb)
 replace BK817 := Aside0.mk (blk_below BK817.out hb)
 replace HB := Aside0.mk (below_step HB.out hb)
 (try clear hb)
 (try clear ho0)
 refine hK.out _ _ ⟨(blk_cell BK815.out 0).trans rfl, (blk_cell BK815.out 1).trans rfl, (blk_cell BK815.out 2).trans rfl, (blk_cell BK816.out 0).trans rfl, (blk_cell BK816.out 1).trans rfl, (blk_cell BK816.out 2).trans rfl⟩ (fun hHeld => ?_)
 clear hK K
 refine Short.normS_ ?_
 refine one_ (i := 8) (N := some 13) #[true, true, true, true, true, true, true, true, true, true, false, false, false, false] rfl rfl (one_of HT_.out (by kernel_rfl)) (by decide) (fun K hK => ?_)
 refine Short.goesD_ Try.func46 #[.agg #[.bool a0_0, .slice A0_1 l0_1.length c0_1, .slice A0_2 l0_2.length c0_2]] ?_
 with_reducible refine (rat_den.calls k a0_0 _ _ l0_1 (fun k_ => k_ < w.heap.size) _ _ l0_2 t830 _ (Kd.C_below HR0_1.out HB.out) HC0_1.out ?side3 A6.out).mono ?_
 (case side3 => exact Kd.V_mk HC0_2.out (Kd.F_below (Kd.C_F (Kd.heap_int .u32) HR0_2.out) HB.out))
 rintro e w19 ⟨v831, rfl, ho0, hb⟩
 refine ⟨_, rfl, ?_⟩
 have HO832 := Aside0.mk (Kd.V_lower (Kd.V_mono (ok' := fun k_ => some k_ ≠ (.slice Ao16 t819.length co16 : Value).ownBlock ∧ some k_ ≠ (.slice Ao17 t823.length co17 : Value).ownBlock ∧ some k_ ≠ (v828 : Value).ownBlock ∧ k_ ≠ gb815 ∧ k_ ≠ gb816 ∧ k_ ≠ gb817) ho0 (fun k_ hk_ => ⟨Or.elim hk_ (fun hs_ => fun e_ => Nat.not_le.2 hs_ (Kd.R_base HO821.out k_ e_.symm)) (fun hn_ => (Kd.fresh' (Kd.R_lt HO821.out) k_ hn_)), Or.elim hk_ (fun hs_ => fun e_ => Nat.not_le.2 hs_ (Kd.R_base HO825.out k_ e_.symm)) (fun hn_ => (Kd.fresh' (Kd.R_lt HO825.out) k_ hn_)), Or.elim hk_ (fun hs_ => fun e_ => Nat.not_le.2 hs_ (Kd.R_base HO829.out k_ e_.symm)) (fun hn_ => (Kd.fresh' (Kd.R_lt HO829.out) k_ hn_)), Or.elim hk_ (fun hs_ => fun e_ => Nat.not_le.2 hs_ (by rw [e_]; exact GW815.out)) (fun hn_ => (Kd.freshB (g := gb815) (o := .cells #[.bool a0_0, .slice A0_1 l0_1.length c0_1, .slice A0_2 l0_2.length c0_2] 27 (0, 0)) BK815.out k_ hn_)), Or.elim hk_ (fun hs_ => fun e_ => Nat.not_le.2 hs_ (by rw [e_]; exact GW816.out)) (fun hn_ => (Kd.freshB (g := gb816) (o := .cells #[.bool a1_0, .slice A1_1 l1_1.length c1_1, .slice A1_2 l1_2.length c1_2] 27 (0, 0)) BK816.out k_ hn_)), Or.elim hk_ (fun hs_ => fun e_ => Nat.not_le.2 hs_ (by rw [e_]; exact GW817.out)) (fun hn_ => (Kd.freshB (g := gb817) (o := .cells #[.bool false, .slice none 0 0, .slice none 0 0] 27 (0, 0)) BK817.out k_ hn_))⟩)) (below_size HB.out))
 replace HO821 := Aside0.mk (Kd.R_below HO821.out hb)
 replace HO825 := Aside0.mk (Kd.R_below HO825.out hb)
 replace HO829 := Aside0.mk (Kd.R_below HO829.out hb)
 replace BK815 := Aside0.mk (blk_below BK815.out hb)
 replace BK816 := Aside0.mk (blk_below BK816.out hb)
 replace BK817 := Aside0.mk (blk_below BK817.out hb)
 replace HB := Aside0.mk (below_step HB.out hb)
 (try clear hb)
 (try clear ho0)
 refine hK.out _ _ ⟨(blk_cell BK815.out 0).trans rfl, (blk_cell BK815.out 1).trans rfl, (blk_cell BK815.out 2).trans rfl, (blk_cell BK816.out 0).trans rfl, (blk_cell BK816.out 1).trans rfl, (blk_cell BK816.out 2).trans rfl⟩ (fun hHeld => ?_)
 clear hK K
 refine Short.normS_ ?_
 refine one_ (i := 10) (N := some 15) #[true, true, true, true, true, true, true, true, true, true, true, false, false, false] rfl rfl (one_of HT_.out (by kernel_rfl)) (by decide) (fun K hK => ?_)
 refine Short.goesD_ Try.func46 #[.agg #[.bool a1_0, .slice A1_1 l1_1.length c1_1, .slice A1_2 l1_2.length c1_2]] ?_
 with_reducible refine (rat_den.calls k a1_0 _ _ l1_1 (fun k_ => k_ < w.heap.size) _ _ l1_2 t833 _ (Kd.C_below HR1_1.out HB.out) HC1_1.out ?side3 A7.out).mono ?_
 (case side3 => exact Kd.V_mk HC1_2.out (Kd.F_below (Kd.C_F (Kd.heap_int .u32) HR1_2.out) HB.out))
 rintro e w20 ⟨v834, rfl, ho0, hb⟩
 refine ⟨_, rfl, ?_⟩
 replace HO832 := Aside0.mk (Kd.V_below HO832.out hb)
 have HO835 := Aside0.mk (Kd.V_lower (Kd.V_mono (ok' := fun k_ => some k_ ≠ (.slice Ao16 t819.length co16 : Value).ownBlock ∧ some k_ ≠ (.slice Ao17 t823.length co17 : Value).ownBlock ∧ some k_ ≠ (v828 : Value).ownBlock ∧ k_ ≠ gb815 ∧ k_ ≠ gb816 ∧ k_ ≠ gb817) ho0 (fun k_ hk_ => ⟨Or.elim hk_ (fun hs_ => fun e_ => Nat.not_le.2 hs_ (Kd.R_base HO821.out k_ e_.symm)) (fun hn_ => (Kd.fresh' (Kd.R_lt HO821.out) k_ hn_)), Or.elim hk_ (fun hs_ => fun e_ => Nat.not_le.2 hs_ (Kd.R_base HO825.out k_ e_.symm)) (fun hn_ => (Kd.fresh' (Kd.R_lt HO825.out) k_ hn_)), Or.elim hk_ (fun hs_ => fun e_ => Nat.not_le.2 hs_ (Kd.R_base HO829.out k_ e_.symm)) (fun hn_ => (Kd.fresh' (Kd.R_lt HO829.out) k_ hn_)), Or.elim hk_ (fun hs_ => fun e_ => Nat.not_le.2 hs_ (by rw [e_]; exact GW815.out)) (fun hn_ => (Kd.freshB (g := gb815) (o := .cells #[.bool a0_0, .slice A0_1 l0_1.length c0_1, .slice A0_2 l0_2.length c0_2] 27 (0, 0)) BK815.out k_ hn_)), Or.elim hk_ (fun hs_ => fun e_ => Nat.not_le.2 hs_ (by rw [e_]; exact GW816.out)) (fun hn_ => (Kd.freshB (g := gb816) (o := .cells #[.bool a1_0, .slice A1_1 l1_1.length c1_1, .slice A1_2 l1_2.length c1_2] 27 (0, 0)) BK816.out k_ hn_)), Or.elim hk_ (fun hs_ => fun e_ => Nat.not_le.2 hs_ (by rw [e_]; exact GW817.out)) (fun hn_ => (Kd.freshB (g := gb817) (o := .cells #[.bool false, .slice none 0 0, .slice none 0 0] 27 (0, 0)) BK817.out k_ hn_))⟩)) (below_size HB.out))
 replace HO821 := Aside0.mk (Kd.R_below HO821.out hb)
 replace HO825 := Aside0.mk (Kd.R_below HO825.out hb)
 replace HO829 := Aside0.mk (Kd.R_below HO829.out hb)
 replace BK815 := Aside0.mk (blk_below BK815.out hb)
 replace BK816 := Aside0.mk (blk_below BK816.out hb)
 replace BK817 := Aside0.mk (blk_below BK817.out hb)
 replace HB := Aside0.mk (below_step HB.out hb)
 (try clear hb)
 (try clear ho0)
 obtain ⟨Ao21, co21, eo21⟩ := Kd.V_slice HO832.out
 (first | subst eo21 | (injection eo21 with f1_ f2_ f3_; have f4_ := f1_.symm; have f5_ := f3_.symm; clear f1_ f2_ f3_; subst f4_; subst f5_))
 obtain ⟨Ao22, co22, eo22⟩ := Kd.V_slice HO835.out
 (first | subst eo22 | (injection eo22 with f1_ f2_ f3_; have f4_ := f1_.symm; have f5_ := f3_.symm; clear f1_ f2_ f3_; subst f4_; subst f5_))
 refine hK.out _ _ ⟨(blk_cell BK815.out 0).trans rfl, (blk_cell BK815.out 1).trans rfl, (blk_cell BK815.out 2).trans rfl, (blk_cell BK816.out 0).trans rfl, (blk_cell BK816.out 1).trans rfl, (blk_cell BK816.out 2).trans rfl⟩ (fun hHeld => ?_)
 clear hK K
 refine Short.normS_ ?_
 refine one_ (i := 11) (N := some 16) #[true, true, true, true, true, true, true, true, true, true, true, true, false, false] rfl rfl (one_of HT_.out (by kernel_rfl)) (by decide) (fun K hK => ?_)
 refine Short.goesD_ Try.func66 #[.slice Ao21 t830.length co21, .slice Ao22 t833.length co22] ?_
 with_reducible refine (nat_Mul.calls k _ _ t830 _ _ t833 t836 _ ((Kd.V_reads' HO832.out).2.2) ((Kd.V_reads' HO832.out).2.1) ((Kd.V_reads' HO835.out).2.2) ((Kd.V_reads' HO835.out).2.1) A8.out).mono ?_
 rintro e w23 ⟨v837, rfl, ho0, hb⟩
 refine ⟨_, rfl, ?_⟩
 replace HO832 := Aside0.mk (Kd.V_elder' HO832.out (Kd.R_base ho0) hb)
 replace HO835 := Aside0.mk (Kd.V_elder' HO835.out (Kd.R_base ho0) hb)
 have HO838 := Aside0.mk (Kd.R_lower (Kd.R_new' (Kd.R_new' (Kd.R_new' ho0 (Kd.R_lt HO821.out)) (Kd.R_lt HO825.out)) (Kd.R_lt HO829.out)) (below_size HB.out))
 replace HO821 := Aside0.mk (Kd.R_elder' HO821.out (Kd.R_base ho0) hb)
 replace HO825 := Aside0.mk (Kd.R_elder' HO825.out (Kd.R_base ho0) hb)
 replace HO829 := Aside0.mk (Kd.R_elder' HO829.out (Kd.R_base ho0) hb)
 replace BK815 := Aside0.mk (blk_below BK815.out hb)
 replace BK816 := Aside0.mk (blk_below BK816.out hb)
 replace BK817 := Aside0.mk (blk_below BK817.out hb)
 replace HB := Aside0.mk (below_step HB.out hb)
 (try clear hb)
 (try clear ho0)
 obtain ⟨Ao24, co24, eo24⟩ := Kd.R_slice HO829.out
 (first | subst eo24 | (injection eo24 with f1_ f2_ f3_; have f4_ := f1_.symm; have f5_ := f3_.symm; clear f1_ f2_ f3_; subst f4_; subst f5_))
 obtain ⟨Ao25, co25, eo25⟩ := Kd.R_slice HO838.out
 (first | subst eo25 | (injection eo25 with f1_ f2_ f3_; have f4_ := f1_.symm; have f5_ := f3_.symm; clear f1_ f2_ f3_; subst f4_; subst f5_))
 refine hK.out _ _ ⟨(blk_cell BK815.out 0).trans rfl, (blk_cell BK815.out 1).trans rfl, (blk_cell BK815.out 2).trans rfl, (blk_cell BK816.out 0).trans rfl, (blk_cell BK816.out 1).trans rfl, (blk_cell BK816.out 2).trans rfl⟩ (fun hHeld => ?_)
 clear hK K
 refine Short.normS_ ?_
 refine one_ (i := 12) (N := some 17) #[true, true, true, true, true, true, true, true, true, true, true, true, true, false] rfl rfl (one_of HT_.out (by kernel_rfl)) (by decide) (fun K hK => ?_)
 refine Short.goesD_ Try.func36 #[.agg #[.bool t826, .slice Ao24 t827.length co24], .slice Ao25 t836.length co25] ?_
 with_reducible refine (rat_Make.calls k t826 _ _ t827 _ _ t836 t839 t840 t843 _ ((Kd.R_reads' HO829.out).2.2) ((Kd.R_reads' HO829.out).2.1) ((Kd.R_reads' HO838.out).2.2) ((Kd.R_reads' HO838.out).2.1) A9.out).mono ?_
 rintro e w26 ⟨v841, v844, rfl, ho0, ho1, hb⟩
 refine ⟨_, rfl, ?_⟩
 replace HO832 := Aside0.mk (Kd.V_mono (Kd.V_told (Kd.V_told (Kd.V_old HO832.out hb) (Kd.R_base ho0)) (Kd.R_base ho1)) (fun _ h_ => h_.1))
 replace HO835 := Aside0.mk (Kd.V_mono (Kd.V_told (Kd.V_told (Kd.V_old HO835.out hb) (Kd.R_base ho0)) (Kd.R_base ho1)) (fun _ h_ => h_.1))
 have HO842 := Aside0.mk (Kd.R_lower (Kd.R_new' (Kd.R_new' (Kd.R_new' (Kd.R_new' ho0 (Kd.R_lt HO821.out)) (Kd.R_lt HO825.out)) (Kd.R_lt HO829.out)) (Kd.R_lt HO838.out)) (below_size HB.out))
 have HO845 := Aside0.mk (Kd.R_lower (Kd.R_new' (Kd.R_new' (Kd.R_new' (Kd.R_new' ho1 (Kd.R_lt HO821.out)) (Kd.R_lt HO825.out)) (Kd.R_lt HO829.out)) (Kd.R_lt HO838.out)) (below_size HB.out))
 replace HO821 := Aside0.mk (Kd.R_mono (Kd.R_told (Kd.R_told (Kd.R_old HO821.out hb) (Kd.R_base ho0)) (Kd.R_base ho1)) (fun _ h_ => h_.1))
 replace HO825 := Aside0.mk (Kd.R_mono (Kd.R_told (Kd.R_told (Kd.R_old HO825.out hb) (Kd.R_base ho0)) (Kd.R_base ho1)) (fun _ h_ => h_.1))
 replace HO829 := Aside0.mk (Kd.R_mono (Kd.R_told (Kd.R_told (Kd.R_old HO829.out hb) (Kd.R_base ho0)) (Kd.R_base ho1)) (fun _ h_ => h_.1))
 replace HO838 := Aside0.mk (Kd.R_mono (Kd.R_told (Kd.R_told (Kd.R_old HO838.out hb) (Kd.R_base ho0)) (Kd.R_base ho1)) (fun _ h_ => h_.1))
 replace BK815 := Aside0.mk (blk_below BK815.out hb)
 replace BK816 := Aside0.mk (blk_below BK816.out hb)
 replace BK817 := Aside0.mk (blk_below BK817.out hb)
 replace HB := Aside0.mk (below_step HB.out hb)
 (try clear hb)
 (try clear ho0)
 (try clear ho1)
 obtain ⟨Ao28, co28, eo28⟩ := Kd.R_slice HO842.out
 (first | subst eo28 | (injection eo28 with f1_ f2_ f3_; have f4_ := f1_.symm; have f5_ := f3_.symm; clear f1_ f2_ f3_; subst f4_; subst f5_))
 obtain ⟨Ao30, co30, eo30⟩ := Kd.R_slice HO845.out
 (first | subst eo30 | (injection eo30 with f1_ f2_ f3_; have f4_ := f1_.symm; have f5_ := f3_.symm; clear f1_ f2_ f3_; subst f4_; subst f5_))
 refine hK.out _ _ ⟨(blk_cell BK815.out 0).trans rfl, (blk_cell BK815.out 1).trans rfl, (blk_cell BK815.out 2).trans rfl, (blk_cell BK816.out 0).trans rfl, (blk_cell BK816.out 1).trans rfl, (blk_cell BK816.out 2).trans rfl⟩ (fun hHeld => ?_)
 clear hK K
 refine Short.normS_ ?_
 refine one_ (i := 13) (N := none) #[true, true, true, true, true, true, true, true, true, true, true, true, true, true] rfl rfl (one_of HT_.out (by kernel_rfl)) (by decide) (fun K hK => ?_)
 have hs27 : w26.cell? ⟨gb817, 0, none⟩ = some (.bool false) := (blk_cell BK817.out 0).trans rfl
 have hfs27 := blk_frozen BK817.out 0
 have hns27_0 := NB815_817.out
 have hns27_1 := NB816_817.out
 have hms27_0 := NB817_815.out
 have hms27_1 := NB817_816.out
 have hs29 : w26.cell? ⟨gb817, 1, none⟩ = some (.slice none 0 0) := (blk_cell BK817.out 1).trans rfl
 have hfs29 := blk_frozen BK817.out 1
 have hns29_0 := NB815_817.out
 have hns29_1 := NB816_817.out
 have hms29_0 := NB817_815.out
 have hms29_1 := NB817_816.out
 have hs31 : w26.cell? ⟨gb817, 2, none⟩ = some (.slice none 0 0) := (blk_cell BK817.out 2).trans rfl
 have hfs31 := blk_frozen BK817.out 2
 have hns31_0 := NB815_817.out
 have hns31_1 := NB816_817.out
 have hms31_0 := NB817_815.out
 have hms31_1 := NB817_816.out
 refine skip_ (w1 := ?_) (by rfl) rfl ?_ ?_
 rotate_left
 ·go_simp
  rfl
 refine hK.out _ _ ⟨((cell_far (p := ⟨gb817, _, none⟩) NB815_817.out _).trans (((cell_far (p := ⟨gb817, _, none⟩) NB815_817.out _).trans (((cell_far (p := ⟨gb817, _, none⟩) NB815_817.out _).trans (hHeld.1)))))), ((cell_far (p := ⟨gb817, _, none⟩) NB815_817.out _).trans (((cell_far (p := ⟨gb817, _, none⟩) NB815_817.out _).trans (((cell_far (p := ⟨gb817, _, none⟩) NB815_817.out _).trans (hHeld.2.1)))))), ((cell_far (p := ⟨gb817, _, none⟩) NB815_817.out _).trans (((cell_far (p := ⟨gb817, _, none⟩) NB815_817.out _).trans (((cell_far (p := ⟨gb817, _, none⟩) NB815_817.out _).trans (hHeld.2.2.1)))))), ((cell_far (p := ⟨gb817, _, none⟩) NB816_817.out _).trans (((cell_far (p := ⟨gb817, _, none⟩) NB816_817.out _).trans (((cell_far (p := ⟨gb817, _, none⟩) NB816_817.out _).trans (hHeld.2.2.2.1)))))), ((cell_far (p := ⟨gb817, _, none⟩) NB816_817.out _).trans (((cell_far (p := ⟨gb817, _, none⟩) NB816_817.out _).trans (((cell_far (p := ⟨gb817, _, none⟩) NB816_817.out _).trans (hHeld.2.2.2.2.1)))))), ((cell_far (p := ⟨gb817, _, none⟩) NB816_817.out _).trans (((cell_far (p := ⟨gb817, _, none⟩) NB816_817.out _).trans (((cell_far (p := ⟨gb817, _, none⟩) NB816_817.out _).trans (hHeld.2.2.2.2.2))))))⟩ (fun hHeld => ?_)
 clear hK K
 refine done_ (done_of HT_.out (by kernel_rfl)) ?_
 try go_wp2
 refine bodyPost_ret (results_cell_row rfl _ _ gb817 27 #[.bool t839, .slice Ao28 t840.length co28, .slice Ao30 t843.length co30] (0, 0) _ rfl (by (with_reducible repeat (first | refine blk_drewN ?_ _ | refine blk_drew ?_ | refine blk_alloc ?_ _)); refine blk_put (cs := #[.bool t839, .slice Ao28 t840.length co28, .slice none 0 0]) ?_ 2 _ rfl; (with_reducible repeat (first | refine blk_drewN ?_ _ | refine blk_drew ?_ | refine blk_alloc ?_ _)); refine blk_put (cs := #[.bool t839, .slice none 0 0, .slice none 0 0]) ?_ 1 _ rfl; (with_reducible repeat (first | refine blk_drewN ?_ _ | refine blk_drew ?_ | refine blk_alloc ?_ _)); refine blk_put (cs := #[.bool false, .slice none 0 0, .slice none 0 0]) ?_ 0 _ rfl; (with_reducible repeat (first | refine blk_drewN ?_ _ | refine blk_drew ?_ | refine blk_alloc ?_ _)); exact BK817.out) Try.underlying27 rfl (by kernel_rfl)) rfl ?_
 exact ⟨_, _, by rfl, by (with_reducible repeat (first | apply Kd.R_alloc | apply Kd.R_drewN | apply Kd.R_drew)); exact Kd.R_mono (Kd.R_far (p := ⟨gb817, 2, none⟩) (Kd.R_far (p := ⟨gb817, 1, none⟩) (Kd.R_far (p := ⟨gb817, 0, none⟩) (Kd.R_types HO842.out BK817.out (by decide)) (fun _ hk => hk.2) (.bool t839)) (fun _ hk => hk.2) (.slice Ao28 t840.length co28)) (fun _ hk => hk.2) (.slice Ao30 t843.length co30)) (fun _ hk => hk.1.1.1.1.1), by (with_reducible repeat (first | apply Kd.R_alloc | apply Kd.R_drewN | apply Kd.R_drew)); exact Kd.R_mono (Kd.R_far (p := ⟨gb817, 2, none⟩) (Kd.R_far (p := ⟨gb817, 1, none⟩) (Kd.R_far (p := ⟨gb817, 0, none⟩) (Kd.R_types HO845.out BK817.out (by decide)) (fun _ hk => hk.2) (.bool t839)) (fun _ hk => hk.2) (.slice Ao28 t840.length co28)) (fun _ hk => hk.2) (.slice Ao30 t843.length co30)) (fun _ hk => hk.1.1.1.1.1), by repeat (first | (with_reducible first | exact HB.out | apply below_alloc | apply pw_below_drewN | apply below_drew1 | refine below_set ?_ GE815.out | refine below_set ?_ GE816.out | refine below_set ?_ GE817.out) | exact HB.out)⟩

theorem rat_Add.ev {m m' : Bool} {l1 l2 k1 k2 : List Int} {a b : Rat} {K J : Nat} (ha : Qn.Is m l1 l2 a K) (hb : Qn.Is m' k1 k2 b J) (hK1 : 1 ≤ K) (hJ1 : 1 ≤ J) (hK : K + J < 300000) : Ev (fun k => rat_Add.f k m l1 l2 m' k1 k2) (Qn.qd (a + b)) := by
 have da := Qn.dn_lt ha.ws ha.len hK1
 have db := Qn.dn_lt hb.ws hb.len hJ1
 have la := ha.len
 have lb := hb.len
 have La := Qn.len_dl la hK1
 have Lb := Qn.len_dl lb hJ1
 have P := nat_Mul.ev (Num.okw_of (l := Qn.dl l2) (by omega) (Qn.ws_dl ha.ws)) (Num.okw_of (l := Qn.dl k2) (by omega) (Qn.ws_dl hb.ws))
 rw [Qn.nv_dl, Qn.nv_dl] at P
 have x1 := Zn.abs_mul ha.num.lt (Qn.cast_abs db)
 have x2 := Zn.abs_mul hb.num.lt (Qn.cast_abs da)
 rw [Nat.add_comm J K] at x2
 have A := whole_Add.ev (Zn.Is.zd x1) (Zn.Is.zd x2) (by omega)
 have M := rat_Make.ev (Zn.Is.zd (Zn.abs_add x1 x2)) (Num.Ws_nd (Qn.dn (Num.nv l2) * Qn.dn (Num.nv k2))) (Num.nd_length_le (Num.le_pow (Num.mul_lt da db) (by omega))) (by omega) (by omega)
 rw [Num.nv_nd, Qn.dn_self (Nat.mul_ne_zero (Qn.dn_ne _) (Qn.dn_ne _)), ← Rat.mkRat_add_mkRat _ _ (Qn.dn_ne _) (Qn.dn_ne _), ha.val, hb.val] at M
 unfold rat_Add.f
 exact Ev.bind (rat_over.ev ha hb hJ1 (by omega)) (Ev.bind (rat_over.ev hb ha hK1 (by omega)) (Ev.bind A (Ev.bind (rat_den.ev ha.ws (by omega)) (Ev.bind (rat_den.ev hb.ws (by omega)) (Ev.bind P (Ev.bind M (Ev.now _)))))))
/-! ### rat_Sub: function 30 -/
def rat_Sub.f (k : Nat) (a0_0 : Bool) (l0_1 : List Int) (l0_2 : List Int) (a1_0 : Bool) (l1_1 : List Int) (l1_2 : List Int) : Option (Bool × List Int × List Int) := (rat_Neg.f k a1_0 l1_1 l1_2).bind fun bt858 => ((rat_Add.f k a0_0 l0_1 l0_2 bt858.1 bt858.2.1 bt858.2.2).bind fun bt865 => (some (bt865.1, bt865.2.1, bt865.2.2)))
set_option maxHeartbeats 8000000 in
set_option maxRecDepth 100000 in
theorem rat_Sub.calls (k : Nat) (a0_0 : Bool) (A0_1 : Option Addr) (c0_1 : Nat) (l0_1 : List Int) (A0_2 : Option Addr) (c0_2 : Nat) (l0_2 : List Int) (a1_0 : Bool) (A1_1 : Option Addr) (c1_1 : Nat) (l1_1 : List Int) (A1_2 : Option Addr) (c1_2 : Nat) (l1_2 : List Int) (r1 : Bool) (r2 : List Int) (r3 : List Int) (w : World) (hr0_1 : Kd.C (Kd.int .u32) w A0_1 l0_1.length l0_1) (hc0_1 : l0_1.length ≤ c0_1) (hr0_2 : Kd.C (Kd.int .u32) w A0_2 l0_2.length l0_2) (hc0_2 : l0_2.length ≤ c0_2) (hr1_1 : Kd.C (Kd.int .u32) w A1_1 l1_1.length l1_1) (hc1_1 : l1_1.length ≤ c1_1) (hr1_2 : Kd.C (Kd.int .u32) w A1_2 l1_2.length l1_2) (hc1_2 : l1_2.length ≤ c1_2) (h : rat_Sub.f k a0_0 l0_1 l0_2 a1_0 l1_1 l1_2 = some (r1, r2, r3)) :
  Calls Try.prog 30 #[.agg #[.bool a0_0, .slice A0_1 l0_1.length c0_1, .slice A0_2 l0_2.length c0_2], .agg #[.bool a1_0, .slice A1_1 l1_1.length c1_1, .slice A1_2 l1_2.length c1_2]] w fun e w' => ∃ v1_ v2_ : Value, e = .returned (.agg #[.bool r1, v1_, v2_]) ∧ Kd.R (Kd.int .u32) 89 w' w.heap.size (fun k_ => some k_ ≠ (v2_ : Value).ownBlock) v1_ r2 ∧ Kd.R (Kd.int .u32) 89 w' w.heap.size (fun k_ => some k_ ≠ (v1_ : Value).ownBlock) v2_ r3 ∧ Below w.heap.size w w' := by
 have hu27 := Try.underlying27
 have HR0_1 := Aside0.mk hr0_1
 have HC0_1 := Aside0.mk hc0_1
 clear hr0_1 hc0_1
 have HR0_2 := Aside0.mk hr0_2
 have HC0_2 := Aside0.mk hc0_2
 clear hr0_2 hc0_2
 have HR1_1 := Aside0.mk hr1_1
 have HC1_1 := Aside0.mk hc1_1
 clear hr1_1 hc1_1
 have HR1_2 := Aside0.mk hr1_2
 have HC1_2 := Aside0.mk hc1_2
 clear hr1_2 hc1_2
 have HB := Aside0.mk (Below.refl w.heap.size w)
 have H : ((rat_Neg.f k a1_0 l1_1 l1_2).bind fun bt858 => ((rat_Add.f k a0_0 l0_1 l0_2 bt858.1 bt858.2.1 bt858.2.2).bind fun bt865 => (some (bt865.1, bt865.2.1, bt865.2.2)))) = some (r1, r2, r3) := h
 clear h
 replace H := Option.bind_eq_some_iff.mp H
 obtain ⟨⟨t858, t859, t862⟩, A30, H⟩ := H
 try dsimp only at H
 have A3 := Aside0.mk A30
 clear A30
 replace H := Option.bind_eq_some_iff.mp H
 obtain ⟨⟨t865, t866, t869⟩, A40, H⟩ := H
 replace H : (some (t865, t866, t869)) = some (r1, r2, r3) := H
 have A4 := Aside0.mk A40
 clear A40
 simp only [Option.some.injEq, Prod.mk.injEq] at H
 obtain ⟨rfl, rfl, rfl⟩ := H
 go_enter Try.func30, Try.ntmps30
 try go_wp2_with (first | ((with_reducible refine gate_dst (N := 2) rfl ?_); refine Short.boxS_ (N := 2) (cs := #[.bool a0_0, .slice A0_1 l0_1.length c0_1, .slice A0_2 l0_2.length c0_2]) (t := 27) ?_; intro gb855 hg w5 hbox hb; have BK855 := Aside0.mk (hbox); have GW855 := Aside0.mk ((by rw [hg]; exact (below_size (by repeat (first | (with_reducible first | exact HB.out | apply below_alloc | apply pw_below_drewN | apply below_drew1) | exact HB.out))) : w.heap.size ≤ gb855)); have GE855 := Aside0.mk ((by rw [hg]; exact (below_size (by repeat (first | (with_reducible first | exact HB.out | apply below_alloc | apply pw_below_drewN | apply below_drew1) | exact HB.out))) : w.heap.size ≤ gb855)); replace HB := Aside0.mk (below_step (by repeat (first | (with_reducible first | exact HB.out | apply below_alloc | apply pw_below_drewN | apply below_drew1) | exact HB.out)) hb); clear hb hbox hg) | ((with_reducible refine gate_dst (N := 3) rfl ?_); refine Short.boxS_ (N := 3) (cs := #[.bool a1_0, .slice A1_1 l1_1.length c1_1, .slice A1_2 l1_2.length c1_2]) (t := 27) ?_; intro gb856 hg w6 hbox hb; have BK856 := Aside0.mk (hbox); have GW856 := Aside0.mk ((by rw [hg]; exact (below_size HB.out) : w.heap.size ≤ gb856)); have GE856 := Aside0.mk ((by rw [hg]; exact (below_size HB.out) : w.heap.size ≤ gb856)); replace HB := Aside0.mk (below_step HB.out hb); have NB855_856 := Short.ltA_ hg BK855; have NB856_855 := Short.gtA_ hg BK855; replace BK855 := Aside0.mk (blk_below BK855.out hb); clear hb hbox hg) | ((with_reducible refine gate_dst (N := 4) rfl ?_); refine Short.boxS_ (N := 4) (cs := #[.bool false, .slice none 0 0, .slice none 0 0]) (t := 27) ?_; intro gb857 hg w7 hbox hb; have BK857 := Aside0.mk (hbox); have GW857 := Aside0.mk ((by rw [hg]; exact (below_size HB.out) : w.heap.size ≤ gb857)); have GE857 := Aside0.mk ((by rw [hg]; exact (below_size HB.out) : w.heap.size ≤ gb857)); replace HB := Aside0.mk (below_step HB.out hb); have NB855_857 := Short.ltA_ hg BK855; have NB857_855 := Short.gtA_ hg BK855; replace BK855 := Aside0.mk (blk_below BK855.out hb); have NB856_857 := Short.ltA_ hg BK856; have NB857_856 := Short.gtA_ hg BK856; replace BK856 := Aside0.mk (blk_below BK856.out hb); clear hb hbox hg))
 replace BK855 := Aside0.mk (blk_drew BK855.out)
 replace BK856 := Aside0.mk (blk_drew BK856.out)
 replace BK857 := Aside0.mk (blk_drew BK857.out)
 replace HB := Aside0.mk (below_drew1 HB.out)
 refine start_ (n := 5) (S := fun w' => w'.cell? ⟨gb855, 0, none⟩ = some (.bool a0_0) ∧ w'.cell? ⟨gb855, 1, none⟩ = some (.slice A0_1 l0_1.length c0_1) ∧ w'.cell? ⟨gb855, 2, none⟩ = some (.slice A0_2 l0_2.length c0_2) ∧ w'.cell? ⟨gb856, 0, none⟩ = some (.bool a1_0) ∧ w'.cell? ⟨gb856, 1, none⟩ = some (.slice A1_1 l1_1.length c1_1) ∧ w'.cell? ⟨gb856, 2, none⟩ = some (.slice A1_2 l1_2.length c1_2)) (ds := []) #[false, false, false, false, false] (by kernel_rfl) rfl rfl ⟨(blk_cell BK855.out 0).trans rfl, (blk_cell BK855.out 1).trans rfl, (blk_cell BK855.out 2).trans rfl, (blk_cell BK856.out 0).trans rfl, (blk_cell BK856.out 1).trans rfl, (blk_cell BK856.out 2).trans rfl⟩ (fun hHeld => ?_)
 generalize w7.drew = w8 at BK855 BK856 BK857 HB hHeld ⊢
 refine Short.takeS_ (i := 0) (N := some 5) #[true, false, false, false, false] (by kernel_rfl) hHeld ?_
 refine Short.takeS_ (i := 1) (N := some 6) #[true, true, false, false, false] (by kernel_rfl) hHeld ?_
 refine one_ (i := 2) (N := some 7) #[true, true, true, false, false] rfl rfl (by kernel_rfl) (by decide) (fun K hK => ?_)
 refine Short.goesD_ Try.func33 #[.agg #[.bool a1_0, .slice A1_1 l1_1.length c1_1, .slice A1_2 l1_2.length c1_2]] ?_
 with_reducible refine (rat_Neg.calls k a1_0 _ _ l1_1 _ _ l1_2 t858 t859 t862 _ (Kd.C_below HR1_1.out HB.out) HC1_1.out (Kd.C_below HR1_2.out HB.out) HC1_2.out A3.out).mono ?_
 rintro e w9 ⟨v860, v863, rfl, ho0, ho1, hb⟩
 refine ⟨_, rfl, ?_⟩
 have HO861 := Aside0.mk (Kd.R_lower ho0 (below_size HB.out))
 have HO864 := Aside0.mk (Kd.R_lower ho1 (below_size HB.out))
 replace BK855 := Aside0.mk (blk_below BK855.out hb)
 replace BK856 := Aside0.mk (blk_below BK856.out hb)
 replace BK857 := Aside0.mk (blk_below BK857.out hb)
 replace HB := Aside0.mk (below_step HB.out hb)
 (try clear hb)
 (try clear ho0)
 (try clear ho1)
 obtain ⟨Ao10, co10, eo10⟩ := Kd.R_slice HO861.out
 (first | subst eo10 | (injection eo10 with f1_ f2_ f3_; have f4_ := f1_.symm; have f5_ := f3_.symm; clear f1_ f2_ f3_; subst f4_; subst f5_))
 obtain ⟨Ao11, co11, eo11⟩ := Kd.R_slice HO864.out
 (first | subst eo11 | (injection eo11 with f1_ f2_ f3_; have f4_ := f1_.symm; have f5_ := f3_.symm; clear f1_ f2_ f3_; subst f4_; subst f5_))
 refine hK.out _ _ ⟨(blk_cell BK855.out 0).trans rfl, (blk_cell BK855.out 1).trans rfl, (blk_cell BK855.out 2).trans rfl, (blk_cell BK856.out 0).trans rfl, (blk_cell BK856.out 1).trans rfl, (blk_cell BK856.out 2).trans rfl⟩ (fun hHeld => ?_)
 clear hK K
 refine Short.normS_ ?_
 refine one_ (i := 3) (N := some 8) #[true, true, true, true, false] rfl rfl (by kernel_rfl) (by decide) (fun K hK => ?_)
 refine Short.goesD_ Try.func28 #[.agg #[.bool a0_0, .slice A0_1 l0_1.length c0_1, .slice A0_2 l0_2.length c0_2], .agg #[.bool t858, .slice Ao10 t859.length co10, .slice Ao11 t862.length co11]] ?_
 with_reducible refine (rat_Add.calls k a0_0 _ _ l0_1 _ _ l0_2 t858 _ _ t859 _ _ t862 t865 t866 t869 _ (Kd.C_below HR0_1.out HB.out) HC0_1.out (Kd.C_below HR0_2.out HB.out) HC0_2.out ((Kd.R_reads' HO861.out).2.2) ((Kd.R_reads' HO861.out).2.1) ((Kd.R_reads' HO864.out).2.2) ((Kd.R_reads' HO864.out).2.1) A4.out).mono ?_
 rintro e w12 ⟨v867, v870, rfl, ho0, ho1, hb⟩
 refine ⟨_, rfl, ?_⟩
 have HO868 := Aside0.mk (Kd.R_lower (Kd.R_new' (Kd.R_new' ho0 (Kd.R_lt HO861.out)) (Kd.R_lt HO864.out)) (below_size HB.out))
 have HO871 := Aside0.mk (Kd.R_lower (Kd.R_new' (Kd.R_new' ho1 (Kd.R_lt HO861.out)) (Kd.R_lt HO864.out)) (below_size HB.out))
 replace HO861 := Aside0.mk (Kd.R_mono (Kd.R_told (Kd.R_told (Kd.R_old HO861.out hb) (Kd.R_base ho0)) (Kd.R_base ho1)) (fun _ h_ => h_.1))
 replace HO864 := Aside0.mk (Kd.R_mono (Kd.R_told (Kd.R_told (Kd.R_old HO864.out hb) (Kd.R_base ho0)) (Kd.R_base ho1)) (fun _ h_ => h_.1))
 replace BK855 := Aside0.mk (blk_below BK855.out hb)
 replace BK856 := Aside0.mk (blk_below BK856.out hb)
 replace BK857 := Aside0.mk (blk_below BK857.out hb)
 replace HB := Aside0.mk (below_step HB.out hb)
 (try clear hb)
 (try clear ho0)
 (try clear ho1)
 obtain ⟨Ao14, co14, eo14⟩ := Kd.R_slice HO868.out
 (first | subst eo14 | (injection eo14 with f1_ f2_ f3_; have f4_ := f1_.symm; have f5_ := f3_.symm; clear f1_ f2_ f3_; subst f4_; subst f5_))
 obtain ⟨Ao16, co16, eo16⟩ := Kd.R_slice HO871.out
 (first | subst eo16 | (injection eo16 with f1_ f2_ f3_; have f4_ := f1_.symm; have f5_ := f3_.symm; clear f1_ f2_ f3_; subst f4_; subst f5_))
 refine hK.out _ _ ⟨(blk_cell BK855.out 0).trans rfl, (blk_cell BK855.out 1).trans rfl, (blk_cell BK855.out 2).trans rfl, (blk_cell BK856.out 0).trans rfl, (blk_cell BK856.out 1).trans rfl, (blk_cell BK856.out 2).trans rfl⟩ (fun hHeld => ?_)
 clear hK K
 refine Short.normS_ ?_
 refine one_ (i := 4) (N := none) #[true, true, true, true, true] rfl rfl (by kernel_rfl) (by decide) (fun K hK => ?_)
 have hs13 : w12.cell? ⟨gb857, 0, none⟩ = some (.bool false) := (blk_cell BK857.out 0).trans rfl
 have hfs13 := blk_frozen BK857.out 0
 have hns13_0 := NB855_857.out
 have hns13_1 := NB856_857.out
 have hms13_0 := NB857_855.out
 have hms13_1 := NB857_856.out
 have hs15 : w12.cell? ⟨gb857, 1, none⟩ = some (.slice none 0 0) := (blk_cell BK857.out 1).trans rfl
 have hfs15 := blk_frozen BK857.out 1
 have hns15_0 := NB855_857.out
 have hns15_1 := NB856_857.out
 have hms15_0 := NB857_855.out
 have hms15_1 := NB857_856.out
 have hs17 : w12.cell? ⟨gb857, 2, none⟩ = some (.slice none 0 0) := (blk_cell BK857.out 2).trans rfl
 have hfs17 := blk_frozen BK857.out 2
 have hns17_0 := NB855_857.out
 have hns17_1 := NB856_857.out
 have hms17_0 := NB857_855.out
 have hms17_1 := NB857_856.out
 refine skip_ (w1 := ?_) (by rfl) rfl ?_ ?_
 rotate_left
 ·go_simp
  rfl
 refine hK.out _ _ ⟨((cell_far (p := ⟨gb857, _, none⟩) NB855_857.out _).trans (((cell_far (p := ⟨gb857, _, none⟩) NB855_857.out _).trans (((cell_far (p := ⟨gb857, _, none⟩) NB855_857.out _).trans (hHeld.1)))))), ((cell_far (p := ⟨gb857, _, none⟩) NB855_857.out _).trans (((cell_far (p := ⟨gb857, _, none⟩) NB855_857.out _).trans (((cell_far (p := ⟨gb857, _, none⟩) NB855_857.out _).trans (hHeld.2.1)))))), ((cell_far (p := ⟨gb857, _, none⟩) NB855_857.out _).trans (((cell_far (p := ⟨gb857, _, none⟩) NB855_857.out _).trans (((cell_far (p := ⟨gb857, _, none⟩) NB855_857.out _).trans (hHeld.2.2.1)))))), ((cell_far (p := ⟨gb857, _, none⟩) NB856_857.out _).trans (((cell_far (p := ⟨gb857, _, none⟩) NB856_857.out _).trans (((cell_far (p := ⟨gb857, _, none⟩) NB856_857.out _).trans (hHeld.2.2.2.1)))))), ((cell_far (p := ⟨gb857, _, none⟩) NB856_857.out _).trans (((cell_far (p := ⟨gb857, _, none⟩) NB856_857.out _).trans (((cell_far (p := ⟨gb857, _, none⟩) NB856_857.out _).trans (hHeld.2.2.2.2.1)))))), ((cell_far (p := ⟨gb857, _, none⟩) NB856_857.out _).trans (((cell_far (p := ⟨gb857, _, none⟩) NB856_857.out _).trans (((cell_far (p := ⟨gb857, _, none⟩) NB856_857.out _).trans (hHeld.2.2.2.2.2))))))⟩ (fun hHeld => ?_)
 clear hK K
 refine done_ (by kernel_rfl) ?_
 try go_wp2
 refine bodyPost_ret (results_cell_row rfl _ _ gb857 27 #[.bool t865, .slice Ao14 t866.length co14, .slice Ao16 t869.length co16] (0, 0) _ rfl (by (with_reducible repeat (first | refine blk_drewN ?_ _ | refine blk_drew ?_ | refine blk_alloc ?_ _)); refine blk_put (cs := #[.bool t865, .slice Ao14 t866.length co14, .slice none 0 0]) ?_ 2 _ rfl; (with_reducible repeat (first | refine blk_drewN ?_ _ | refine blk_drew ?_ | refine blk_alloc ?_ _)); refine blk_put (cs := #[.bool t865, .slice none 0 0, .slice none 0 0]) ?_ 1 _ rfl; (with_reducible repeat (first | refine blk_drewN ?_ _ | refine blk_drew ?_ | refine blk_alloc ?_ _)); refine blk_put (cs := #[.bool false, .slice none 0 0, .slice none 0 0]) ?_ 0 _ rfl; (with_reducible repeat (first | refine blk_drewN ?_ _ | refine blk_drew ?_ | refine blk_alloc ?_ _)); exact BK857.out) Try.underlying27 rfl (by kernel_rfl)) rfl ?_
 exact ⟨_, _, by rfl, by (with_reducible repeat (first | apply Kd.R_alloc | apply Kd.R_drewN | apply Kd.R_drew)); exact Kd.R_mono (Kd.R_far (p := ⟨gb857, 2, none⟩) (Kd.R_far (p := ⟨gb857, 1, none⟩) (Kd.R_far (p := ⟨gb857, 0, none⟩) (Kd.R_types HO868.out BK857.out (by decide)) (fun _ hk => hk.2) (.bool t865)) (fun _ hk => hk.2) (.slice Ao14 t866.length co14)) (fun _ hk => hk.2) (.slice Ao16 t869.length co16)) (fun _ hk => hk.1.1.1), by (with_reducible repeat (first | apply Kd.R_alloc | apply Kd.R_drewN | apply Kd.R_drew)); exact Kd.R_mono (Kd.R_far (p := ⟨gb857, 2, none⟩) (Kd.R_far (p := ⟨gb857, 1, none⟩) (Kd.R_far (p := ⟨gb857, 0, none⟩) (Kd.R_types HO871.out BK857.out (by decide)) (fun _ hk => hk.2) (.bool t865)) (fun _ hk => hk.2) (.slice Ao14 t866.length co14)) (fun _ hk => hk.2) (.slice Ao16 t869.length co16)) (fun _ hk => hk.1.1.1), by repeat (first | (with_reducible first | exact HB.out | apply below_alloc | apply pw_below_drewN | apply below_drew1 | refine below_set ?_ GE855.out | refine below_set ?_ GE856.out | refine below_set ?_ GE857.out) | exact HB.out)⟩

theorem rat_Sub.ev {m m' : Bool} {l1 l2 k1 k2 : List Int} {a b : Rat} {K J : Nat} (ha : Qn.Is m l1 l2 a K) (hb : Qn.Is m' k1 k2 b J) (hK1 : 1 ≤ K) (hJ1 : 1 ≤ J) (hK : K + J < 300000) : Ev (fun k => rat_Sub.f k m l1 l2 m' k1 k2) (Qn.qd (a - b)) := by
 unfold rat_Sub.f
 rw [Rat.sub_eq_add_neg]
 exact Ev.bind (rat_Neg.ev hb hJ1 (by omega)) (Ev.bind (rat_Add.ev ha (Qn.Is.qd (hb.sm hJ1).neg) hK1 hJ1 hK) (Ev.now _))
end Go.Proofs.Ytcdkopidgibijaa.PR
