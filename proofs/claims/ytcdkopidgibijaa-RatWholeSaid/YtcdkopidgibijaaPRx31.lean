import Derived.Test.YtcdkopidgibijaaShort
import Derived.Test.YtcdkopidgibijaaPRg0
import Derived.Test.YtcdkopidgibijaaPRg21
import Derived.Test.YtcdkopidgibijaaPRx30
namespace Go.Proofs.Ytcdkopidgibijaa.PR
open Go.RowKit Go.Proofs.YtcdkopidgibijaaW.PrintWords Go.Proofs.YtcdkopidgibijaaW.PrintLast Go.Proofs.YtcdkopidgibijaaW.PrintMore
attribute [local go_sem] max2_int min2_int max_two min_two max_three min_three max_four min_four   -- for this text's walks alone
set_option linter.unusedVariables false
set_option linter.unusedSimpArgs false

/-! ### rat_Floor: function 21 -/
def rat_Floor.f (k : Nat) (a0_0 : Bool) (l0_1 : List Int) (l0_2 : List Int) : Option (Bool × List Int) := (rat_den.f k a0_0 l0_1 l0_2).bind fun t372 => ((whole_Make.f k false t372).bind fun bt375 => ((whole_Floor.f k a0_0 l0_1 bt375.1 bt375.2).bind fun bt379 => (some (bt379.1, bt379.2.1))))
def rat_Floor.T1 : Bool × List (List Nat × List Nat) := (true, [([], []), ([0], [0]), ([], []), ([2], [2]), ([3, 3], [3]), ([1, 4, 4], [1, 4]), ([5], [5]), ([6], [6]), ([6], [6]), ([6], [6]), ([], []), ([], []), ([10, 7, 5, 0, 1, 2, 3, 4, 5, 6, 7, 10, 11], [7, 10]), ([11, 8, 12, 0, 1, 2, 3, 4, 5, 6, 7, 8, 10, 11, 12], [8, 11]), ([9, 13, 0, 1, 2, 3, 4, 5, 6, 7, 8, 9, 10, 11, 12, 13], [9])])
def rat_Floor.B1 : List Nat := [0, 1, 0, 4, 12, 31, 63, 127, 127, 127, 0, 0, 3327, 7679, 16383]
theorem rat_Floor.tab1 : rtab .any (opsOf Try.f21 1) = rat_Floor.T1 := by kernel_rfl
theorem rat_Floor.bits1 : waitsOk rat_Floor.T1.2 rat_Floor.B1 = true := by kernel_rfl
set_option maxHeartbeats 8000000 in
set_option maxRecDepth 100000 in
theorem rat_Floor.calls (k : Nat) (a0_0 : Bool) (A0_1 : Option Addr) (c0_1 : Nat) (l0_1 : List Int) (A0_2 : Option Addr) (c0_2 : Nat) (l0_2 : List Int) (r1 : Bool) (r2 : List Int) (w : World) (hr0_1 : Kd.C (Kd.int .u32) w A0_1 l0_1.length l0_1) (hc0_1 : l0_1.length ≤ c0_1) (hr0_2 : Kd.C (Kd.int .u32) w A0_2 l0_2.length l0_2) (hc0_2 : l0_2.length ≤ c0_2) (h : rat_Floor.f k a0_0 l0_1 l0_2 = some (r1, r2)) :
  Calls Try.prog 21 #[.agg #[.bool a0_0, .slice A0_1 l0_1.length c0_1, .slice A0_2 l0_2.length c0_2]] w fun e w' => ∃ v1_ : Value, e = .returned (.agg #[.bool r1, v1_]) ∧ Kd.R (Kd.int .u32) 89 w' w.heap.size (fun _ => True) v1_ r2 ∧ Below w.heap.size w w' := by
 have hu27 := Try.underlying27
 have hu25 := Try.underlying25
 have HR0_1 := Aside0.mk hr0_1
 have HC0_1 := Aside0.mk hc0_1
 clear hr0_1 hc0_1
 have HR0_2 := Aside0.mk hr0_2
 have HC0_2 := Aside0.mk hc0_2
 clear hr0_2 hc0_2
 have HB := Aside0.mk (Below.refl w.heap.size w)
 have H : ((rat_den.f k a0_0 l0_1 l0_2).bind fun t372 => ((whole_Make.f k false t372).bind fun bt375 => ((whole_Floor.f k a0_0 l0_1 bt375.1 bt375.2).bind fun bt379 => (some (bt379.1, bt379.2.1))))) = some (r1, r2) := h
 clear h
 replace H := Option.bind_eq_some_iff.mp H
 obtain ⟨t372, A20, H⟩ := H
 try dsimp only at H
 have A2 := Aside0.mk A20
 clear A20
 replace H := Option.bind_eq_some_iff.mp H
 obtain ⟨⟨t375, t376⟩, A30, H⟩ := H
 try dsimp only at H
 have A3 := Aside0.mk A30
 clear A30
 replace H := Option.bind_eq_some_iff.mp H
 obtain ⟨⟨t379, t380, t383, t384, t387⟩, A40, H⟩ := H
 replace H : (some (t379, t380)) = some (r1, r2) := H
 have A4 := Aside0.mk A40
 clear A40
 simp only [Option.some.injEq, Prod.mk.injEq] at H
 obtain ⟨rfl, rfl⟩ := H
 go_enter Try.func21, Try.ntmps21
 try go_wp2_with (first | ((with_reducible refine gate_dst (N := 1) rfl ?_); refine Short.boxS_ (N := 1) (cs := #[.bool a0_0, .slice A0_1 l0_1.length c0_1, .slice A0_2 l0_2.length c0_2]) (t := 27) ?_; intro gb370 hg w5 hbox hb; have BK370 := Aside0.mk (hbox); have GW370 := Aside0.mk ((by rw [hg]; exact (below_size (by repeat (first | (with_reducible first | exact HB.out | apply below_alloc | apply pw_below_drewN | apply below_drew1) | exact HB.out))) : w.heap.size ≤ gb370)); have GE370 := Aside0.mk ((by rw [hg]; exact (below_size (by repeat (first | (with_reducible first | exact HB.out | apply below_alloc | apply pw_below_drewN | apply below_drew1) | exact HB.out))) : w.heap.size ≤ gb370)); replace HB := Aside0.mk (below_step (by repeat (first | (with_reducible first | exact HB.out | apply below_alloc | apply pw_below_drewN | apply below_drew1) | exact HB.out)) hb); clear hb hbox hg) | ((with_reducible refine gate_dst (N := 2) rfl ?_); refine Short.boxS_ (N := 2) (cs := #[.bool false, .slice none 0 0]) (t := 25) ?_; intro gb371 hg w6 hbox hb; have BK371 := Aside0.mk (hbox); have GW371 := Aside0.mk ((by rw [hg]; exact (below_size HB.out) : w.heap.size ≤ gb371)); have GE371 := Aside0.mk ((by rw [hg]; exact (below_size HB.out) : w.heap.size ≤ gb371)); replace HB := Aside0.mk (below_step HB.out hb); have NB370_371 := Short.ltA_ hg BK370; have NB371_370 := Short.gtA_ hg BK370; replace BK370 := Aside0.mk (blk_below BK370.out hb); clear hb hbox hg))
 replace BK370 := Aside0.mk (blk_drew BK370.out)
 replace BK371 := Aside0.mk (blk_drew BK371.out)
 replace HB := Aside0.mk (below_drew1 HB.out)
 refine start_ (n := 15) (S := fun w' => w'.cell? ⟨gb370, 0, none⟩ = some (.bool a0_0) ∧ w'.cell? ⟨gb370, 1, none⟩ = some (.slice A0_1 l0_1.length c0_1) ∧ w'.cell? ⟨gb370, 2, none⟩ = some (.slice A0_2 l0_2.length c0_2)) (ds := []) #[false, false, false, false, false, false, false, false, false, false, false, false, false, false, false] (by kernel_rfl) rfl rfl ⟨(blk_cell BK370.out 0).trans rfl, (blk_cell BK370.out 1).trans rfl, (blk_cell BK370.out 2).trans rfl⟩ (fun hHeld => ?_); refine with_tabW rat_Floor.tab1 rat_Floor.bits1 (fun HT_ HW_ => ?_)
 generalize w6.drew = w7 at BK370 BK371 HB hHeld ⊢
 refine Short.pureS_ (i := 0) (N := some 7) #[true, false, false, false, false, false, false, false, false, false, false, false, false, false, false] (any_of HT_.out (by kernel_rfl)) ?_
 refine Short.takeS_ (i := 1) (N := some 8) #[true, true, false, false, false, false, false, false, false, false, false, false, false, false, false] (take_ofW HT_.out HW_.out (by kernel_rfl)) hHeld ?_
 refine Short.takeS_ (i := 2) (N := some 9) #[true, true, true, false, false, false, false, false, false, false, false, false, false, false, false] (take_ofW HT_.out HW_.out (by kernel_rfl)) hHeld ?_
 refine join_ (σ := Value × Value × Value × Value × Nat × Nat) 3 #[true, true, true, true, true, true, true, true, true, true, true, true, false, false, false] (fun s_ => [(10, s_.1), (11, .agg #[.bool t375, s_.2.1]), (12, .tuple #[.agg #[.bool t379, s_.2.2.1], .agg #[.bool t383, s_.2.2.2.1], .int .i64 t387]), (3, .pointer (some ⟨s_.2.2.2.2.1, 0, none⟩)), (4, .pointer (some ⟨s_.2.2.2.2.2, 0, none⟩)), (6, .tuple #[.agg #[.bool t379, s_.2.2.1], .agg #[.bool t383, s_.2.2.2.1], .int .i64 t387]), (13, .agg #[.bool t379, s_.2.2.1]), (14, .agg #[.bool t383, s_.2.2.2.1]), (15, .int .i64 t387)]) (fun s_ w' => (w'.cell? ⟨gb370, 0, none⟩ = some (.bool a0_0) ∧ w'.cell? ⟨gb370, 1, none⟩ = some (.slice A0_1 l0_1.length c0_1) ∧ w'.cell? ⟨gb370, 2, none⟩ = some (.slice A0_2 l0_2.length c0_2)) ∧ (Kd.V (Kd.int .u32) 89 w' w.heap.size (fun k_ => some k_ ≠ (s_.2.1 : Value).ownBlock ∧ some k_ ≠ (s_.2.2.1 : Value).ownBlock ∧ some k_ ≠ (s_.2.2.2.1 : Value).ownBlock ∧ k_ ≠ gb370 ∧ k_ ≠ gb371 ∧ k_ ≠ s_.2.2.2.2.1 ∧ k_ ≠ s_.2.2.2.2.2) s_.1 t372) ∧ (Kd.R (Kd.int .u32) 89 w' w.heap.size (fun k_ => some k_ ≠ (s_.2.2.1 : Value).ownBlock ∧ some k_ ≠ (s_.2.2.2.1 : Value).ownBlock) s_.2.1 t376) ∧ (Kd.R (Kd.int .u32) 89 w' w.heap.size (fun k_ => some k_ ≠ (s_.2.1 : Value).ownBlock ∧ some k_ ≠ (s_.2.2.2.1 : Value).ownBlock) s_.2.2.1 t380) ∧ (Kd.R (Kd.int .u32) 89 w' w.heap.size (fun k_ => some k_ ≠ (s_.2.1 : Value).ownBlock ∧ some k_ ≠ (s_.2.2.1 : Value).ownBlock) s_.2.2.2.1 t384) ∧ (w'.heap[gb370]? = some (.cells #[.bool a0_0, .slice A0_1 l0_1.length c0_1, .slice A0_2 l0_2.length c0_2] 27 (0, 0))) ∧ (w'.heap[gb371]? = some (.cells #[.bool false, .slice none 0 0] 25 (0, 0))) ∧ (w'.heap[s_.2.2.2.2.1]? = some (.cells #[.bool false, .slice none 0 0] 25 (0, 0))) ∧ (w'.heap[s_.2.2.2.2.2]? = some (.cells #[.bool false, .slice none 0 0] 25 (0, 0))) ∧ (w.heap.size ≤ s_.2.2.2.2.1) ∧ (w.heap.size ≤ s_.2.2.2.2.1) ∧ (gb370 ≠ s_.2.2.2.2.1) ∧ (s_.2.2.2.2.1 ≠ gb370) ∧ (gb371 ≠ s_.2.2.2.2.1) ∧ (s_.2.2.2.2.1 ≠ gb371) ∧ (s_.2.2.2.2.2 ≠ s_.2.2.2.2.1) ∧ (s_.2.2.2.2.1 ≠ s_.2.2.2.2.2) ∧ (w.heap.size ≤ s_.2.2.2.2.2) ∧ (w.heap.size ≤ s_.2.2.2.2.2) ∧ (gb370 ≠ s_.2.2.2.2.2) ∧ (s_.2.2.2.2.2 ≠ gb370) ∧ (gb371 ≠ s_.2.2.2.2.2) ∧ (s_.2.2.2.2.2 ≠ gb371) ∧ (Below w.heap.size w w')) ?_ ?_
 rotate_left
 ·intro hJ3_4_5_10_11
  refine join_ (σ := Value × Value × Value × Value × Nat) 4 #[true, true, true, true, true, true, true, true, true, true, true, false, false, false, false] (fun s_ => [(10, s_.1), (11, .agg #[.bool t375, s_.2.1]), (12, .tuple #[.agg #[.bool t379, s_.2.2.1], .agg #[.bool t383, s_.2.2.2.1], .int .i64 t387]), (3, .pointer (some ⟨s_.2.2.2.2, 0, none⟩)), (6, .tuple #[.agg #[.bool t379, s_.2.2.1], .agg #[.bool t383, s_.2.2.2.1], .int .i64 t387]), (13, .agg #[.bool t379, s_.2.2.1]), (14, .agg #[.bool t383, s_.2.2.2.1]), (15, .int .i64 t387)]) (fun s_ w' => (w'.cell? ⟨gb370, 0, none⟩ = some (.bool a0_0) ∧ w'.cell? ⟨gb370, 1, none⟩ = some (.slice A0_1 l0_1.length c0_1) ∧ w'.cell? ⟨gb370, 2, none⟩ = some (.slice A0_2 l0_2.length c0_2)) ∧ (Kd.V (Kd.int .u32) 89 w' w.heap.size (fun k_ => some k_ ≠ (s_.2.1 : Value).ownBlock ∧ some k_ ≠ (s_.2.2.1 : Value).ownBlock ∧ some k_ ≠ (s_.2.2.2.1 : Value).ownBlock ∧ k_ ≠ gb370 ∧ k_ ≠ gb371 ∧ k_ ≠ s_.2.2.2.2) s_.1 t372) ∧ (Kd.R (Kd.int .u32) 89 w' w.heap.size (fun k_ => some k_ ≠ (s_.2.2.1 : Value).ownBlock ∧ some k_ ≠ (s_.2.2.2.1 : Value).ownBlock) s_.2.1 t376) ∧ (Kd.R (Kd.int .u32) 89 w' w.heap.size (fun k_ => some k_ ≠ (s_.2.1 : Value).ownBlock ∧ some k_ ≠ (s_.2.2.2.1 : Value).ownBlock) s_.2.2.1 t380) ∧ (Kd.R (Kd.int .u32) 89 w' w.heap.size (fun k_ => some k_ ≠ (s_.2.1 : Value).ownBlock ∧ some k_ ≠ (s_.2.2.1 : Value).ownBlock) s_.2.2.2.1 t384) ∧ (w'.heap[gb370]? = some (.cells #[.bool a0_0, .slice A0_1 l0_1.length c0_1, .slice A0_2 l0_2.length c0_2] 27 (0, 0))) ∧ (w'.heap[gb371]? = some (.cells #[.bool false, .slice none 0 0] 25 (0, 0))) ∧ (w'.heap[s_.2.2.2.2]? = some (.cells #[.bool false, .slice none 0 0] 25 (0, 0))) ∧ (w.heap.size ≤ s_.2.2.2.2) ∧ (w.heap.size ≤ s_.2.2.2.2) ∧ (gb370 ≠ s_.2.2.2.2) ∧ (s_.2.2.2.2 ≠ gb370) ∧ (gb371 ≠ s_.2.2.2.2) ∧ (s_.2.2.2.2 ≠ gb371) ∧ (Below w.heap.size w w')) ?_ ?_
  rotate_left
  ·intro hJ3_4_5_10
   refine join_ (σ := Value × Value × Value × Value × Nat) 4 #[true, true, true, true, true, true, true, true, true, true, false, true, false, false, false] (fun s_ => [(10, s_.1), (11, .agg #[.bool t375, s_.2.1]), (12, .tuple #[.agg #[.bool t379, s_.2.2.1], .agg #[.bool t383, s_.2.2.2.1], .int .i64 t387]), (4, .pointer (some ⟨s_.2.2.2.2, 0, none⟩)), (6, .tuple #[.agg #[.bool t379, s_.2.2.1], .agg #[.bool t383, s_.2.2.2.1], .int .i64 t387]), (13, .agg #[.bool t379, s_.2.2.1]), (14, .agg #[.bool t383, s_.2.2.2.1]), (15, .int .i64 t387)]) (fun s_ w' => (w'.cell? ⟨gb370, 0, none⟩ = some (.bool a0_0) ∧ w'.cell? ⟨gb370, 1, none⟩ = some (.slice A0_1 l0_1.length c0_1) ∧ w'.cell? ⟨gb370, 2, none⟩ = some (.slice A0_2 l0_2.length c0_2)) ∧ (Kd.V (Kd.int .u32) 89 w' w.heap.size (fun k_ => some k_ ≠ (s_.2.1 : Value).ownBlock ∧ some k_ ≠ (s_.2.2.1 : Value).ownBlock ∧ some k_ ≠ (s_.2.2.2.1 : Value).ownBlock ∧ k_ ≠ gb370 ∧ k_ ≠ gb371 ∧ k_ ≠ s_.2.2.2.2) s_.1 t372) ∧ (Kd.R (Kd.int .u32) 89 w' w.heap.size (fun k_ => some k_ ≠ (s_.2.2.1 : Value).ownBlock ∧ some k_ ≠ (s_.2.2.2.1 : Value).ownBlock) s_.2.1 t376) ∧ (Kd.R (Kd.int .u32) 89 w' w.heap.size (fun k_ => some k_ ≠ (s_.2.1 : Value).ownBlock ∧ some k_ ≠ (s_.2.2.2.1 : Value).ownBlock) s_.2.2.1 t380) ∧ (Kd.R (Kd.int .u32) 89 w' w.heap.size (fun k_ => some k_ ≠ (s_.2.1 : Value).ownBlock ∧ some k_ ≠ (s_.2.2.1 : Value).ownBlock) s_.2.2.2.1 t384) ∧ (w'.heap[gb370]? = some (.cells #[.bool a0_0, .slice A0_1 l0_1.length c0_1, .slice A0_2 l0_2.length c0_2] 27 (0, 0))) ∧ (w'.heap[gb371]? = some (.cells #[.bool false, .slice none 0 0] 25 (0, 0))) ∧ (w'.heap[s_.2.2.2.2]? = some (.cells #[.bool false, .slice none 0 0] 25 (0, 0))) ∧ (w.heap.size ≤ s_.2.2.2.2) ∧ (w.heap.size ≤ s_.2.2.2.2) ∧ (gb370 ≠ s_.2.2.2.2) ∧ (s_.2.2.2.2 ≠ gb370) ∧ (gb371 ≠ s_.2.2.2.2) ∧ (s_.2.2.2.2 ≠ gb371) ∧ (Below w.heap.size w w')) ?_ ?_
   rotate_left
   ·intro hJ3_4_5_11
    refine join_ (σ := Value × Value × Nat × Nat) 8 #[true, true, true, true, true, false, false, false, false, false, true, true, false, false, false] (fun s_ => [(10, s_.1), (11, .agg #[.bool t375, s_.2.1]), (3, .pointer (some ⟨s_.2.2.1, 0, none⟩)), (4, .pointer (some ⟨s_.2.2.2, 0, none⟩))]) (fun s_ w' => (w'.cell? ⟨gb370, 0, none⟩ = some (.bool a0_0) ∧ w'.cell? ⟨gb370, 1, none⟩ = some (.slice A0_1 l0_1.length c0_1) ∧ w'.cell? ⟨gb370, 2, none⟩ = some (.slice A0_2 l0_2.length c0_2)) ∧ (Kd.V (Kd.int .u32) 89 w' w.heap.size (fun k_ => some k_ ≠ (s_.2.1 : Value).ownBlock ∧ k_ ≠ gb370 ∧ k_ ≠ gb371 ∧ k_ ≠ s_.2.2.1 ∧ k_ ≠ s_.2.2.2) s_.1 t372) ∧ (Kd.R (Kd.int .u32) 89 w' w.heap.size (fun _ => True) s_.2.1 t376) ∧ (w'.heap[gb370]? = some (.cells #[.bool a0_0, .slice A0_1 l0_1.length c0_1, .slice A0_2 l0_2.length c0_2] 27 (0, 0))) ∧ (w'.heap[gb371]? = some (.cells #[.bool false, .slice none 0 0] 25 (0, 0))) ∧ (w'.heap[s_.2.2.1]? = some (.cells #[.bool false, .slice none 0 0] 25 (0, 0))) ∧ (w'.heap[s_.2.2.2]? = some (.cells #[.bool false, .slice none 0 0] 25 (0, 0))) ∧ (w.heap.size ≤ s_.2.2.1) ∧ (w.heap.size ≤ s_.2.2.1) ∧ (gb370 ≠ s_.2.2.1) ∧ (s_.2.2.1 ≠ gb370) ∧ (gb371 ≠ s_.2.2.1) ∧ (s_.2.2.1 ≠ gb371) ∧ (s_.2.2.2 ≠ s_.2.2.1) ∧ (s_.2.2.1 ≠ s_.2.2.2) ∧ (w.heap.size ≤ s_.2.2.2) ∧ (w.heap.size ≤ s_.2.2.2) ∧ (gb370 ≠ s_.2.2.2) ∧ (s_.2.2.2 ≠ gb370) ∧ (gb371 ≠ s_.2.2.2) ∧ (s_.2.2.2 ≠ gb371) ∧ (Below w.heap.size w w')) ?_ ?_
    rotate_left
    ·intro hJ3_4_10_11
     refine join_ (σ := Value × Value × Value × Value) 5 #[true, true, true, true, true, true, true, true, true, true, false, false, false, false, false] (fun s_ => [(10, s_.1), (11, .agg #[.bool t375, s_.2.1]), (12, .tuple #[.agg #[.bool t379, s_.2.2.1], .agg #[.bool t383, s_.2.2.2], .int .i64 t387]), (6, .tuple #[.agg #[.bool t379, s_.2.2.1], .agg #[.bool t383, s_.2.2.2], .int .i64 t387]), (13, .agg #[.bool t379, s_.2.2.1]), (14, .agg #[.bool t383, s_.2.2.2]), (15, .int .i64 t387)]) (fun s_ w' => (w'.cell? ⟨gb370, 0, none⟩ = some (.bool a0_0) ∧ w'.cell? ⟨gb370, 1, none⟩ = some (.slice A0_1 l0_1.length c0_1) ∧ w'.cell? ⟨gb370, 2, none⟩ = some (.slice A0_2 l0_2.length c0_2)) ∧ (Kd.V (Kd.int .u32) 89 w' w.heap.size (fun k_ => some k_ ≠ (s_.2.1 : Value).ownBlock ∧ some k_ ≠ (s_.2.2.1 : Value).ownBlock ∧ some k_ ≠ (s_.2.2.2 : Value).ownBlock ∧ k_ ≠ gb370 ∧ k_ ≠ gb371) s_.1 t372) ∧ (Kd.R (Kd.int .u32) 89 w' w.heap.size (fun k_ => some k_ ≠ (s_.2.2.1 : Value).ownBlock ∧ some k_ ≠ (s_.2.2.2 : Value).ownBlock) s_.2.1 t376) ∧ (Kd.R (Kd.int .u32) 89 w' w.heap.size (fun k_ => some k_ ≠ (s_.2.1 : Value).ownBlock ∧ some k_ ≠ (s_.2.2.2 : Value).ownBlock) s_.2.2.1 t380) ∧ (Kd.R (Kd.int .u32) 89 w' w.heap.size (fun k_ => some k_ ≠ (s_.2.1 : Value).ownBlock ∧ some k_ ≠ (s_.2.2.1 : Value).ownBlock) s_.2.2.2 t384) ∧ (w'.heap[gb370]? = some (.cells #[.bool a0_0, .slice A0_1 l0_1.length c0_1, .slice A0_2 l0_2.length c0_2] 27 (0, 0))) ∧ (w'.heap[gb371]? = some (.cells #[.bool false, .slice none 0 0] 25 (0, 0))) ∧ (Below w.heap.size w w')) ?_ ?_
     rotate_left
     ·intro hJ3_4_5
      refine join_ (σ := Value × Value × Nat) 9 #[true, true, true, true, true, false, false, false, false, false, true, false, false, false, false] (fun s_ => [(10, s_.1), (11, .agg #[.bool t375, s_.2.1]), (3, .pointer (some ⟨s_.2.2, 0, none⟩))]) (fun s_ w' => (w'.cell? ⟨gb370, 0, none⟩ = some (.bool a0_0) ∧ w'.cell? ⟨gb370, 1, none⟩ = some (.slice A0_1 l0_1.length c0_1) ∧ w'.cell? ⟨gb370, 2, none⟩ = some (.slice A0_2 l0_2.length c0_2)) ∧ (Kd.V (Kd.int .u32) 89 w' w.heap.size (fun k_ => some k_ ≠ (s_.2.1 : Value).ownBlock ∧ k_ ≠ gb370 ∧ k_ ≠ gb371 ∧ k_ ≠ s_.2.2) s_.1 t372) ∧ (Kd.R (Kd.int .u32) 89 w' w.heap.size (fun _ => True) s_.2.1 t376) ∧ (w'.heap[gb370]? = some (.cells #[.bool a0_0, .slice A0_1 l0_1.length c0_1, .slice A0_2 l0_2.length c0_2] 27 (0, 0))) ∧ (w'.heap[gb371]? = some (.cells #[.bool false, .slice none 0 0] 25 (0, 0))) ∧ (w'.heap[s_.2.2]? = some (.cells #[.bool false, .slice none 0 0] 25 (0, 0))) ∧ (w.heap.size ≤ s_.2.2) ∧ (w.heap.size ≤ s_.2.2) ∧ (gb370 ≠ s_.2.2) ∧ (s_.2.2 ≠ gb370) ∧ (gb371 ≠ s_.2.2) ∧ (s_.2.2 ≠ gb371) ∧ (Below w.heap.size w w')) ?_ ?_
      rotate_left
      ·intro hJ3_4_10
       refine join_ (σ := Value × Value × Nat) 9 #[true, true, true, true, true, false, false, false, false, false, false, true, false, false, false] (fun s_ => [(10, s_.1), (11, .agg #[.bool t375, s_.2.1]), (4, .pointer (some ⟨s_.2.2, 0, none⟩))]) (fun s_ w' => (w'.cell? ⟨gb370, 0, none⟩ = some (.bool a0_0) ∧ w'.cell? ⟨gb370, 1, none⟩ = some (.slice A0_1 l0_1.length c0_1) ∧ w'.cell? ⟨gb370, 2, none⟩ = some (.slice A0_2 l0_2.length c0_2)) ∧ (Kd.V (Kd.int .u32) 89 w' w.heap.size (fun k_ => some k_ ≠ (s_.2.1 : Value).ownBlock ∧ k_ ≠ gb370 ∧ k_ ≠ gb371 ∧ k_ ≠ s_.2.2) s_.1 t372) ∧ (Kd.R (Kd.int .u32) 89 w' w.heap.size (fun _ => True) s_.2.1 t376) ∧ (w'.heap[gb370]? = some (.cells #[.bool a0_0, .slice A0_1 l0_1.length c0_1, .slice A0_2 l0_2.length c0_2] 27 (0, 0))) ∧ (w'.heap[gb371]? = some (.cells #[.bool false, .slice none 0 0] 25 (0, 0))) ∧ (w'.heap[s_.2.2]? = some (.cells #[.bool false, .slice none 0 0] 25 (0, 0))) ∧ (w.heap.size ≤ s_.2.2) ∧ (w.heap.size ≤ s_.2.2) ∧ (gb370 ≠ s_.2.2) ∧ (s_.2.2 ≠ gb370) ∧ (gb371 ≠ s_.2.2) ∧ (s_.2.2 ≠ gb371) ∧ (Below w.heap.size w w')) ?_ ?_
       rotate_left
       ·intro hJ3_4_11
        refine join_ (σ := Value × Nat × Nat) 9 #[true, true, true, true, false, false, false, false, false, false, true, true, false, false, false] (fun s_ => [(10, s_.1), (3, .pointer (some ⟨s_.2.1, 0, none⟩)), (4, .pointer (some ⟨s_.2.2, 0, none⟩))]) (fun s_ w' => (w'.cell? ⟨gb370, 0, none⟩ = some (.bool a0_0) ∧ w'.cell? ⟨gb370, 1, none⟩ = some (.slice A0_1 l0_1.length c0_1) ∧ w'.cell? ⟨gb370, 2, none⟩ = some (.slice A0_2 l0_2.length c0_2)) ∧ (Kd.V (Kd.int .u32) 89 w' w.heap.size (fun k_ => k_ ≠ gb370 ∧ k_ ≠ gb371 ∧ k_ ≠ s_.2.1 ∧ k_ ≠ s_.2.2) s_.1 t372) ∧ (w'.heap[gb370]? = some (.cells #[.bool a0_0, .slice A0_1 l0_1.length c0_1, .slice A0_2 l0_2.length c0_2] 27 (0, 0))) ∧ (w'.heap[gb371]? = some (.cells #[.bool false, .slice none 0 0] 25 (0, 0))) ∧ (w'.heap[s_.2.1]? = some (.cells #[.bool false, .slice none 0 0] 25 (0, 0))) ∧ (w'.heap[s_.2.2]? = some (.cells #[.bool false, .slice none 0 0] 25 (0, 0))) ∧ (w.heap.size ≤ s_.2.1) ∧ (w.heap.size ≤ s_.2.1) ∧ (gb370 ≠ s_.2.1) ∧ (s_.2.1 ≠ gb370) ∧ (gb371 ≠ s_.2.1) ∧ (s_.2.1 ≠ gb371) ∧ (s_.2.2 ≠ s_.2.1) ∧ (s_.2.1 ≠ s_.2.2) ∧ (w.heap.size ≤ s_.2.2) ∧ (w.heap.size ≤ s_.2.2) ∧ (gb370 ≠ s_.2.2) ∧ (s_.2.2 ≠ gb370) ∧ (gb371 ≠ s_.2.2) ∧ (s_.2.2 ≠ gb371) ∧ (Below w.heap.size w w')) ?_ ?_
        rotate_left
        ·intro hJ3_10_11
         refine join_ (σ := Value × Value) 10 #[true, true, true, true, true, false, false, false, false, false, false, false, false, false, false] (fun s_ => [(10, s_.1), (11, .agg #[.bool t375, s_.2])]) (fun s_ w' => (w'.cell? ⟨gb370, 0, none⟩ = some (.bool a0_0) ∧ w'.cell? ⟨gb370, 1, none⟩ = some (.slice A0_1 l0_1.length c0_1) ∧ w'.cell? ⟨gb370, 2, none⟩ = some (.slice A0_2 l0_2.length c0_2)) ∧ (Kd.V (Kd.int .u32) 89 w' w.heap.size (fun k_ => some k_ ≠ (s_.2 : Value).ownBlock ∧ k_ ≠ gb370 ∧ k_ ≠ gb371) s_.1 t372) ∧ (Kd.R (Kd.int .u32) 89 w' w.heap.size (fun _ => True) s_.2 t376) ∧ (w'.heap[gb370]? = some (.cells #[.bool a0_0, .slice A0_1 l0_1.length c0_1, .slice A0_2 l0_2.length c0_2] 27 (0, 0))) ∧ (w'.heap[gb371]? = some (.cells #[.bool false, .slice none 0 0] 25 (0, 0))) ∧ (Below w.heap.size w w')) ?_ ?_
         rotate_left
         ·intro hJ3_4
          refine join_ (σ := Value × Nat) 10 #[true, true, true, true, false, false, false, false, false, false, true, false, false, false, false] (fun s_ => [(10, s_.1), (3, .pointer (some ⟨s_.2, 0, none⟩))]) (fun s_ w' => (w'.cell? ⟨gb370, 0, none⟩ = some (.bool a0_0) ∧ w'.cell? ⟨gb370, 1, none⟩ = some (.slice A0_1 l0_1.length c0_1) ∧ w'.cell? ⟨gb370, 2, none⟩ = some (.slice A0_2 l0_2.length c0_2)) ∧ (Kd.V (Kd.int .u32) 89 w' w.heap.size (fun k_ => k_ ≠ gb370 ∧ k_ ≠ gb371 ∧ k_ ≠ s_.2) s_.1 t372) ∧ (w'.heap[gb370]? = some (.cells #[.bool a0_0, .slice A0_1 l0_1.length c0_1, .slice A0_2 l0_2.length c0_2] 27 (0, 0))) ∧ (w'.heap[gb371]? = some (.cells #[.bool false, .slice none 0 0] 25 (0, 0))) ∧ (w'.heap[s_.2]? = some (.cells #[.bool false, .slice none 0 0] 25 (0, 0))) ∧ (w.heap.size ≤ s_.2) ∧ (w.heap.size ≤ s_.2) ∧ (gb370 ≠ s_.2) ∧ (s_.2 ≠ gb370) ∧ (gb371 ≠ s_.2) ∧ (s_.2 ≠ gb371) ∧ (Below w.heap.size w w')) ?_ ?_
          rotate_left
          ·intro hJ3_10
           refine join_ (σ := Value × Nat) 10 #[true, true, true, true, false, false, false, false, false, false, false, true, false, false, false] (fun s_ => [(10, s_.1), (4, .pointer (some ⟨s_.2, 0, none⟩))]) (fun s_ w' => (w'.cell? ⟨gb370, 0, none⟩ = some (.bool a0_0) ∧ w'.cell? ⟨gb370, 1, none⟩ = some (.slice A0_1 l0_1.length c0_1) ∧ w'.cell? ⟨gb370, 2, none⟩ = some (.slice A0_2 l0_2.length c0_2)) ∧ (Kd.V (Kd.int .u32) 89 w' w.heap.size (fun k_ => k_ ≠ gb370 ∧ k_ ≠ gb371 ∧ k_ ≠ s_.2) s_.1 t372) ∧ (w'.heap[gb370]? = some (.cells #[.bool a0_0, .slice A0_1 l0_1.length c0_1, .slice A0_2 l0_2.length c0_2] 27 (0, 0))) ∧ (w'.heap[gb371]? = some (.cells #[.bool false, .slice none 0 0] 25 (0, 0))) ∧ (w'.heap[s_.2]? = some (.cells #[.bool false, .slice none 0 0] 25 (0, 0))) ∧ (w.heap.size ≤ s_.2) ∧ (w.heap.size ≤ s_.2) ∧ (gb370 ≠ s_.2) ∧ (s_.2 ≠ gb370) ∧ (gb371 ≠ s_.2) ∧ (s_.2 ≠ gb371) ∧ (Below w.heap.size w w')) ?_ ?_
           rotate_left
           ·intro hJ3_11
            refine join_ (σ := Nat × Nat) 10 #[true, true, true, false, false, false, false, false, false, false, true, true, false, false, false] (fun s_ => [(3, .pointer (some ⟨s_.1, 0, none⟩)), (4, .pointer (some ⟨s_.2, 0, none⟩))]) (fun s_ w' => (w'.cell? ⟨gb370, 0, none⟩ = some (.bool a0_0) ∧ w'.cell? ⟨gb370, 1, none⟩ = some (.slice A0_1 l0_1.length c0_1) ∧ w'.cell? ⟨gb370, 2, none⟩ = some (.slice A0_2 l0_2.length c0_2)) ∧ (w'.heap[gb370]? = some (.cells #[.bool a0_0, .slice A0_1 l0_1.length c0_1, .slice A0_2 l0_2.length c0_2] 27 (0, 0))) ∧ (w'.heap[gb371]? = some (.cells #[.bool false, .slice none 0 0] 25 (0, 0))) ∧ (w'.heap[s_.1]? = some (.cells #[.bool false, .slice none 0 0] 25 (0, 0))) ∧ (w'.heap[s_.2]? = some (.cells #[.bool false, .slice none 0 0] 25 (0, 0))) ∧ (w.heap.size ≤ s_.1) ∧ (w.heap.size ≤ s_.1) ∧ (gb370 ≠ s_.1) ∧ (s_.1 ≠ gb370) ∧ (gb371 ≠ s_.1) ∧ (s_.1 ≠ gb371) ∧ (s_.2 ≠ s_.1) ∧ (s_.1 ≠ s_.2) ∧ (w.heap.size ≤ s_.2) ∧ (w.heap.size ≤ s_.2) ∧ (gb370 ≠ s_.2) ∧ (s_.2 ≠ gb370) ∧ (gb371 ≠ s_.2) ∧ (s_.2 ≠ gb371) ∧ (Below w.heap.size w w')) ?_ ?_
            rotate_left
            ·intro hJ10_11
             refine join_ (σ := Value) 11 #[true, true, true, true, false, false, false, false, false, false, false, false, false, false, false] (fun s_ => [(10, s_)]) (fun s_ w' => (w'.cell? ⟨gb370, 0, none⟩ = some (.bool a0_0) ∧ w'.cell? ⟨gb370, 1, none⟩ = some (.slice A0_1 l0_1.length c0_1) ∧ w'.cell? ⟨gb370, 2, none⟩ = some (.slice A0_2 l0_2.length c0_2)) ∧ (Kd.V (Kd.int .u32) 89 w' w.heap.size (fun k_ => k_ ≠ gb370 ∧ k_ ≠ gb371) s_ t372) ∧ (w'.heap[gb370]? = some (.cells #[.bool a0_0, .slice A0_1 l0_1.length c0_1, .slice A0_2 l0_2.length c0_2] 27 (0, 0))) ∧ (w'.heap[gb371]? = some (.cells #[.bool false, .slice none 0 0] 25 (0, 0))) ∧ (Below w.heap.size w w')) ?_ ?_
             rotate_left
             ·intro hJ3
              refine join_ (σ := Nat) 11 #[true, true, true, false, false, false, false, false, false, false, true, false, false, false, false] (fun s_ => [(3, .pointer (some ⟨s_, 0, none⟩))]) (fun s_ w' => (w'.cell? ⟨gb370, 0, none⟩ = some (.bool a0_0) ∧ w'.cell? ⟨gb370, 1, none⟩ = some (.slice A0_1 l0_1.length c0_1) ∧ w'.cell? ⟨gb370, 2, none⟩ = some (.slice A0_2 l0_2.length c0_2)) ∧ (w'.heap[gb370]? = some (.cells #[.bool a0_0, .slice A0_1 l0_1.length c0_1, .slice A0_2 l0_2.length c0_2] 27 (0, 0))) ∧ (w'.heap[gb371]? = some (.cells #[.bool false, .slice none 0 0] 25 (0, 0))) ∧ (w'.heap[s_]? = some (.cells #[.bool false, .slice none 0 0] 25 (0, 0))) ∧ (w.heap.size ≤ s_) ∧ (w.heap.size ≤ s_) ∧ (gb370 ≠ s_) ∧ (s_ ≠ gb370) ∧ (gb371 ≠ s_) ∧ (s_ ≠ gb371) ∧ (Below w.heap.size w w')) ?_ ?_
              rotate_left
              ·intro hJ10
               refine join_ (σ := Nat) 11 #[true, true, true, false, false, false, false, false, false, false, false, true, false, false, false] (fun s_ => [(4, .pointer (some ⟨s_, 0, none⟩))]) (fun s_ w' => (w'.cell? ⟨gb370, 0, none⟩ = some (.bool a0_0) ∧ w'.cell? ⟨gb370, 1, none⟩ = some (.slice A0_1 l0_1.length c0_1) ∧ w'.cell? ⟨gb370, 2, none⟩ = some (.slice A0_2 l0_2.length c0_2)) ∧ (w'.heap[gb370]? = some (.cells #[.bool a0_0, .slice A0_1 l0_1.length c0_1, .slice A0_2 l0_2.length c0_2] 27 (0, 0))) ∧ (w'.heap[gb371]? = some (.cells #[.bool false, .slice none 0 0] 25 (0, 0))) ∧ (w'.heap[s_]? = some (.cells #[.bool false, .slice none 0 0] 25 (0, 0))) ∧ (w.heap.size ≤ s_) ∧ (w.heap.size ≤ s_) ∧ (gb370 ≠ s_) ∧ (s_ ≠ gb370) ∧ (gb371 ≠ s_) ∧ (s_ ≠ gb371) ∧ (Below w.heap.size w w')) ?_ ?_
               rotate_left
               ·intro hJ11
                refine three_ (i := 3) (j := 10) (k := 11) (Ni := some 10) (Nj := some 3) (Nk := some 4) #[true, true, true, true, false, false, false, false, false, false, false, false, false, false, false] #[true, true, true, false, false, false, false, false, false, false, true, false, false, false, false] #[true, true, true, false, false, false, false, false, false, false, false, true, false, false, false] rfl rfl rfl rfl rfl rfl (three_of HT_.out (by kernel_rfl)) (by decide) (by decide) (by decide) (fun K hK => ?_) (fun K hK => ?_) (fun K hK => ?_)
                ·skip
                 refine Short.goesD_ Try.func46 #[.agg #[.bool a0_0, .slice A0_1 l0_1.length c0_1, .slice A0_2 l0_2.length c0_2]] ?_
                 with_reducible refine (rat_den.calls k a0_0 _ _ l0_1 (fun k_ => k_ < w.heap.size) _ _ l0_2 t372 _ (Kd.C_below HR0_1.out HB.out) HC0_1.out ?side3 A2.out).mono ?_
                 (case side3 => exact Kd.V_mk HC0_2.out (Kd.F_below (Kd.C_F (Kd.heap_int .u32) HR0_2.out) HB.out))
                 rintro e w8 ⟨v373, rfl, ho0, hb⟩
                 refine ⟨_, rfl, ?_⟩
                 have HO374 := Aside0.mk (Kd.V_lower (Kd.V_mono (ok' := fun k_ => k_ ≠ gb370 ∧ k_ ≠ gb371) ho0 (fun k_ hk_ => ⟨Or.elim hk_ (fun hs_ => fun e_ => Nat.not_le.2 hs_ (by rw [e_]; exact GW370.out)) (fun hn_ => (Kd.freshB (g := gb370) (o := .cells #[.bool a0_0, .slice A0_1 l0_1.length c0_1, .slice A0_2 l0_2.length c0_2] 27 (0, 0)) BK370.out k_ hn_)), Or.elim hk_ (fun hs_ => fun e_ => Nat.not_le.2 hs_ (by rw [e_]; exact GW371.out)) (fun hn_ => (Kd.freshB (g := gb371) (o := .cells #[.bool false, .slice none 0 0] 25 (0, 0)) BK371.out k_ hn_))⟩)) (below_size HB.out))
                 replace BK370 := Aside0.mk (blk_below BK370.out hb)
                 replace BK371 := Aside0.mk (blk_below BK371.out hb)
                 replace HB := Aside0.mk (below_step HB.out hb)
                 (try clear hb)
                 (try clear ho0)
                 refine hK.out _ _ ⟨(blk_cell BK370.out 0).trans rfl, (blk_cell BK370.out 1).trans rfl, (blk_cell BK370.out 2).trans rfl⟩ (fun hHeld => ?_)
                 clear hK K
                 refine Short.normS_ ?_
                 exact Short.normP_ (hJ3 (v373) _ ⟨hHeld, HO374.out, BK370.out, BK371.out, HB.out⟩)
                ·skip
                 refine Short.boxD_ (N := 3) (cs := #[.bool false, .slice none 0 0]) (t := 25) ?_
                 intro gb388 hg w8 hbox hb
                 have BK388 := Aside0.mk (hbox)
                 have GW388 := Aside0.mk ((by rw [hg]; exact (below_size HB.out) : w.heap.size ≤ gb388))
                 have GE388 := Aside0.mk ((by rw [hg]; exact (below_size HB.out) : w.heap.size ≤ gb388))
                 replace HB := Aside0.mk (below_step HB.out hb)
                 have NB370_388 := Short.ltA_ hg BK370
                 have NB388_370 := Short.gtA_ hg BK370
                 replace BK370 := Aside0.mk (blk_below BK370.out hb)
                 have NB371_388 := Short.ltA_ hg BK371
                 have NB388_371 := Short.gtA_ hg BK371
                 replace BK371 := Aside0.mk (blk_below BK371.out hb)
                 clear hb hbox hg
                 refine hK.out _ _ ⟨(blk_cell BK370.out 0).trans rfl, (blk_cell BK370.out 1).trans rfl, (blk_cell BK370.out 2).trans rfl⟩ (fun hHeld => ?_)
                 clear hK K
                 refine Short.normS_ ?_
                 exact Short.normP_ (hJ10 (gb388) _ ⟨hHeld, BK370.out, BK371.out, BK388.out, GW388.out, GE388.out, NB370_388.out, NB388_370.out, NB371_388.out, NB388_371.out, HB.out⟩)
                ·skip
                 refine Short.boxD_ (N := 4) (cs := #[.bool false, .slice none 0 0]) (t := 25) ?_
                 intro gb389 hg w8 hbox hb
                 have BK389 := Aside0.mk (hbox)
                 have GW389 := Aside0.mk ((by rw [hg]; exact (below_size HB.out) : w.heap.size ≤ gb389))
                 have GE389 := Aside0.mk ((by rw [hg]; exact (below_size HB.out) : w.heap.size ≤ gb389))
                 replace HB := Aside0.mk (below_step HB.out hb)
                 have NB370_389 := Short.ltA_ hg BK370
                 have NB389_370 := Short.gtA_ hg BK370
                 replace BK370 := Aside0.mk (blk_below BK370.out hb)
                 have NB371_389 := Short.ltA_ hg BK371
                 have NB389_371 := Short.gtA_ hg BK371
                 replace BK371 := Aside0.mk (blk_below BK371.out hb)
                 clear hb hbox hg
                 refine hK.out _ _ ⟨(blk_cell BK370.out 0).trans rfl, (blk_cell BK370.out 1).trans rfl, (blk_cell BK370.out 2).trans rfl⟩ (fun hHeld => ?_)
                 clear hK K
                 refine Short.normS_ ?_
                 exact Short.normP_ (hJ11 (gb389) _ ⟨hHeld, BK370.out, BK371.out, BK389.out, GW389.out, GE389.out, NB370_389.out, NB389_370.out, NB371_389.out, NB389_371.out, HB.out⟩)
               ·skip
                rintro gb389 w9 ⟨hS_, h0_, h1_, h2_, h3_, h4_, h5_, h6_, h7_, h8_, h9_⟩
                replace BK370 : Aside0 (w9.heap[gb370]? = some (.cells #[.bool a0_0, .slice A0_1 l0_1.length c0_1, .slice A0_2 l0_2.length c0_2] 27 (0, 0))) := ⟨h0_⟩
                replace BK371 : Aside0 (w9.heap[gb371]? = some (.cells #[.bool false, .slice none 0 0] 25 (0, 0))) := ⟨h1_⟩
                have BK389 : Aside0 (w9.heap[gb389]? = some (.cells #[.bool false, .slice none 0 0] 25 (0, 0))) := ⟨h2_⟩
                have GW389 : Aside0 (w.heap.size ≤ gb389) := ⟨h3_⟩
                have GE389 : Aside0 (w.heap.size ≤ gb389) := ⟨h4_⟩
                have NB370_389 : Aside0 (gb370 ≠ gb389) := ⟨h5_⟩
                have NB389_370 : Aside0 (gb389 ≠ gb370) := ⟨h6_⟩
                have NB371_389 : Aside0 (gb371 ≠ gb389) := ⟨h7_⟩
                have NB389_371 : Aside0 (gb389 ≠ gb371) := ⟨h8_⟩
                replace HB : Aside0 (Below w.heap.size w w9) := ⟨h9_⟩
                clear h0_ h1_ h2_ h3_ h4_ h5_ h6_ h7_ h8_ h9_
                have hHeld : w9.cell? ⟨gb370, 0, none⟩ = some (.bool a0_0) ∧ w9.cell? ⟨gb370, 1, none⟩ = some (.slice A0_1 l0_1.length c0_1) ∧ w9.cell? ⟨gb370, 2, none⟩ = some (.slice A0_2 l0_2.length c0_2) := hS_
                refine norm_ (a' := ?_) ?_ ?_
                rotate_left
                ·simp only [putAll, Act.put, List.setIfInBounds_toArray, List.set_cons_zero, List.set_cons_succ]
                 rfl
                refine two_ (i := 3) (j := 10) (Ni := some 10) (Nj := some 3) #[true, true, true, true, false, false, false, false, false, false, false, true, false, false, false] #[true, true, true, false, false, false, false, false, false, false, true, true, false, false, false] rfl rfl rfl rfl (two_of HT_.out (by kernel_rfl)) (by decide) (by decide) (fun K hK => ?_) (fun K hK => ?_)
                ·skip
                 refine Short.goesD_ Try.func46 #[.agg #[.bool a0_0, .slice A0_1 l0_1.length c0_1, .slice A0_2 l0_2.length c0_2]] ?_
                 with_reducible refine (rat_den.calls k a0_0 _ _ l0_1 (fun k_ => k_ < w.heap.size) _ _ l0_2 t372 _ (Kd.C_below HR0_1.out HB.out) HC0_1.out ?side3 A2.out).mono ?_
                 (case side3 => exact Kd.V_mk HC0_2.out (Kd.F_below (Kd.C_F (Kd.heap_int .u32) HR0_2.out) HB.out))
                 rintro e w10 ⟨v373, rfl, ho0, hb⟩
                 refine ⟨_, rfl, ?_⟩
                 have HO374 := Aside0.mk (Kd.V_lower (Kd.V_mono (ok' := fun k_ => k_ ≠ gb370 ∧ k_ ≠ gb371 ∧ k_ ≠ gb389) ho0 (fun k_ hk_ => ⟨Or.elim hk_ (fun hs_ => fun e_ => Nat.not_le.2 hs_ (by rw [e_]; exact GW370.out)) (fun hn_ => (Kd.freshB (g := gb370) (o := .cells #[.bool a0_0, .slice A0_1 l0_1.length c0_1, .slice A0_2 l0_2.length c0_2] 27 (0, 0)) BK370.out k_ hn_)), Or.elim hk_ (fun hs_ => fun e_ => Nat.not_le.2 hs_ (by rw [e_]; exact GW371.out)) (fun hn_ => (Kd.freshB (g := gb371) (o := .cells #[.bool false, .slice none 0 0] 25 (0, 0)) BK371.out k_ hn_)), Or.elim hk_ (fun hs_ => fun e_ => Nat.not_le.2 hs_ (by rw [e_]; exact GW389.out)) (fun hn_ => (Kd.freshB (g := gb389) (o := .cells #[.bool false, .slice none 0 0] 25 (0, 0)) BK389.out k_ hn_))⟩)) (below_size HB.out))
                 replace BK370 := Aside0.mk (blk_below BK370.out hb)
                 replace BK371 := Aside0.mk (blk_below BK371.out hb)
                 replace BK389 := Aside0.mk (blk_below BK389.out hb)
                 replace HB := Aside0.mk (below_step HB.out hb)
                 (try clear hb)
                 (try clear ho0)
                 refine hK.out _ _ ⟨(blk_cell BK370.out 0).trans rfl, (blk_cell BK370.out 1).trans rfl, (blk_cell BK370.out 2).trans rfl⟩ (fun hHeld => ?_)
                 clear hK K
                 refine Short.normS_ ?_
                 exact Short.normP_ (hJ3_11 (v373, gb389) _ ⟨hHeld, HO374.out, BK370.out, BK371.out, BK389.out, GW389.out, GE389.out, NB370_389.out, NB389_370.out, NB371_389.out, NB389_371.out, HB.out⟩)
                ·skip
                 refine Short.boxD_ (N := 3) (cs := #[.bool false, .slice none 0 0]) (t := 25) ?_
                 intro gb388 hg w10 hbox hb
                 have BK388 := Aside0.mk (hbox)
                 have GW388 := Aside0.mk ((by rw [hg]; exact (below_size HB.out) : w.heap.size ≤ gb388))
                 have GE388 := Aside0.mk ((by rw [hg]; exact (below_size HB.out) : w.heap.size ≤ gb388))
                 replace HB := Aside0.mk (below_step HB.out hb)
                 have NB370_388 := Short.ltA_ hg BK370
                 have NB388_370 := Short.gtA_ hg BK370
                 replace BK370 := Aside0.mk (blk_below BK370.out hb)
                 have NB371_388 := Short.ltA_ hg BK371
                 have NB388_371 := Short.gtA_ hg BK371
                 replace BK371 := Aside0.mk (blk_below BK371.out hb)
                 have NB389_388 := Short.ltA_ hg BK389
                 have NB388_389 := Short.gtA_ hg BK389
                 replace BK389 := Aside0.mk (blk_below BK389.out hb)
                 clear hb hbox hg
                 refine hK.out _ _ ⟨(blk_cell BK370.out 0).trans rfl, (blk_cell BK370.out 1).trans rfl, (blk_cell BK370.out 2).trans rfl⟩ (fun hHeld => ?_)
                 clear hK K
                 refine Short.normS_ ?_
                 exact Short.normP_ (hJ10_11 (gb388, gb389) _ ⟨hHeld, BK370.out, BK371.out, BK388.out, BK389.out, GW388.out, GE388.out, NB370_388.out, NB388_370.out, NB371_388.out, NB388_371.out, NB389_388.out, NB388_389.out, GW389.out, GE389.out, NB370_389.out, NB389_370.out, NB371_389.out, NB389_371.out, HB.out⟩)
              ·skip
               rintro gb388 w9 ⟨hS_, h0_, h1_, h2_, h3_, h4_, h5_, h6_, h7_, h8_, h9_⟩
               replace BK370 : Aside0 (w9.heap[gb370]? = some (.cells #[.bool a0_0, .slice A0_1 l0_1.length c0_1, .slice A0_2 l0_2.length c0_2] 27 (0, 0))) := ⟨h0_⟩
               replace BK371 : Aside0 (w9.heap[gb371]? = some (.cells #[.bool false, .slice none 0 0] 25 (0, 0))) := ⟨h1_⟩
               have BK388 : Aside0 (w9.heap[gb388]? = some (.cells #[.bool false, .slice none 0 0] 25 (0, 0))) := ⟨h2_⟩
               have GW388 : Aside0 (w.heap.size ≤ gb388) := ⟨h3_⟩
               have GE388 : Aside0 (w.heap.size ≤ gb388) := ⟨h4_⟩
               have NB370_388 : Aside0 (gb370 ≠ gb388) := ⟨h5_⟩
               have NB388_370 : Aside0 (gb388 ≠ gb370) := ⟨h6_⟩
               have NB371_388 : Aside0 (gb371 ≠ gb388) := ⟨h7_⟩
               have NB388_371 : Aside0 (gb388 ≠ gb371) := ⟨h8_⟩
               replace HB : Aside0 (Below w.heap.size w w9) := ⟨h9_⟩
               clear h0_ h1_ h2_ h3_ h4_ h5_ h6_ h7_ h8_ h9_
               have hHeld : w9.cell? ⟨gb370, 0, none⟩ = some (.bool a0_0) ∧ w9.cell? ⟨gb370, 1, none⟩ = some (.slice A0_1 l0_1.length c0_1) ∧ w9.cell? ⟨gb370, 2, none⟩ = some (.slice A0_2 l0_2.length c0_2) := hS_
               refine norm_ (a' := ?_) ?_ ?_
               rotate_left
               ·simp only [putAll, Act.put, List.setIfInBounds_toArray, List.set_cons_zero, List.set_cons_succ]
                rfl
               refine two_ (i := 3) (j := 11) (Ni := some 10) (Nj := some 4) #[true, true, true, true, false, false, false, false, false, false, true, false, false, false, false] #[true, true, true, false, false, false, false, false, false, false, true, true, false, false, false] rfl rfl rfl rfl (two_of HT_.out (by kernel_rfl)) (by decide) (by decide) (fun K hK => ?_) (fun K hK => ?_)
               ·skip
                refine Short.goesD_ Try.func46 #[.agg #[.bool a0_0, .slice A0_1 l0_1.length c0_1, .slice A0_2 l0_2.length c0_2]] ?_
                with_reducible refine (rat_den.calls k a0_0 _ _ l0_1 (fun k_ => k_ < w.heap.size) _ _ l0_2 t372 _ (Kd.C_below HR0_1.out HB.out) HC0_1.out ?side3 A2.out).mono ?_
                (case side3 => exact Kd.V_mk HC0_2.out (Kd.F_below (Kd.C_F (Kd.heap_int .u32) HR0_2.out) HB.out))
                rintro e w10 ⟨v373, rfl, ho0, hb⟩
                refine ⟨_, rfl, ?_⟩
                have HO374 := Aside0.mk (Kd.V_lower (Kd.V_mono (ok' := fun k_ => k_ ≠ gb370 ∧ k_ ≠ gb371 ∧ k_ ≠ gb388) ho0 (fun k_ hk_ => ⟨Or.elim hk_ (fun hs_ => fun e_ => Nat.not_le.2 hs_ (by rw [e_]; exact GW370.out)) (fun hn_ => (Kd.freshB (g := gb370) (o := .cells #[.bool a0_0, .slice A0_1 l0_1.length c0_1, .slice A0_2 l0_2.length c0_2] 27 (0, 0)) BK370.out k_ hn_)), Or.elim hk_ (fun hs_ => fun e_ => Nat.not_le.2 hs_ (by rw [e_]; exact GW371.out)) (fun hn_ => (Kd.freshB (g := gb371) (o := .cells #[.bool false, .slice none 0 0] 25 (0, 0)) BK371.out k_ hn_)), Or.elim hk_ (fun hs_ => fun e_ => Nat.not_le.2 hs_ (by rw [e_]; exact GW388.out)) (fun hn_ => (Kd.freshB (g := gb388) (o := .cells #[.bool false, .slice none 0 0] 25 (0, 0)) BK388.out k_ hn_))⟩)) (below_size HB.out))
                replace BK370 := Aside0.mk (blk_below BK370.out hb)
                replace BK371 := Aside0.mk (blk_below BK371.out hb)
                replace BK388 := Aside0.mk (blk_below BK388.out hb)
                replace HB := Aside0.mk (below_step HB.out hb)
                (try clear hb)
                (try clear ho0)
                refine hK.out _ _ ⟨(blk_cell BK370.out 0).trans rfl, (blk_cell BK370.out 1).trans rfl, (blk_cell BK370.out 2).trans rfl⟩ (fun hHeld => ?_)
                clear hK K
                refine Short.normS_ ?_
                exact Short.normP_ (hJ3_10 (v373, gb388) _ ⟨hHeld, HO374.out, BK370.out, BK371.out, BK388.out, GW388.out, GE388.out, NB370_388.out, NB388_370.out, NB371_388.out, NB388_371.out, HB.out⟩)
               ·skip
                refine Short.boxD_ (N := 4) (cs := #[.bool false, .slice none 0 0]) (t := 25) ?_
                intro gb389 hg w10 hbox hb
                have BK389 := Aside0.mk (hbox)
                have GW389 := Aside0.mk ((by rw [hg]; exact (below_size HB.out) : w.heap.size ≤ gb389))
                have GE389 := Aside0.mk ((by rw [hg]; exact (below_size HB.out) : w.heap.size ≤ gb389))
                replace HB := Aside0.mk (below_step HB.out hb)
                have NB370_389 := Short.ltA_ hg BK370
                have NB389_370 := Short.gtA_ hg BK370
                replace BK370 := Aside0.mk (blk_below BK370.out hb)
                have NB371_389 := Short.ltA_ hg BK371
                have NB389_371 := Short.gtA_ hg BK371
                replace BK371 := Aside0.mk (blk_below BK371.out hb)
                have NB388_389 := Short.ltA_ hg BK388
                have NB389_388 := Short.gtA_ hg BK388
                replace BK388 := Aside0.mk (blk_below BK388.out hb)
                clear hb hbox hg
                refine hK.out _ _ ⟨(blk_cell BK370.out 0).trans rfl, (blk_cell BK370.out 1).trans rfl, (blk_cell BK370.out 2).trans rfl⟩ (fun hHeld => ?_)
                clear hK K
                refine Short.normS_ ?_
                exact Short.normP_ (hJ10_11 (gb388, gb389) _ ⟨hHeld, BK370.out, BK371.out, BK388.out, BK389.out, GW388.out, GE388.out, NB370_388.out, NB388_370.out, NB371_388.out, NB388_371.out, NB389_388.out, NB388_389.out, GW389.out, GE389.out, NB370_389.out, NB389_370.out, NB371_389.out, NB389_371.out, HB.out⟩)
             ·skip
              rintro v373 w9 ⟨hS_, h0_, h1_, h2_, h3_⟩
              have HO374 : Aside0 (Kd.V (Kd.int .u32) 89 w9 w.heap.size (fun k_ => k_ ≠ gb370 ∧ k_ ≠ gb371) v373 t372) := ⟨h0_⟩
              replace BK370 : Aside0 (w9.heap[gb370]? = some (.cells #[.bool a0_0, .slice A0_1 l0_1.length c0_1, .slice A0_2 l0_2.length c0_2] 27 (0, 0))) := ⟨h1_⟩
              replace BK371 : Aside0 (w9.heap[gb371]? = some (.cells #[.bool false, .slice none 0 0] 25 (0, 0))) := ⟨h2_⟩
              replace HB : Aside0 (Below w.heap.size w w9) := ⟨h3_⟩
              clear h0_ h1_ h2_ h3_
              have hHeld : w9.cell? ⟨gb370, 0, none⟩ = some (.bool a0_0) ∧ w9.cell? ⟨gb370, 1, none⟩ = some (.slice A0_1 l0_1.length c0_1) ∧ w9.cell? ⟨gb370, 2, none⟩ = some (.slice A0_2 l0_2.length c0_2) := hS_
              obtain ⟨Ao10, co10, eo10⟩ := Kd.V_slice HO374.out
              (first | subst eo10 | (injection eo10 with f1_ f2_ f3_; have f4_ := f1_.symm; have f5_ := f3_.symm; clear f1_ f2_ f3_; subst f4_; subst f5_))
              refine norm_ (a' := ?_) ?_ ?_
              rotate_left
              ·simp only [putAll, Act.put, List.setIfInBounds_toArray, List.set_cons_zero, List.set_cons_succ]
               rfl
              refine three_ (i := 4) (j := 10) (k := 11) (Ni := some 11) (Nj := some 3) (Nk := some 4) #[true, true, true, true, true, false, false, false, false, false, false, false, false, false, false] #[true, true, true, true, false, false, false, false, false, false, true, false, false, false, false] #[true, true, true, true, false, false, false, false, false, false, false, true, false, false, false] rfl rfl rfl rfl rfl rfl (three_of HT_.out (by kernel_rfl)) (by decide) (by decide) (by decide) (fun K hK => ?_) (fun K hK => ?_) (fun K hK => ?_)
              ·skip
               refine Short.goesD_ Try.func45 #[.bool false, .slice Ao10 t372.length co10] ?_
               with_reducible refine (whole_Make.calls k false _ _ t372 t375 t376 _ ((Kd.V_reads' HO374.out).2.2) ((Kd.V_reads' HO374.out).2.1) A3.out).mono ?_
               rintro e w11 ⟨v377, rfl, ho0, hb⟩
               refine ⟨_, rfl, ?_⟩
               replace HO374 := Aside0.mk (Kd.V_elder' HO374.out (Kd.R_base ho0) hb)
               have HO378 := Aside0.mk (Kd.R_lower ho0 (below_size HB.out))
               replace BK370 := Aside0.mk (blk_below BK370.out hb)
               replace BK371 := Aside0.mk (blk_below BK371.out hb)
               replace HB := Aside0.mk (below_step HB.out hb)
               (try clear hb)
               (try clear ho0)
               refine hK.out _ _ ⟨(blk_cell BK370.out 0).trans rfl, (blk_cell BK370.out 1).trans rfl, (blk_cell BK370.out 2).trans rfl⟩ (fun hHeld => ?_)
               clear hK K
               refine Short.normS_ ?_
               exact Short.normP_ (hJ3_4 (.slice Ao10 t372.length co10, v377) _ ⟨hHeld, (by (with_reducible repeat (first | apply Kd.V_alloc | apply Kd.V_drewN | apply Kd.V_drew)); exact Kd.V_mono HO374.out (fun _ hk => ⟨hk.2, ⟨hk.1.1, hk.1.2⟩⟩)), HO378.out, BK370.out, BK371.out, HB.out⟩)
              ·skip
               refine Short.boxD_ (N := 3) (cs := #[.bool false, .slice none 0 0]) (t := 25) ?_
               intro gb388 hg w10 hbox hb
               replace HO374 := Aside0.mk (Kd.V_below (Kd.V_elderB HO374.out gb388 (Nat.le_of_eq hg.symm)) hb)
               have BK388 := Aside0.mk (hbox)
               have GW388 := Aside0.mk ((by rw [hg]; exact (below_size HB.out) : w.heap.size ≤ gb388))
               have GE388 := Aside0.mk ((by rw [hg]; exact (below_size HB.out) : w.heap.size ≤ gb388))
               replace HB := Aside0.mk (below_step HB.out hb)
               have NB370_388 := Short.ltA_ hg BK370
               have NB388_370 := Short.gtA_ hg BK370
               replace BK370 := Aside0.mk (blk_below BK370.out hb)
               have NB371_388 := Short.ltA_ hg BK371
               have NB388_371 := Short.gtA_ hg BK371
               replace BK371 := Aside0.mk (blk_below BK371.out hb)
               clear hb hbox hg
               refine hK.out _ _ ⟨(blk_cell BK370.out 0).trans rfl, (blk_cell BK370.out 1).trans rfl, (blk_cell BK370.out 2).trans rfl⟩ (fun hHeld => ?_)
               clear hK K
               refine Short.normS_ ?_
               exact Short.normP_ (hJ3_10 ((.slice Ao10 t372.length co10), gb388) _ ⟨hHeld, (by (with_reducible repeat (first | apply Kd.V_alloc | apply Kd.V_drewN | apply Kd.V_drew)); exact Kd.V_mono HO374.out (fun _ hk => ⟨hk.1.1, ⟨hk.1.2, hk.2⟩⟩)), BK370.out, BK371.out, BK388.out, GW388.out, GE388.out, NB370_388.out, NB388_370.out, NB371_388.out, NB388_371.out, HB.out⟩)
              ·skip
               refine Short.boxD_ (N := 4) (cs := #[.bool false, .slice none 0 0]) (t := 25) ?_
               intro gb389 hg w10 hbox hb
               replace HO374 := Aside0.mk (Kd.V_below (Kd.V_elderB HO374.out gb389 (Nat.le_of_eq hg.symm)) hb)
               have BK389 := Aside0.mk (hbox)
               have GW389 := Aside0.mk ((by rw [hg]; exact (below_size HB.out) : w.heap.size ≤ gb389))
               have GE389 := Aside0.mk ((by rw [hg]; exact (below_size HB.out) : w.heap.size ≤ gb389))
               replace HB := Aside0.mk (below_step HB.out hb)
               have NB370_389 := Short.ltA_ hg BK370
               have NB389_370 := Short.gtA_ hg BK370
               replace BK370 := Aside0.mk (blk_below BK370.out hb)
               have NB371_389 := Short.ltA_ hg BK371
               have NB389_371 := Short.gtA_ hg BK371
               replace BK371 := Aside0.mk (blk_below BK371.out hb)
               clear hb hbox hg
               refine hK.out _ _ ⟨(blk_cell BK370.out 0).trans rfl, (blk_cell BK370.out 1).trans rfl, (blk_cell BK370.out 2).trans rfl⟩ (fun hHeld => ?_)
               clear hK K
               refine Short.normS_ ?_
               exact Short.normP_ (hJ3_11 ((.slice Ao10 t372.length co10), gb389) _ ⟨hHeld, (by (with_reducible repeat (first | apply Kd.V_alloc | apply Kd.V_drewN | apply Kd.V_drew)); exact Kd.V_mono HO374.out (fun _ hk => ⟨hk.1.1, ⟨hk.1.2, hk.2⟩⟩)), BK370.out, BK371.out, BK389.out, GW389.out, GE389.out, NB370_389.out, NB389_370.out, NB371_389.out, NB389_371.out, HB.out⟩)
            ·skip
             rintro ⟨gb388, gb389⟩ w10 ⟨hS_, h0_, h1_, h2_, h3_, h4_, h5_, h6_, h7_, h8_, h9_, h10_, h11_, h12_, h13_, h14_, h15_, h16_, h17_, h18_⟩
             replace BK370 : Aside0 (w10.heap[gb370]? = some (.cells #[.bool a0_0, .slice A0_1 l0_1.length c0_1, .slice A0_2 l0_2.length c0_2] 27 (0, 0))) := ⟨h0_⟩
             replace BK371 : Aside0 (w10.heap[gb371]? = some (.cells #[.bool false, .slice none 0 0] 25 (0, 0))) := ⟨h1_⟩
             have BK388 : Aside0 (w10.heap[gb388]? = some (.cells #[.bool false, .slice none 0 0] 25 (0, 0))) := ⟨h2_⟩
             have BK389 : Aside0 (w10.heap[gb389]? = some (.cells #[.bool false, .slice none 0 0] 25 (0, 0))) := ⟨h3_⟩
             have GW388 : Aside0 (w.heap.size ≤ gb388) := ⟨h4_⟩
             have GE388 : Aside0 (w.heap.size ≤ gb388) := ⟨h5_⟩
             have NB370_388 : Aside0 (gb370 ≠ gb388) := ⟨h6_⟩
             have NB388_370 : Aside0 (gb388 ≠ gb370) := ⟨h7_⟩
             have NB371_388 : Aside0 (gb371 ≠ gb388) := ⟨h8_⟩
             have NB388_371 : Aside0 (gb388 ≠ gb371) := ⟨h9_⟩
             have NB389_388 : Aside0 (gb389 ≠ gb388) := ⟨h10_⟩
             have NB388_389 : Aside0 (gb388 ≠ gb389) := ⟨h11_⟩
             have GW389 : Aside0 (w.heap.size ≤ gb389) := ⟨h12_⟩
             have GE389 : Aside0 (w.heap.size ≤ gb389) := ⟨h13_⟩
             have NB370_389 : Aside0 (gb370 ≠ gb389) := ⟨h14_⟩
             have NB389_370 : Aside0 (gb389 ≠ gb370) := ⟨h15_⟩
             have NB371_389 : Aside0 (gb371 ≠ gb389) := ⟨h16_⟩
             have NB389_371 : Aside0 (gb389 ≠ gb371) := ⟨h17_⟩
             replace HB : Aside0 (Below w.heap.size w w10) := ⟨h18_⟩
             clear h0_ h1_ h2_ h3_ h4_ h5_ h6_ h7_ h8_ h9_ h10_ h11_ h12_ h13_ h14_ h15_ h16_ h17_ h18_
             have hHeld : w10.cell? ⟨gb370, 0, none⟩ = some (.bool a0_0) ∧ w10.cell? ⟨gb370, 1, none⟩ = some (.slice A0_1 l0_1.length c0_1) ∧ w10.cell? ⟨gb370, 2, none⟩ = some (.slice A0_2 l0_2.length c0_2) := hS_
             refine norm_ (a' := ?_) ?_ ?_
             rotate_left
             ·simp only [putAll, Act.put, List.setIfInBounds_toArray, List.set_cons_zero, List.set_cons_succ]
              rfl
             refine one_ (i := 3) (N := some 10) #[true, true, true, true, false, false, false, false, false, false, true, true, false, false, false] rfl rfl (one_of HT_.out (by kernel_rfl)) (by decide) (fun K hK => ?_)
             refine Short.goesD_ Try.func46 #[.agg #[.bool a0_0, .slice A0_1 l0_1.length c0_1, .slice A0_2 l0_2.length c0_2]] ?_
             with_reducible refine (rat_den.calls k a0_0 _ _ l0_1 (fun k_ => k_ < w.heap.size) _ _ l0_2 t372 _ (Kd.C_below HR0_1.out HB.out) HC0_1.out ?side3 A2.out).mono ?_
             (case side3 => exact Kd.V_mk HC0_2.out (Kd.F_below (Kd.C_F (Kd.heap_int .u32) HR0_2.out) HB.out))
             rintro e w11 ⟨v373, rfl, ho0, hb⟩
             refine ⟨_, rfl, ?_⟩
             have HO374 := Aside0.mk (Kd.V_lower (Kd.V_mono (ok' := fun k_ => k_ ≠ gb370 ∧ k_ ≠ gb371 ∧ k_ ≠ gb388 ∧ k_ ≠ gb389) ho0 (fun k_ hk_ => ⟨Or.elim hk_ (fun hs_ => fun e_ => Nat.not_le.2 hs_ (by rw [e_]; exact GW370.out)) (fun hn_ => (Kd.freshB (g := gb370) (o := .cells #[.bool a0_0, .slice A0_1 l0_1.length c0_1, .slice A0_2 l0_2.length c0_2] 27 (0, 0)) BK370.out k_ hn_)), Or.elim hk_ (fun hs_ => fun e_ => Nat.not_le.2 hs_ (by rw [e_]; exact GW371.out)) (fun hn_ => (Kd.freshB (g := gb371) (o := .cells #[.bool false, .slice none 0 0] 25 (0, 0)) BK371.out k_ hn_)), Or.elim hk_ (fun hs_ => fun e_ => Nat.not_le.2 hs_ (by rw [e_]; exact GW388.out)) (fun hn_ => (Kd.freshB (g := gb388) (o := .cells #[.bool false, .slice none 0 0] 25 (0, 0)) BK388.out k_ hn_)), Or.elim hk_ (fun hs_ => fun e_ => Nat.not_le.2 hs_ (by rw [e_]; exact GW389.out)) (fun hn_ => (Kd.freshB (g := gb389) (o := .cells #[.bool false, .slice none 0 0] 25 (0, 0)) BK389.out k_ hn_))⟩)) (below_size HB.out))
             replace BK370 := Aside0.mk (blk_below BK370.out hb)
             replace BK371 := Aside0.mk (blk_below BK371.out hb)
             replace BK388 := Aside0.mk (blk_below BK388.out hb)
             replace BK389 := Aside0.mk (blk_below BK389.out hb)
             replace HB := Aside0.mk (below_step HB.out hb)
             (try clear hb)
             (try clear ho0)
             refine hK.out _ _ ⟨(blk_cell BK370.out 0).trans rfl, (blk_cell BK370.out 1).trans rfl, (blk_cell BK370.out 2).trans rfl⟩ (fun hHeld => ?_)
             clear hK K
             refine Short.normS_ ?_
             exact Short.normP_ (hJ3_10_11 (v373, gb388, gb389) _ ⟨hHeld, HO374.out, BK370.out, BK371.out, BK388.out, BK389.out, GW388.out, GE388.out, NB370_388.out, NB388_370.out, NB371_388.out, NB388_371.out, NB389_388.out, NB388_389.out, GW389.out, GE389.out, NB370_389.out, NB389_370.out, NB371_389.out, NB389_371.out, HB.out⟩)
           ·skip
            rintro ⟨v373, gb389⟩ w10 ⟨hS_, h0_, h1_, h2_, h3_, h4_, h5_, h6_, h7_, h8_, h9_, h10_⟩
            have HO374 : Aside0 (Kd.V (Kd.int .u32) 89 w10 w.heap.size (fun k_ => k_ ≠ gb370 ∧ k_ ≠ gb371 ∧ k_ ≠ gb389) v373 t372) := ⟨h0_⟩
            replace BK370 : Aside0 (w10.heap[gb370]? = some (.cells #[.bool a0_0, .slice A0_1 l0_1.length c0_1, .slice A0_2 l0_2.length c0_2] 27 (0, 0))) := ⟨h1_⟩
            replace BK371 : Aside0 (w10.heap[gb371]? = some (.cells #[.bool false, .slice none 0 0] 25 (0, 0))) := ⟨h2_⟩
            have BK389 : Aside0 (w10.heap[gb389]? = some (.cells #[.bool false, .slice none 0 0] 25 (0, 0))) := ⟨h3_⟩
            have GW389 : Aside0 (w.heap.size ≤ gb389) := ⟨h4_⟩
            have GE389 : Aside0 (w.heap.size ≤ gb389) := ⟨h5_⟩
            have NB370_389 : Aside0 (gb370 ≠ gb389) := ⟨h6_⟩
            have NB389_370 : Aside0 (gb389 ≠ gb370) := ⟨h7_⟩
            have NB371_389 : Aside0 (gb371 ≠ gb389) := ⟨h8_⟩
            have NB389_371 : Aside0 (gb389 ≠ gb371) := ⟨h9_⟩
            replace HB : Aside0 (Below w.heap.size w w10) := ⟨h10_⟩
            clear h0_ h1_ h2_ h3_ h4_ h5_ h6_ h7_ h8_ h9_ h10_
            have hHeld : w10.cell? ⟨gb370, 0, none⟩ = some (.bool a0_0) ∧ w10.cell? ⟨gb370, 1, none⟩ = some (.slice A0_1 l0_1.length c0_1) ∧ w10.cell? ⟨gb370, 2, none⟩ = some (.slice A0_2 l0_2.length c0_2) := hS_
            obtain ⟨Ao11, co11, eo11⟩ := Kd.V_slice HO374.out
            (first | subst eo11 | (injection eo11 with f1_ f2_ f3_; have f4_ := f1_.symm; have f5_ := f3_.symm; clear f1_ f2_ f3_; subst f4_; subst f5_))
            refine norm_ (a' := ?_) ?_ ?_
            rotate_left
            ·simp only [putAll, Act.put, List.setIfInBounds_toArray, List.set_cons_zero, List.set_cons_succ]
             rfl
            refine two_ (i := 4) (j := 10) (Ni := some 11) (Nj := some 3) #[true, true, true, true, true, false, false, false, false, false, false, true, false, false, false] #[true, true, true, true, false, false, false, false, false, false, true, true, false, false, false] rfl rfl rfl rfl (two_of HT_.out (by kernel_rfl)) (by decide) (by decide) (fun K hK => ?_) (fun K hK => ?_)
            ·skip
             refine Short.goesD_ Try.func45 #[.bool false, .slice Ao11 t372.length co11] ?_
             with_reducible refine (whole_Make.calls k false _ _ t372 t375 t376 _ ((Kd.V_reads' HO374.out).2.2) ((Kd.V_reads' HO374.out).2.1) A3.out).mono ?_
             rintro e w12 ⟨v377, rfl, ho0, hb⟩
             refine ⟨_, rfl, ?_⟩
             replace HO374 := Aside0.mk (Kd.V_elder' HO374.out (Kd.R_base ho0) hb)
             have HO378 := Aside0.mk (Kd.R_lower ho0 (below_size HB.out))
             replace BK370 := Aside0.mk (blk_below BK370.out hb)
             replace BK371 := Aside0.mk (blk_below BK371.out hb)
             replace BK389 := Aside0.mk (blk_below BK389.out hb)
             replace HB := Aside0.mk (below_step HB.out hb)
             (try clear hb)
             (try clear ho0)
             refine hK.out _ _ ⟨(blk_cell BK370.out 0).trans rfl, (blk_cell BK370.out 1).trans rfl, (blk_cell BK370.out 2).trans rfl⟩ (fun hHeld => ?_)
             clear hK K
             refine Short.normS_ ?_
             exact Short.normP_ (hJ3_4_11 (.slice Ao11 t372.length co11, v377, gb389) _ ⟨hHeld, (by (with_reducible repeat (first | apply Kd.V_alloc | apply Kd.V_drewN | apply Kd.V_drew)); exact Kd.V_mono HO374.out (fun _ hk => ⟨hk.2, ⟨hk.1.1, ⟨hk.1.2.1, hk.1.2.2⟩⟩⟩)), HO378.out, BK370.out, BK371.out, BK389.out, GW389.out, GE389.out, NB370_389.out, NB389_370.out, NB371_389.out, NB389_371.out, HB.out⟩)
            ·skip
             refine Short.boxD_ (N := 3) (cs := #[.bool false, .slice none 0 0]) (t := 25) ?_
             intro gb388 hg w11 hbox hb
             replace HO374 := Aside0.mk (Kd.V_below (Kd.V_elderB HO374.out gb388 (Nat.le_of_eq hg.symm)) hb)
             have BK388 := Aside0.mk (hbox)
             have GW388 := Aside0.mk ((by rw [hg]; exact (below_size HB.out) : w.heap.size ≤ gb388))
             have GE388 := Aside0.mk ((by rw [hg]; exact (below_size HB.out) : w.heap.size ≤ gb388))
             replace HB := Aside0.mk (below_step HB.out hb)
             have NB370_388 := Short.ltA_ hg BK370
             have NB388_370 := Short.gtA_ hg BK370
             replace BK370 := Aside0.mk (blk_below BK370.out hb)
             have NB371_388 := Short.ltA_ hg BK371
             have NB388_371 := Short.gtA_ hg BK371
             replace BK371 := Aside0.mk (blk_below BK371.out hb)
             have NB389_388 := Short.ltA_ hg BK389
             have NB388_389 := Short.gtA_ hg BK389
             replace BK389 := Aside0.mk (blk_below BK389.out hb)
             clear hb hbox hg
             refine hK.out _ _ ⟨(blk_cell BK370.out 0).trans rfl, (blk_cell BK370.out 1).trans rfl, (blk_cell BK370.out 2).trans rfl⟩ (fun hHeld => ?_)
             clear hK K
             refine Short.normS_ ?_
             exact Short.normP_ (hJ3_10_11 ((.slice Ao11 t372.length co11), gb388, gb389) _ ⟨hHeld, (by (with_reducible repeat (first | apply Kd.V_alloc | apply Kd.V_drewN | apply Kd.V_drew)); exact Kd.V_mono HO374.out (fun _ hk => ⟨hk.1.1, ⟨hk.1.2.1, ⟨hk.2, hk.1.2.2⟩⟩⟩)), BK370.out, BK371.out, BK388.out, BK389.out, GW388.out, GE388.out, NB370_388.out, NB388_370.out, NB371_388.out, NB388_371.out, NB389_388.out, NB388_389.out, GW389.out, GE389.out, NB370_389.out, NB389_370.out, NB371_389.out, NB389_371.out, HB.out⟩)
          ·skip
           rintro ⟨v373, gb388⟩ w10 ⟨hS_, h0_, h1_, h2_, h3_, h4_, h5_, h6_, h7_, h8_, h9_, h10_⟩
           have HO374 : Aside0 (Kd.V (Kd.int .u32) 89 w10 w.heap.size (fun k_ => k_ ≠ gb370 ∧ k_ ≠ gb371 ∧ k_ ≠ gb388) v373 t372) := ⟨h0_⟩
           replace BK370 : Aside0 (w10.heap[gb370]? = some (.cells #[.bool a0_0, .slice A0_1 l0_1.length c0_1, .slice A0_2 l0_2.length c0_2] 27 (0, 0))) := ⟨h1_⟩
           replace BK371 : Aside0 (w10.heap[gb371]? = some (.cells #[.bool false, .slice none 0 0] 25 (0, 0))) := ⟨h2_⟩
           have BK388 : Aside0 (w10.heap[gb388]? = some (.cells #[.bool false, .slice none 0 0] 25 (0, 0))) := ⟨h3_⟩
           have GW388 : Aside0 (w.heap.size ≤ gb388) := ⟨h4_⟩
           have GE388 : Aside0 (w.heap.size ≤ gb388) := ⟨h5_⟩
           have NB370_388 : Aside0 (gb370 ≠ gb388) := ⟨h6_⟩
           have NB388_370 : Aside0 (gb388 ≠ gb370) := ⟨h7_⟩
           have NB371_388 : Aside0 (gb371 ≠ gb388) := ⟨h8_⟩
           have NB388_371 : Aside0 (gb388 ≠ gb371) := ⟨h9_⟩
           replace HB : Aside0 (Below w.heap.size w w10) := ⟨h10_⟩
           clear h0_ h1_ h2_ h3_ h4_ h5_ h6_ h7_ h8_ h9_ h10_
           have hHeld : w10.cell? ⟨gb370, 0, none⟩ = some (.bool a0_0) ∧ w10.cell? ⟨gb370, 1, none⟩ = some (.slice A0_1 l0_1.length c0_1) ∧ w10.cell? ⟨gb370, 2, none⟩ = some (.slice A0_2 l0_2.length c0_2) := hS_
           obtain ⟨Ao11, co11, eo11⟩ := Kd.V_slice HO374.out
           (first | subst eo11 | (injection eo11 with f1_ f2_ f3_; have f4_ := f1_.symm; have f5_ := f3_.symm; clear f1_ f2_ f3_; subst f4_; subst f5_))
           refine norm_ (a' := ?_) ?_ ?_
           rotate_left
           ·simp only [putAll, Act.put, List.setIfInBounds_toArray, List.set_cons_zero, List.set_cons_succ]
            rfl
           refine two_ (i := 4) (j := 11) (Ni := some 11) (Nj := some 4) #[true, true, true, true, true, false, false, false, false, false, true, false, false, false, false] #[true, true, true, true, false, false, false, false, false, false, true, true, false, false, false] rfl rfl rfl rfl (two_of HT_.out (by kernel_rfl)) (by decide) (by decide) (fun K hK => ?_) (fun K hK => ?_)
           ·skip
            refine Short.goesD_ Try.func45 #[.bool false, .slice Ao11 t372.length co11] ?_
            with_reducible refine (whole_Make.calls k false _ _ t372 t375 t376 _ ((Kd.V_reads' HO374.out).2.2) ((Kd.V_reads' HO374.out).2.1) A3.out).mono ?_
            rintro e w12 ⟨v377, rfl, ho0, hb⟩
            refine ⟨_, rfl, ?_⟩
            replace HO374 := Aside0.mk (Kd.V_elder' HO374.out (Kd.R_base ho0) hb)
            have HO378 := Aside0.mk (Kd.R_lower ho0 (below_size HB.out))
            replace BK370 := Aside0.mk (blk_below BK370.out hb)
            replace BK371 := Aside0.mk (blk_below BK371.out hb)
            replace BK388 := Aside0.mk (blk_below BK388.out hb)
            replace HB := Aside0.mk (below_step HB.out hb)
            (try clear hb)
            (try clear ho0)
            refine hK.out _ _ ⟨(blk_cell BK370.out 0).trans rfl, (blk_cell BK370.out 1).trans rfl, (blk_cell BK370.out 2).trans rfl⟩ (fun hHeld => ?_)
            clear hK K
            refine Short.normS_ ?_
            exact Short.normP_ (hJ3_4_10 (.slice Ao11 t372.length co11, v377, gb388) _ ⟨hHeld, (by (with_reducible repeat (first | apply Kd.V_alloc | apply Kd.V_drewN | apply Kd.V_drew)); exact Kd.V_mono HO374.out (fun _ hk => ⟨hk.2, ⟨hk.1.1, ⟨hk.1.2.1, hk.1.2.2⟩⟩⟩)), HO378.out, BK370.out, BK371.out, BK388.out, GW388.out, GE388.out, NB370_388.out, NB388_370.out, NB371_388.out, NB388_371.out, HB.out⟩)
           ·skip
            refine Short.boxD_ (N := 4) (cs := #[.bool false, .slice none 0 0]) (t := 25) ?_
            intro gb389 hg w11 hbox hb
            replace HO374 := Aside0.mk (Kd.V_below (Kd.V_elderB HO374.out gb389 (Nat.le_of_eq hg.symm)) hb)
            have BK389 := Aside0.mk (hbox)
            have GW389 := Aside0.mk ((by rw [hg]; exact (below_size HB.out) : w.heap.size ≤ gb389))
            have GE389 := Aside0.mk ((by rw [hg]; exact (below_size HB.out) : w.heap.size ≤ gb389))
            replace HB := Aside0.mk (below_step HB.out hb)
            have NB370_389 := Short.ltA_ hg BK370
            have NB389_370 := Short.gtA_ hg BK370
            replace BK370 := Aside0.mk (blk_below BK370.out hb)
            have NB371_389 := Short.ltA_ hg BK371
            have NB389_371 := Short.gtA_ hg BK371
            replace BK371 := Aside0.mk (blk_below BK371.out hb)
            have NB388_389 := Short.ltA_ hg BK388
            have NB389_388 := Short.gtA_ hg BK388
            replace BK388 := Aside0.mk (blk_below BK388.out hb)
            clear hb hbox hg
            refine hK.out _ _ ⟨(blk_cell BK370.out 0).trans rfl, (blk_cell BK370.out 1).trans rfl, (blk_cell BK370.out 2).trans rfl⟩ (fun hHeld => ?_)
            clear hK K
            refine Short.normS_ ?_
            exact Short.normP_ (hJ3_10_11 ((.slice Ao11 t372.length co11), gb388, gb389) _ ⟨hHeld, (by (with_reducible repeat (first | apply Kd.V_alloc | apply Kd.V_drewN | apply Kd.V_drew)); exact Kd.V_mono HO374.out (fun _ hk => ⟨hk.1.1, ⟨hk.1.2.1, ⟨hk.1.2.2, hk.2⟩⟩⟩)), BK370.out, BK371.out, BK388.out, BK389.out, GW388.out, GE388.out, NB370_388.out, NB388_370.out, NB371_388.out, NB388_371.out, NB389_388.out, NB388_389.out, GW389.out, GE389.out, NB370_389.out, NB389_370.out, NB371_389.out, NB389_371.out, HB.out⟩)
         ·skip
          rintro ⟨v373, v377⟩ w11 ⟨hS_, h0_, h1_, h2_, h3_, h4_⟩
          have HO374 : Aside0 (Kd.V (Kd.int .u32) 89 w11 w.heap.size (fun k_ => some k_ ≠ (v377 : Value).ownBlock ∧ k_ ≠ gb370 ∧ k_ ≠ gb371) v373 t372) := ⟨h0_⟩
          have HO378 : Aside0 (Kd.R (Kd.int .u32) 89 w11 w.heap.size (fun _ => True) v377 t376) := ⟨h1_⟩
          replace BK370 : Aside0 (w11.heap[gb370]? = some (.cells #[.bool a0_0, .slice A0_1 l0_1.length c0_1, .slice A0_2 l0_2.length c0_2] 27 (0, 0))) := ⟨h2_⟩
          replace BK371 : Aside0 (w11.heap[gb371]? = some (.cells #[.bool false, .slice none 0 0] 25 (0, 0))) := ⟨h3_⟩
          replace HB : Aside0 (Below w.heap.size w w11) := ⟨h4_⟩
          clear h0_ h1_ h2_ h3_ h4_
          have hHeld : w11.cell? ⟨gb370, 0, none⟩ = some (.bool a0_0) ∧ w11.cell? ⟨gb370, 1, none⟩ = some (.slice A0_1 l0_1.length c0_1) ∧ w11.cell? ⟨gb370, 2, none⟩ = some (.slice A0_2 l0_2.length c0_2) := hS_
          obtain ⟨Ao12, co12, eo12⟩ := Kd.R_slice HO378.out
          (first | subst eo12 | (injection eo12 with f1_ f2_ f3_; have f4_ := f1_.symm; have f5_ := f3_.symm; clear f1_ f2_ f3_; subst f4_; subst f5_))
          refine norm_ (a' := ?_) ?_ ?_
          rotate_left
          ·simp only [putAll, Act.put, List.setIfInBounds_toArray, List.set_cons_zero, List.set_cons_succ]
           rfl
          refine three_ (i := 5) (j := 10) (k := 11) (Ni := some 12) (Nj := some 3) (Nk := some 4) #[true, true, true, true, true, true, false, false, false, false, false, false, false, false, false] #[true, true, true, true, true, false, false, false, false, false, true, false, false, false, false] #[true, true, true, true, true, false, false, false, false, false, false, true, false, false, false] rfl rfl rfl rfl rfl rfl (three_of HT_.out (by kernel_rfl)) (by decide) (by decide) (by decide) (fun K hK => ?_) (fun K hK => ?_) (fun K hK => ?_)
          ·skip
           refine Short.goesD_ Try.func60 #[.agg #[.bool a0_0, .slice A0_1 l0_1.length c0_1], .agg #[.bool t375, .slice Ao12 t376.length co12]] ?_
           with_reducible refine (whole_Floor.calls k a0_0 _ _ l0_1 t375 _ _ t376 t379 t380 t383 t384 t387 _ (Kd.C_below HR0_1.out HB.out) HC0_1.out ((Kd.R_reads' HO378.out).2.2) ((Kd.R_reads' HO378.out).2.1) A4.out).mono ?_
           rintro e w13 ⟨v381, v385, rfl, ho0, ho1, hb⟩
           refine ⟨_, rfl, ?_⟩
           replace HO374 := Aside0.mk (Kd.V_mono (Kd.V_told (Kd.V_told (Kd.V_old HO374.out hb) (Kd.R_base ho0)) (Kd.R_base ho1)) (fun _ h_ => h_.1))
           have HO382 := Aside0.mk (Kd.R_lower (Kd.R_new' ho0 (Kd.R_lt HO378.out)) (below_size HB.out))
           have HO386 := Aside0.mk (Kd.R_lower (Kd.R_new' ho1 (Kd.R_lt HO378.out)) (below_size HB.out))
           replace HO378 := Aside0.mk (Kd.R_mono (Kd.R_told (Kd.R_told (Kd.R_old HO378.out hb) (Kd.R_base ho0)) (Kd.R_base ho1)) (fun _ h_ => h_.1))
           replace BK370 := Aside0.mk (blk_below BK370.out hb)
           replace BK371 := Aside0.mk (blk_below BK371.out hb)
           replace HB := Aside0.mk (below_step HB.out hb)
           (try clear hb)
           (try clear ho0)
           (try clear ho1)
           refine hK.out _ _ ⟨(blk_cell BK370.out 0).trans rfl, (blk_cell BK370.out 1).trans rfl, (blk_cell BK370.out 2).trans rfl⟩ (fun hHeld => ?_)
           clear hK K
           refine Short.normS_ ?_
           refine Short.pureS_ (i := 6) (N := some 6) #[true, true, true, true, true, true, true, false, false, false, false, false, false, false, false] (any_of HT_.out (by kernel_rfl)) ?_
           refine Short.pureS_ (i := 7) (N := some 13) #[true, true, true, true, true, true, true, true, false, false, false, false, false, false, false] (any_of HT_.out (by kernel_rfl)) ?_
           refine Short.pureS_ (i := 8) (N := some 14) #[true, true, true, true, true, true, true, true, true, false, false, false, false, false, false] (any_of HT_.out (by kernel_rfl)) ?_
           refine Short.pureS_ (i := 9) (N := some 15) #[true, true, true, true, true, true, true, true, true, true, false, false, false, false, false] (any_of HT_.out (by kernel_rfl)) ?_
           exact Short.normP_ (hJ3_4_5 (v373, .slice Ao12 t376.length co12, v381, v385) _ ⟨hHeld, (by (with_reducible repeat (first | apply Kd.V_alloc | apply Kd.V_drewN | apply Kd.V_drew)); exact Kd.V_mono HO374.out (fun _ hk => ⟨hk.1.1.1, ⟨hk.1.2, ⟨hk.2, ⟨hk.1.1.2.1, hk.1.1.2.2⟩⟩⟩⟩)), (by (with_reducible repeat (first | apply Kd.R_alloc | apply Kd.R_drewN | apply Kd.R_drew)); exact Kd.R_mono HO378.out (fun _ hk => ⟨hk.1.2, hk.2⟩)), (by (with_reducible repeat (first | apply Kd.R_alloc | apply Kd.R_drewN | apply Kd.R_drew)); exact Kd.R_mono HO382.out (fun _ hk => ⟨hk.2, hk.1⟩)), (by (with_reducible repeat (first | apply Kd.R_alloc | apply Kd.R_drewN | apply Kd.R_drew)); exact Kd.R_mono HO386.out (fun _ hk => ⟨hk.2, hk.1⟩)), BK370.out, BK371.out, HB.out⟩)
          ·skip
           refine Short.boxD_ (N := 3) (cs := #[.bool false, .slice none 0 0]) (t := 25) ?_
           intro gb388 hg w12 hbox hb
           replace HO374 := Aside0.mk (Kd.V_below (Kd.V_elderB HO374.out gb388 (Nat.le_of_eq hg.symm)) hb)
           replace HO378 := Aside0.mk (Kd.R_below HO378.out hb)
           have BK388 := Aside0.mk (hbox)
           have GW388 := Aside0.mk ((by rw [hg]; exact (below_size HB.out) : w.heap.size ≤ gb388))
           have GE388 := Aside0.mk ((by rw [hg]; exact (below_size HB.out) : w.heap.size ≤ gb388))
           replace HB := Aside0.mk (below_step HB.out hb)
           have NB370_388 := Short.ltA_ hg BK370
           have NB388_370 := Short.gtA_ hg BK370
           replace BK370 := Aside0.mk (blk_below BK370.out hb)
           have NB371_388 := Short.ltA_ hg BK371
           have NB388_371 := Short.gtA_ hg BK371
           replace BK371 := Aside0.mk (blk_below BK371.out hb)
           clear hb hbox hg
           refine hK.out _ _ ⟨(blk_cell BK370.out 0).trans rfl, (blk_cell BK370.out 1).trans rfl, (blk_cell BK370.out 2).trans rfl⟩ (fun hHeld => ?_)
           clear hK K
           refine Short.normS_ ?_
           exact Short.normP_ (hJ3_4_10 (v373, (.slice Ao12 t376.length co12), gb388) _ ⟨hHeld, (by (with_reducible repeat (first | apply Kd.V_alloc | apply Kd.V_drewN | apply Kd.V_drew)); exact Kd.V_mono HO374.out (fun _ hk => ⟨hk.1.1, ⟨hk.1.2.1, ⟨hk.1.2.2, hk.2⟩⟩⟩)), HO378.out, BK370.out, BK371.out, BK388.out, GW388.out, GE388.out, NB370_388.out, NB388_370.out, NB371_388.out, NB388_371.out, HB.out⟩)
          ·skip
           refine Short.boxD_ (N := 4) (cs := #[.bool false, .slice none 0 0]) (t := 25) ?_
           intro gb389 hg w12 hbox hb
           replace HO374 := Aside0.mk (Kd.V_below (Kd.V_elderB HO374.out gb389 (Nat.le_of_eq hg.symm)) hb)
           replace HO378 := Aside0.mk (Kd.R_below HO378.out hb)
           have BK389 := Aside0.mk (hbox)
           have GW389 := Aside0.mk ((by rw [hg]; exact (below_size HB.out) : w.heap.size ≤ gb389))
           have GE389 := Aside0.mk ((by rw [hg]; exact (below_size HB.out) : w.heap.size ≤ gb389))
           replace HB := Aside0.mk (below_step HB.out hb)
           have NB370_389 := Short.ltA_ hg BK370
           have NB389_370 := Short.gtA_ hg BK370
           replace BK370 := Aside0.mk (blk_below BK370.out hb)
           have NB371_389 := Short.ltA_ hg BK371
           have NB389_371 := Short.gtA_ hg BK371
           replace BK371 := Aside0.mk (blk_below BK371.out hb)
           clear hb hbox hg
           refine hK.out _ _ ⟨(blk_cell BK370.out 0).trans rfl, (blk_cell BK370.out 1).trans rfl, (blk_cell BK370.out 2).trans rfl⟩ (fun hHeld => ?_)
           clear hK K
           refine Short.normS_ ?_
           exact Short.normP_ (hJ3_4_11 (v373, (.slice Ao12 t376.length co12), gb389) _ ⟨hHeld, (by (with_reducible repeat (first | apply Kd.V_alloc | apply Kd.V_drewN | apply Kd.V_drew)); exact Kd.V_mono HO374.out (fun _ hk => ⟨hk.1.1, ⟨hk.1.2.1, ⟨hk.1.2.2, hk.2⟩⟩⟩)), HO378.out, BK370.out, BK371.out, BK389.out, GW389.out, GE389.out, NB370_389.out, NB389_370.out, NB371_389.out, NB389_371.out, HB.out⟩)
        ·skip
         rintro ⟨v373, gb388, gb389⟩ w11 ⟨hS_, h0_, h1_, h2_, h3_, h4_, h5_, h6_, h7_, h8_, h9_, h10_, h11_, h12_, h13_, h14_, h15_, h16_, h17_, h18_, h19_⟩
         have HO374 : Aside0 (Kd.V (Kd.int .u32) 89 w11 w.heap.size (fun k_ => k_ ≠ gb370 ∧ k_ ≠ gb371 ∧ k_ ≠ gb388 ∧ k_ ≠ gb389) v373 t372) := ⟨h0_⟩
         replace BK370 : Aside0 (w11.heap[gb370]? = some (.cells #[.bool a0_0, .slice A0_1 l0_1.length c0_1, .slice A0_2 l0_2.length c0_2] 27 (0, 0))) := ⟨h1_⟩
         replace BK371 : Aside0 (w11.heap[gb371]? = some (.cells #[.bool false, .slice none 0 0] 25 (0, 0))) := ⟨h2_⟩
         have BK388 : Aside0 (w11.heap[gb388]? = some (.cells #[.bool false, .slice none 0 0] 25 (0, 0))) := ⟨h3_⟩
         have BK389 : Aside0 (w11.heap[gb389]? = some (.cells #[.bool false, .slice none 0 0] 25 (0, 0))) := ⟨h4_⟩
         have GW388 : Aside0 (w.heap.size ≤ gb388) := ⟨h5_⟩
         have GE388 : Aside0 (w.heap.size ≤ gb388) := ⟨h6_⟩
         have NB370_388 : Aside0 (gb370 ≠ gb388) := ⟨h7_⟩
         have NB388_370 : Aside0 (gb388 ≠ gb370) := ⟨h8_⟩
         have NB371_388 : Aside0 (gb371 ≠ gb388) := ⟨h9_⟩
         have NB388_371 : Aside0 (gb388 ≠ gb371) := ⟨h10_⟩
         have NB389_388 : Aside0 (gb389 ≠ gb388) := ⟨h11_⟩
         have NB388_389 : Aside0 (gb388 ≠ gb389) := ⟨h12_⟩
         have GW389 : Aside0 (w.heap.size ≤ gb389) := ⟨h13_⟩
         have GE389 : Aside0 (w.heap.size ≤ gb389) := ⟨h14_⟩
         have NB370_389 : Aside0 (gb370 ≠ gb389) := ⟨h15_⟩
         have NB389_370 : Aside0 (gb389 ≠ gb370) := ⟨h16_⟩
         have NB371_389 : Aside0 (gb371 ≠ gb389) := ⟨h17_⟩
         have NB389_371 : Aside0 (gb389 ≠ gb371) := ⟨h18_⟩
         replace HB : Aside0 (Below w.heap.size w w11) := ⟨h19_⟩
         clear h0_ h1_ h2_ h3_ h4_ h5_ h6_ h7_ h8_ h9_ h10_ h11_ h12_ h13_ h14_ h15_ h16_ h17_ h18_ h19_
         have hHeld : w11.cell? ⟨gb370, 0, none⟩ = some (.bool a0_0) ∧ w11.cell? ⟨gb370, 1, none⟩ = some (.slice A0_1 l0_1.length c0_1) ∧ w11.cell? ⟨gb370, 2, none⟩ = some (.slice A0_2 l0_2.length c0_2) := hS_
         obtain ⟨Ao12, co12, eo12⟩ := Kd.V_slice HO374.out
         (first | subst eo12 | (injection eo12 with f1_ f2_ f3_; have f4_ := f1_.symm; have f5_ := f3_.symm; clear f1_ f2_ f3_; subst f4_; subst f5_))
         refine norm_ (a' := ?_) ?_ ?_
         rotate_left
         ·simp only [putAll, Act.put, List.setIfInBounds_toArray, List.set_cons_zero, List.set_cons_succ]
          rfl
         refine one_ (i := 4) (N := some 11) #[true, true, true, true, true, false, false, false, false, false, true, true, false, false, false] rfl rfl (one_of HT_.out (by kernel_rfl)) (by decide) (fun K hK => ?_)
         refine Short.goesD_ Try.func45 #[.bool false, .slice Ao12 t372.length co12] ?_
         with_reducible refine (whole_Make.calls k false _ _ t372 t375 t376 _ ((Kd.V_reads' HO374.out).2.2) ((Kd.V_reads' HO374.out).2.1) A3.out).mono ?_
         rintro e w13 ⟨v377, rfl, ho0, hb⟩
         refine ⟨_, rfl, ?_⟩
         replace HO374 := Aside0.mk (Kd.V_elder' HO374.out (Kd.R_base ho0) hb)
         have HO378 := Aside0.mk (Kd.R_lower ho0 (below_size HB.out))
         replace BK370 := Aside0.mk (blk_below BK370.out hb)
         replace BK371 := Aside0.mk (blk_below BK371.out hb)
         replace BK388 := Aside0.mk (blk_below BK388.out hb)
         replace BK389 := Aside0.mk (blk_below BK389.out hb)
         replace HB := Aside0.mk (below_step HB.out hb)
         (try clear hb)
         (try clear ho0)
         refine hK.out _ _ ⟨(blk_cell BK370.out 0).trans rfl, (blk_cell BK370.out 1).trans rfl, (blk_cell BK370.out 2).trans rfl⟩ (fun hHeld => ?_)
         clear hK K
         refine Short.normS_ ?_
         exact Short.normP_ (hJ3_4_10_11 (.slice Ao12 t372.length co12, v377, gb388, gb389) _ ⟨hHeld, (by (with_reducible repeat (first | apply Kd.V_alloc | apply Kd.V_drewN | apply Kd.V_drew)); exact Kd.V_mono HO374.out (fun _ hk => ⟨hk.2, ⟨hk.1.1, ⟨hk.1.2.1, ⟨hk.1.2.2.1, hk.1.2.2.2⟩⟩⟩⟩)), HO378.out, BK370.out, BK371.out, BK388.out, BK389.out, GW388.out, GE388.out, NB370_388.out, NB388_370.out, NB371_388.out, NB388_371.out, NB389_388.out, NB388_389.out, GW389.out, GE389.out, NB370_389.out, NB389_370.out, NB371_389.out, NB389_371.out, HB.out⟩)
       ·skip
        rintro ⟨v373, v377, gb389⟩ w12 ⟨hS_, h0_, h1_, h2_, h3_, h4_, h5_, h6_, h7_, h8_, h9_, h10_, h11_⟩
        have HO374 : Aside0 (Kd.V (Kd.int .u32) 89 w12 w.heap.size (fun k_ => some k_ ≠ (v377 : Value).ownBlock ∧ k_ ≠ gb370 ∧ k_ ≠ gb371 ∧ k_ ≠ gb389) v373 t372) := ⟨h0_⟩
        have HO378 : Aside0 (Kd.R (Kd.int .u32) 89 w12 w.heap.size (fun _ => True) v377 t376) := ⟨h1_⟩
        replace BK370 : Aside0 (w12.heap[gb370]? = some (.cells #[.bool a0_0, .slice A0_1 l0_1.length c0_1, .slice A0_2 l0_2.length c0_2] 27 (0, 0))) := ⟨h2_⟩
        replace BK371 : Aside0 (w12.heap[gb371]? = some (.cells #[.bool false, .slice none 0 0] 25 (0, 0))) := ⟨h3_⟩
        have BK389 : Aside0 (w12.heap[gb389]? = some (.cells #[.bool false, .slice none 0 0] 25 (0, 0))) := ⟨h4_⟩
        have GW389 : Aside0 (w.heap.size ≤ gb389) := ⟨h5_⟩
        have GE389 : Aside0 (w.heap.size ≤ gb389) := ⟨h6_⟩
        have NB370_389 : Aside0 (gb370 ≠ gb389) := ⟨h7_⟩
        have NB389_370 : Aside0 (gb389 ≠ gb370) := ⟨h8_⟩
        have NB371_389 : Aside0 (gb371 ≠ gb389) := ⟨h9_⟩
        have NB389_371 : Aside0 (gb389 ≠ gb371) := ⟨h10_⟩
        replace HB : Aside0 (Below w.heap.size w w12) := ⟨h11_⟩
        clear h0_ h1_ h2_ h3_ h4_ h5_ h6_ h7_ h8_ h9_ h10_ h11_
        have hHeld : w12.cell? ⟨gb370, 0, none⟩ = some (.bool a0_0) ∧ w12.cell? ⟨gb370, 1, none⟩ = some (.slice A0_1 l0_1.length c0_1) ∧ w12.cell? ⟨gb370, 2, none⟩ = some (.slice A0_2 l0_2.length c0_2) := hS_
        obtain ⟨Ao13, co13, eo13⟩ := Kd.R_slice HO378.out
        (first | subst eo13 | (injection eo13 with f1_ f2_ f3_; have f4_ := f1_.symm; have f5_ := f3_.symm; clear f1_ f2_ f3_; subst f4_; subst f5_))
        refine norm_ (a' := ?_) ?_ ?_
        rotate_left
        ·simp only [putAll, Act.put, List.setIfInBounds_toArray, List.set_cons_zero, List.set_cons_succ]
         rfl
        refine two_ (i := 5) (j := 10) (Ni := some 12) (Nj := some 3) #[true, true, true, true, true, true, false, false, false, false, false, true, false, false, false] #[true, true, true, true, true, false, false, false, false, false, true, true, false, false, false] rfl rfl rfl rfl (two_of HT_.out (by kernel_rfl)) (by decide) (by decide) (fun K hK => ?_) (fun K hK => ?_)
        ·skip
         refine Short.goesD_ Try.func60 #[.agg #[.bool a0_0, .slice A0_1 l0_1.length c0_1], .agg #[.bool t375, .slice Ao13 t376.length co13]] ?_
         with_reducible refine (whole_Floor.calls k a0_0 _ _ l0_1 t375 _ _ t376 t379 t380 t383 t384 t387 _ (Kd.C_below HR0_1.out HB.out) HC0_1.out ((Kd.R_reads' HO378.out).2.2) ((Kd.R_reads' HO378.out).2.1) A4.out).mono ?_
         rintro e w14 ⟨v381, v385, rfl, ho0, ho1, hb⟩
         refine ⟨_, rfl, ?_⟩
         replace HO374 := Aside0.mk (Kd.V_mono (Kd.V_told (Kd.V_told (Kd.V_old HO374.out hb) (Kd.R_base ho0)) (Kd.R_base ho1)) (fun _ h_ => h_.1))
         have HO382 := Aside0.mk (Kd.R_lower (Kd.R_new' ho0 (Kd.R_lt HO378.out)) (below_size HB.out))
         have HO386 := Aside0.mk (Kd.R_lower (Kd.R_new' ho1 (Kd.R_lt HO378.out)) (below_size HB.out))
         replace HO378 := Aside0.mk (Kd.R_mono (Kd.R_told (Kd.R_told (Kd.R_old HO378.out hb) (Kd.R_base ho0)) (Kd.R_base ho1)) (fun _ h_ => h_.1))
         replace BK370 := Aside0.mk (blk_below BK370.out hb)
         replace BK371 := Aside0.mk (blk_below BK371.out hb)
         replace BK389 := Aside0.mk (blk_below BK389.out hb)
         replace HB := Aside0.mk (below_step HB.out hb)
         (try clear hb)
         (try clear ho0)
         (try clear ho1)
         refine hK.out _ _ ⟨(blk_cell BK370.out 0).trans rfl, (blk_cell BK370.out 1).trans rfl, (blk_cell BK370.out 2).trans rfl⟩ (fun hHeld => ?_)
         clear hK K
         refine Short.normS_ ?_
         refine Short.pureS_ (i := 6) (N := some 6) #[true, true, true, true, true, true, true, false, false, false, false, true, false, false, false] (any_of HT_.out (by kernel_rfl)) ?_
         refine Short.pureS_ (i := 7) (N := some 13) #[true, true, true, true, true, true, true, true, false, false, false, true, false, false, false] (any_of HT_.out (by kernel_rfl)) ?_
         refine Short.pureS_ (i := 8) (N := some 14) #[true, true, true, true, true, true, true, true, true, false, false, true, false, false, false] (any_of HT_.out (by kernel_rfl)) ?_
         refine Short.pureS_ (i := 9) (N := some 15) #[true, true, true, true, true, true, true, true, true, true, false, true, false, false, false] (any_of HT_.out (by kernel_rfl)) ?_
         exact Short.normP_ (hJ3_4_5_11 (v373, .slice Ao13 t376.length co13, v381, v385, gb389) _ ⟨hHeld, (by (with_reducible repeat (first | apply Kd.V_alloc | apply Kd.V_drewN | apply Kd.V_drew)); exact Kd.V_mono HO374.out (fun _ hk => ⟨hk.1.1.1, ⟨hk.1.2, ⟨hk.2, ⟨hk.1.1.2.1, ⟨hk.1.1.2.2.1, hk.1.1.2.2.2⟩⟩⟩⟩⟩)), (by (with_reducible repeat (first | apply Kd.R_alloc | apply Kd.R_drewN | apply Kd.R_drew)); exact Kd.R_mono HO378.out (fun _ hk => ⟨hk.1.2, hk.2⟩)), (by (with_reducible repeat (first | apply Kd.R_alloc | apply Kd.R_drewN | apply Kd.R_drew)); exact Kd.R_mono HO382.out (fun _ hk => ⟨hk.2, hk.1⟩)), (by (with_reducible repeat (first | apply Kd.R_alloc | apply Kd.R_drewN | apply Kd.R_drew)); exact Kd.R_mono HO386.out (fun _ hk => ⟨hk.2, hk.1⟩)), BK370.out, BK371.out, BK389.out, GW389.out, GE389.out, NB370_389.out, NB389_370.out, NB371_389.out, NB389_371.out, HB.out⟩)
        ·skip
         refine Short.boxD_ (N := 3) (cs := #[.bool false, .slice none 0 0]) (t := 25) ?_
         intro gb388 hg w13 hbox hb
         replace HO374 := Aside0.mk (Kd.V_below (Kd.V_elderB HO374.out gb388 (Nat.le_of_eq hg.symm)) hb)
         replace HO378 := Aside0.mk (Kd.R_below HO378.out hb)
         have BK388 := Aside0.mk (hbox)
         have GW388 := Aside0.mk ((by rw [hg]; exact (below_size HB.out) : w.heap.size ≤ gb388))
         have GE388 := Aside0.mk ((by rw [hg]; exact (below_size HB.out) : w.heap.size ≤ gb388))
         replace HB := Aside0.mk (below_step HB.out hb)
         have NB370_388 := Short.ltA_ hg BK370
         have NB388_370 := Short.gtA_ hg BK370
         replace BK370 := Aside0.mk (blk_below BK370.out hb)
         have NB371_388 := Short.ltA_ hg BK371
         have NB388_371 := Short.gtA_ hg BK371
         replace BK371 := Aside0.mk (blk_below BK371.out hb)
         have NB389_388 := Short.ltA_ hg BK389
         have NB388_389 := Short.gtA_ hg BK389
         replace BK389 := Aside0.mk (blk_below BK389.out hb)
         clear hb hbox hg
         refine hK.out _ _ ⟨(blk_cell BK370.out 0).trans rfl, (blk_cell BK370.out 1).trans rfl, (blk_cell BK370.out 2).trans rfl⟩ (fun hHeld => ?_)
         clear hK K
         refine Short.normS_ ?_
         exact Short.normP_ (hJ3_4_10_11 (v373, (.slice Ao13 t376.length co13), gb388, gb389) _ ⟨hHeld, (by (with_reducible repeat (first | apply Kd.V_alloc | apply Kd.V_drewN | apply Kd.V_drew)); exact Kd.V_mono HO374.out (fun _ hk => ⟨hk.1.1, ⟨hk.1.2.1, ⟨hk.1.2.2.1, ⟨hk.2, hk.1.2.2.2⟩⟩⟩⟩)), HO378.out, BK370.out, BK371.out, BK388.out, BK389.out, GW388.out, GE388.out, NB370_388.out, NB388_370.out, NB371_388.out, NB388_371.out, NB389_388.out, NB388_389.out, GW389.out, GE389.out, NB370_389.out, NB389_370.out, NB371_389.out, NB389_371.out, HB.out⟩)
      ·skip
       rintro ⟨v373, v377, gb388⟩ w12 ⟨hS_, h0_, h1_, h2_, h3_, h4_, h5_, h6_, h7_, h8_, h9_, h10_, h11_⟩
       have HO374 : Aside0 (Kd.V (Kd.int .u32) 89 w12 w.heap.size (fun k_ => some k_ ≠ (v377 : Value).ownBlock ∧ k_ ≠ gb370 ∧ k_ ≠ gb371 ∧ k_ ≠ gb388) v373 t372) := ⟨h0_⟩
       have HO378 : Aside0 (Kd.R (Kd.int .u32) 89 w12 w.heap.size (fun _ => True) v377 t376) := ⟨h1_⟩
       replace BK370 : Aside0 (w12.heap[gb370]? = some (.cells #[.bool a0_0, .slice A0_1 l0_1.length c0_1, .slice A0_2 l0_2.length c0_2] 27 (0, 0))) := ⟨h2_⟩
       replace BK371 : Aside0 (w12.heap[gb371]? = some (.cells #[.bool false, .slice none 0 0] 25 (0, 0))) := ⟨h3_⟩
       have BK388 : Aside0 (w12.heap[gb388]? = some (.cells #[.bool false, .slice none 0 0] 25 (0, 0))) := ⟨h4_⟩
       have GW388 : Aside0 (w.heap.size ≤ gb388) := ⟨h5_⟩
       have GE388 : Aside0 (w.heap.size ≤ gb388) := ⟨h6_⟩
       have NB370_388 : Aside0 (gb370 ≠ gb388) := ⟨h7_⟩
       have NB388_370 : Aside0 (gb388 ≠ gb370) := ⟨h8_⟩
       have NB371_388 : Aside0 (gb371 ≠ gb388) := ⟨h9_⟩
       have NB388_371 : Aside0 (gb388 ≠ gb371) := ⟨h10_⟩
       replace HB : Aside0 (Below w.heap.size w w12) := ⟨h11_⟩
       clear h0_ h1_ h2_ h3_ h4_ h5_ h6_ h7_ h8_ h9_ h10_ h11_
       have hHeld : w12.cell? ⟨gb370, 0, none⟩ = some (.bool a0_0) ∧ w12.cell? ⟨gb370, 1, none⟩ = some (.slice A0_1 l0_1.length c0_1) ∧ w12.cell? ⟨gb370, 2, none⟩ = some (.slice A0_2 l0_2.length c0_2) := hS_
       obtain ⟨Ao13, co13, eo13⟩ := Kd.R_slice HO378.out
       (first | subst eo13 | (injection eo13 with f1_ f2_ f3_; have f4_ := f1_.symm; have f5_ := f3_.symm; clear f1_ f2_ f3_; subst f4_; subst f5_))
       refine norm_ (a' := ?_) ?_ ?_
       rotate_left
       ·simp only [putAll, Act.put, List.setIfInBounds_toArray, List.set_cons_zero, List.set_cons_succ]
        rfl
       refine two_ (i := 5) (j := 11) (Ni := some 12) (Nj := some 4) #[true, true, true, true, true, true, false, false, false, false, true, false, false, false, false] #[true, true, true, true, true, false, false, false, false, false, true, true, false, false, false] rfl rfl rfl rfl (two_of HT_.out (by kernel_rfl)) (by decide) (by decide) (fun K hK => ?_) (fun K hK => ?_)
       ·skip
        refine Short.goesD_ Try.func60 #[.agg #[.bool a0_0, .slice A0_1 l0_1.length c0_1], .agg #[.bool t375, .slice Ao13 t376.length co13]] ?_
        with_reducible refine (whole_Floor.calls k a0_0 _ _ l0_1 t375 _ _ t376 t379 t380 t383 t384 t387 _ (Kd.C_below HR0_1.out HB.out) HC0_1.out ((Kd.R_reads' HO378.out).2.2) ((Kd.R_reads' HO378.out).2.1) A4.out).mono ?_
        rintro e w14 ⟨v381, v385, rfl, ho0, ho1, hb⟩
        refine ⟨_, rfl, ?_⟩
        replace HO374 := Aside0.mk (Kd.V_mono (Kd.V_told (Kd.V_told (Kd.V_old HO374.out hb) (Kd.R_base ho0)) (Kd.R_base ho1)) (fun _ h_ => h_.1))
        have HO382 := Aside0.mk (Kd.R_lower (Kd.R_new' ho0 (Kd.R_lt HO378.out)) (below_size HB.out))
        have HO386 := Aside0.mk (Kd.R_lower (Kd.R_new' ho1 (Kd.R_lt HO378.out)) (below_size HB.out))
        replace HO378 := Aside0.mk (Kd.R_mono (Kd.R_told (Kd.R_told (Kd.R_old HO378.out hb) (Kd.R_base ho0)) (Kd.R_base ho1)) (fun _ h_ => h_.1))
        replace BK370 := Aside0.mk (blk_below BK370.out hb)
        replace BK371 := Aside0.mk (blk_below BK371.out hb)
        replace BK388 := Aside0.mk (blk_below BK388.out hb)
        replace HB := Aside0.mk (below_step HB.out hb)
        (try clear hb)
        (try clear ho0)
        (try clear ho1)
        refine hK.out _ _ ⟨(blk_cell BK370.out 0).trans rfl, (blk_cell BK370.out 1).trans rfl, (blk_cell BK370.out 2).trans rfl⟩ (fun hHeld => ?_)
        clear hK K
        refine Short.normS_ ?_
        refine Short.pureS_ (i := 6) (N := some 6) #[true, true, true, true, true, true, true, false, false, false, true, false, false, false, false] (any_of HT_.out (by kernel_rfl)) ?_
        refine Short.pureS_ (i := 7) (N := some 13) #[true, true, true, true, true, true, true, true, false, false, true, false, false, false, false] (any_of HT_.out (by kernel_rfl)) ?_
        refine Short.pureS_ (i := 8) (N := some 14) #[true, true, true, true, true, true, true, true, true, false, true, false, false, false, false] (any_of HT_.out (by kernel_rfl)) ?_
        refine Short.pureS_ (i := 9) (N := some 15) #[true, true, true, true, true, true, true, true, true, true, true, false, false, false, false] (any_of HT_.out (by kernel_rfl)) ?_
        exact Short.normP_ (hJ3_4_5_10 (v373, .slice Ao13 t376.length co13, v381, v385, gb388) _ ⟨hHeld, (by (with_reducible repeat (first | apply Kd.V_alloc | apply Kd.V_drewN | apply Kd.V_drew)); exact Kd.V_mono HO374.out (fun _ hk => ⟨hk.1.1.1, ⟨hk.1.2, ⟨hk.2, ⟨hk.1.1.2.1, ⟨hk.1.1.2.2.1, hk.1.1.2.2.2⟩⟩⟩⟩⟩)), (by (with_reducible repeat (first | apply Kd.R_alloc | apply Kd.R_drewN | apply Kd.R_drew)); exact Kd.R_mono HO378.out (fun _ hk => ⟨hk.1.2, hk.2⟩)), (by (with_reducible repeat (first | apply Kd.R_alloc | apply Kd.R_drewN | apply Kd.R_drew)); exact Kd.R_mono HO382.out (fun _ hk => ⟨hk.2, hk.1⟩)), (by (with_reducible repeat (first | apply Kd.R_alloc | apply Kd.R_drewN | apply Kd.R_drew)); exact Kd.R_mono HO386.out (fun _ hk => ⟨hk.2, hk.1⟩)), BK370.out, BK371.out, BK388.out, GW388.out, GE388.out, NB370_388.out, NB388_370.out, NB371_388.out, NB388_371.out, HB.out⟩)
       ·skip
        refine Short.boxD_ (N := 4) (cs := #[.bool false, .slice none 0 0]) (t := 25) ?_
        intro gb389 hg w13 hbox hb
        replace HO374 := Aside0.mk (Kd.V_below (Kd.V_elderB HO374.out gb389 (Nat.le_of_eq hg.symm)) hb)
        replace HO378 := Aside0.mk (Kd.R_below HO378.out hb)
        have BK389 := Aside0.mk (hbox)
        have GW389 := Aside0.mk ((by rw [hg]; exact (below_size HB.out) : w.heap.size ≤ gb389))
        have GE389 := Aside0.mk ((by rw [hg]; exact (below_size HB.out) : w.heap.size ≤ gb389))
        replace HB := Aside0.mk (below_step HB.out hb)
        have NB370_389 := Short.ltA_ hg BK370
        have NB389_370 := Short.gtA_ hg BK370
        replace BK370 := Aside0.mk (blk_below BK370.out hb)
        have NB371_389 := Short.ltA_ hg BK371
        have NB389_371 := Short.gtA_ hg BK371
        replace BK371 := Aside0.mk (blk_below BK371.out hb)
        have NB388_389 := Short.ltA_ hg BK388
        have NB389_388 := Short.gtA_ hg BK388
        replace BK388 := Aside0.mk (blk_below BK388.out hb)
        clear hb hbox hg
        refine hK.out _ _ ⟨(blk_cell BK370.out 0).trans rfl, (blk_cell BK370.out 1).trans rfl, (blk_cell BK370.out 2).trans rfl⟩ (fun hHeld => ?_)
        clear hK K
        refine Short.normS_ ?_
        exact Short.normP_ (hJ3_4_10_11 (v373, (.slice Ao13 t376.length co13), gb388, gb389) _ ⟨hHeld, (by (with_reducible repeat (first | apply Kd.V_alloc | apply Kd.V_drewN | apply Kd.V_drew)); exact Kd.V_mono HO374.out (fun _ hk => ⟨hk.1.1, ⟨hk.1.2.1, ⟨hk.1.2.2.1, ⟨hk.1.2.2.2, hk.2⟩⟩⟩⟩)), HO378.out, BK370.out, BK371.out, BK388.out, BK389.out, GW388.out, GE388.out, NB370_388.out, NB388_370.out, NB371_388.out, NB388_371.out, NB389_388.out, NB388_389.out, GW389.out, GE389.out, NB370_389.out, NB389_370.out, NB371_389.out, NB389_371.out, HB.out⟩)
     ·skip
      rintro ⟨v373, v377, v381, v385⟩ w13 ⟨hS_, h0_, h1_, h2_, h3_, h4_, h5_, h6_⟩
      have HO374 : Aside0 (Kd.V (Kd.int .u32) 89 w13 w.heap.size (fun k_ => some k_ ≠ (v377 : Value).ownBlock ∧ some k_ ≠ (v381 : Value).ownBlock ∧ some k_ ≠ (v385 : Value).ownBlock ∧ k_ ≠ gb370 ∧ k_ ≠ gb371) v373 t372) := ⟨h0_⟩
      have HO378 : Aside0 (Kd.R (Kd.int .u32) 89 w13 w.heap.size (fun k_ => some k_ ≠ (v381 : Value).ownBlock ∧ some k_ ≠ (v385 : Value).ownBlock) v377 t376) := ⟨h1_⟩
      have HO382 : Aside0 (Kd.R (Kd.int .u32) 89 w13 w.heap.size (fun k_ => some k_ ≠ (v377 : Value).ownBlock ∧ some k_ ≠ (v385 : Value).ownBlock) v381 t380) := ⟨h2_⟩
      have HO386 : Aside0 (Kd.R (Kd.int .u32) 89 w13 w.heap.size (fun k_ => some k_ ≠ (v377 : Value).ownBlock ∧ some k_ ≠ (v381 : Value).ownBlock) v385 t384) := ⟨h3_⟩
      replace BK370 : Aside0 (w13.heap[gb370]? = some (.cells #[.bool a0_0, .slice A0_1 l0_1.length c0_1, .slice A0_2 l0_2.length c0_2] 27 (0, 0))) := ⟨h4_⟩
      replace BK371 : Aside0 (w13.heap[gb371]? = some (.cells #[.bool false, .slice none 0 0] 25 (0, 0))) := ⟨h5_⟩
      replace HB : Aside0 (Below w.heap.size w w13) := ⟨h6_⟩
      clear h0_ h1_ h2_ h3_ h4_ h5_ h6_
      have hHeld : w13.cell? ⟨gb370, 0, none⟩ = some (.bool a0_0) ∧ w13.cell? ⟨gb370, 1, none⟩ = some (.slice A0_1 l0_1.length c0_1) ∧ w13.cell? ⟨gb370, 2, none⟩ = some (.slice A0_2 l0_2.length c0_2) := hS_
      refine norm_ (a' := ?_) ?_ ?_
      rotate_left
      ·simp only [putAll, Act.put, List.setIfInBounds_toArray, List.set_cons_zero, List.set_cons_succ]
       rfl
      refine two_ (i := 10) (j := 11) (Ni := some 3) (Nj := some 4) #[true, true, true, true, true, true, true, true, true, true, true, false, false, false, false] #[true, true, true, true, true, true, true, true, true, true, false, true, false, false, false] rfl rfl rfl rfl (two_of HT_.out (by kernel_rfl)) (by decide) (by decide) (fun K hK => ?_) (fun K hK => ?_)
      ·skip
       refine Short.boxD_ (N := 3) (cs := #[.bool false, .slice none 0 0]) (t := 25) ?_
       intro gb388 hg w14 hbox hb
       replace HO374 := Aside0.mk (Kd.V_below (Kd.V_elderB HO374.out gb388 (Nat.le_of_eq hg.symm)) hb)
       replace HO378 := Aside0.mk (Kd.R_below HO378.out hb)
       replace HO382 := Aside0.mk (Kd.R_below HO382.out hb)
       replace HO386 := Aside0.mk (Kd.R_below HO386.out hb)
       have BK388 := Aside0.mk (hbox)
       have GW388 := Aside0.mk ((by rw [hg]; exact (below_size HB.out) : w.heap.size ≤ gb388))
       have GE388 := Aside0.mk ((by rw [hg]; exact (below_size HB.out) : w.heap.size ≤ gb388))
       replace HB := Aside0.mk (below_step HB.out hb)
       have NB370_388 := Short.ltA_ hg BK370
       have NB388_370 := Short.gtA_ hg BK370
       replace BK370 := Aside0.mk (blk_below BK370.out hb)
       have NB371_388 := Short.ltA_ hg BK371
       have NB388_371 := Short.gtA_ hg BK371
       replace BK371 := Aside0.mk (blk_below BK371.out hb)
       clear hb hbox hg
       refine hK.out _ _ ⟨(blk_cell BK370.out 0).trans rfl, (blk_cell BK370.out 1).trans rfl, (blk_cell BK370.out 2).trans rfl⟩ (fun hHeld => ?_)
       clear hK K
       refine Short.normS_ ?_
       exact Short.normP_ (hJ3_4_5_10 (v373, v377, v381, v385, gb388) _ ⟨hHeld, (by (with_reducible repeat (first | apply Kd.V_alloc | apply Kd.V_drewN | apply Kd.V_drew)); exact Kd.V_mono HO374.out (fun _ hk => ⟨hk.1.1, ⟨hk.1.2.1, ⟨hk.1.2.2.1, ⟨hk.1.2.2.2.1, ⟨hk.1.2.2.2.2, hk.2⟩⟩⟩⟩⟩)), HO378.out, HO382.out, HO386.out, BK370.out, BK371.out, BK388.out, GW388.out, GE388.out, NB370_388.out, NB388_370.out, NB371_388.out, NB388_371.out, HB.out⟩)
      ·skip
       refine Short.boxD_ (N := 4) (cs := #[.bool false, .slice none 0 0]) (t := 25) ?_
       intro gb389 hg w14 hbox hb
       replace HO374 := Aside0.mk (Kd.V_below (Kd.V_elderB HO374.out gb389 (Nat.le_of_eq hg.symm)) hb)
       replace HO378 := Aside0.mk (Kd.R_below HO378.out hb)
       replace HO382 := Aside0.mk (Kd.R_below HO382.out hb)
       replace HO386 := Aside0.mk (Kd.R_below HO386.out hb)
       have BK389 := Aside0.mk (hbox)
       have GW389 := Aside0.mk ((by rw [hg]; exact (below_size HB.out) : w.heap.size ≤ gb389))
       have GE389 := Aside0.mk ((by rw [hg]; exact (below_size HB.out) : w.heap.size ≤ gb389))
       replace HB := Aside0.mk (below_step HB.out hb)
       have NB370_389 := Short.ltA_ hg BK370
       have NB389_370 := Short.gtA_ hg BK370
       replace BK370 := Aside0.mk (blk_below BK370.out hb)
       have NB371_389 := Short.ltA_ hg BK371
       have NB389_371 := Short.gtA_ hg BK371
       replace BK371 := Aside0.mk (blk_below BK371.out hb)
       clear hb hbox hg
       refine hK.out _ _ ⟨(blk_cell BK370.out 0).trans rfl, (blk_cell BK370.out 1).trans rfl, (blk_cell BK370.out 2).trans rfl⟩ (fun hHeld => ?_)
       clear hK K
       refine Short.normS_ ?_
       exact Short.normP_ (hJ3_4_5_11 (v373, v377, v381, v385, gb389) _ ⟨hHeld, (by (with_reducible repeat (first | apply Kd.V_alloc | apply Kd.V_drewN | apply Kd.V_drew)); exact Kd.V_mono HO374.out (fun _ hk => ⟨hk.1.1, ⟨hk.1.2.1, ⟨hk.1.2.2.1, ⟨hk.1.2.2.2.1, ⟨hk.1.2.2.2.2, hk.2⟩⟩⟩⟩⟩)), HO378.out, HO382.out, HO386.out, BK370.out, BK371.out, BK389.out, GW389.out, GE389.out, NB370_389.out, NB389_370.out, NB371_389.out, NB389_371.out, HB.out⟩)
    ·skip
     rintro ⟨v373, v377, gb388, gb389⟩ w13 ⟨hS_, h0_, h1_, h2_, h3_, h4_, h5_, h6_, h7_, h8_, h9_, h10_, h11_, h12_, h13_, h14_, h15_, h16_, h17_, h18_, h19_, h20_⟩
     have HO374 : Aside0 (Kd.V (Kd.int .u32) 89 w13 w.heap.size (fun k_ => some k_ ≠ (v377 : Value).ownBlock ∧ k_ ≠ gb370 ∧ k_ ≠ gb371 ∧ k_ ≠ gb388 ∧ k_ ≠ gb389) v373 t372) := ⟨h0_⟩
     have HO378 : Aside0 (Kd.R (Kd.int .u32) 89 w13 w.heap.size (fun _ => True) v377 t376) := ⟨h1_⟩
     replace BK370 : Aside0 (w13.heap[gb370]? = some (.cells #[.bool a0_0, .slice A0_1 l0_1.length c0_1, .slice A0_2 l0_2.length c0_2] 27 (0, 0))) := ⟨h2_⟩
     replace BK371 : Aside0 (w13.heap[gb371]? = some (.cells #[.bool false, .slice none 0 0] 25 (0, 0))) := ⟨h3_⟩
     have BK388 : Aside0 (w13.heap[gb388]? = some (.cells #[.bool false, .slice none 0 0] 25 (0, 0))) := ⟨h4_⟩
     have BK389 : Aside0 (w13.heap[gb389]? = some (.cells #[.bool false, .slice none 0 0] 25 (0, 0))) := ⟨h5_⟩
     have GW388 : Aside0 (w.heap.size ≤ gb388) := ⟨h6_⟩
     have GE388 : Aside0 (w.heap.size ≤ gb388) := ⟨h7_⟩
     have NB370_388 : Aside0 (gb370 ≠ gb388) := ⟨h8_⟩
     have NB388_370 : Aside0 (gb388 ≠ gb370) := ⟨h9_⟩
     have NB371_388 : Aside0 (gb371 ≠ gb388) := ⟨h10_⟩
     have NB388_371 : Aside0 (gb388 ≠ gb371) := ⟨h11_⟩
     have NB389_388 : Aside0 (gb389 ≠ gb388) := ⟨h12_⟩
     have NB388_389 : Aside0 (gb388 ≠ gb389) := ⟨h13_⟩
     have GW389 : Aside0 (w.heap.size ≤ gb389) := ⟨h14_⟩
     have GE389 : Aside0 (w.heap.size ≤ gb389) := ⟨h15_⟩
     have NB370_389 : Aside0 (gb370 ≠ gb389) := ⟨h16_⟩
     have NB389_370 : Aside0 (gb389 ≠ gb370) := ⟨h17_⟩
     have NB371_389 : Aside0 (gb371 ≠ gb389) := ⟨h18_⟩
     have NB389_371 : Aside0 (gb389 ≠ gb371) := ⟨h19_⟩
     replace HB : Aside0 (Below w.heap.size w w13) := ⟨h20_⟩
     clear h0_ h1_ h2_ h3_ h4_ h5_ h6_ h7_ h8_ h9_ h10_ h11_ h12_ h13_ h14_ h15_ h16_ h17_ h18_ h19_ h20_
     have hHeld : w13.cell? ⟨gb370, 0, none⟩ = some (.bool a0_0) ∧ w13.cell? ⟨gb370, 1, none⟩ = some (.slice A0_1 l0_1.length c0_1) ∧ w13.cell? ⟨gb370, 2, none⟩ = some (.slice A0_2 l0_2.length c0_2) := hS_
     obtain ⟨Ao14, co14, eo14⟩ := Kd.R_slice HO378.out
     (first | subst eo14 | (injection eo14 with f1_ f2_ f3_; have f4_ := f1_.symm; have f5_ := f3_.symm; clear f1_ f2_ f3_; subst f4_; subst f5_))
     refine norm_ (a' := ?_) ?_ ?_
     rotate_left
     ·simp only [putAll, Act.put, List.setIfInBounds_toArray, List.set_cons_zero, List.set_cons_succ]
      rfl
     refine one_ (i := 5) (N := some 12) #[true, true, true, true, true, true, false, false, false, false, true, true, false, false, false] rfl rfl (one_of HT_.out (by kernel_rfl)) (by decide) (fun K hK => ?_)
     refine Short.goesD_ Try.func60 #[.agg #[.bool a0_0, .slice A0_1 l0_1.length c0_1], .agg #[.bool t375, .slice Ao14 t376.length co14]] ?_
     with_reducible refine (whole_Floor.calls k a0_0 _ _ l0_1 t375 _ _ t376 t379 t380 t383 t384 t387 _ (Kd.C_below HR0_1.out HB.out) HC0_1.out ((Kd.R_reads' HO378.out).2.2) ((Kd.R_reads' HO378.out).2.1) A4.out).mono ?_
     rintro e w15 ⟨v381, v385, rfl, ho0, ho1, hb⟩
     refine ⟨_, rfl, ?_⟩
     replace HO374 := Aside0.mk (Kd.V_mono (Kd.V_told (Kd.V_told (Kd.V_old HO374.out hb) (Kd.R_base ho0)) (Kd.R_base ho1)) (fun _ h_ => h_.1))
     have HO382 := Aside0.mk (Kd.R_lower (Kd.R_new' ho0 (Kd.R_lt HO378.out)) (below_size HB.out))
     have HO386 := Aside0.mk (Kd.R_lower (Kd.R_new' ho1 (Kd.R_lt HO378.out)) (below_size HB.out))
     replace HO378 := Aside0.mk (Kd.R_mono (Kd.R_told (Kd.R_told (Kd.R_old HO378.out hb) (Kd.R_base ho0)) (Kd.R_base ho1)) (fun _ h_ => h_.1))
     replace BK370 := Aside0.mk (blk_below BK370.out hb)
     replace BK371 := Aside0.mk (blk_below BK371.out hb)
     replace BK388 := Aside0.mk (blk_below BK388.out hb)
     replace BK389 := Aside0.mk (blk_below BK389.out hb)
     replace HB := Aside0.mk (below_step HB.out hb)
     (try clear hb)
     (try clear ho0)
     (try clear ho1)
     refine hK.out _ _ ⟨(blk_cell BK370.out 0).trans rfl, (blk_cell BK370.out 1).trans rfl, (blk_cell BK370.out 2).trans rfl⟩ (fun hHeld => ?_)
     clear hK K
     refine Short.normS_ ?_
     refine Short.pureS_ (i := 6) (N := some 6) #[true, true, true, true, true, true, true, false, false, false, true, true, false, false, false] (any_of HT_.out (by kernel_rfl)) ?_
     refine Short.pureS_ (i := 7) (N := some 13) #[true, true, true, true, true, true, true, true, false, false, true, true, false, false, false] (any_of HT_.out (by kernel_rfl)) ?_
     refine Short.pureS_ (i := 8) (N := some 14) #[true, true, true, true, true, true, true, true, true, false, true, true, false, false, false] (any_of HT_.out (by kernel_rfl)) ?_
     refine Short.pureS_ (i := 9) (N := some 15) #[true, true, true, true, true, true, true, true, true, true, true, true, false, false, false] (any_of HT_.out (by kernel_rfl)) ?_
     exact Short.normP_ (hJ3_4_5_10_11 (v373, .slice Ao14 t376.length co14, v381, v385, gb388, gb389) _ ⟨hHeld, (by (with_reducible repeat (first | apply Kd.V_alloc | apply Kd.V_drewN | apply Kd.V_drew)); exact Kd.V_mono HO374.out (fun _ hk => ⟨hk.1.1.1, ⟨hk.1.2, ⟨hk.2, ⟨hk.1.1.2.1, ⟨hk.1.1.2.2.1, ⟨hk.1.1.2.2.2.1, hk.1.1.2.2.2.2⟩⟩⟩⟩⟩⟩)), (by (with_reducible repeat (first | apply Kd.R_alloc | apply Kd.R_drewN | apply Kd.R_drew)); exact Kd.R_mono HO378.out (fun _ hk => ⟨hk.1.2, hk.2⟩)), (by (with_reducible repeat (first | apply Kd.R_alloc | apply Kd.R_drewN | apply Kd.R_drew)); exact Kd.R_mono HO382.out (fun _ hk => ⟨hk.2, hk.1⟩)), (by (with_reducible repeat (first | apply Kd.R_alloc | apply Kd.R_drewN | apply Kd.R_drew)); exact Kd.R_mono HO386.out (fun _ hk => ⟨hk.2, hk.1⟩)), BK370.out, BK371.out, BK388.out, BK389.out, GW388.out, GE388.out, NB370_388.out, NB388_370.out, NB371_388.out, NB388_371.out, NB389_388.out, NB388_389.out, GW389.out, GE389.out, NB370_389.out, NB389_370.out, NB371_389.out, NB389_371.out, HB.out⟩)
   ·skip
    rintro ⟨v373, v377, v381, v385, gb389⟩ w14 ⟨hS_, h0_, h1_, h2_, h3_, h4_, h5_, h6_, h7_, h8_, h9_, h10_, h11_, h12_, h13_⟩
    have HO374 : Aside0 (Kd.V (Kd.int .u32) 89 w14 w.heap.size (fun k_ => some k_ ≠ (v377 : Value).ownBlock ∧ some k_ ≠ (v381 : Value).ownBlock ∧ some k_ ≠ (v385 : Value).ownBlock ∧ k_ ≠ gb370 ∧ k_ ≠ gb371 ∧ k_ ≠ gb389) v373 t372) := ⟨h0_⟩
    have HO378 : Aside0 (Kd.R (Kd.int .u32) 89 w14 w.heap.size (fun k_ => some k_ ≠ (v381 : Value).ownBlock ∧ some k_ ≠ (v385 : Value).ownBlock) v377 t376) := ⟨h1_⟩
    have HO382 : Aside0 (Kd.R (Kd.int .u32) 89 w14 w.heap.size (fun k_ => some k_ ≠ (v377 : Value).ownBlock ∧ some k_ ≠ (v385 : Value).ownBlock) v381 t380) := ⟨h2_⟩
    have HO386 : Aside0 (Kd.R (Kd.int .u32) 89 w14 w.heap.size (fun k_ => some k_ ≠ (v377 : Value).ownBlock ∧ some k_ ≠ (v381 : Value).ownBlock) v385 t384) := ⟨h3_⟩
    replace BK370 : Aside0 (w14.heap[gb370]? = some (.cells #[.bool a0_0, .slice A0_1 l0_1.length c0_1, .slice A0_2 l0_2.length c0_2] 27 (0, 0))) := ⟨h4_⟩
    replace BK371 : Aside0 (w14.heap[gb371]? = some (.cells #[.bool false, .slice none 0 0] 25 (0, 0))) := ⟨h5_⟩
    have BK389 : Aside0 (w14.heap[gb389]? = some (.cells #[.bool false, .slice none 0 0] 25 (0, 0))) := ⟨h6_⟩
    have GW389 : Aside0 (w.heap.size ≤ gb389) := ⟨h7_⟩
    have GE389 : Aside0 (w.heap.size ≤ gb389) := ⟨h8_⟩
    have NB370_389 : Aside0 (gb370 ≠ gb389) := ⟨h9_⟩
    have NB389_370 : Aside0 (gb389 ≠ gb370) := ⟨h10_⟩
    have NB371_389 : Aside0 (gb371 ≠ gb389) := ⟨h11_⟩
    have NB389_371 : Aside0 (gb389 ≠ gb371) := ⟨h12_⟩
    replace HB : Aside0 (Below w.heap.size w w14) := ⟨h13_⟩
    clear h0_ h1_ h2_ h3_ h4_ h5_ h6_ h7_ h8_ h9_ h10_ h11_ h12_ h13_
    have hHeld : w14.cell? ⟨gb370, 0, none⟩ = some (.bool a0_0) ∧ w14.cell? ⟨gb370, 1, none⟩ = some (.slice A0_1 l0_1.length c0_1) ∧ w14.cell? ⟨gb370, 2, none⟩ = some (.slice A0_2 l0_2.length c0_2) := hS_
    refine norm_ (a' := ?_) ?_ ?_
    rotate_left
    ·simp only [putAll, Act.put, List.setIfInBounds_toArray, List.set_cons_zero, List.set_cons_succ]
     rfl
    refine one_ (i := 10) (N := some 3) #[true, true, true, true, true, true, true, true, true, true, true, true, false, false, false] rfl rfl (one_of HT_.out (by kernel_rfl)) (by decide) (fun K hK => ?_)
    refine Short.boxD_ (N := 3) (cs := #[.bool false, .slice none 0 0]) (t := 25) ?_
    intro gb388 hg w15 hbox hb
    replace HO374 := Aside0.mk (Kd.V_below (Kd.V_elderB HO374.out gb388 (Nat.le_of_eq hg.symm)) hb)
    replace HO378 := Aside0.mk (Kd.R_below HO378.out hb)
    replace HO382 := Aside0.mk (Kd.R_below HO382.out hb)
    replace HO386 := Aside0.mk (Kd.R_below HO386.out hb)
    have BK388 := Aside0.mk (hbox)
    have GW388 := Aside0.mk ((by rw [hg]; exact (below_size HB.out) : w.heap.size ≤ gb388))
    have GE388 := Aside0.mk ((by rw [hg]; exact (below_size HB.out) : w.heap.size ≤ gb388))
    replace HB := Aside0.mk (below_step HB.out hb)
    have NB370_388 := Short.ltA_ hg BK370
    have NB388_370 := Short.gtA_ hg BK370
    replace BK370 := Aside0.mk (blk_below BK370.out hb)
    have NB371_388 := Short.ltA_ hg BK371
    have NB388_371 := Short.gtA_ hg BK371
    replace BK371 := Aside0.mk (blk_below BK371.out hb)
    have NB389_388 := Short.ltA_ hg BK389
    have NB388_389 := Short.gtA_ hg BK389
    replace BK389 := Aside0.mk (blk_below BK389.out hb)
    clear hb hbox hg
    refine hK.out _ _ ⟨(blk_cell BK370.out 0).trans rfl, (blk_cell BK370.out 1).trans rfl, (blk_cell BK370.out 2).trans rfl⟩ (fun hHeld => ?_)
    clear hK K
    refine Short.normS_ ?_
    exact Short.normP_ (hJ3_4_5_10_11 (v373, v377, v381, v385, gb388, gb389) _ ⟨hHeld, (by (with_reducible repeat (first | apply Kd.V_alloc | apply Kd.V_drewN | apply Kd.V_drew)); exact Kd.V_mono HO374.out (fun _ hk => ⟨hk.1.1, ⟨hk.1.2.1, ⟨hk.1.2.2.1, ⟨hk.1.2.2.2.1, ⟨hk.1.2.2.2.2.1, ⟨hk.2, hk.1.2.2.2.2.2⟩⟩⟩⟩⟩⟩)), HO378.out, HO382.out, HO386.out, BK370.out, BK371.out, BK388.out, BK389.out, GW388.out, GE388.out, NB370_388.out, NB388_370.out, NB371_388.out, NB388_371.out, NB389_388.out, NB388_389.out, GW389.out, GE389.out, NB370_389.out, NB389_370.out, NB371_389.out, NB389_371.out, HB.out⟩)
  ·skip
   rintro ⟨v373, v377, v381, v385, gb388⟩ w14 ⟨hS_, h0_, h1_, h2_, h3_, h4_, h5_, h6_, h7_, h8_, h9_, h10_, h11_, h12_, h13_⟩
   have HO374 : Aside0 (Kd.V (Kd.int .u32) 89 w14 w.heap.size (fun k_ => some k_ ≠ (v377 : Value).ownBlock ∧ some k_ ≠ (v381 : Value).ownBlock ∧ some k_ ≠ (v385 : Value).ownBlock ∧ k_ ≠ gb370 ∧ k_ ≠ gb371 ∧ k_ ≠ gb388) v373 t372) := ⟨h0_⟩
   have HO378 : Aside0 (Kd.R (Kd.int .u32) 89 w14 w.heap.size (fun k_ => some k_ ≠ (v381 : Value).ownBlock ∧ some k_ ≠ (v385 : Value).ownBlock) v377 t376) := ⟨h1_⟩
   have HO382 : Aside0 (Kd.R (Kd.int .u32) 89 w14 w.heap.size (fun k_ => some k_ ≠ (v377 : Value).ownBlock ∧ some k_ ≠ (v385 : Value).ownBlock) v381 t380) := ⟨h2_⟩
   have HO386 : Aside0 (Kd.R (Kd.int .u32) 89 w14 w.heap.size (fun k_ => some k_ ≠ (v377 : Value).ownBlock ∧ some k_ ≠ (v381 : Value).ownBlock) v385 t384) := ⟨h3_⟩
   replace BK370 : Aside0 (w14.heap[gb370]? = some (.cells #[.bool a0_0, .slice A0_1 l0_1.length c0_1, .slice A0_2 l0_2.length c0_2] 27 (0, 0))) := ⟨h4_⟩
   replace BK371 : Aside0 (w14.heap[gb371]? = some (.cells #[.bool false, .slice none 0 0] 25 (0, 0))) := ⟨h5_⟩
   have BK388 : Aside0 (w14.heap[gb388]? = some (.cells #[.bool false, .slice none 0 0] 25 (0, 0))) := ⟨h6_⟩
   have GW388 : Aside0 (w.heap.size ≤ gb388) := ⟨h7_⟩
   have GE388 : Aside0 (w.heap.size ≤ gb388) := ⟨h8_⟩
   have NB370_388 : Aside0 (gb370 ≠ gb388) := ⟨h9_⟩
   have NB388_370 : Aside0 (gb388 ≠ gb370) := ⟨h10_⟩
   have NB371_388 : Aside0 (gb371 ≠ gb388) := ⟨h11_⟩
   have NB388_371 : Aside0 (gb388 ≠ gb371) := ⟨h12_⟩
   replace HB : Aside0 (Below w.heap.size w w14) := ⟨h13_⟩
   clear h0_ h1_ h2_ h3_ h4_ h5_ h6_ h7_ h8_ h9_ h10_ h11_ h12_ h13_
   have hHeld : w14.cell? ⟨gb370, 0, none⟩ = some (.bool a0_0) ∧ w14.cell? ⟨gb370, 1, none⟩ = some (.slice A0_1 l0_1.length c0_1) ∧ w14.cell? ⟨gb370, 2, none⟩ = some (.slice A0_2 l0_2.length c0_2) := hS_
   refine norm_ (a' := ?_) ?_ ?_
   rotate_left
   ·simp only [putAll, Act.put, List.setIfInBounds_toArray, List.set_cons_zero, List.set_cons_succ]
    rfl
   refine one_ (i := 11) (N := some 4) #[true, true, true, true, true, true, true, true, true, true, true, true, false, false, false] rfl rfl (one_of HT_.out (by kernel_rfl)) (by decide) (fun K hK => ?_)
   refine Short.boxD_ (N := 4) (cs := #[.bool false, .slice none 0 0]) (t := 25) ?_
   intro gb389 hg w15 hbox hb
   replace HO374 := Aside0.mk (Kd.V_below (Kd.V_elderB HO374.out gb389 (Nat.le_of_eq hg.symm)) hb)
   replace HO378 := Aside0.mk (Kd.R_below HO378.out hb)
   replace HO382 := Aside0.mk (Kd.R_below HO382.out hb)
   replace HO386 := Aside0.mk (Kd.R_below HO386.out hb)
   have BK389 := Aside0.mk (hbox)
   have GW389 := Aside0.mk ((by rw [hg]; exact (below_size HB.out) : w.heap.size ≤ gb389))
   have GE389 := Aside0.mk ((by rw [hg]; exact (below_size HB.out) : w.heap.size ≤ gb389))
   replace HB := Aside0.mk (below_step HB.out hb)
   have NB370_389 := Short.ltA_ hg BK370
   have NB389_370 := Short.gtA_ hg BK370
   replace BK370 := Aside0.mk (blk_below BK370.out hb)
   have NB371_389 := Short.ltA_ hg BK371
   have NB389_371 := Short.gtA_ hg BK371
   replace BK371 := Aside0.mk (blk_below BK371.out hb)
   have NB388_389 := Short.ltA_ hg BK388
   have NB389_388 := Short.gtA_ hg BK388
   replace BK388 := Aside0.mk (blk_below BK388.out hb)
   clear hb hbox hg
   refine hK.out _ _ ⟨(blk_cell BK370.out 0).trans rfl, (blk_cell BK370.out 1).trans rfl, (blk_cell BK370.out 2).trans rfl⟩ (fun hHeld => ?_)
   clear hK K
   refine Short.normS_ ?_
   exact Short.normP_ (hJ3_4_5_10_11 (v373, v377, v381, v385, gb388, gb389) _ ⟨hHeld, (by (with_reducible repeat (first | apply Kd.V_alloc | apply Kd.V_drewN | apply Kd.V_drew)); exact Kd.V_mono HO374.out (fun _ hk => ⟨hk.1.1, ⟨hk.1.2.1, ⟨hk.1.2.2.1, ⟨hk.1.2.2.2.1, ⟨hk.1.2.2.2.2.1, ⟨hk.1.2.2.2.2.2, hk.2⟩⟩⟩⟩⟩⟩)), HO378.out, HO382.out, HO386.out, BK370.out, BK371.out, BK388.out, BK389.out, GW388.out, GE388.out, NB370_388.out, NB388_370.out, NB371_388.out, NB388_371.out, NB389_388.out, NB388_389.out, GW389.out, GE389.out, NB370_389.out, NB389_370.out, NB371_389.out, NB389_371.out, HB.out⟩)
 rintro ⟨v373, v377, v381, v385, gb388, gb389⟩ w15 ⟨hS_, h0_, h1_, h2_, h3_, h4_, h5_, h6_, h7_, h8_, h9_, h10_, h11_, h12_, h13_, h14_, h15_, h16_, h17_, h18_, h19_, h20_, h21_, h22_⟩
 have HO374 : Aside0 (Kd.V (Kd.int .u32) 89 w15 w.heap.size (fun k_ => some k_ ≠ (v377 : Value).ownBlock ∧ some k_ ≠ (v381 : Value).ownBlock ∧ some k_ ≠ (v385 : Value).ownBlock ∧ k_ ≠ gb370 ∧ k_ ≠ gb371 ∧ k_ ≠ gb388 ∧ k_ ≠ gb389) v373 t372) := ⟨h0_⟩
 have HO378 : Aside0 (Kd.R (Kd.int .u32) 89 w15 w.heap.size (fun k_ => some k_ ≠ (v381 : Value).ownBlock ∧ some k_ ≠ (v385 : Value).ownBlock) v377 t376) := ⟨h1_⟩
 have HO382 : Aside0 (Kd.R (Kd.int .u32) 89 w15 w.heap.size (fun k_ => some k_ ≠ (v377 : Value).ownBlock ∧ some k_ ≠ (v385 : Value).ownBlock) v381 t380) := ⟨h2_⟩
 have HO386 : Aside0 (Kd.R (Kd.int .u32) 89 w15 w.heap.size (fun k_ => some k_ ≠ (v377 : Value).ownBlock ∧ some k_ ≠ (v381 : Value).ownBlock) v385 t384) := ⟨h3_⟩
 replace BK370 : Aside0 (w15.heap[gb370]? = some (.cells #[.bool a0_0, .slice A0_1 l0_1.length c0_1, .slice A0_2 l0_2.length c0_2] 27 (0, 0))) := ⟨h4_⟩
 replace BK371 : Aside0 (w15.heap[gb371]? = some (.cells #[.bool false, .slice none 0 0] 25 (0, 0))) := ⟨h5_⟩
 have BK388 : Aside0 (w15.heap[gb388]? = some (.cells #[.bool false, .slice none 0 0] 25 (0, 0))) := ⟨h6_⟩
 have BK389 : Aside0 (w15.heap[gb389]? = some (.cells #[.bool false, .slice none 0 0] 25 (0, 0))) := ⟨h7_⟩
 have GW388 : Aside0 (w.heap.size ≤ gb388) := ⟨h8_⟩
 have GE388 : Aside0 (w.heap.size ≤ gb388) := ⟨h9_⟩
 have NB370_388 : Aside0 (gb370 ≠ gb388) := ⟨h10_⟩
 have NB388_370 : Aside0 (gb388 ≠ gb370) := ⟨h11_⟩
 have NB371_388 : Aside0 (gb371 ≠ gb388) := ⟨h12_⟩
 have NB388_371 : Aside0 (gb388 ≠ gb371) := ⟨h13_⟩
 have NB389_388 : Aside0 (gb389 ≠ gb388) := ⟨h14_⟩
 have NB388_389 : Aside0 (gb388 ≠ gb389) := ⟨h15_⟩
 have GW389 : Aside0 (w.heap.size ≤ gb389) := ⟨h16_⟩
 have GE389 : Aside0 (w.heap.size ≤ gb389) := ⟨h17_⟩
 have NB370_389 : Aside0 (gb370 ≠ gb389) := ⟨h18_⟩
 have NB389_370 : Aside0 (gb389 ≠ gb370) := ⟨h19_⟩
 have NB371_389 : Aside0 (gb371 ≠ gb389) := ⟨h20_⟩
 have NB389_371 : Aside0 (gb389 ≠ gb371) := ⟨h21_⟩
 replace HB : Aside0 (Below w.heap.size w w15) := ⟨h22_⟩
 clear h0_ h1_ h2_ h3_ h4_ h5_ h6_ h7_ h8_ h9_ h10_ h11_ h12_ h13_ h14_ h15_ h16_ h17_ h18_ h19_ h20_ h21_ h22_
 have hHeld : w15.cell? ⟨gb370, 0, none⟩ = some (.bool a0_0) ∧ w15.cell? ⟨gb370, 1, none⟩ = some (.slice A0_1 l0_1.length c0_1) ∧ w15.cell? ⟨gb370, 2, none⟩ = some (.slice A0_2 l0_2.length c0_2) := hS_
 obtain ⟨Ao17, co17, eo17⟩ := Kd.R_slice HO382.out
 (first | subst eo17 | (injection eo17 with f1_ f2_ f3_; have f4_ := f1_.symm; have f5_ := f3_.symm; clear f1_ f2_ f3_; subst f4_; subst f5_))
 obtain ⟨Ao20, co20, eo20⟩ := Kd.R_slice HO386.out
 (first | subst eo20 | (injection eo20 with f1_ f2_ f3_; have f4_ := f1_.symm; have f5_ := f3_.symm; clear f1_ f2_ f3_; subst f4_; subst f5_))
 refine norm_ (a' := ?_) ?_ ?_
 rotate_left
 ·simp only [putAll, Act.put, List.setIfInBounds_toArray, List.set_cons_zero, List.set_cons_succ]
  rfl
 refine one_ (i := 12) (N := none) #[true, true, true, true, true, true, true, true, true, true, true, true, true, false, false] rfl rfl (one_of HT_.out (by kernel_rfl)) (by decide) (fun K hK => ?_)
 have hs16 : w15.cell? ⟨gb388, 0, none⟩ = some (.bool false) := (blk_cell BK388.out 0).trans rfl
 have hfs16 := blk_frozen BK388.out 0
 have hns16_0 := NB370_388.out
 have hns16_1 := NB371_388.out
 have hns16_3 := NB389_388.out
 have hms16_0 := NB388_370.out
 have hms16_1 := NB388_371.out
 have hms16_3 := NB388_389.out
 have hs18 : w15.cell? ⟨gb388, 1, none⟩ = some (.slice none 0 0) := (blk_cell BK388.out 1).trans rfl
 have hfs18 := blk_frozen BK388.out 1
 have hns18_0 := NB370_388.out
 have hns18_1 := NB371_388.out
 have hns18_3 := NB389_388.out
 have hms18_0 := NB388_370.out
 have hms18_1 := NB388_371.out
 have hms18_3 := NB388_389.out
 refine skip_ (w1 := ?_) (by rfl) rfl ?_ ?_
 rotate_left
 ·go_simp
  rfl
 refine hK.out _ _ ⟨((cell_far (p := ⟨gb388, _, none⟩) NB370_388.out _).trans (((cell_far (p := ⟨gb388, _, none⟩) NB370_388.out _).trans (hHeld.1)))), ((cell_far (p := ⟨gb388, _, none⟩) NB370_388.out _).trans (((cell_far (p := ⟨gb388, _, none⟩) NB370_388.out _).trans (hHeld.2.1)))), ((cell_far (p := ⟨gb388, _, none⟩) NB370_388.out _).trans (((cell_far (p := ⟨gb388, _, none⟩) NB370_388.out _).trans (hHeld.2.2))))⟩ (fun hHeld => ?_)
 clear hK K
 refine one_ (i := 13) (N := none) #[true, true, true, true, true, true, true, true, true, true, true, true, true, true, false] rfl rfl (one_of HT_.out (by kernel_rfl)) (by decide) (fun K hK => ?_)
 have hs19 : w15.cell? ⟨gb389, 0, none⟩ = some (.bool false) := (blk_cell BK389.out 0).trans rfl
 have hfs19 := blk_frozen BK389.out 0
 have hns19_0 := NB370_389.out
 have hns19_1 := NB371_389.out
 have hns19_2 := NB388_389.out
 have hms19_0 := NB389_370.out
 have hms19_1 := NB389_371.out
 have hms19_2 := NB389_388.out
 have hs21 : w15.cell? ⟨gb389, 1, none⟩ = some (.slice none 0 0) := (blk_cell BK389.out 1).trans rfl
 have hfs21 := blk_frozen BK389.out 1
 have hns21_0 := NB370_389.out
 have hns21_1 := NB371_389.out
 have hns21_2 := NB388_389.out
 have hms21_0 := NB389_370.out
 have hms21_1 := NB389_371.out
 have hms21_2 := NB389_388.out
 refine skip_ (w1 := ?_) (by rfl) rfl ?_ ?_
 rotate_left
 ·go_simp
  rfl
 refine hK.out _ _ ⟨((cell_far (p := ⟨gb389, _, none⟩) NB370_389.out _).trans (((cell_far (p := ⟨gb389, _, none⟩) NB370_389.out _).trans (hHeld.1)))), ((cell_far (p := ⟨gb389, _, none⟩) NB370_389.out _).trans (((cell_far (p := ⟨gb389, _, none⟩) NB370_389.out _).trans (hHeld.2.1)))), ((cell_far (p := ⟨gb389, _, none⟩) NB370_389.out _).trans (((cell_far (p := ⟨gb389, _, none⟩) NB370_389.out _).trans (hHeld.2.2))))⟩ (fun hHeld => ?_)
 clear hK K
 refine Short.pureS_ (i := 14) (N := some 5) #[true, true, true, true, true, true, true, true, true, true, true, true, true, true, true] (any_of HT_.out (by kernel_rfl)) ?_
 refine done_ (done_of HT_.out (by kernel_rfl)) ?_
 have hnb22 := NB388_370.out
 have hnc22 := NB370_388.out
 have hnb23 := NB388_371.out
 have hnc23 := NB371_388.out
 have hnb24 := NB388_389.out
 have hnc24 := NB389_388.out
 have hcz25_0 : w15.cell? ⟨gb388, 0, none⟩ = some (.bool false) := (blk_cell BK388.out 0).trans rfl
 have hcz25_1 : w15.cell? ⟨gb388, 1, none⟩ = some (.slice none 0 0) := (blk_cell BK388.out 1).trans rfl
 have hfz25_0 := blk_frozen BK388.out 0
 have hfz25_1 := blk_frozen BK388.out 1
 have hnb26 := NB371_370.out
 have hnc26 := NB370_371.out
 have hnb27 := NB371_389.out
 have hnc27 := NB389_371.out
 have hcz28_0 : w15.cell? ⟨gb371, 0, none⟩ = some (.bool false) := (blk_cell BK371.out 0).trans rfl
 have hcz28_1 : w15.cell? ⟨gb371, 1, none⟩ = some (.slice none 0 0) := (blk_cell BK371.out 1).trans rfl
 have hfz28_0 := blk_frozen BK371.out 0
 have hfz28_1 := blk_frozen BK371.out 1
 try go_wp2
 refine bodyPost_ret (results_cell_row rfl _ _ gb371 25 #[.bool t379, .slice Ao17 t380.length co17] (0, 0) _ rfl (by (with_reducible repeat (first | refine blk_drewN ?_ _ | refine blk_drew ?_ | refine blk_alloc ?_ _)); refine blk_put (cs := #[.bool t379, .slice none 0 0]) ?_ 1 _ rfl; (with_reducible repeat (first | refine blk_drewN ?_ _ | refine blk_drew ?_ | refine blk_alloc ?_ _)); refine blk_put (cs := #[.bool false, .slice none 0 0]) ?_ 0 _ rfl; (with_reducible repeat (first | refine blk_drewN ?_ _ | refine blk_drew ?_ | refine blk_alloc ?_ _)); refine blk_far ?_ NB371_389.out _; (with_reducible repeat (first | refine blk_drewN ?_ _ | refine blk_drew ?_ | refine blk_alloc ?_ _)); refine blk_far ?_ NB371_389.out _; (with_reducible repeat (first | refine blk_drewN ?_ _ | refine blk_drew ?_ | refine blk_alloc ?_ _)); refine blk_far ?_ NB371_388.out _; (with_reducible repeat (first | refine blk_drewN ?_ _ | refine blk_drew ?_ | refine blk_alloc ?_ _)); refine blk_far ?_ NB371_388.out _; (with_reducible repeat (first | refine blk_drewN ?_ _ | refine blk_drew ?_ | refine blk_alloc ?_ _)); exact BK371.out) Try.underlying25 rfl (by kernel_rfl)) rfl ?_
 exact ⟨_, by rfl, by (with_reducible repeat (first | apply Kd.R_alloc | apply Kd.R_drewN | apply Kd.R_drew)); exact Kd.R_mono (Kd.R_far (p := ⟨gb371, 1, none⟩) (Kd.R_far (p := ⟨gb371, 0, none⟩) (Kd.R_far (p := ⟨gb389, 1, none⟩) (Kd.R_far (p := ⟨gb389, 0, none⟩) (Kd.R_far (p := ⟨gb388, 1, none⟩) (Kd.R_far (p := ⟨gb388, 0, none⟩) (Kd.R_types (Kd.R_types (Kd.R_types HO382.out BK388.out (by decide)) BK389.out (by decide)) BK371.out (by decide)) (fun _ hk => hk.1.1.2) (.bool t379)) (fun _ hk => hk.1.1.2) (.slice Ao17 t380.length co17)) (fun _ hk => hk.1.2) (.bool t383)) (fun _ hk => hk.1.2) (.slice Ao20 t384.length co20)) (fun _ hk => hk.2) (.bool t379)) (fun _ hk => hk.2) (.slice Ao17 t380.length co17)) (fun _ hk => trivial), by repeat (first | (with_reducible first | exact HB.out | apply below_alloc | apply pw_below_drewN | apply below_drew1 | refine below_set ?_ GE370.out | refine below_set ?_ GE371.out | refine below_set ?_ GE388.out | refine below_set ?_ GE389.out) | exact HB.out)⟩

theorem rat_Floor.ev {m : Bool} {l1 l2 : List Int} {r : Rat} {K : Nat} (h : Qn.Is m l1 l2 r K) (hK1 : 1 ≤ K) (hK : K < 300000) : Ev (fun k => rat_Floor.f k m l1 l2) (Zn.zd r.floor) := by
 have lb := h.len
 have I : Zn.Is false (Qn.dl l2) ((Qn.dn (Num.nv l2) : Nat) : Int) K := ⟨Qn.ws_dl h.ws, Qn.len_dl lb hK1, by rw [Qn.nv_dl]; rfl⟩
 have d0 := Qn.dn_ne (Num.nv l2)
 have F := whole_Floor.ev h.num (Zn.Is.zd I.lt) (by omega) (by omega)
 rw [(Qn.fl_ediv _ d0).1, ← Qn.floor_mk _ d0, h.val] at F
 unfold rat_Floor.f
 exact Ev.bind (rat_den.ev h.ws (by omega)) (Ev.bind (whole_Make.ev I (by omega)) (Ev.bind F (Ev.now _)))
theorem rat_Floor.size {r : Rat} {K : Nat} (h : Qn.Sm r K) : r.floor.natAbs < 2 ^ (32 * (K + 1)) := by
 rw [Rat.floor_def, ← (Qn.fl_ediv r.num r.den_nz).1]
 have h1 := Zn.fl_size r.num (r.den : Int)
 have h2 := h.num
 rw [Num.pow_succ32]
 omega

end Go.Proofs.Ytcdkopidgibijaa.PR
