import Derived.Test.YtjpkljkkcbaohaaClo
import Derived.Test.YtjpkljkkcbaohaaPRg0
import Derived.Test.YtjpkljkkcbaohaaPRg16
import Derived.Test.YtjpkljkkcbaohaaPRg23
namespace Go.Proofs.Ytjpkljkkcbaohaa.PR
open Go.RowKit Go.Proofs.YtjpkljkkcbaohaaW.PrintWords Go.Proofs.YtjpkljkkcbaohaaW.PrintLast Go.Proofs.YtjpkljkkcbaohaaW.PrintMore
attribute [local go_sem] max2_int min2_int max_two min_two max_three min_three max_four min_four   -- for this text's walks alone
set_option linter.unusedVariables false
set_option linter.unusedSimpArgs false

/-! ### whole_Floor: function 34 -/
def whole_Floor.f (k : Nat) (a0_0 : Bool) (l0_1 : List Int) (a1_0 : Bool) (l1_1 : List Int) : Option (Bool × List Int × Bool × List Int × Int) := (nat_DivMod.f k l0_1 l1_1).bind fun bt301 => (if bt301.2.2 = 0 then ((whole_Sign.f k a0_0 l0_1).bind fun t308 => ((whole_Sign.f k a1_0 l1_1).bind fun t309 => ((whole_Make.f k (decide ((wrap64 (t308 * t309)) < 0)) bt301.1).bind fun bt310 => ((whole_Floor_cl1.f k a0_0 l0_1 a1_0 l1_1 bt310.1 bt310.2).bind fun bt315 => ((whole_Sign.f k bt315.1 bt315.2).bind fun t319 => ((whole_Sign.f k a1_0 l1_1).bind fun t320 => (if (wrap64 (t319 * t320)) < 0 then ((whole_Of.f k 1).bind fun bt321 => ((whole_Sub.f k bt310.1 bt310.2 bt321.1 bt321.2).bind fun bt325 => ((whole_Floor_cl1.f k a0_0 l0_1 a1_0 l1_1 bt325.1 bt325.2).bind fun bt329 => (some (bt325.1, bt325.2, bt329.1, bt329.2, 0))))) else ((whole_Floor_cl1.f k a0_0 l0_1 a1_0 l1_1 bt310.1 bt310.2).bind fun bt333 => (some (bt310.1, bt310.2, bt333.1, bt333.2, 0)))))))))) else (some (false, ([] : List Int), false, ([] : List Int), bt301.2.2)))
theorem whole_Floor.mono : ∀ a0 a1 a2 a3 k, LeO (whole_Floor.f k a0 a1 a2 a3) (whole_Floor.f (k + 1) a0 a1 a2 a3) := by
  intro a0 a1 a2 a3 k
  unfold whole_Floor.f
  repeat' first
      | (with_reducible exact nat_DivMod.mono _ _ _)
      | (with_reducible exact whole_Floor_cl1.mono _ _ _ _ _ _ _)
      | (with_reducible exact whole_Make.mono _ _ _)
      | (with_reducible exact whole_Of.mono _ _)
      | (with_reducible exact whole_Sign.mono _ _ _)
      | (with_reducible exact whole_Sub.mono _ _ _ _ _)
      | (with_reducible exact LeO.refl _)
      | (with_reducible exact LeO.none _)
      | (with_reducible refine LeO.ite ?_ ?_)
      | (with_reducible refine LeO.bind ?_ (fun _ => ?_))
      | exact nat_DivMod.mono _ _ _
      | exact whole_Floor_cl1.mono _ _ _ _ _ _ _
      | exact whole_Make.mono _ _ _
      | exact whole_Of.mono _ _
      | exact whole_Sign.mono _ _ _
      | exact whole_Sub.mono _ _ _ _ _
      | exact LeO.none _
      | refine LeO.ite ?_ ?_
      | refine LeO.bind ?_ (fun _ => ?_)
def whole_Floor.T4 : Bool × List (List Nat × List Nat) := (true, [([], []), ([0], [0]), ([], []), ([2, 1], [2]), ([1, 3], [1, 3]), ([4], [4]), ([], []), ([5, 6, 3], [5, 6]), ([], []), ([8, 7, 7, 0, 1, 2, 3, 4, 5, 6, 7, 8], [7, 8])])
def whole_Floor.B4 : List Nat := [0, 1, 0, 7, 15, 31, 0, 127, 0, 511]
theorem whole_Floor.tab4 : rtab .any (opsOf Try.f34 4) = whole_Floor.T4 := by kernel_rfl
theorem whole_Floor.bits4 : waitsOk whole_Floor.T4.2 whole_Floor.B4 = true := by kernel_rfl
set_option maxHeartbeats 8000000 in
set_option maxRecDepth 100000 in
theorem whole_Floor.calls (k : Nat) (a0_0 : Bool) (A0_1 : Option Addr) (c0_1 : Nat) (l0_1 : List Int) (a1_0 : Bool) (A1_1 : Option Addr) (c1_1 : Nat) (l1_1 : List Int) (r1 : Bool) (r2 : List Int) (r3 : Bool) (r4 : List Int) (r5 : Int) (w : World) (hr0_1 : Kd.C (Kd.int .u32) w A0_1 l0_1.length l0_1) (hc0_1 : l0_1.length ≤ c0_1) (hr1_1 : Kd.C (Kd.int .u32) w A1_1 l1_1.length l1_1) (hc1_1 : l1_1.length ≤ c1_1) (h : whole_Floor.f k a0_0 l0_1 a1_0 l1_1 = some (r1, r2, r3, r4, r5)) :
    Calls Try.prog 34 #[.agg #[.bool a0_0, .slice A0_1 l0_1.length c0_1], .agg #[.bool a1_0, .slice A1_1 l1_1.length c1_1]] w fun e w' => ∃ v1_ v3_ : Value, e = .returned (.tuple #[.agg #[.bool r1, v1_], .agg #[.bool r3, v3_], .int .i64 r5]) ∧ Kd.R (Kd.int .u32) 37 w' w.heap.size (fun k_ => some k_ ≠ (v3_ : Value).ownBlock) v1_ r2 ∧ Kd.R (Kd.int .u32) 37 w' w.heap.size (fun k_ => some k_ ≠ (v1_ : Value).ownBlock) v3_ r4 ∧ Below w.heap.size w w' := by
  have hu25 := Try.underlying25
  have HR0_1 := Aside0.mk hr0_1
  have HC0_1 := Aside0.mk hc0_1
  clear hr0_1 hc0_1
  have HR1_1 := Aside0.mk hr1_1
  have HC1_1 := Aside0.mk hc1_1
  clear hr1_1 hc1_1
  have HB := Aside0.mk (Below.refl w.heap.size w)
  have H : ((nat_DivMod.f k l0_1 l1_1).bind fun bt301 => (if bt301.2.2 = 0 then ((whole_Sign.f k a0_0 l0_1).bind fun t308 => ((whole_Sign.f k a1_0 l1_1).bind fun t309 => ((whole_Make.f k (decide ((wrap64 (t308 * t309)) < 0)) bt301.1).bind fun bt310 => ((whole_Floor_cl1.f k a0_0 l0_1 a1_0 l1_1 bt310.1 bt310.2).bind fun bt315 => ((whole_Sign.f k bt315.1 bt315.2).bind fun t319 => ((whole_Sign.f k a1_0 l1_1).bind fun t320 => (if (wrap64 (t319 * t320)) < 0 then ((whole_Of.f k 1).bind fun bt321 => ((whole_Sub.f k bt310.1 bt310.2 bt321.1 bt321.2).bind fun bt325 => ((whole_Floor_cl1.f k a0_0 l0_1 a1_0 l1_1 bt325.1 bt325.2).bind fun bt329 => (some (bt325.1, bt325.2, bt329.1, bt329.2, 0))))) else ((whole_Floor_cl1.f k a0_0 l0_1 a1_0 l1_1 bt310.1 bt310.2).bind fun bt333 => (some (bt310.1, bt310.2, bt333.1, bt333.2, 0)))))))))) else (some (false, ([] : List Int), false, ([] : List Int), bt301.2.2)))) = some (r1, r2, r3, r4, r5) := h
  clear h
  replace H := Option.bind_eq_some_iff.mp H
  obtain ⟨⟨t301, t304, t307⟩, A30, H⟩ := H
  replace H : (if t307 = 0 then ((whole_Sign.f k a0_0 l0_1).bind fun t308 => ((whole_Sign.f k a1_0 l1_1).bind fun t309 => ((whole_Make.f k (decide ((wrap64 (t308 * t309)) < 0)) t301).bind fun bt310 => ((whole_Floor_cl1.f k a0_0 l0_1 a1_0 l1_1 bt310.1 bt310.2).bind fun bt315 => ((whole_Sign.f k bt315.1 bt315.2).bind fun t319 => ((whole_Sign.f k a1_0 l1_1).bind fun t320 => (if (wrap64 (t319 * t320)) < 0 then ((whole_Of.f k 1).bind fun bt321 => ((whole_Sub.f k bt310.1 bt310.2 bt321.1 bt321.2).bind fun bt325 => ((whole_Floor_cl1.f k a0_0 l0_1 a1_0 l1_1 bt325.1 bt325.2).bind fun bt329 => (some (bt325.1, bt325.2, bt329.1, bt329.2, 0))))) else ((whole_Floor_cl1.f k a0_0 l0_1 a1_0 l1_1 bt310.1 bt310.2).bind fun bt333 => (some (bt310.1, bt310.2, bt333.1, bt333.2, 0)))))))))) else (some (false, ([] : List Int), false, ([] : List Int), t307))) = some (r1, r2, r3, r4, r5) := H
  have A3 := Aside0.mk A30
  clear A30
  by_cases c4 : t307 = 0
  · rw [if_pos c4] at H
    have c4b0 : (t307 == 0) = true := beq_iff_eq.mpr c4
    have c4b1 : (t307 != 0) = false := bne_eq_false_iff_eq.mpr c4
    clear c4
    replace H := Option.bind_eq_some_iff.mp H
    obtain ⟨t308, A50, H⟩ := H
    replace H : ((whole_Sign.f k a1_0 l1_1).bind fun t309 => ((whole_Make.f k (decide ((wrap64 (t308 * t309)) < 0)) t301).bind fun bt310 => ((whole_Floor_cl1.f k a0_0 l0_1 a1_0 l1_1 bt310.1 bt310.2).bind fun bt315 => ((whole_Sign.f k bt315.1 bt315.2).bind fun t319 => ((whole_Sign.f k a1_0 l1_1).bind fun t320 => (if (wrap64 (t319 * t320)) < 0 then ((whole_Of.f k 1).bind fun bt321 => ((whole_Sub.f k bt310.1 bt310.2 bt321.1 bt321.2).bind fun bt325 => ((whole_Floor_cl1.f k a0_0 l0_1 a1_0 l1_1 bt325.1 bt325.2).bind fun bt329 => (some (bt325.1, bt325.2, bt329.1, bt329.2, 0))))) else ((whole_Floor_cl1.f k a0_0 l0_1 a1_0 l1_1 bt310.1 bt310.2).bind fun bt333 => (some (bt310.1, bt310.2, bt333.1, bt333.2, 0))))))))) = some (r1, r2, r3, r4, r5) := H
    have A5 := Aside0.mk A50
    clear A50
    replace H := Option.bind_eq_some_iff.mp H
    obtain ⟨t309, A60, H⟩ := H
    replace H : ((whole_Make.f k (decide ((wrap64 (t308 * t309)) < 0)) t301).bind fun bt310 => ((whole_Floor_cl1.f k a0_0 l0_1 a1_0 l1_1 bt310.1 bt310.2).bind fun bt315 => ((whole_Sign.f k bt315.1 bt315.2).bind fun t319 => ((whole_Sign.f k a1_0 l1_1).bind fun t320 => (if (wrap64 (t319 * t320)) < 0 then ((whole_Of.f k 1).bind fun bt321 => ((whole_Sub.f k bt310.1 bt310.2 bt321.1 bt321.2).bind fun bt325 => ((whole_Floor_cl1.f k a0_0 l0_1 a1_0 l1_1 bt325.1 bt325.2).bind fun bt329 => (some (bt325.1, bt325.2, bt329.1, bt329.2, 0))))) else ((whole_Floor_cl1.f k a0_0 l0_1 a1_0 l1_1 bt310.1 bt310.2).bind fun bt333 => (some (bt310.1, bt310.2, bt333.1, bt333.2, 0)))))))) = some (r1, r2, r3, r4, r5) := H
    have A6 := Aside0.mk A60
    clear A60
    replace H := Option.bind_eq_some_iff.mp H
    obtain ⟨⟨t310, t311⟩, A70, H⟩ := H
    replace H : ((whole_Floor_cl1.f k a0_0 l0_1 a1_0 l1_1 t310 t311).bind fun bt315 => ((whole_Sign.f k bt315.1 bt315.2).bind fun t319 => ((whole_Sign.f k a1_0 l1_1).bind fun t320 => (if (wrap64 (t319 * t320)) < 0 then ((whole_Of.f k 1).bind fun bt321 => ((whole_Sub.f k t310 t311 bt321.1 bt321.2).bind fun bt325 => ((whole_Floor_cl1.f k a0_0 l0_1 a1_0 l1_1 bt325.1 bt325.2).bind fun bt329 => (some (bt325.1, bt325.2, bt329.1, bt329.2, 0))))) else ((whole_Floor_cl1.f k a0_0 l0_1 a1_0 l1_1 t310 t311).bind fun bt333 => (some (t310, t311, bt333.1, bt333.2, 0))))))) = some (r1, r2, r3, r4, r5) := H
    have A7 := Aside0.mk A70
    clear A70
    replace H := Option.bind_eq_some_iff.mp H
    obtain ⟨⟨t315, t316⟩, A80, H⟩ := H
    replace H : ((whole_Sign.f k t315 t316).bind fun t319 => ((whole_Sign.f k a1_0 l1_1).bind fun t320 => (if (wrap64 (t319 * t320)) < 0 then ((whole_Of.f k 1).bind fun bt321 => ((whole_Sub.f k t310 t311 bt321.1 bt321.2).bind fun bt325 => ((whole_Floor_cl1.f k a0_0 l0_1 a1_0 l1_1 bt325.1 bt325.2).bind fun bt329 => (some (bt325.1, bt325.2, bt329.1, bt329.2, 0))))) else ((whole_Floor_cl1.f k a0_0 l0_1 a1_0 l1_1 t310 t311).bind fun bt333 => (some (t310, t311, bt333.1, bt333.2, 0)))))) = some (r1, r2, r3, r4, r5) := H
    have A8 := Aside0.mk A80
    clear A80
    replace H := Option.bind_eq_some_iff.mp H
    obtain ⟨t319, A90, H⟩ := H
    replace H : ((whole_Sign.f k a1_0 l1_1).bind fun t320 => (if (wrap64 (t319 * t320)) < 0 then ((whole_Of.f k 1).bind fun bt321 => ((whole_Sub.f k t310 t311 bt321.1 bt321.2).bind fun bt325 => ((whole_Floor_cl1.f k a0_0 l0_1 a1_0 l1_1 bt325.1 bt325.2).bind fun bt329 => (some (bt325.1, bt325.2, bt329.1, bt329.2, 0))))) else ((whole_Floor_cl1.f k a0_0 l0_1 a1_0 l1_1 t310 t311).bind fun bt333 => (some (t310, t311, bt333.1, bt333.2, 0))))) = some (r1, r2, r3, r4, r5) := H
    have A9 := Aside0.mk A90
    clear A90
    replace H := Option.bind_eq_some_iff.mp H
    obtain ⟨t320, A100, H⟩ := H
    replace H : (if (wrap64 (t319 * t320)) < 0 then ((whole_Of.f k 1).bind fun bt321 => ((whole_Sub.f k t310 t311 bt321.1 bt321.2).bind fun bt325 => ((whole_Floor_cl1.f k a0_0 l0_1 a1_0 l1_1 bt325.1 bt325.2).bind fun bt329 => (some (bt325.1, bt325.2, bt329.1, bt329.2, 0))))) else ((whole_Floor_cl1.f k a0_0 l0_1 a1_0 l1_1 t310 t311).bind fun bt333 => (some (t310, t311, bt333.1, bt333.2, 0)))) = some (r1, r2, r3, r4, r5) := H
    have A10 := Aside0.mk A100
    clear A100
    have HTEST := Aside0.mk H
    clear H
    go_enter Try.func34, Try.ntmps34
    try go_wp2_with (first | ((with_reducible refine gate_dst (N := 2) rfl ?_); refine box_event ?hg (N := 2) ?hd (cs := #[.bool a0_0, .slice A0_1 l0_1.length c0_1]) (t := 25) ?hr ?_; (case hd => rfl); (case hg => rfl); (case hr => first | (go_simp; done) | (go_simp; rfl)); intro gb297 hg w15 hbox hb; have n0_ := Aside0.mk (below_step (by repeat (first | (with_reducible first | exact HB.out | apply below_alloc | apply pw_below_drewN | apply below_drew1) | exact HB.out)) hb); have n1_ := Aside0.mk (hbox); have n2_ := Aside0.mk ((by rw [hg]; exact (below_size (by repeat (first | (with_reducible first | exact HB.out | apply below_alloc | apply pw_below_drewN | apply below_drew1) | exact HB.out))) : w.heap.size ≤ gb297)); have n3_ := Aside0.mk ((by rw [hg]; exact (below_size (by repeat (first | (with_reducible first | exact HB.out | apply below_alloc | apply pw_below_drewN | apply below_drew1) | exact HB.out))) : w.heap.size ≤ gb297)); clear HB; have HB := n0_; have BK297 := n1_; have GW297 := n2_; have GE297 := n3_; clear n0_ n1_ n2_ n3_; clear hb hbox hg) | ((with_reducible refine gate_dst (N := 3) rfl ?_); refine box_event ?hg (N := 3) ?hd (cs := #[.bool a1_0, .slice A1_1 l1_1.length c1_1]) (t := 25) ?hr ?_; (case hd => rfl); (case hg => rfl); (case hr => first | (go_simp; done) | (go_simp; rfl)); intro gb298 hg w16 hbox hb; have n0_ := Aside0.mk (blk_below (g := gb297) (o := .cells #[.bool a0_0, .slice A0_1 l0_1.length c0_1] 25 (0, 0)) (by (with_reducible repeat (first | refine blk_drewN ?_ _ | refine blk_drew ?_ | refine blk_alloc ?_ _)); exact BK297.out) hb); have n1_ := Aside0.mk (below_step (by repeat (first | (with_reducible first | exact HB.out | apply below_alloc | apply pw_below_drewN | apply below_drew1 | refine below_set ?_ GE297.out) | exact HB.out)) hb); have n2_ := Aside0.mk (hbox); have n3_ := Aside0.mk ((by rw [hg]; exact (below_size (by repeat (first | (with_reducible first | exact HB.out | apply below_alloc | apply pw_below_drewN | apply below_drew1 | refine below_set ?_ GE297.out) | exact HB.out))) : w.heap.size ≤ gb298)); have n4_ := Aside0.mk ((by rw [hg]; exact (below_size (by repeat (first | (with_reducible first | exact HB.out | apply below_alloc | apply pw_below_drewN | apply below_drew1 | refine below_set ?_ GE297.out) | exact HB.out))) : w.heap.size ≤ gb298)); have n5_ := Aside0.mk ((by rw [hg]; exact Nat.ne_of_lt (blk_lt (g := gb297) (o := .cells #[.bool a0_0, .slice A0_1 l0_1.length c0_1] 25 (0, 0)) (by (with_reducible repeat (first | refine blk_drewN ?_ _ | refine blk_drew ?_ | refine blk_alloc ?_ _)); exact BK297.out)) : gb297 ≠ gb298)); have n6_ := Aside0.mk ((by rw [hg]; exact Nat.ne_of_gt (blk_lt (g := gb297) (o := .cells #[.bool a0_0, .slice A0_1 l0_1.length c0_1] 25 (0, 0)) (by (with_reducible repeat (first | refine blk_drewN ?_ _ | refine blk_drew ?_ | refine blk_alloc ?_ _)); exact BK297.out)) : gb298 ≠ gb297)); clear BK297; clear HB; have BK297 := n0_; have HB := n1_; have BK298 := n2_; have GW298 := n3_; have GE298 := n4_; have NB297_298 := n5_; have NB298_297 := n6_; clear n0_ n1_ n2_ n3_ n4_ n5_ n6_; clear hb hbox hg) | ((with_reducible refine gate_dst (N := 4) rfl ?_); refine box_event ?hg (N := 4) ?hd (cs := #[.bool false, .slice none 0 0]) (t := 25) ?hr ?_; (case hd => rfl); (case hg => rfl); (case hr => first | (go_simp; done) | (go_simp; rfl)); intro gb299 hg w17 hbox hb; have n0_ := Aside0.mk (blk_below (g := gb297) (o := .cells #[.bool a0_0, .slice A0_1 l0_1.length c0_1] 25 (0, 0)) (by (with_reducible repeat (first | refine blk_drewN ?_ _ | refine blk_drew ?_ | refine blk_alloc ?_ _)); exact BK297.out) hb); have n1_ := Aside0.mk (blk_below (g := gb298) (o := .cells #[.bool a1_0, .slice A1_1 l1_1.length c1_1] 25 (0, 0)) (by (with_reducible repeat (first | refine blk_drewN ?_ _ | refine blk_drew ?_ | refine blk_alloc ?_ _)); exact BK298.out) hb); have n2_ := Aside0.mk (below_step (by repeat (first | (with_reducible first | exact HB.out | apply below_alloc | apply pw_below_drewN | apply below_drew1 | refine below_set ?_ GE297.out | refine below_set ?_ GE298.out) | exact HB.out)) hb); have n3_ := Aside0.mk (hbox); have n4_ := Aside0.mk ((by rw [hg]; exact (below_size (by repeat (first | (with_reducible first | exact HB.out | apply below_alloc | apply pw_below_drewN | apply below_drew1 | refine below_set ?_ GE297.out | refine below_set ?_ GE298.out) | exact HB.out))) : w.heap.size ≤ gb299)); have n5_ := Aside0.mk ((by rw [hg]; exact (below_size (by repeat (first | (with_reducible first | exact HB.out | apply below_alloc | apply pw_below_drewN | apply below_drew1 | refine below_set ?_ GE297.out | refine below_set ?_ GE298.out) | exact HB.out))) : w.heap.size ≤ gb299)); have n6_ := Aside0.mk ((by rw [hg]; exact Nat.ne_of_lt (blk_lt (g := gb297) (o := .cells #[.bool a0_0, .slice A0_1 l0_1.length c0_1] 25 (0, 0)) (by (with_reducible repeat (first | refine blk_drewN ?_ _ | refine blk_drew ?_ | refine blk_alloc ?_ _)); exact BK297.out)) : gb297 ≠ gb299)); have n7_ := Aside0.mk ((by rw [hg]; exact Nat.ne_of_gt (blk_lt (g := gb297) (o := .cells #[.bool a0_0, .slice A0_1 l0_1.length c0_1] 25 (0, 0)) (by (with_reducible repeat (first | refine blk_drewN ?_ _ | refine blk_drew ?_ | refine blk_alloc ?_ _)); exact BK297.out)) : gb299 ≠ gb297)); have n8_ := Aside0.mk ((by rw [hg]; exact Nat.ne_of_lt (blk_lt (g := gb298) (o := .cells #[.bool a1_0, .slice A1_1 l1_1.length c1_1] 25 (0, 0)) (by (with_reducible repeat (first | refine blk_drewN ?_ _ | refine blk_drew ?_ | refine blk_alloc ?_ _)); exact BK298.out)) : gb298 ≠ gb299)); have n9_ := Aside0.mk ((by rw [hg]; exact Nat.ne_of_gt (blk_lt (g := gb298) (o := .cells #[.bool a1_0, .slice A1_1 l1_1.length c1_1] 25 (0, 0)) (by (with_reducible repeat (first | refine blk_drewN ?_ _ | refine blk_drew ?_ | refine blk_alloc ?_ _)); exact BK298.out)) : gb299 ≠ gb298)); clear BK297; clear BK298; clear HB; have BK297 := n0_; have BK298 := n1_; have HB := n2_; have BK299 := n3_; have GW299 := n4_; have GE299 := n5_; have NB297_299 := n6_; have NB299_297 := n7_; have NB298_299 := n8_; have NB299_298 := n9_; clear n0_ n1_ n2_ n3_ n4_ n5_ n6_ n7_ n8_ n9_; clear hb hbox hg) | ((with_reducible refine gate_dst (N := 5) rfl ?_); refine box_event ?hg (N := 5) ?hd (cs := #[.bool false, .slice none 0 0]) (t := 25) ?hr ?_; (case hd => rfl); (case hg => rfl); (case hr => first | (go_simp; done) | (go_simp; rfl)); intro gb300 hg w18 hbox hb; have n0_ := Aside0.mk (blk_below (g := gb297) (o := .cells #[.bool a0_0, .slice A0_1 l0_1.length c0_1] 25 (0, 0)) (by (with_reducible repeat (first | refine blk_drewN ?_ _ | refine blk_drew ?_ | refine blk_alloc ?_ _)); exact BK297.out) hb); have n1_ := Aside0.mk (blk_below (g := gb298) (o := .cells #[.bool a1_0, .slice A1_1 l1_1.length c1_1] 25 (0, 0)) (by (with_reducible repeat (first | refine blk_drewN ?_ _ | refine blk_drew ?_ | refine blk_alloc ?_ _)); exact BK298.out) hb); have n2_ := Aside0.mk (blk_below (g := gb299) (o := .cells #[.bool false, .slice none 0 0] 25 (0, 0)) (by (with_reducible repeat (first | refine blk_drewN ?_ _ | refine blk_drew ?_ | refine blk_alloc ?_ _)); exact BK299.out) hb); have n3_ := Aside0.mk (below_step (by repeat (first | (with_reducible first | exact HB.out | apply below_alloc | apply pw_below_drewN | apply below_drew1 | refine below_set ?_ GE297.out | refine below_set ?_ GE298.out | refine below_set ?_ GE299.out) | exact HB.out)) hb); have n4_ := Aside0.mk (hbox); have n5_ := Aside0.mk ((by rw [hg]; exact (below_size (by repeat (first | (with_reducible first | exact HB.out | apply below_alloc | apply pw_below_drewN | apply below_drew1 | refine below_set ?_ GE297.out | refine below_set ?_ GE298.out | refine below_set ?_ GE299.out) | exact HB.out))) : w.heap.size ≤ gb300)); have n6_ := Aside0.mk ((by rw [hg]; exact (below_size (by repeat (first | (with_reducible first | exact HB.out | apply below_alloc | apply pw_below_drewN | apply below_drew1 | refine below_set ?_ GE297.out | refine below_set ?_ GE298.out | refine below_set ?_ GE299.out) | exact HB.out))) : w.heap.size ≤ gb300)); have n7_ := Aside0.mk ((by rw [hg]; exact Nat.ne_of_lt (blk_lt (g := gb297) (o := .cells #[.bool a0_0, .slice A0_1 l0_1.length c0_1] 25 (0, 0)) (by (with_reducible repeat (first | refine blk_drewN ?_ _ | refine blk_drew ?_ | refine blk_alloc ?_ _)); exact BK297.out)) : gb297 ≠ gb300)); have n8_ := Aside0.mk ((by rw [hg]; exact Nat.ne_of_gt (blk_lt (g := gb297) (o := .cells #[.bool a0_0, .slice A0_1 l0_1.length c0_1] 25 (0, 0)) (by (with_reducible repeat (first | refine blk_drewN ?_ _ | refine blk_drew ?_ | refine blk_alloc ?_ _)); exact BK297.out)) : gb300 ≠ gb297)); have n9_ := Aside0.mk ((by rw [hg]; exact Nat.ne_of_lt (blk_lt (g := gb298) (o := .cells #[.bool a1_0, .slice A1_1 l1_1.length c1_1] 25 (0, 0)) (by (with_reducible repeat (first | refine blk_drewN ?_ _ | refine blk_drew ?_ | refine blk_alloc ?_ _)); exact BK298.out)) : gb298 ≠ gb300)); have n10_ := Aside0.mk ((by rw [hg]; exact Nat.ne_of_gt (blk_lt (g := gb298) (o := .cells #[.bool a1_0, .slice A1_1 l1_1.length c1_1] 25 (0, 0)) (by (with_reducible repeat (first | refine blk_drewN ?_ _ | refine blk_drew ?_ | refine blk_alloc ?_ _)); exact BK298.out)) : gb300 ≠ gb298)); have n11_ := Aside0.mk ((by rw [hg]; exact Nat.ne_of_lt (blk_lt (g := gb299) (o := .cells #[.bool false, .slice none 0 0] 25 (0, 0)) (by (with_reducible repeat (first | refine blk_drewN ?_ _ | refine blk_drew ?_ | refine blk_alloc ?_ _)); exact BK299.out)) : gb299 ≠ gb300)); have n12_ := Aside0.mk ((by rw [hg]; exact Nat.ne_of_gt (blk_lt (g := gb299) (o := .cells #[.bool false, .slice none 0 0] 25 (0, 0)) (by (with_reducible repeat (first | refine blk_drewN ?_ _ | refine blk_drew ?_ | refine blk_alloc ?_ _)); exact BK299.out)) : gb300 ≠ gb299)); clear BK297; clear BK298; clear BK299; clear HB; have BK297 := n0_; have BK298 := n1_; have BK299 := n2_; have HB := n3_; have BK300 := n4_; have GW300 := n5_; have GE300 := n6_; have NB297_300 := n7_; have NB300_297 := n8_; have NB298_300 := n9_; have NB300_298 := n10_; have NB299_300 := n11_; have NB300_299 := n12_; clear n0_ n1_ n2_ n3_ n4_ n5_ n6_ n7_ n8_ n9_ n10_ n11_ n12_; clear hb hbox hg; have hnb19 := NB297_298.out; have hnc19 := NB298_297.out; have hnb20 := NB297_299.out; have hnc20 := NB299_297.out; have hnb21 := NB297_300.out; have hnc21 := NB300_297.out; have hcz22_0 : w18.cell? ⟨gb297, 0, none⟩ = some (.bool a0_0) := (blk_cell BK297.out 0).trans rfl; have hcz22_1 : w18.cell? ⟨gb297, 1, none⟩ = some (.slice A0_1 l0_1.length c0_1) := (blk_cell BK297.out 1).trans rfl; have hfz22_0 := blk_frozen BK297.out 0; have hfz22_1 := blk_frozen BK297.out 1; have hnb23 := NB298_299.out; have hnc23 := NB299_298.out; have hnb24 := NB298_300.out; have hnc24 := NB300_298.out; have hcz25_0 : w18.cell? ⟨gb298, 0, none⟩ = some (.bool a1_0) := (blk_cell BK298.out 0).trans rfl; have hcz25_1 : w18.cell? ⟨gb298, 1, none⟩ = some (.slice A1_1 l1_1.length c1_1) := (blk_cell BK298.out 1).trans rfl; have hfz25_0 := blk_frozen BK298.out 0; have hfz25_1 := blk_frozen BK298.out 1) | ((with_reducible refine gate_callee (f := 82) rfl ?_); refine goesL_ (some 17) rfl rfl Try.func82 (by kernel_rfl) rfl #[.slice A0_1 l0_1.length c0_1, .slice A1_1 l1_1.length c1_1] rfl (by (try simp only [List.map_toArray, List.map_cons, List.map_nil]); first | done | rfl | (simp only [List.length_drop, List.length_take]; rfl)) ?_; (with_reducible refine (nat_DivMod.calls k _ _ l0_1 _ _ l1_1 t301 t304 t307 _ ?side1 ?side2 ?side3 ?side4 A3.out).mono ?_); (case side1 => repeat (first | exact (Kd.C_below HR0_1.out HB.out) | (with_reducible refine Kd.C_alloc ?_ _) | (with_reducible refine Kd.C_drewN ?_ _) | (with_reducible refine Kd.C_drew ?_))); (case side2 => exact HC0_1.out); (case side3 => repeat (first | exact (Kd.C_below HR1_1.out HB.out) | (with_reducible refine Kd.C_alloc ?_ _) | (with_reducible refine Kd.C_drewN ?_ _) | (with_reducible refine Kd.C_drew ?_))); (case side4 => exact HC1_1.out); rintro e w26 ⟨v302, v305, rfl, ho0, ho1, hb⟩; refine ⟨_, rfl, ?_⟩; have n0_ := Aside0.mk (Kd.R_lower (Kd.R_mono (ok' := fun k_ => True) ho0 (fun _ hk_ => trivial)) (below_size (by repeat (first | (with_reducible first | exact HB.out | apply below_alloc | apply pw_below_drewN | apply below_drew1 | refine below_set ?_ GE297.out | refine below_set ?_ GE298.out | refine below_set ?_ GE299.out | refine below_set ?_ GE300.out) | exact HB.out)))); have n1_ := Aside0.mk (Kd.V_lower (Kd.V_mono (ok' := fun k_ => some k_ ≠ (v302 : Value).ownBlock ∧ k_ ≠ gb297 ∧ k_ ≠ gb298 ∧ k_ ≠ gb299 ∧ k_ ≠ gb300) ho1 (fun k_ hk_ => ⟨hk_.2, (Kd.freshB (g := gb297) (o := .cells #[.bool a0_0, .slice A0_1 l0_1.length c0_1] 25 (0, 0)) (by (with_reducible repeat (first | refine blk_drewN ?_ _ | refine blk_drew ?_ | refine blk_alloc ?_ _)); exact BK297.out) k_ hk_.1), (Kd.freshB (g := gb298) (o := .cells #[.bool a1_0, .slice A1_1 l1_1.length c1_1] 25 (0, 0)) (by (with_reducible repeat (first | refine blk_drewN ?_ _ | refine blk_drew ?_ | refine blk_alloc ?_ _)); exact BK298.out) k_ hk_.1), (Kd.freshB (g := gb299) (o := .cells #[.bool false, .slice none 0 0] 25 (0, 0)) (by (with_reducible repeat (first | refine blk_drewN ?_ _ | refine blk_drew ?_ | refine blk_alloc ?_ _)); exact BK299.out) k_ hk_.1), (Kd.freshB (g := gb300) (o := .cells #[.bool false, .slice none 0 0] 25 (0, 0)) (by (with_reducible repeat (first | refine blk_drewN ?_ _ | refine blk_drew ?_ | refine blk_alloc ?_ _)); exact BK300.out) k_ hk_.1)⟩)) (below_size (by repeat (first | (with_reducible first | exact HB.out | apply below_alloc | apply pw_below_drewN | apply below_drew1 | refine below_set ?_ GE297.out | refine below_set ?_ GE298.out | refine below_set ?_ GE299.out | refine below_set ?_ GE300.out) | exact HB.out)))); have n2_ := Aside0.mk (blk_below (g := gb297) (o := .cells #[.bool a0_0, .slice A0_1 l0_1.length c0_1] 25 (0, 0)) (by (with_reducible repeat (first | refine blk_drewN ?_ _ | refine blk_drew ?_ | refine blk_alloc ?_ _)); exact BK297.out) hb); have n3_ := Aside0.mk (blk_below (g := gb298) (o := .cells #[.bool a1_0, .slice A1_1 l1_1.length c1_1] 25 (0, 0)) (by (with_reducible repeat (first | refine blk_drewN ?_ _ | refine blk_drew ?_ | refine blk_alloc ?_ _)); exact BK298.out) hb); have n4_ := Aside0.mk (blk_below (g := gb299) (o := .cells #[.bool false, .slice none 0 0] 25 (0, 0)) (by (with_reducible repeat (first | refine blk_drewN ?_ _ | refine blk_drew ?_ | refine blk_alloc ?_ _)); exact BK299.out) hb); have n5_ := Aside0.mk (blk_below (g := gb300) (o := .cells #[.bool false, .slice none 0 0] 25 (0, 0)) (by (with_reducible repeat (first | refine blk_drewN ?_ _ | refine blk_drew ?_ | refine blk_alloc ?_ _)); exact BK300.out) hb); have n6_ := Aside0.mk (below_step (by repeat (first | (with_reducible first | exact HB.out | apply below_alloc | apply pw_below_drewN | apply below_drew1 | refine below_set ?_ GE297.out | refine below_set ?_ GE298.out | refine below_set ?_ GE299.out | refine below_set ?_ GE300.out) | exact HB.out)) hb); clear BK297; clear BK298; clear BK299; clear BK300; clear HB; have HO303 := n0_; have HO306 := n1_; have BK297 := n2_; have BK298 := n3_; have BK299 := n4_; have BK300 := n5_; have HB := n6_; clear n0_ n1_ n2_ n3_ n4_ n5_ n6_; (try clear hb); (try clear ho0); (try clear ho1); obtain ⟨Ao27, co27, eo27⟩ := Kd.R_slice HO303.out; subst eo27))
    have n0_ := Aside0.mk (Kd.R_drew HO303.out)
    have n1_ := Aside0.mk (Kd.V_drew HO306.out)
    have n2_ := Aside0.mk (blk_drew BK297.out)
    have n3_ := Aside0.mk (blk_drew BK298.out)
    have n4_ := Aside0.mk (blk_drew BK299.out)
    have n5_ := Aside0.mk (blk_drew BK300.out)
    have n6_ := Aside0.mk (below_drew1 HB.out)
    clear HO303
    clear HO306
    clear BK297
    clear BK298
    clear BK299
    clear BK300
    clear HB
    have HO303 := n0_
    have HO306 := n1_
    have BK297 := n2_
    have BK298 := n3_
    have BK299 := n4_
    have BK300 := n5_
    have HB := n6_
    clear n0_ n1_ n2_ n3_ n4_ n5_ n6_
    refine start_ (n := 10) (S := fun w' => w'.cell? ⟨gb297, 0, none⟩ = some (.bool a0_0) ∧ w'.cell? ⟨gb297, 1, none⟩ = some (.slice A0_1 l0_1.length c0_1) ∧ w'.cell? ⟨gb298, 0, none⟩ = some (.bool a1_0) ∧ w'.cell? ⟨gb298, 1, none⟩ = some (.slice A1_1 l1_1.length c1_1)) (ds := []) #[false, false, false, false, false, false, false, false, false, false] (by kernel_rfl) rfl rfl ⟨(blk_cell BK297.out 0).trans rfl, (blk_cell BK297.out 1).trans rfl, (blk_cell BK298.out 0).trans rfl, (blk_cell BK298.out 1).trans rfl⟩ (fun hHeld => ?_); refine with_tabW whole_Floor.tab4 whole_Floor.bits4 (fun HT_ HW_ => ?_)
    generalize w26.drew = w28 at HO303 HO306 BK297 BK298 BK299 BK300 HB hHeld ⊢
    refine pure_ (i := 6) (N := some 32) (v := ?_) (a' := ?_) #[false, false, false, false, false, false, true, false, false, false] rfl rfl (any_of HT_.out (by kernel_rfl)) (fun _ _ _ h => h) (Or.inl ⟨by rfl, ?_⟩) ?_ ?_
    rotate_left
    · intro w'
      go_simp
      with_reducible rfl
    rotate_left
    · simp only [Act.put, List.setIfInBounds_toArray, List.set_cons_zero, List.set_cons_succ, i64_w, i32_w]
      rfl
    refine take_ (i := 0) (N := some 26) (v := ?_) (a' := ?_) #[true, false, false, false, false, false, true, false, false, false] rfl rfl (take_ofW HT_.out HW_.out (by kernel_rfl)) (fun _ _ _ h => h) (Or.inl ⟨by rfl, ?_⟩) hHeld ?_ ?_
    rotate_left
    · rintro w' ⟨s0, s1, s2, s3⟩
      go_simp
      with_reducible rfl
    rotate_left
    · simp only [Act.put, List.setIfInBounds_toArray, List.set_cons_zero, List.set_cons_succ, i64_w, i32_w]
      rfl
    refine take_ (i := 2) (N := some 28) (v := ?_) (a' := ?_) #[true, false, true, false, false, false, true, false, false, false] rfl rfl (take_ofW HT_.out HW_.out (by kernel_rfl)) (fun _ _ _ h => h) (Or.inl ⟨by rfl, ?_⟩) hHeld ?_ ?_
    rotate_left
    · rintro w' ⟨s0, s1, s2, s3⟩
      go_simp
      with_reducible rfl
    rotate_left
    · simp only [Act.put, List.setIfInBounds_toArray, List.set_cons_zero, List.set_cons_succ, i64_w, i32_w]
      rfl
    refine join_ (σ := Value × Nat) 1 #[true, true, true, true, true, true, true, true, true, false] (fun s_ => [(27, .int .i64 t308), (29, .int .i64 t309), (33, .agg #[.bool t310, s_.1]), (10, .pointer (some ⟨s_.2, 0, none⟩)), (30, .int .i64 (wrap64 (t308 * t309))), (31, .bool (decide ((wrap64 (t308 * t309)) < 0)))]) (fun s_ w' => (w'.cell? ⟨gb297, 0, none⟩ = some (.bool a0_0) ∧ w'.cell? ⟨gb297, 1, none⟩ = some (.slice A0_1 l0_1.length c0_1) ∧ w'.cell? ⟨gb298, 0, none⟩ = some (.bool a1_0) ∧ w'.cell? ⟨gb298, 1, none⟩ = some (.slice A1_1 l1_1.length c1_1)) ∧ (Kd.R (Kd.int .u32) 37 w' w.heap.size (fun k_ => some k_ ≠ (s_.1 : Value).ownBlock) (.slice Ao27 t301.length co27) t301) ∧ (Kd.V (Kd.int .u32) 37 w' w.heap.size (fun k_ => some k_ ≠ (.slice Ao27 t301.length co27 : Value).ownBlock ∧ some k_ ≠ (s_.1 : Value).ownBlock ∧ k_ ≠ gb297 ∧ k_ ≠ gb298 ∧ k_ ≠ gb299 ∧ k_ ≠ gb300 ∧ k_ ≠ s_.2) v305 t304) ∧ (Kd.R (Kd.int .u32) 37 w' w.heap.size (fun k_ => some k_ ≠ (.slice Ao27 t301.length co27 : Value).ownBlock) s_.1 t311) ∧ (w'.heap[gb297]? = some (.cells #[.bool a0_0, .slice A0_1 l0_1.length c0_1] 25 (0, 0))) ∧ (w'.heap[gb298]? = some (.cells #[.bool a1_0, .slice A1_1 l1_1.length c1_1] 25 (0, 0))) ∧ (w'.heap[gb299]? = some (.cells #[.bool false, .slice none 0 0] 25 (0, 0))) ∧ (w'.heap[gb300]? = some (.cells #[.bool false, .slice none 0 0] 25 (0, 0))) ∧ (w'.heap[s_.2]? = some (.cells #[.bool false, .slice none 0 0] 25 (0, 0))) ∧ (w.heap.size ≤ s_.2) ∧ (w.heap.size ≤ s_.2) ∧ (gb297 ≠ s_.2) ∧ (s_.2 ≠ gb297) ∧ (gb298 ≠ s_.2) ∧ (s_.2 ≠ gb298) ∧ (gb299 ≠ s_.2) ∧ (s_.2 ≠ gb299) ∧ (gb300 ≠ s_.2) ∧ (s_.2 ≠ gb300) ∧ (Below w.heap.size w w')) ?_ ?_
    rotate_left
    · intro hCont
      refine two_ (i := 1) (j := 8) (Ni := some 27) (Nj := some 10) #[true, true, true, false, false, false, true, false, false, false] #[true, false, true, false, false, false, true, false, true, false] rfl rfl rfl rfl (two_of HT_.out (by kernel_rfl)) (by decide) (by decide) (fun K hK => ?_) (fun K hK => ?_)
      · skip
        refine goes_ Try.func31 (by kernel_rfl) rfl #[.agg #[.bool a0_0, .slice A0_1 l0_1.length c0_1]] (by rfl) rfl rfl (by (try simp only [List.map_toArray, List.map_cons, List.map_nil]); first | done | rfl | (simp only [List.length_drop, List.length_take]; rfl)) ?_
        with_reducible refine (whole_Sign.calls k a0_0 _ _ l0_1 t308 _ ?side1 ?side2 A5.out).mono ?_
        (case side1 => repeat (first | exact (Kd.C_below HR0_1.out HB.out) | (with_reducible refine Kd.C_alloc ?_ _) | (with_reducible refine Kd.C_drewN ?_ _) | (with_reducible refine Kd.C_drew ?_)))
        (case side2 => exact HC0_1.out)
        rintro e w29 ⟨rfl, hb⟩
        refine ⟨_, rfl, ?_⟩
        have n0_ := Aside0.mk (Kd.R_below (by (with_reducible repeat (first | apply Kd.R_alloc | apply Kd.R_drewN | apply Kd.R_drew)); exact HO303.out) hb)
        have n1_ := Aside0.mk (Kd.V_below (by (with_reducible repeat (first | apply Kd.V_alloc | apply Kd.V_drewN | apply Kd.V_drew)); exact HO306.out) hb)
        have n2_ := Aside0.mk (blk_below (g := gb297) (o := .cells #[.bool a0_0, .slice A0_1 l0_1.length c0_1] 25 (0, 0)) (by (with_reducible repeat (first | refine blk_drewN ?_ _ | refine blk_drew ?_ | refine blk_alloc ?_ _)); exact BK297.out) hb)
        have n3_ := Aside0.mk (blk_below (g := gb298) (o := .cells #[.bool a1_0, .slice A1_1 l1_1.length c1_1] 25 (0, 0)) (by (with_reducible repeat (first | refine blk_drewN ?_ _ | refine blk_drew ?_ | refine blk_alloc ?_ _)); exact BK298.out) hb)
        have n4_ := Aside0.mk (blk_below (g := gb299) (o := .cells #[.bool false, .slice none 0 0] 25 (0, 0)) (by (with_reducible repeat (first | refine blk_drewN ?_ _ | refine blk_drew ?_ | refine blk_alloc ?_ _)); exact BK299.out) hb)
        have n5_ := Aside0.mk (blk_below (g := gb300) (o := .cells #[.bool false, .slice none 0 0] 25 (0, 0)) (by (with_reducible repeat (first | refine blk_drewN ?_ _ | refine blk_drew ?_ | refine blk_alloc ?_ _)); exact BK300.out) hb)
        have n6_ := Aside0.mk (below_step (by repeat (first | (with_reducible first | exact HB.out | apply below_alloc | apply pw_below_drewN | apply below_drew1 | refine below_set ?_ GE297.out | refine below_set ?_ GE298.out | refine below_set ?_ GE299.out | refine below_set ?_ GE300.out) | exact HB.out)) hb)
        clear HO303
        clear HO306
        clear BK297
        clear BK298
        clear BK299
        clear BK300
        clear HB
        have HO303 := n0_
        have HO306 := n1_
        have BK297 := n2_
        have BK298 := n3_
        have BK299 := n4_
        have BK300 := n5_
        have HB := n6_
        clear n0_ n1_ n2_ n3_ n4_ n5_ n6_
        (try clear hb)
        refine hK.out _ _ ⟨(blk_cell BK297.out 0).trans rfl, (blk_cell BK297.out 1).trans rfl, (blk_cell BK298.out 0).trans rfl, (blk_cell BK298.out 1).trans rfl⟩ (fun hHeld => ?_)
        clear hK K
        refine norm_ (a' := ?_) ?_ ?_
        rotate_left
        · show Act.put _ (some 27) _ = _
          simp only [Act.put, List.setIfInBounds_toArray, List.set_cons_zero, List.set_cons_succ, i64_w, i32_w]
          rfl
        refine two_ (i := 3) (j := 8) (Ni := some 29) (Nj := some 10) #[true, true, true, true, false, false, true, false, false, false] #[true, true, true, false, false, false, true, false, true, false] rfl rfl rfl rfl (two_of HT_.out (by kernel_rfl)) (by decide) (by decide) (fun K hK => ?_) (fun K hK => ?_)
        · skip
          refine goes_ Try.func31 (by kernel_rfl) rfl #[.agg #[.bool a1_0, .slice A1_1 l1_1.length c1_1]] (by rfl) rfl rfl (by (try simp only [List.map_toArray, List.map_cons, List.map_nil]); first | done | rfl | (simp only [List.length_drop, List.length_take]; rfl)) ?_
          with_reducible refine (whole_Sign.calls k a1_0 _ _ l1_1 t309 _ ?side1 ?side2 A6.out).mono ?_
          (case side1 => repeat (first | exact (Kd.C_below HR1_1.out HB.out) | (with_reducible refine Kd.C_alloc ?_ _) | (with_reducible refine Kd.C_drewN ?_ _) | (with_reducible refine Kd.C_drew ?_)))
          (case side2 => exact HC1_1.out)
          rintro e w30 ⟨rfl, hb⟩
          refine ⟨_, rfl, ?_⟩
          have n0_ := Aside0.mk (Kd.R_below (by (with_reducible repeat (first | apply Kd.R_alloc | apply Kd.R_drewN | apply Kd.R_drew)); exact HO303.out) hb)
          have n1_ := Aside0.mk (Kd.V_below (by (with_reducible repeat (first | apply Kd.V_alloc | apply Kd.V_drewN | apply Kd.V_drew)); exact HO306.out) hb)
          have n2_ := Aside0.mk (blk_below (g := gb297) (o := .cells #[.bool a0_0, .slice A0_1 l0_1.length c0_1] 25 (0, 0)) (by (with_reducible repeat (first | refine blk_drewN ?_ _ | refine blk_drew ?_ | refine blk_alloc ?_ _)); exact BK297.out) hb)
          have n3_ := Aside0.mk (blk_below (g := gb298) (o := .cells #[.bool a1_0, .slice A1_1 l1_1.length c1_1] 25 (0, 0)) (by (with_reducible repeat (first | refine blk_drewN ?_ _ | refine blk_drew ?_ | refine blk_alloc ?_ _)); exact BK298.out) hb)
          have n4_ := Aside0.mk (blk_below (g := gb299) (o := .cells #[.bool false, .slice none 0 0] 25 (0, 0)) (by (with_reducible repeat (first | refine blk_drewN ?_ _ | refine blk_drew ?_ | refine blk_alloc ?_ _)); exact BK299.out) hb)
          have n5_ := Aside0.mk (blk_below (g := gb300) (o := .cells #[.bool false, .slice none 0 0] 25 (0, 0)) (by (with_reducible repeat (first | refine blk_drewN ?_ _ | refine blk_drew ?_ | refine blk_alloc ?_ _)); exact BK300.out) hb)
          have n6_ := Aside0.mk (below_step (by repeat (first | (with_reducible first | exact HB.out | apply below_alloc | apply pw_below_drewN | apply below_drew1 | refine below_set ?_ GE297.out | refine below_set ?_ GE298.out | refine below_set ?_ GE299.out | refine below_set ?_ GE300.out) | exact HB.out)) hb)
          clear HO303
          clear HO306
          clear BK297
          clear BK298
          clear BK299
          clear BK300
          clear HB
          have HO303 := n0_
          have HO306 := n1_
          have BK297 := n2_
          have BK298 := n3_
          have BK299 := n4_
          have BK300 := n5_
          have HB := n6_
          clear n0_ n1_ n2_ n3_ n4_ n5_ n6_
          (try clear hb)
          refine hK.out _ _ ⟨(blk_cell BK297.out 0).trans rfl, (blk_cell BK297.out 1).trans rfl, (blk_cell BK298.out 0).trans rfl, (blk_cell BK298.out 1).trans rfl⟩ (fun hHeld => ?_)
          clear hK K
          refine norm_ (a' := ?_) ?_ ?_
          rotate_left
          · show Act.put _ (some 29) _ = _
            simp only [Act.put, List.setIfInBounds_toArray, List.set_cons_zero, List.set_cons_succ, i64_w, i32_w]
            rfl
          refine pure_ (i := 4) (N := some 30) (v := ?_) (a' := ?_) #[true, true, true, true, true, false, true, false, false, false] rfl rfl (any_of HT_.out (by kernel_rfl)) (fun _ _ _ h => h) (Or.inl ⟨by rfl, ?_⟩) ?_ ?_
          rotate_left
          · intro w'
            go_simp
            with_reducible rfl
          rotate_left
          · simp only [Act.put, List.setIfInBounds_toArray, List.set_cons_zero, List.set_cons_succ, i64_w, i32_w]
            rfl
          refine pure_ (i := 5) (N := some 31) (v := ?_) (a' := ?_) #[true, true, true, true, true, true, true, false, false, false] rfl rfl (any_of HT_.out (by kernel_rfl)) (fun _ _ _ h => h) (Or.inl ⟨by rfl, ?_⟩) ?_ ?_
          rotate_left
          · intro w'
            go_simp
            with_reducible rfl
          rotate_left
          · simp only [Act.put, List.setIfInBounds_toArray, List.set_cons_zero, List.set_cons_succ, i64_w, i32_w]
            rfl
          refine two_ (i := 7) (j := 8) (Ni := some 33) (Nj := some 10) #[true, true, true, true, true, true, true, true, false, false] #[true, true, true, true, true, true, true, false, true, false] rfl rfl rfl rfl (two_of HT_.out (by kernel_rfl)) (by decide) (by decide) (fun K hK => ?_) (fun K hK => ?_)
          · skip
            refine goes_ Try.func33 (by kernel_rfl) rfl #[.bool (decide ((wrap64 (t308 * t309)) < 0)), .slice Ao27 t301.length co27] (by rfl) rfl rfl (by (try simp only [List.map_toArray, List.map_cons, List.map_nil]); first | done | rfl | (simp only [List.length_drop, List.length_take]; rfl)) ?_
            with_reducible refine (whole_Make.calls k (decide ((wrap64 (t308 * t309)) < 0)) _ _ t301 t310 t311 _ ?side1 ?side2 A7.out).mono ?_
            (case side1 => repeat (first | exact (Kd.R_reads' HO303.out).2.2 | (with_reducible refine Kd.C_alloc ?_ _) | (with_reducible refine Kd.C_drewN ?_ _) | (with_reducible refine Kd.C_drew ?_)))
            (case side2 => exact (Kd.R_reads' HO303.out).2.1)
            rintro e w31 ⟨v312, rfl, ho0, hb⟩
            refine ⟨_, rfl, ?_⟩
            have n0_ := Aside0.mk (Kd.R_elder' (by (with_reducible repeat (first | apply Kd.R_alloc | apply Kd.R_drewN | apply Kd.R_drew)); exact HO303.out) (Kd.R_base ho0) hb)
            have n1_ := Aside0.mk (Kd.V_elder' (by (with_reducible repeat (first | apply Kd.V_alloc | apply Kd.V_drewN | apply Kd.V_drew)); exact HO306.out) (Kd.R_base ho0) hb)
            have n2_ := Aside0.mk (Kd.R_lower (Kd.R_new' ho0 (Kd.R_lt (by (with_reducible repeat (first | apply Kd.R_alloc | apply Kd.R_drewN | apply Kd.R_drew)); exact HO303.out))) (below_size (by repeat (first | (with_reducible first | exact HB.out | apply below_alloc | apply pw_below_drewN | apply below_drew1 | refine below_set ?_ GE297.out | refine below_set ?_ GE298.out | refine below_set ?_ GE299.out | refine below_set ?_ GE300.out) | exact HB.out))))
            have n3_ := Aside0.mk (blk_below (g := gb297) (o := .cells #[.bool a0_0, .slice A0_1 l0_1.length c0_1] 25 (0, 0)) (by (with_reducible repeat (first | refine blk_drewN ?_ _ | refine blk_drew ?_ | refine blk_alloc ?_ _)); exact BK297.out) hb)
            have n4_ := Aside0.mk (blk_below (g := gb298) (o := .cells #[.bool a1_0, .slice A1_1 l1_1.length c1_1] 25 (0, 0)) (by (with_reducible repeat (first | refine blk_drewN ?_ _ | refine blk_drew ?_ | refine blk_alloc ?_ _)); exact BK298.out) hb)
            have n5_ := Aside0.mk (blk_below (g := gb299) (o := .cells #[.bool false, .slice none 0 0] 25 (0, 0)) (by (with_reducible repeat (first | refine blk_drewN ?_ _ | refine blk_drew ?_ | refine blk_alloc ?_ _)); exact BK299.out) hb)
            have n6_ := Aside0.mk (blk_below (g := gb300) (o := .cells #[.bool false, .slice none 0 0] 25 (0, 0)) (by (with_reducible repeat (first | refine blk_drewN ?_ _ | refine blk_drew ?_ | refine blk_alloc ?_ _)); exact BK300.out) hb)
            have n7_ := Aside0.mk (below_step (by repeat (first | (with_reducible first | exact HB.out | apply below_alloc | apply pw_below_drewN | apply below_drew1 | refine below_set ?_ GE297.out | refine below_set ?_ GE298.out | refine below_set ?_ GE299.out | refine below_set ?_ GE300.out) | exact HB.out)) hb)
            clear HO303
            clear HO306
            clear BK297
            clear BK298
            clear BK299
            clear BK300
            clear HB
            have HO303 := n0_
            have HO306 := n1_
            have HO313 := n2_
            have BK297 := n3_
            have BK298 := n4_
            have BK299 := n5_
            have BK300 := n6_
            have HB := n7_
            clear n0_ n1_ n2_ n3_ n4_ n5_ n6_ n7_
            (try clear hb)
            (try clear ho0)
            refine hK.out _ _ ⟨(blk_cell BK297.out 0).trans rfl, (blk_cell BK297.out 1).trans rfl, (blk_cell BK298.out 0).trans rfl, (blk_cell BK298.out 1).trans rfl⟩ (fun hHeld => ?_)
            clear hK K
            refine norm_ (a' := ?_) ?_ ?_
            rotate_left
            · show Act.put _ (some 33) _ = _
              simp only [Act.put, List.setIfInBounds_toArray, List.set_cons_zero, List.set_cons_succ, i64_w, i32_w]
              rfl
            refine one_ (i := 8) (N := some 10) #[true, true, true, true, true, true, true, true, true, false] rfl rfl (one_of HT_.out (by kernel_rfl)) (by decide) (fun K hK => ?_)
            refine box_step ?hg (N := 10) ?hd (cs := #[.bool false, .slice none 0 0]) (t := 25) ?hr ?_; (case hd => rfl); (case hg => rfl); (case hr => first | (go_simp; done) | (go_simp; rfl))
            intro gb314 hg w32 hbox hb
            have n0_ := Aside0.mk (Kd.R_below (by (with_reducible repeat (first | apply Kd.R_alloc | apply Kd.R_drewN | apply Kd.R_drew)); exact HO303.out) hb)
            have n1_ := Aside0.mk (Kd.V_below (Kd.V_elderB (by (with_reducible repeat (first | apply Kd.V_alloc | apply Kd.V_drewN | apply Kd.V_drew)); exact HO306.out) gb314 (Nat.le_of_eq hg.symm)) hb)
            have n2_ := Aside0.mk (Kd.R_below (by (with_reducible repeat (first | apply Kd.R_alloc | apply Kd.R_drewN | apply Kd.R_drew)); exact HO313.out) hb)
            have n3_ := Aside0.mk (blk_below (g := gb297) (o := .cells #[.bool a0_0, .slice A0_1 l0_1.length c0_1] 25 (0, 0)) (by (with_reducible repeat (first | refine blk_drewN ?_ _ | refine blk_drew ?_ | refine blk_alloc ?_ _)); exact BK297.out) hb)
            have n4_ := Aside0.mk (blk_below (g := gb298) (o := .cells #[.bool a1_0, .slice A1_1 l1_1.length c1_1] 25 (0, 0)) (by (with_reducible repeat (first | refine blk_drewN ?_ _ | refine blk_drew ?_ | refine blk_alloc ?_ _)); exact BK298.out) hb)
            have n5_ := Aside0.mk (blk_below (g := gb299) (o := .cells #[.bool false, .slice none 0 0] 25 (0, 0)) (by (with_reducible repeat (first | refine blk_drewN ?_ _ | refine blk_drew ?_ | refine blk_alloc ?_ _)); exact BK299.out) hb)
            have n6_ := Aside0.mk (blk_below (g := gb300) (o := .cells #[.bool false, .slice none 0 0] 25 (0, 0)) (by (with_reducible repeat (first | refine blk_drewN ?_ _ | refine blk_drew ?_ | refine blk_alloc ?_ _)); exact BK300.out) hb)
            have n7_ := Aside0.mk (below_step (by repeat (first | (with_reducible first | exact HB.out | apply below_alloc | apply pw_below_drewN | apply below_drew1 | refine below_set ?_ GE297.out | refine below_set ?_ GE298.out | refine below_set ?_ GE299.out | refine below_set ?_ GE300.out) | exact HB.out)) hb)
            have n8_ := Aside0.mk (hbox)
            have n9_ := Aside0.mk ((by rw [hg]; exact (below_size (by repeat (first | (with_reducible first | exact HB.out | apply below_alloc | apply pw_below_drewN | apply below_drew1 | refine below_set ?_ GE297.out | refine below_set ?_ GE298.out | refine below_set ?_ GE299.out | refine below_set ?_ GE300.out) | exact HB.out))) : w.heap.size ≤ gb314))
            have n10_ := Aside0.mk ((by rw [hg]; exact (below_size (by repeat (first | (with_reducible first | exact HB.out | apply below_alloc | apply pw_below_drewN | apply below_drew1 | refine below_set ?_ GE297.out | refine below_set ?_ GE298.out | refine below_set ?_ GE299.out | refine below_set ?_ GE300.out) | exact HB.out))) : w.heap.size ≤ gb314))
            have n11_ := Aside0.mk ((by rw [hg]; exact Nat.ne_of_lt (blk_lt (g := gb297) (o := .cells #[.bool a0_0, .slice A0_1 l0_1.length c0_1] 25 (0, 0)) (by (with_reducible repeat (first | refine blk_drewN ?_ _ | refine blk_drew ?_ | refine blk_alloc ?_ _)); exact BK297.out)) : gb297 ≠ gb314))
            have n12_ := Aside0.mk ((by rw [hg]; exact Nat.ne_of_gt (blk_lt (g := gb297) (o := .cells #[.bool a0_0, .slice A0_1 l0_1.length c0_1] 25 (0, 0)) (by (with_reducible repeat (first | refine blk_drewN ?_ _ | refine blk_drew ?_ | refine blk_alloc ?_ _)); exact BK297.out)) : gb314 ≠ gb297))
            have n13_ := Aside0.mk ((by rw [hg]; exact Nat.ne_of_lt (blk_lt (g := gb298) (o := .cells #[.bool a1_0, .slice A1_1 l1_1.length c1_1] 25 (0, 0)) (by (with_reducible repeat (first | refine blk_drewN ?_ _ | refine blk_drew ?_ | refine blk_alloc ?_ _)); exact BK298.out)) : gb298 ≠ gb314))
            have n14_ := Aside0.mk ((by rw [hg]; exact Nat.ne_of_gt (blk_lt (g := gb298) (o := .cells #[.bool a1_0, .slice A1_1 l1_1.length c1_1] 25 (0, 0)) (by (with_reducible repeat (first | refine blk_drewN ?_ _ | refine blk_drew ?_ | refine blk_alloc ?_ _)); exact BK298.out)) : gb314 ≠ gb298))
            have n15_ := Aside0.mk ((by rw [hg]; exact Nat.ne_of_lt (blk_lt (g := gb299) (o := .cells #[.bool false, .slice none 0 0] 25 (0, 0)) (by (with_reducible repeat (first | refine blk_drewN ?_ _ | refine blk_drew ?_ | refine blk_alloc ?_ _)); exact BK299.out)) : gb299 ≠ gb314))
            have n16_ := Aside0.mk ((by rw [hg]; exact Nat.ne_of_gt (blk_lt (g := gb299) (o := .cells #[.bool false, .slice none 0 0] 25 (0, 0)) (by (with_reducible repeat (first | refine blk_drewN ?_ _ | refine blk_drew ?_ | refine blk_alloc ?_ _)); exact BK299.out)) : gb314 ≠ gb299))
            have n17_ := Aside0.mk ((by rw [hg]; exact Nat.ne_of_lt (blk_lt (g := gb300) (o := .cells #[.bool false, .slice none 0 0] 25 (0, 0)) (by (with_reducible repeat (first | refine blk_drewN ?_ _ | refine blk_drew ?_ | refine blk_alloc ?_ _)); exact BK300.out)) : gb300 ≠ gb314))
            have n18_ := Aside0.mk ((by rw [hg]; exact Nat.ne_of_gt (blk_lt (g := gb300) (o := .cells #[.bool false, .slice none 0 0] 25 (0, 0)) (by (with_reducible repeat (first | refine blk_drewN ?_ _ | refine blk_drew ?_ | refine blk_alloc ?_ _)); exact BK300.out)) : gb314 ≠ gb300))
            clear HO303
            clear HO306
            clear HO313
            clear BK297
            clear BK298
            clear BK299
            clear BK300
            clear HB
            have HO303 := n0_
            have HO306 := n1_
            have HO313 := n2_
            have BK297 := n3_
            have BK298 := n4_
            have BK299 := n5_
            have BK300 := n6_
            have HB := n7_
            have BK314 := n8_
            have GW314 := n9_
            have GE314 := n10_
            have NB297_314 := n11_
            have NB314_297 := n12_
            have NB298_314 := n13_
            have NB314_298 := n14_
            have NB299_314 := n15_
            have NB314_299 := n16_
            have NB300_314 := n17_
            have NB314_300 := n18_
            clear n0_ n1_ n2_ n3_ n4_ n5_ n6_ n7_ n8_ n9_ n10_ n11_ n12_ n13_ n14_ n15_ n16_ n17_ n18_
            clear hb hbox hg
            refine hK.out _ _ ⟨(blk_cell BK297.out 0).trans rfl, (blk_cell BK297.out 1).trans rfl, (blk_cell BK298.out 0).trans rfl, (blk_cell BK298.out 1).trans rfl⟩ (fun hHeld => ?_)
            clear hK K
            refine norm_ (a' := ?_) ?_ ?_
            rotate_left
            · show Act.put _ (some 10) _ = _
              simp only [Act.put, List.setIfInBounds_toArray, List.set_cons_zero, List.set_cons_succ, i64_w, i32_w]
              rfl
            exact norm_ (by simp only [putAll, Act.put, List.setIfInBounds_toArray, List.set_cons_zero, List.set_cons_succ]) (hCont (v312, gb314) _ ⟨hHeld, (by (with_reducible repeat (first | apply Kd.R_alloc | apply Kd.R_drewN | apply Kd.R_drew)); exact Kd.R_mono HO303.out (fun _ hk => hk.2)), (by (with_reducible repeat (first | apply Kd.V_alloc | apply Kd.V_drewN | apply Kd.V_drew)); exact Kd.V_mono HO306.out (fun _ hk => ⟨hk.1.1.1, ⟨hk.1.2, ⟨hk.1.1.2.1, ⟨hk.1.1.2.2.1, ⟨hk.1.1.2.2.2.1, ⟨hk.1.1.2.2.2.2, hk.2⟩⟩⟩⟩⟩⟩)), (by (with_reducible repeat (first | apply Kd.R_alloc | apply Kd.R_drewN | apply Kd.R_drew)); exact Kd.R_mono HO313.out (fun _ hk => hk.2)), (by (with_reducible repeat (first | refine blk_drewN ?_ _ | refine blk_drew ?_ | refine blk_alloc ?_ _)); exact BK297.out), (by (with_reducible repeat (first | refine blk_drewN ?_ _ | refine blk_drew ?_ | refine blk_alloc ?_ _)); exact BK298.out), (by (with_reducible repeat (first | refine blk_drewN ?_ _ | refine blk_drew ?_ | refine blk_alloc ?_ _)); exact BK299.out), (by (with_reducible repeat (first | refine blk_drewN ?_ _ | refine blk_drew ?_ | refine blk_alloc ?_ _)); exact BK300.out), (by (with_reducible repeat (first | refine blk_drewN ?_ _ | refine blk_drew ?_ | refine blk_alloc ?_ _)); exact BK314.out), GW314.out, GE314.out, NB297_314.out, NB314_297.out, NB298_314.out, NB314_298.out, NB299_314.out, NB314_299.out, NB300_314.out, NB314_300.out, (by repeat (first | (with_reducible first | exact HB.out | apply below_alloc | apply pw_below_drewN | apply below_drew1 | refine below_set ?_ GE297.out | refine below_set ?_ GE298.out | refine below_set ?_ GE299.out | refine below_set ?_ GE300.out | refine below_set ?_ GE314.out) | exact HB.out))⟩)
          · skip
            refine box_step ?hg (N := 10) ?hd (cs := #[.bool false, .slice none 0 0]) (t := 25) ?hr ?_; (case hd => rfl); (case hg => rfl); (case hr => first | (go_simp; done) | (go_simp; rfl))
            intro gb314 hg w31 hbox hb
            have n0_ := Aside0.mk (Kd.R_below (by (with_reducible repeat (first | apply Kd.R_alloc | apply Kd.R_drewN | apply Kd.R_drew)); exact HO303.out) hb)
            have n1_ := Aside0.mk (Kd.V_below (Kd.V_elderB (by (with_reducible repeat (first | apply Kd.V_alloc | apply Kd.V_drewN | apply Kd.V_drew)); exact HO306.out) gb314 (Nat.le_of_eq hg.symm)) hb)
            have n2_ := Aside0.mk (blk_below (g := gb297) (o := .cells #[.bool a0_0, .slice A0_1 l0_1.length c0_1] 25 (0, 0)) (by (with_reducible repeat (first | refine blk_drewN ?_ _ | refine blk_drew ?_ | refine blk_alloc ?_ _)); exact BK297.out) hb)
            have n3_ := Aside0.mk (blk_below (g := gb298) (o := .cells #[.bool a1_0, .slice A1_1 l1_1.length c1_1] 25 (0, 0)) (by (with_reducible repeat (first | refine blk_drewN ?_ _ | refine blk_drew ?_ | refine blk_alloc ?_ _)); exact BK298.out) hb)
            have n4_ := Aside0.mk (blk_below (g := gb299) (o := .cells #[.bool false, .slice none 0 0] 25 (0, 0)) (by (with_reducible repeat (first | refine blk_drewN ?_ _ | refine blk_drew ?_ | refine blk_alloc ?_ _)); exact BK299.out) hb)
            have n5_ := Aside0.mk (blk_below (g := gb300) (o := .cells #[.bool false, .slice none 0 0] 25 (0, 0)) (by (with_reducible repeat (first | refine blk_drewN ?_ _ | refine blk_drew ?_ | refine blk_alloc ?_ _)); exact BK300.out) hb)
            have n6_ := Aside0.mk (below_step (by repeat (first | (with_reducible first | exact HB.out | apply below_alloc | apply pw_below_drewN | apply below_drew1 | refine below_set ?_ GE297.out | refine below_set ?_ GE298.out | refine below_set ?_ GE299.out | refine below_set ?_ GE300.out) | exact HB.out)) hb)
            have n7_ := Aside0.mk (hbox)
            have n8_ := Aside0.mk ((by rw [hg]; exact (below_size (by repeat (first | (with_reducible first | exact HB.out | apply below_alloc | apply pw_below_drewN | apply below_drew1 | refine below_set ?_ GE297.out | refine below_set ?_ GE298.out | refine below_set ?_ GE299.out | refine below_set ?_ GE300.out) | exact HB.out))) : w.heap.size ≤ gb314))
            have n9_ := Aside0.mk ((by rw [hg]; exact (below_size (by repeat (first | (with_reducible first | exact HB.out | apply below_alloc | apply pw_below_drewN | apply below_drew1 | refine below_set ?_ GE297.out | refine below_set ?_ GE298.out | refine below_set ?_ GE299.out | refine below_set ?_ GE300.out) | exact HB.out))) : w.heap.size ≤ gb314))
            have n10_ := Aside0.mk ((by rw [hg]; exact Nat.ne_of_lt (blk_lt (g := gb297) (o := .cells #[.bool a0_0, .slice A0_1 l0_1.length c0_1] 25 (0, 0)) (by (with_reducible repeat (first | refine blk_drewN ?_ _ | refine blk_drew ?_ | refine blk_alloc ?_ _)); exact BK297.out)) : gb297 ≠ gb314))
            have n11_ := Aside0.mk ((by rw [hg]; exact Nat.ne_of_gt (blk_lt (g := gb297) (o := .cells #[.bool a0_0, .slice A0_1 l0_1.length c0_1] 25 (0, 0)) (by (with_reducible repeat (first | refine blk_drewN ?_ _ | refine blk_drew ?_ | refine blk_alloc ?_ _)); exact BK297.out)) : gb314 ≠ gb297))
            have n12_ := Aside0.mk ((by rw [hg]; exact Nat.ne_of_lt (blk_lt (g := gb298) (o := .cells #[.bool a1_0, .slice A1_1 l1_1.length c1_1] 25 (0, 0)) (by (with_reducible repeat (first | refine blk_drewN ?_ _ | refine blk_drew ?_ | refine blk_alloc ?_ _)); exact BK298.out)) : gb298 ≠ gb314))
            have n13_ := Aside0.mk ((by rw [hg]; exact Nat.ne_of_gt (blk_lt (g := gb298) (o := .cells #[.bool a1_0, .slice A1_1 l1_1.length c1_1] 25 (0, 0)) (by (with_reducible repeat (first | refine blk_drewN ?_ _ | refine blk_drew ?_ | refine blk_alloc ?_ _)); exact BK298.out)) : gb314 ≠ gb298))
            have n14_ := Aside0.mk ((by rw [hg]; exact Nat.ne_of_lt (blk_lt (g := gb299) (o := .cells #[.bool false, .slice none 0 0] 25 (0, 0)) (by (with_reducible repeat (first | refine blk_drewN ?_ _ | refine blk_drew ?_ | refine blk_alloc ?_ _)); exact BK299.out)) : gb299 ≠ gb314))
            have n15_ := Aside0.mk ((by rw [hg]; exact Nat.ne_of_gt (blk_lt (g := gb299) (o := .cells #[.bool false, .slice none 0 0] 25 (0, 0)) (by (with_reducible repeat (first | refine blk_drewN ?_ _ | refine blk_drew ?_ | refine blk_alloc ?_ _)); exact BK299.out)) : gb314 ≠ gb299))
            have n16_ := Aside0.mk ((by rw [hg]; exact Nat.ne_of_lt (blk_lt (g := gb300) (o := .cells #[.bool false, .slice none 0 0] 25 (0, 0)) (by (with_reducible repeat (first | refine blk_drewN ?_ _ | refine blk_drew ?_ | refine blk_alloc ?_ _)); exact BK300.out)) : gb300 ≠ gb314))
            have n17_ := Aside0.mk ((by rw [hg]; exact Nat.ne_of_gt (blk_lt (g := gb300) (o := .cells #[.bool false, .slice none 0 0] 25 (0, 0)) (by (with_reducible repeat (first | refine blk_drewN ?_ _ | refine blk_drew ?_ | refine blk_alloc ?_ _)); exact BK300.out)) : gb314 ≠ gb300))
            clear HO303
            clear HO306
            clear BK297
            clear BK298
            clear BK299
            clear BK300
            clear HB
            have HO303 := n0_
            have HO306 := n1_
            have BK297 := n2_
            have BK298 := n3_
            have BK299 := n4_
            have BK300 := n5_
            have HB := n6_
            have BK314 := n7_
            have GW314 := n8_
            have GE314 := n9_
            have NB297_314 := n10_
            have NB314_297 := n11_
            have NB298_314 := n12_
            have NB314_298 := n13_
            have NB299_314 := n14_
            have NB314_299 := n15_
            have NB300_314 := n16_
            have NB314_300 := n17_
            clear n0_ n1_ n2_ n3_ n4_ n5_ n6_ n7_ n8_ n9_ n10_ n11_ n12_ n13_ n14_ n15_ n16_ n17_
            clear hb hbox hg
            refine hK.out _ _ ⟨(blk_cell BK297.out 0).trans rfl, (blk_cell BK297.out 1).trans rfl, (blk_cell BK298.out 0).trans rfl, (blk_cell BK298.out 1).trans rfl⟩ (fun hHeld => ?_)
            clear hK K
            refine norm_ (a' := ?_) ?_ ?_
            rotate_left
            · show Act.put _ (some 10) _ = _
              simp only [Act.put, List.setIfInBounds_toArray, List.set_cons_zero, List.set_cons_succ, i64_w, i32_w]
              rfl
            refine one_ (i := 7) (N := some 33) #[true, true, true, true, true, true, true, true, true, false] rfl rfl (one_of HT_.out (by kernel_rfl)) (by decide) (fun K hK => ?_)
            refine goes_ Try.func33 (by kernel_rfl) rfl #[.bool (decide ((wrap64 (t308 * t309)) < 0)), .slice Ao27 t301.length co27] (by rfl) rfl rfl (by (try simp only [List.map_toArray, List.map_cons, List.map_nil]); first | done | rfl | (simp only [List.length_drop, List.length_take]; rfl)) ?_
            with_reducible refine (whole_Make.calls k (decide ((wrap64 (t308 * t309)) < 0)) _ _ t301 t310 t311 _ ?side1 ?side2 A7.out).mono ?_
            (case side1 => repeat (first | exact (Kd.R_reads' HO303.out).2.2 | (with_reducible refine Kd.C_alloc ?_ _) | (with_reducible refine Kd.C_drewN ?_ _) | (with_reducible refine Kd.C_drew ?_)))
            (case side2 => exact (Kd.R_reads' HO303.out).2.1)
            rintro e w32 ⟨v312, rfl, ho0, hb⟩
            refine ⟨_, rfl, ?_⟩
            have n0_ := Aside0.mk (Kd.R_elder' (by (with_reducible repeat (first | apply Kd.R_alloc | apply Kd.R_drewN | apply Kd.R_drew)); exact HO303.out) (Kd.R_base ho0) hb)
            have n1_ := Aside0.mk (Kd.V_elder' (by (with_reducible repeat (first | apply Kd.V_alloc | apply Kd.V_drewN | apply Kd.V_drew)); exact HO306.out) (Kd.R_base ho0) hb)
            have n2_ := Aside0.mk (Kd.R_lower (Kd.R_new' ho0 (Kd.R_lt (by (with_reducible repeat (first | apply Kd.R_alloc | apply Kd.R_drewN | apply Kd.R_drew)); exact HO303.out))) (below_size (by repeat (first | (with_reducible first | exact HB.out | apply below_alloc | apply pw_below_drewN | apply below_drew1 | refine below_set ?_ GE297.out | refine below_set ?_ GE298.out | refine below_set ?_ GE299.out | refine below_set ?_ GE300.out | refine below_set ?_ GE314.out) | exact HB.out))))
            have n3_ := Aside0.mk (blk_below (g := gb297) (o := .cells #[.bool a0_0, .slice A0_1 l0_1.length c0_1] 25 (0, 0)) (by (with_reducible repeat (first | refine blk_drewN ?_ _ | refine blk_drew ?_ | refine blk_alloc ?_ _)); exact BK297.out) hb)
            have n4_ := Aside0.mk (blk_below (g := gb298) (o := .cells #[.bool a1_0, .slice A1_1 l1_1.length c1_1] 25 (0, 0)) (by (with_reducible repeat (first | refine blk_drewN ?_ _ | refine blk_drew ?_ | refine blk_alloc ?_ _)); exact BK298.out) hb)
            have n5_ := Aside0.mk (blk_below (g := gb299) (o := .cells #[.bool false, .slice none 0 0] 25 (0, 0)) (by (with_reducible repeat (first | refine blk_drewN ?_ _ | refine blk_drew ?_ | refine blk_alloc ?_ _)); exact BK299.out) hb)
            have n6_ := Aside0.mk (blk_below (g := gb300) (o := .cells #[.bool false, .slice none 0 0] 25 (0, 0)) (by (with_reducible repeat (first | refine blk_drewN ?_ _ | refine blk_drew ?_ | refine blk_alloc ?_ _)); exact BK300.out) hb)
            have n7_ := Aside0.mk (blk_below (g := gb314) (o := .cells #[.bool false, .slice none 0 0] 25 (0, 0)) (by (with_reducible repeat (first | refine blk_drewN ?_ _ | refine blk_drew ?_ | refine blk_alloc ?_ _)); exact BK314.out) hb)
            have n8_ := Aside0.mk (below_step (by repeat (first | (with_reducible first | exact HB.out | apply below_alloc | apply pw_below_drewN | apply below_drew1 | refine below_set ?_ GE297.out | refine below_set ?_ GE298.out | refine below_set ?_ GE299.out | refine below_set ?_ GE300.out | refine below_set ?_ GE314.out) | exact HB.out)) hb)
            clear HO303
            clear HO306
            clear BK297
            clear BK298
            clear BK299
            clear BK300
            clear BK314
            clear HB
            have HO303 := n0_
            have HO306 := n1_
            have HO313 := n2_
            have BK297 := n3_
            have BK298 := n4_
            have BK299 := n5_
            have BK300 := n6_
            have BK314 := n7_
            have HB := n8_
            clear n0_ n1_ n2_ n3_ n4_ n5_ n6_ n7_ n8_
            (try clear hb)
            (try clear ho0)
            refine hK.out _ _ ⟨(blk_cell BK297.out 0).trans rfl, (blk_cell BK297.out 1).trans rfl, (blk_cell BK298.out 0).trans rfl, (blk_cell BK298.out 1).trans rfl⟩ (fun hHeld => ?_)
            clear hK K
            refine norm_ (a' := ?_) ?_ ?_
            rotate_left
            · show Act.put _ (some 33) _ = _
              simp only [Act.put, List.setIfInBounds_toArray, List.set_cons_zero, List.set_cons_succ, i64_w, i32_w]
              rfl
            exact norm_ (by simp only [putAll, Act.put, List.setIfInBounds_toArray, List.set_cons_zero, List.set_cons_succ]) (hCont (v312, gb314) _ ⟨hHeld, (by (with_reducible repeat (first | apply Kd.R_alloc | apply Kd.R_drewN | apply Kd.R_drew)); exact Kd.R_mono HO303.out (fun _ hk => hk.2)), (by (with_reducible repeat (first | apply Kd.V_alloc | apply Kd.V_drewN | apply Kd.V_drew)); exact Kd.V_mono HO306.out (fun _ hk => ⟨hk.1.1.1, ⟨hk.2, ⟨hk.1.1.2.1, ⟨hk.1.1.2.2.1, ⟨hk.1.1.2.2.2.1, ⟨hk.1.1.2.2.2.2, hk.1.2⟩⟩⟩⟩⟩⟩)), (by (with_reducible repeat (first | apply Kd.R_alloc | apply Kd.R_drewN | apply Kd.R_drew)); exact Kd.R_mono HO313.out (fun _ hk => hk.2)), (by (with_reducible repeat (first | refine blk_drewN ?_ _ | refine blk_drew ?_ | refine blk_alloc ?_ _)); exact BK297.out), (by (with_reducible repeat (first | refine blk_drewN ?_ _ | refine blk_drew ?_ | refine blk_alloc ?_ _)); exact BK298.out), (by (with_reducible repeat (first | refine blk_drewN ?_ _ | refine blk_drew ?_ | refine blk_alloc ?_ _)); exact BK299.out), (by (with_reducible repeat (first | refine blk_drewN ?_ _ | refine blk_drew ?_ | refine blk_alloc ?_ _)); exact BK300.out), (by (with_reducible repeat (first | refine blk_drewN ?_ _ | refine blk_drew ?_ | refine blk_alloc ?_ _)); exact BK314.out), GW314.out, GE314.out, NB297_314.out, NB314_297.out, NB298_314.out, NB314_298.out, NB299_314.out, NB314_299.out, NB300_314.out, NB314_300.out, (by repeat (first | (with_reducible first | exact HB.out | apply below_alloc | apply pw_below_drewN | apply below_drew1 | refine below_set ?_ GE297.out | refine below_set ?_ GE298.out | refine below_set ?_ GE299.out | refine below_set ?_ GE300.out | refine below_set ?_ GE314.out) | exact HB.out))⟩)
        · skip
          refine box_step ?hg (N := 10) ?hd (cs := #[.bool false, .slice none 0 0]) (t := 25) ?hr ?_; (case hd => rfl); (case hg => rfl); (case hr => first | (go_simp; done) | (go_simp; rfl))
          intro gb314 hg w30 hbox hb
          have n0_ := Aside0.mk (Kd.R_below (by (with_reducible repeat (first | apply Kd.R_alloc | apply Kd.R_drewN | apply Kd.R_drew)); exact HO303.out) hb)
          have n1_ := Aside0.mk (Kd.V_below (Kd.V_elderB (by (with_reducible repeat (first | apply Kd.V_alloc | apply Kd.V_drewN | apply Kd.V_drew)); exact HO306.out) gb314 (Nat.le_of_eq hg.symm)) hb)
          have n2_ := Aside0.mk (blk_below (g := gb297) (o := .cells #[.bool a0_0, .slice A0_1 l0_1.length c0_1] 25 (0, 0)) (by (with_reducible repeat (first | refine blk_drewN ?_ _ | refine blk_drew ?_ | refine blk_alloc ?_ _)); exact BK297.out) hb)
          have n3_ := Aside0.mk (blk_below (g := gb298) (o := .cells #[.bool a1_0, .slice A1_1 l1_1.length c1_1] 25 (0, 0)) (by (with_reducible repeat (first | refine blk_drewN ?_ _ | refine blk_drew ?_ | refine blk_alloc ?_ _)); exact BK298.out) hb)
          have n4_ := Aside0.mk (blk_below (g := gb299) (o := .cells #[.bool false, .slice none 0 0] 25 (0, 0)) (by (with_reducible repeat (first | refine blk_drewN ?_ _ | refine blk_drew ?_ | refine blk_alloc ?_ _)); exact BK299.out) hb)
          have n5_ := Aside0.mk (blk_below (g := gb300) (o := .cells #[.bool false, .slice none 0 0] 25 (0, 0)) (by (with_reducible repeat (first | refine blk_drewN ?_ _ | refine blk_drew ?_ | refine blk_alloc ?_ _)); exact BK300.out) hb)
          have n6_ := Aside0.mk (below_step (by repeat (first | (with_reducible first | exact HB.out | apply below_alloc | apply pw_below_drewN | apply below_drew1 | refine below_set ?_ GE297.out | refine below_set ?_ GE298.out | refine below_set ?_ GE299.out | refine below_set ?_ GE300.out) | exact HB.out)) hb)
          have n7_ := Aside0.mk (hbox)
          have n8_ := Aside0.mk ((by rw [hg]; exact (below_size (by repeat (first | (with_reducible first | exact HB.out | apply below_alloc | apply pw_below_drewN | apply below_drew1 | refine below_set ?_ GE297.out | refine below_set ?_ GE298.out | refine below_set ?_ GE299.out | refine below_set ?_ GE300.out) | exact HB.out))) : w.heap.size ≤ gb314))
          have n9_ := Aside0.mk ((by rw [hg]; exact (below_size (by repeat (first | (with_reducible first | exact HB.out | apply below_alloc | apply pw_below_drewN | apply below_drew1 | refine below_set ?_ GE297.out | refine below_set ?_ GE298.out | refine below_set ?_ GE299.out | refine below_set ?_ GE300.out) | exact HB.out))) : w.heap.size ≤ gb314))
          have n10_ := Aside0.mk ((by rw [hg]; exact Nat.ne_of_lt (blk_lt (g := gb297) (o := .cells #[.bool a0_0, .slice A0_1 l0_1.length c0_1] 25 (0, 0)) (by (with_reducible repeat (first | refine blk_drewN ?_ _ | refine blk_drew ?_ | refine blk_alloc ?_ _)); exact BK297.out)) : gb297 ≠ gb314))
          have n11_ := Aside0.mk ((by rw [hg]; exact Nat.ne_of_gt (blk_lt (g := gb297) (o := .cells #[.bool a0_0, .slice A0_1 l0_1.length c0_1] 25 (0, 0)) (by (with_reducible repeat (first | refine blk_drewN ?_ _ | refine blk_drew ?_ | refine blk_alloc ?_ _)); exact BK297.out)) : gb314 ≠ gb297))
          have n12_ := Aside0.mk ((by rw [hg]; exact Nat.ne_of_lt (blk_lt (g := gb298) (o := .cells #[.bool a1_0, .slice A1_1 l1_1.length c1_1] 25 (0, 0)) (by (with_reducible repeat (first | refine blk_drewN ?_ _ | refine blk_drew ?_ | refine blk_alloc ?_ _)); exact BK298.out)) : gb298 ≠ gb314))
          have n13_ := Aside0.mk ((by rw [hg]; exact Nat.ne_of_gt (blk_lt (g := gb298) (o := .cells #[.bool a1_0, .slice A1_1 l1_1.length c1_1] 25 (0, 0)) (by (with_reducible repeat (first | refine blk_drewN ?_ _ | refine blk_drew ?_ | refine blk_alloc ?_ _)); exact BK298.out)) : gb314 ≠ gb298))
          have n14_ := Aside0.mk ((by rw [hg]; exact Nat.ne_of_lt (blk_lt (g := gb299) (o := .cells #[.bool false, .slice none 0 0] 25 (0, 0)) (by (with_reducible repeat (first | refine blk_drewN ?_ _ | refine blk_drew ?_ | refine blk_alloc ?_ _)); exact BK299.out)) : gb299 ≠ gb314))
          have n15_ := Aside0.mk ((by rw [hg]; exact Nat.ne_of_gt (blk_lt (g := gb299) (o := .cells #[.bool false, .slice none 0 0] 25 (0, 0)) (by (with_reducible repeat (first | refine blk_drewN ?_ _ | refine blk_drew ?_ | refine blk_alloc ?_ _)); exact BK299.out)) : gb314 ≠ gb299))
          have n16_ := Aside0.mk ((by rw [hg]; exact Nat.ne_of_lt (blk_lt (g := gb300) (o := .cells #[.bool false, .slice none 0 0] 25 (0, 0)) (by (with_reducible repeat (first | refine blk_drewN ?_ _ | refine blk_drew ?_ | refine blk_alloc ?_ _)); exact BK300.out)) : gb300 ≠ gb314))
          have n17_ := Aside0.mk ((by rw [hg]; exact Nat.ne_of_gt (blk_lt (g := gb300) (o := .cells #[.bool false, .slice none 0 0] 25 (0, 0)) (by (with_reducible repeat (first | refine blk_drewN ?_ _ | refine blk_drew ?_ | refine blk_alloc ?_ _)); exact BK300.out)) : gb314 ≠ gb300))
          clear HO303
          clear HO306
          clear BK297
          clear BK298
          clear BK299
          clear BK300
          clear HB
          have HO303 := n0_
          have HO306 := n1_
          have BK297 := n2_
          have BK298 := n3_
          have BK299 := n4_
          have BK300 := n5_
          have HB := n6_
          have BK314 := n7_
          have GW314 := n8_
          have GE314 := n9_
          have NB297_314 := n10_
          have NB314_297 := n11_
          have NB298_314 := n12_
          have NB314_298 := n13_
          have NB299_314 := n14_
          have NB314_299 := n15_
          have NB300_314 := n16_
          have NB314_300 := n17_
          clear n0_ n1_ n2_ n3_ n4_ n5_ n6_ n7_ n8_ n9_ n10_ n11_ n12_ n13_ n14_ n15_ n16_ n17_
          clear hb hbox hg
          refine hK.out _ _ ⟨(blk_cell BK297.out 0).trans rfl, (blk_cell BK297.out 1).trans rfl, (blk_cell BK298.out 0).trans rfl, (blk_cell BK298.out 1).trans rfl⟩ (fun hHeld => ?_)
          clear hK K
          refine norm_ (a' := ?_) ?_ ?_
          rotate_left
          · show Act.put _ (some 10) _ = _
            simp only [Act.put, List.setIfInBounds_toArray, List.set_cons_zero, List.set_cons_succ, i64_w, i32_w]
            rfl
          refine one_ (i := 3) (N := some 29) #[true, true, true, true, false, false, true, false, true, false] rfl rfl (one_of HT_.out (by kernel_rfl)) (by decide) (fun K hK => ?_)
          refine goes_ Try.func31 (by kernel_rfl) rfl #[.agg #[.bool a1_0, .slice A1_1 l1_1.length c1_1]] (by rfl) rfl rfl (by (try simp only [List.map_toArray, List.map_cons, List.map_nil]); first | done | rfl | (simp only [List.length_drop, List.length_take]; rfl)) ?_
          with_reducible refine (whole_Sign.calls k a1_0 _ _ l1_1 t309 _ ?side1 ?side2 A6.out).mono ?_
          (case side1 => repeat (first | exact (Kd.C_below HR1_1.out HB.out) | (with_reducible refine Kd.C_alloc ?_ _) | (with_reducible refine Kd.C_drewN ?_ _) | (with_reducible refine Kd.C_drew ?_)))
          (case side2 => exact HC1_1.out)
          rintro e w31 ⟨rfl, hb⟩
          refine ⟨_, rfl, ?_⟩
          have n0_ := Aside0.mk (Kd.R_below (by (with_reducible repeat (first | apply Kd.R_alloc | apply Kd.R_drewN | apply Kd.R_drew)); exact HO303.out) hb)
          have n1_ := Aside0.mk (Kd.V_below (by (with_reducible repeat (first | apply Kd.V_alloc | apply Kd.V_drewN | apply Kd.V_drew)); exact HO306.out) hb)
          have n2_ := Aside0.mk (blk_below (g := gb297) (o := .cells #[.bool a0_0, .slice A0_1 l0_1.length c0_1] 25 (0, 0)) (by (with_reducible repeat (first | refine blk_drewN ?_ _ | refine blk_drew ?_ | refine blk_alloc ?_ _)); exact BK297.out) hb)
          have n3_ := Aside0.mk (blk_below (g := gb298) (o := .cells #[.bool a1_0, .slice A1_1 l1_1.length c1_1] 25 (0, 0)) (by (with_reducible repeat (first | refine blk_drewN ?_ _ | refine blk_drew ?_ | refine blk_alloc ?_ _)); exact BK298.out) hb)
          have n4_ := Aside0.mk (blk_below (g := gb299) (o := .cells #[.bool false, .slice none 0 0] 25 (0, 0)) (by (with_reducible repeat (first | refine blk_drewN ?_ _ | refine blk_drew ?_ | refine blk_alloc ?_ _)); exact BK299.out) hb)
          have n5_ := Aside0.mk (blk_below (g := gb300) (o := .cells #[.bool false, .slice none 0 0] 25 (0, 0)) (by (with_reducible repeat (first | refine blk_drewN ?_ _ | refine blk_drew ?_ | refine blk_alloc ?_ _)); exact BK300.out) hb)
          have n6_ := Aside0.mk (blk_below (g := gb314) (o := .cells #[.bool false, .slice none 0 0] 25 (0, 0)) (by (with_reducible repeat (first | refine blk_drewN ?_ _ | refine blk_drew ?_ | refine blk_alloc ?_ _)); exact BK314.out) hb)
          have n7_ := Aside0.mk (below_step (by repeat (first | (with_reducible first | exact HB.out | apply below_alloc | apply pw_below_drewN | apply below_drew1 | refine below_set ?_ GE297.out | refine below_set ?_ GE298.out | refine below_set ?_ GE299.out | refine below_set ?_ GE300.out | refine below_set ?_ GE314.out) | exact HB.out)) hb)
          clear HO303
          clear HO306
          clear BK297
          clear BK298
          clear BK299
          clear BK300
          clear BK314
          clear HB
          have HO303 := n0_
          have HO306 := n1_
          have BK297 := n2_
          have BK298 := n3_
          have BK299 := n4_
          have BK300 := n5_
          have BK314 := n6_
          have HB := n7_
          clear n0_ n1_ n2_ n3_ n4_ n5_ n6_ n7_
          (try clear hb)
          refine hK.out _ _ ⟨(blk_cell BK297.out 0).trans rfl, (blk_cell BK297.out 1).trans rfl, (blk_cell BK298.out 0).trans rfl, (blk_cell BK298.out 1).trans rfl⟩ (fun hHeld => ?_)
          clear hK K
          refine norm_ (a' := ?_) ?_ ?_
          rotate_left
          · show Act.put _ (some 29) _ = _
            simp only [Act.put, List.setIfInBounds_toArray, List.set_cons_zero, List.set_cons_succ, i64_w, i32_w]
            rfl
          refine pure_ (i := 4) (N := some 30) (v := ?_) (a' := ?_) #[true, true, true, true, true, false, true, false, true, false] rfl rfl (any_of HT_.out (by kernel_rfl)) (fun _ _ _ h => h) (Or.inl ⟨by rfl, ?_⟩) ?_ ?_
          rotate_left
          · intro w'
            go_simp
            with_reducible rfl
          rotate_left
          · simp only [Act.put, List.setIfInBounds_toArray, List.set_cons_zero, List.set_cons_succ, i64_w, i32_w]
            rfl
          refine pure_ (i := 5) (N := some 31) (v := ?_) (a' := ?_) #[true, true, true, true, true, true, true, false, true, false] rfl rfl (any_of HT_.out (by kernel_rfl)) (fun _ _ _ h => h) (Or.inl ⟨by rfl, ?_⟩) ?_ ?_
          rotate_left
          · intro w'
            go_simp
            with_reducible rfl
          rotate_left
          · simp only [Act.put, List.setIfInBounds_toArray, List.set_cons_zero, List.set_cons_succ, i64_w, i32_w]
            rfl
          refine one_ (i := 7) (N := some 33) #[true, true, true, true, true, true, true, true, true, false] rfl rfl (one_of HT_.out (by kernel_rfl)) (by decide) (fun K hK => ?_)
          refine goes_ Try.func33 (by kernel_rfl) rfl #[.bool (decide ((wrap64 (t308 * t309)) < 0)), .slice Ao27 t301.length co27] (by rfl) rfl rfl (by (try simp only [List.map_toArray, List.map_cons, List.map_nil]); first | done | rfl | (simp only [List.length_drop, List.length_take]; rfl)) ?_
          with_reducible refine (whole_Make.calls k (decide ((wrap64 (t308 * t309)) < 0)) _ _ t301 t310 t311 _ ?side1 ?side2 A7.out).mono ?_
          (case side1 => repeat (first | exact (Kd.R_reads' HO303.out).2.2 | (with_reducible refine Kd.C_alloc ?_ _) | (with_reducible refine Kd.C_drewN ?_ _) | (with_reducible refine Kd.C_drew ?_)))
          (case side2 => exact (Kd.R_reads' HO303.out).2.1)
          rintro e w32 ⟨v312, rfl, ho0, hb⟩
          refine ⟨_, rfl, ?_⟩
          have n0_ := Aside0.mk (Kd.R_elder' (by (with_reducible repeat (first | apply Kd.R_alloc | apply Kd.R_drewN | apply Kd.R_drew)); exact HO303.out) (Kd.R_base ho0) hb)
          have n1_ := Aside0.mk (Kd.V_elder' (by (with_reducible repeat (first | apply Kd.V_alloc | apply Kd.V_drewN | apply Kd.V_drew)); exact HO306.out) (Kd.R_base ho0) hb)
          have n2_ := Aside0.mk (Kd.R_lower (Kd.R_new' ho0 (Kd.R_lt (by (with_reducible repeat (first | apply Kd.R_alloc | apply Kd.R_drewN | apply Kd.R_drew)); exact HO303.out))) (below_size (by repeat (first | (with_reducible first | exact HB.out | apply below_alloc | apply pw_below_drewN | apply below_drew1 | refine below_set ?_ GE297.out | refine below_set ?_ GE298.out | refine below_set ?_ GE299.out | refine below_set ?_ GE300.out | refine below_set ?_ GE314.out) | exact HB.out))))
          have n3_ := Aside0.mk (blk_below (g := gb297) (o := .cells #[.bool a0_0, .slice A0_1 l0_1.length c0_1] 25 (0, 0)) (by (with_reducible repeat (first | refine blk_drewN ?_ _ | refine blk_drew ?_ | refine blk_alloc ?_ _)); exact BK297.out) hb)
          have n4_ := Aside0.mk (blk_below (g := gb298) (o := .cells #[.bool a1_0, .slice A1_1 l1_1.length c1_1] 25 (0, 0)) (by (with_reducible repeat (first | refine blk_drewN ?_ _ | refine blk_drew ?_ | refine blk_alloc ?_ _)); exact BK298.out) hb)
          have n5_ := Aside0.mk (blk_below (g := gb299) (o := .cells #[.bool false, .slice none 0 0] 25 (0, 0)) (by (with_reducible repeat (first | refine blk_drewN ?_ _ | refine blk_drew ?_ | refine blk_alloc ?_ _)); exact BK299.out) hb)
          have n6_ := Aside0.mk (blk_below (g := gb300) (o := .cells #[.bool false, .slice none 0 0] 25 (0, 0)) (by (with_reducible repeat (first | refine blk_drewN ?_ _ | refine blk_drew ?_ | refine blk_alloc ?_ _)); exact BK300.out) hb)
          have n7_ := Aside0.mk (blk_below (g := gb314) (o := .cells #[.bool false, .slice none 0 0] 25 (0, 0)) (by (with_reducible repeat (first | refine blk_drewN ?_ _ | refine blk_drew ?_ | refine blk_alloc ?_ _)); exact BK314.out) hb)
          have n8_ := Aside0.mk (below_step (by repeat (first | (with_reducible first | exact HB.out | apply below_alloc | apply pw_below_drewN | apply below_drew1 | refine below_set ?_ GE297.out | refine below_set ?_ GE298.out | refine below_set ?_ GE299.out | refine below_set ?_ GE300.out | refine below_set ?_ GE314.out) | exact HB.out)) hb)
          clear HO303
          clear HO306
          clear BK297
          clear BK298
          clear BK299
          clear BK300
          clear BK314
          clear HB
          have HO303 := n0_
          have HO306 := n1_
          have HO313 := n2_
          have BK297 := n3_
          have BK298 := n4_
          have BK299 := n5_
          have BK300 := n6_
          have BK314 := n7_
          have HB := n8_
          clear n0_ n1_ n2_ n3_ n4_ n5_ n6_ n7_ n8_
          (try clear hb)
          (try clear ho0)
          refine hK.out _ _ ⟨(blk_cell BK297.out 0).trans rfl, (blk_cell BK297.out 1).trans rfl, (blk_cell BK298.out 0).trans rfl, (blk_cell BK298.out 1).trans rfl⟩ (fun hHeld => ?_)
          clear hK K
          refine norm_ (a' := ?_) ?_ ?_
          rotate_left
          · show Act.put _ (some 33) _ = _
            simp only [Act.put, List.setIfInBounds_toArray, List.set_cons_zero, List.set_cons_succ, i64_w, i32_w]
            rfl
          exact norm_ (by simp only [putAll, Act.put, List.setIfInBounds_toArray, List.set_cons_zero, List.set_cons_succ]) (hCont (v312, gb314) _ ⟨hHeld, (by (with_reducible repeat (first | apply Kd.R_alloc | apply Kd.R_drewN | apply Kd.R_drew)); exact Kd.R_mono HO303.out (fun _ hk => hk.2)), (by (with_reducible repeat (first | apply Kd.V_alloc | apply Kd.V_drewN | apply Kd.V_drew)); exact Kd.V_mono HO306.out (fun _ hk => ⟨hk.1.1.1, ⟨hk.2, ⟨hk.1.1.2.1, ⟨hk.1.1.2.2.1, ⟨hk.1.1.2.2.2.1, ⟨hk.1.1.2.2.2.2, hk.1.2⟩⟩⟩⟩⟩⟩)), (by (with_reducible repeat (first | apply Kd.R_alloc | apply Kd.R_drewN | apply Kd.R_drew)); exact Kd.R_mono HO313.out (fun _ hk => hk.2)), (by (with_reducible repeat (first | refine blk_drewN ?_ _ | refine blk_drew ?_ | refine blk_alloc ?_ _)); exact BK297.out), (by (with_reducible repeat (first | refine blk_drewN ?_ _ | refine blk_drew ?_ | refine blk_alloc ?_ _)); exact BK298.out), (by (with_reducible repeat (first | refine blk_drewN ?_ _ | refine blk_drew ?_ | refine blk_alloc ?_ _)); exact BK299.out), (by (with_reducible repeat (first | refine blk_drewN ?_ _ | refine blk_drew ?_ | refine blk_alloc ?_ _)); exact BK300.out), (by (with_reducible repeat (first | refine blk_drewN ?_ _ | refine blk_drew ?_ | refine blk_alloc ?_ _)); exact BK314.out), GW314.out, GE314.out, NB297_314.out, NB314_297.out, NB298_314.out, NB314_298.out, NB299_314.out, NB314_299.out, NB300_314.out, NB314_300.out, (by repeat (first | (with_reducible first | exact HB.out | apply below_alloc | apply pw_below_drewN | apply below_drew1 | refine below_set ?_ GE297.out | refine below_set ?_ GE298.out | refine below_set ?_ GE299.out | refine below_set ?_ GE300.out | refine below_set ?_ GE314.out) | exact HB.out))⟩)
      · skip
        refine box_step ?hg (N := 10) ?hd (cs := #[.bool false, .slice none 0 0]) (t := 25) ?hr ?_; (case hd => rfl); (case hg => rfl); (case hr => first | (go_simp; done) | (go_simp; rfl))
        intro gb314 hg w29 hbox hb
        have n0_ := Aside0.mk (Kd.R_below (by (with_reducible repeat (first | apply Kd.R_alloc | apply Kd.R_drewN | apply Kd.R_drew)); exact HO303.out) hb)
        have n1_ := Aside0.mk (Kd.V_below (Kd.V_elderB (by (with_reducible repeat (first | apply Kd.V_alloc | apply Kd.V_drewN | apply Kd.V_drew)); exact HO306.out) gb314 (Nat.le_of_eq hg.symm)) hb)
        have n2_ := Aside0.mk (blk_below (g := gb297) (o := .cells #[.bool a0_0, .slice A0_1 l0_1.length c0_1] 25 (0, 0)) (by (with_reducible repeat (first | refine blk_drewN ?_ _ | refine blk_drew ?_ | refine blk_alloc ?_ _)); exact BK297.out) hb)
        have n3_ := Aside0.mk (blk_below (g := gb298) (o := .cells #[.bool a1_0, .slice A1_1 l1_1.length c1_1] 25 (0, 0)) (by (with_reducible repeat (first | refine blk_drewN ?_ _ | refine blk_drew ?_ | refine blk_alloc ?_ _)); exact BK298.out) hb)
        have n4_ := Aside0.mk (blk_below (g := gb299) (o := .cells #[.bool false, .slice none 0 0] 25 (0, 0)) (by (with_reducible repeat (first | refine blk_drewN ?_ _ | refine blk_drew ?_ | refine blk_alloc ?_ _)); exact BK299.out) hb)
        have n5_ := Aside0.mk (blk_below (g := gb300) (o := .cells #[.bool false, .slice none 0 0] 25 (0, 0)) (by (with_reducible repeat (first | refine blk_drewN ?_ _ | refine blk_drew ?_ | refine blk_alloc ?_ _)); exact BK300.out) hb)
        have n6_ := Aside0.mk (below_step (by repeat (first | (with_reducible first | exact HB.out | apply below_alloc | apply pw_below_drewN | apply below_drew1 | refine below_set ?_ GE297.out | refine below_set ?_ GE298.out | refine below_set ?_ GE299.out | refine below_set ?_ GE300.out) | exact HB.out)) hb)
        have n7_ := Aside0.mk (hbox)
        have n8_ := Aside0.mk ((by rw [hg]; exact (below_size (by repeat (first | (with_reducible first | exact HB.out | apply below_alloc | apply pw_below_drewN | apply below_drew1 | refine below_set ?_ GE297.out | refine below_set ?_ GE298.out | refine below_set ?_ GE299.out | refine below_set ?_ GE300.out) | exact HB.out))) : w.heap.size ≤ gb314))
        have n9_ := Aside0.mk ((by rw [hg]; exact (below_size (by repeat (first | (with_reducible first | exact HB.out | apply below_alloc | apply pw_below_drewN | apply below_drew1 | refine below_set ?_ GE297.out | refine below_set ?_ GE298.out | refine below_set ?_ GE299.out | refine below_set ?_ GE300.out) | exact HB.out))) : w.heap.size ≤ gb314))
        have n10_ := Aside0.mk ((by rw [hg]; exact Nat.ne_of_lt (blk_lt (g := gb297) (o := .cells #[.bool a0_0, .slice A0_1 l0_1.length c0_1] 25 (0, 0)) (by (with_reducible repeat (first | refine blk_drewN ?_ _ | refine blk_drew ?_ | refine blk_alloc ?_ _)); exact BK297.out)) : gb297 ≠ gb314))
        have n11_ := Aside0.mk ((by rw [hg]; exact Nat.ne_of_gt (blk_lt (g := gb297) (o := .cells #[.bool a0_0, .slice A0_1 l0_1.length c0_1] 25 (0, 0)) (by (with_reducible repeat (first | refine blk_drewN ?_ _ | refine blk_drew ?_ | refine blk_alloc ?_ _)); exact BK297.out)) : gb314 ≠ gb297))
        have n12_ := Aside0.mk ((by rw [hg]; exact Nat.ne_of_lt (blk_lt (g := gb298) (o := .cells #[.bool a1_0, .slice A1_1 l1_1.length c1_1] 25 (0, 0)) (by (with_reducible repeat (first | refine blk_drewN ?_ _ | refine blk_drew ?_ | refine blk_alloc ?_ _)); exact BK298.out)) : gb298 ≠ gb314))
        have n13_ := Aside0.mk ((by rw [hg]; exact Nat.ne_of_gt (blk_lt (g := gb298) (o := .cells #[.bool a1_0, .slice A1_1 l1_1.length c1_1] 25 (0, 0)) (by (with_reducible repeat (first | refine blk_drewN ?_ _ | refine blk_drew ?_ | refine blk_alloc ?_ _)); exact BK298.out)) : gb314 ≠ gb298))
        have n14_ := Aside0.mk ((by rw [hg]; exact Nat.ne_of_lt (blk_lt (g := gb299) (o := .cells #[.bool false, .slice none 0 0] 25 (0, 0)) (by (with_reducible repeat (first | refine blk_drewN ?_ _ | refine blk_drew ?_ | refine blk_alloc ?_ _)); exact BK299.out)) : gb299 ≠ gb314))
        have n15_ := Aside0.mk ((by rw [hg]; exact Nat.ne_of_gt (blk_lt (g := gb299) (o := .cells #[.bool false, .slice none 0 0] 25 (0, 0)) (by (with_reducible repeat (first | refine blk_drewN ?_ _ | refine blk_drew ?_ | refine blk_alloc ?_ _)); exact BK299.out)) : gb314 ≠ gb299))
        have n16_ := Aside0.mk ((by rw [hg]; exact Nat.ne_of_lt (blk_lt (g := gb300) (o := .cells #[.bool false, .slice none 0 0] 25 (0, 0)) (by (with_reducible repeat (first | refine blk_drewN ?_ _ | refine blk_drew ?_ | refine blk_alloc ?_ _)); exact BK300.out)) : gb300 ≠ gb314))
        have n17_ := Aside0.mk ((by rw [hg]; exact Nat.ne_of_gt (blk_lt (g := gb300) (o := .cells #[.bool false, .slice none 0 0] 25 (0, 0)) (by (with_reducible repeat (first | refine blk_drewN ?_ _ | refine blk_drew ?_ | refine blk_alloc ?_ _)); exact BK300.out)) : gb314 ≠ gb300))
        clear HO303
        clear HO306
        clear BK297
        clear BK298
        clear BK299
        clear BK300
        clear HB
        have HO303 := n0_
        have HO306 := n1_
        have BK297 := n2_
        have BK298 := n3_
        have BK299 := n4_
        have BK300 := n5_
        have HB := n6_
        have BK314 := n7_
        have GW314 := n8_
        have GE314 := n9_
        have NB297_314 := n10_
        have NB314_297 := n11_
        have NB298_314 := n12_
        have NB314_298 := n13_
        have NB299_314 := n14_
        have NB314_299 := n15_
        have NB300_314 := n16_
        have NB314_300 := n17_
        clear n0_ n1_ n2_ n3_ n4_ n5_ n6_ n7_ n8_ n9_ n10_ n11_ n12_ n13_ n14_ n15_ n16_ n17_
        clear hb hbox hg
        refine hK.out _ _ ⟨(blk_cell BK297.out 0).trans rfl, (blk_cell BK297.out 1).trans rfl, (blk_cell BK298.out 0).trans rfl, (blk_cell BK298.out 1).trans rfl⟩ (fun hHeld => ?_)
        clear hK K
        refine norm_ (a' := ?_) ?_ ?_
        rotate_left
        · show Act.put _ (some 10) _ = _
          simp only [Act.put, List.setIfInBounds_toArray, List.set_cons_zero, List.set_cons_succ, i64_w, i32_w]
          rfl
        refine one_ (i := 1) (N := some 27) #[true, true, true, false, false, false, true, false, true, false] rfl rfl (one_of HT_.out (by kernel_rfl)) (by decide) (fun K hK => ?_)
        refine goes_ Try.func31 (by kernel_rfl) rfl #[.agg #[.bool a0_0, .slice A0_1 l0_1.length c0_1]] (by rfl) rfl rfl (by (try simp only [List.map_toArray, List.map_cons, List.map_nil]); first | done | rfl | (simp only [List.length_drop, List.length_take]; rfl)) ?_
        with_reducible refine (whole_Sign.calls k a0_0 _ _ l0_1 t308 _ ?side1 ?side2 A5.out).mono ?_
        (case side1 => repeat (first | exact (Kd.C_below HR0_1.out HB.out) | (with_reducible refine Kd.C_alloc ?_ _) | (with_reducible refine Kd.C_drewN ?_ _) | (with_reducible refine Kd.C_drew ?_)))
        (case side2 => exact HC0_1.out)
        rintro e w30 ⟨rfl, hb⟩
        refine ⟨_, rfl, ?_⟩
        have n0_ := Aside0.mk (Kd.R_below (by (with_reducible repeat (first | apply Kd.R_alloc | apply Kd.R_drewN | apply Kd.R_drew)); exact HO303.out) hb)
        have n1_ := Aside0.mk (Kd.V_below (by (with_reducible repeat (first | apply Kd.V_alloc | apply Kd.V_drewN | apply Kd.V_drew)); exact HO306.out) hb)
        have n2_ := Aside0.mk (blk_below (g := gb297) (o := .cells #[.bool a0_0, .slice A0_1 l0_1.length c0_1] 25 (0, 0)) (by (with_reducible repeat (first | refine blk_drewN ?_ _ | refine blk_drew ?_ | refine blk_alloc ?_ _)); exact BK297.out) hb)
        have n3_ := Aside0.mk (blk_below (g := gb298) (o := .cells #[.bool a1_0, .slice A1_1 l1_1.length c1_1] 25 (0, 0)) (by (with_reducible repeat (first | refine blk_drewN ?_ _ | refine blk_drew ?_ | refine blk_alloc ?_ _)); exact BK298.out) hb)
        have n4_ := Aside0.mk (blk_below (g := gb299) (o := .cells #[.bool false, .slice none 0 0] 25 (0, 0)) (by (with_reducible repeat (first | refine blk_drewN ?_ _ | refine blk_drew ?_ | refine blk_alloc ?_ _)); exact BK299.out) hb)
        have n5_ := Aside0.mk (blk_below (g := gb300) (o := .cells #[.bool false, .slice none 0 0] 25 (0, 0)) (by (with_reducible repeat (first | refine blk_drewN ?_ _ | refine blk_drew ?_ | refine blk_alloc ?_ _)); exact BK300.out) hb)
        have n6_ := Aside0.mk (blk_below (g := gb314) (o := .cells #[.bool false, .slice none 0 0] 25 (0, 0)) (by (with_reducible repeat (first | refine blk_drewN ?_ _ | refine blk_drew ?_ | refine blk_alloc ?_ _)); exact BK314.out) hb)
        have n7_ := Aside0.mk (below_step (by repeat (first | (with_reducible first | exact HB.out | apply below_alloc | apply pw_below_drewN | apply below_drew1 | refine below_set ?_ GE297.out | refine below_set ?_ GE298.out | refine below_set ?_ GE299.out | refine below_set ?_ GE300.out | refine below_set ?_ GE314.out) | exact HB.out)) hb)
        clear HO303
        clear HO306
        clear BK297
        clear BK298
        clear BK299
        clear BK300
        clear BK314
        clear HB
        have HO303 := n0_
        have HO306 := n1_
        have BK297 := n2_
        have BK298 := n3_
        have BK299 := n4_
        have BK300 := n5_
        have BK314 := n6_
        have HB := n7_
        clear n0_ n1_ n2_ n3_ n4_ n5_ n6_ n7_
        (try clear hb)
        refine hK.out _ _ ⟨(blk_cell BK297.out 0).trans rfl, (blk_cell BK297.out 1).trans rfl, (blk_cell BK298.out 0).trans rfl, (blk_cell BK298.out 1).trans rfl⟩ (fun hHeld => ?_)
        clear hK K
        refine norm_ (a' := ?_) ?_ ?_
        rotate_left
        · show Act.put _ (some 27) _ = _
          simp only [Act.put, List.setIfInBounds_toArray, List.set_cons_zero, List.set_cons_succ, i64_w, i32_w]
          rfl
        refine one_ (i := 3) (N := some 29) #[true, true, true, true, false, false, true, false, true, false] rfl rfl (one_of HT_.out (by kernel_rfl)) (by decide) (fun K hK => ?_)
        refine goes_ Try.func31 (by kernel_rfl) rfl #[.agg #[.bool a1_0, .slice A1_1 l1_1.length c1_1]] (by rfl) rfl rfl (by (try simp only [List.map_toArray, List.map_cons, List.map_nil]); first | done | rfl | (simp only [List.length_drop, List.length_take]; rfl)) ?_
        with_reducible refine (whole_Sign.calls k a1_0 _ _ l1_1 t309 _ ?side1 ?side2 A6.out).mono ?_
        (case side1 => repeat (first | exact (Kd.C_below HR1_1.out HB.out) | (with_reducible refine Kd.C_alloc ?_ _) | (with_reducible refine Kd.C_drewN ?_ _) | (with_reducible refine Kd.C_drew ?_)))
        (case side2 => exact HC1_1.out)
        rintro e w31 ⟨rfl, hb⟩
        refine ⟨_, rfl, ?_⟩
        have n0_ := Aside0.mk (Kd.R_below (by (with_reducible repeat (first | apply Kd.R_alloc | apply Kd.R_drewN | apply Kd.R_drew)); exact HO303.out) hb)
        have n1_ := Aside0.mk (Kd.V_below (by (with_reducible repeat (first | apply Kd.V_alloc | apply Kd.V_drewN | apply Kd.V_drew)); exact HO306.out) hb)
        have n2_ := Aside0.mk (blk_below (g := gb297) (o := .cells #[.bool a0_0, .slice A0_1 l0_1.length c0_1] 25 (0, 0)) (by (with_reducible repeat (first | refine blk_drewN ?_ _ | refine blk_drew ?_ | refine blk_alloc ?_ _)); exact BK297.out) hb)
        have n3_ := Aside0.mk (blk_below (g := gb298) (o := .cells #[.bool a1_0, .slice A1_1 l1_1.length c1_1] 25 (0, 0)) (by (with_reducible repeat (first | refine blk_drewN ?_ _ | refine blk_drew ?_ | refine blk_alloc ?_ _)); exact BK298.out) hb)
        have n4_ := Aside0.mk (blk_below (g := gb299) (o := .cells #[.bool false, .slice none 0 0] 25 (0, 0)) (by (with_reducible repeat (first | refine blk_drewN ?_ _ | refine blk_drew ?_ | refine blk_alloc ?_ _)); exact BK299.out) hb)
        have n5_ := Aside0.mk (blk_below (g := gb300) (o := .cells #[.bool false, .slice none 0 0] 25 (0, 0)) (by (with_reducible repeat (first | refine blk_drewN ?_ _ | refine blk_drew ?_ | refine blk_alloc ?_ _)); exact BK300.out) hb)
        have n6_ := Aside0.mk (blk_below (g := gb314) (o := .cells #[.bool false, .slice none 0 0] 25 (0, 0)) (by (with_reducible repeat (first | refine blk_drewN ?_ _ | refine blk_drew ?_ | refine blk_alloc ?_ _)); exact BK314.out) hb)
        have n7_ := Aside0.mk (below_step (by repeat (first | (with_reducible first | exact HB.out | apply below_alloc | apply pw_below_drewN | apply below_drew1 | refine below_set ?_ GE297.out | refine below_set ?_ GE298.out | refine below_set ?_ GE299.out | refine below_set ?_ GE300.out | refine below_set ?_ GE314.out) | exact HB.out)) hb)
        clear HO303
        clear HO306
        clear BK297
        clear BK298
        clear BK299
        clear BK300
        clear BK314
        clear HB
        have HO303 := n0_
        have HO306 := n1_
        have BK297 := n2_
        have BK298 := n3_
        have BK299 := n4_
        have BK300 := n5_
        have BK314 := n6_
        have HB := n7_
        clear n0_ n1_ n2_ n3_ n4_ n5_ n6_ n7_
        (try clear hb)
        refine hK.out _ _ ⟨(blk_cell BK297.out 0).trans rfl, (blk_cell BK297.out 1).trans rfl, (blk_cell BK298.out 0).trans rfl, (blk_cell BK298.out 1).trans rfl⟩ (fun hHeld => ?_)
        clear hK K
        refine norm_ (a' := ?_) ?_ ?_
        rotate_left
        · show Act.put _ (some 29) _ = _
          simp only [Act.put, List.setIfInBounds_toArray, List.set_cons_zero, List.set_cons_succ, i64_w, i32_w]
          rfl
        refine pure_ (i := 4) (N := some 30) (v := ?_) (a' := ?_) #[true, true, true, true, true, false, true, false, true, false] rfl rfl (any_of HT_.out (by kernel_rfl)) (fun _ _ _ h => h) (Or.inl ⟨by rfl, ?_⟩) ?_ ?_
        rotate_left
        · intro w'
          go_simp
          with_reducible rfl
        rotate_left
        · simp only [Act.put, List.setIfInBounds_toArray, List.set_cons_zero, List.set_cons_succ, i64_w, i32_w]
          rfl
        refine pure_ (i := 5) (N := some 31) (v := ?_) (a' := ?_) #[true, true, true, true, true, true, true, false, true, false] rfl rfl (any_of HT_.out (by kernel_rfl)) (fun _ _ _ h => h) (Or.inl ⟨by rfl, ?_⟩) ?_ ?_
        rotate_left
        · intro w'
          go_simp
          with_reducible rfl
        rotate_left
        · simp only [Act.put, List.setIfInBounds_toArray, List.set_cons_zero, List.set_cons_succ, i64_w, i32_w]
          rfl
        refine one_ (i := 7) (N := some 33) #[true, true, true, true, true, true, true, true, true, false] rfl rfl (one_of HT_.out (by kernel_rfl)) (by decide) (fun K hK => ?_)
        refine goes_ Try.func33 (by kernel_rfl) rfl #[.bool (decide ((wrap64 (t308 * t309)) < 0)), .slice Ao27 t301.length co27] (by rfl) rfl rfl (by (try simp only [List.map_toArray, List.map_cons, List.map_nil]); first | done | rfl | (simp only [List.length_drop, List.length_take]; rfl)) ?_
        with_reducible refine (whole_Make.calls k (decide ((wrap64 (t308 * t309)) < 0)) _ _ t301 t310 t311 _ ?side1 ?side2 A7.out).mono ?_
        (case side1 => repeat (first | exact (Kd.R_reads' HO303.out).2.2 | (with_reducible refine Kd.C_alloc ?_ _) | (with_reducible refine Kd.C_drewN ?_ _) | (with_reducible refine Kd.C_drew ?_)))
        (case side2 => exact (Kd.R_reads' HO303.out).2.1)
        rintro e w32 ⟨v312, rfl, ho0, hb⟩
        refine ⟨_, rfl, ?_⟩
        have n0_ := Aside0.mk (Kd.R_elder' (by (with_reducible repeat (first | apply Kd.R_alloc | apply Kd.R_drewN | apply Kd.R_drew)); exact HO303.out) (Kd.R_base ho0) hb)
        have n1_ := Aside0.mk (Kd.V_elder' (by (with_reducible repeat (first | apply Kd.V_alloc | apply Kd.V_drewN | apply Kd.V_drew)); exact HO306.out) (Kd.R_base ho0) hb)
        have n2_ := Aside0.mk (Kd.R_lower (Kd.R_new' ho0 (Kd.R_lt (by (with_reducible repeat (first | apply Kd.R_alloc | apply Kd.R_drewN | apply Kd.R_drew)); exact HO303.out))) (below_size (by repeat (first | (with_reducible first | exact HB.out | apply below_alloc | apply pw_below_drewN | apply below_drew1 | refine below_set ?_ GE297.out | refine below_set ?_ GE298.out | refine below_set ?_ GE299.out | refine below_set ?_ GE300.out | refine below_set ?_ GE314.out) | exact HB.out))))
        have n3_ := Aside0.mk (blk_below (g := gb297) (o := .cells #[.bool a0_0, .slice A0_1 l0_1.length c0_1] 25 (0, 0)) (by (with_reducible repeat (first | refine blk_drewN ?_ _ | refine blk_drew ?_ | refine blk_alloc ?_ _)); exact BK297.out) hb)
        have n4_ := Aside0.mk (blk_below (g := gb298) (o := .cells #[.bool a1_0, .slice A1_1 l1_1.length c1_1] 25 (0, 0)) (by (with_reducible repeat (first | refine blk_drewN ?_ _ | refine blk_drew ?_ | refine blk_alloc ?_ _)); exact BK298.out) hb)
        have n5_ := Aside0.mk (blk_below (g := gb299) (o := .cells #[.bool false, .slice none 0 0] 25 (0, 0)) (by (with_reducible repeat (first | refine blk_drewN ?_ _ | refine blk_drew ?_ | refine blk_alloc ?_ _)); exact BK299.out) hb)
        have n6_ := Aside0.mk (blk_below (g := gb300) (o := .cells #[.bool false, .slice none 0 0] 25 (0, 0)) (by (with_reducible repeat (first | refine blk_drewN ?_ _ | refine blk_drew ?_ | refine blk_alloc ?_ _)); exact BK300.out) hb)
        have n7_ := Aside0.mk (blk_below (g := gb314) (o := .cells #[.bool false, .slice none 0 0] 25 (0, 0)) (by (with_reducible repeat (first | refine blk_drewN ?_ _ | refine blk_drew ?_ | refine blk_alloc ?_ _)); exact BK314.out) hb)
        have n8_ := Aside0.mk (below_step (by repeat (first | (with_reducible first | exact HB.out | apply below_alloc | apply pw_below_drewN | apply below_drew1 | refine below_set ?_ GE297.out | refine below_set ?_ GE298.out | refine below_set ?_ GE299.out | refine below_set ?_ GE300.out | refine below_set ?_ GE314.out) | exact HB.out)) hb)
        clear HO303
        clear HO306
        clear BK297
        clear BK298
        clear BK299
        clear BK300
        clear BK314
        clear HB
        have HO303 := n0_
        have HO306 := n1_
        have HO313 := n2_
        have BK297 := n3_
        have BK298 := n4_
        have BK299 := n5_
        have BK300 := n6_
        have BK314 := n7_
        have HB := n8_
        clear n0_ n1_ n2_ n3_ n4_ n5_ n6_ n7_ n8_
        (try clear hb)
        (try clear ho0)
        refine hK.out _ _ ⟨(blk_cell BK297.out 0).trans rfl, (blk_cell BK297.out 1).trans rfl, (blk_cell BK298.out 0).trans rfl, (blk_cell BK298.out 1).trans rfl⟩ (fun hHeld => ?_)
        clear hK K
        refine norm_ (a' := ?_) ?_ ?_
        rotate_left
        · show Act.put _ (some 33) _ = _
          simp only [Act.put, List.setIfInBounds_toArray, List.set_cons_zero, List.set_cons_succ, i64_w, i32_w]
          rfl
        exact norm_ (by simp only [putAll, Act.put, List.setIfInBounds_toArray, List.set_cons_zero, List.set_cons_succ]) (hCont (v312, gb314) _ ⟨hHeld, (by (with_reducible repeat (first | apply Kd.R_alloc | apply Kd.R_drewN | apply Kd.R_drew)); exact Kd.R_mono HO303.out (fun _ hk => hk.2)), (by (with_reducible repeat (first | apply Kd.V_alloc | apply Kd.V_drewN | apply Kd.V_drew)); exact Kd.V_mono HO306.out (fun _ hk => ⟨hk.1.1.1, ⟨hk.2, ⟨hk.1.1.2.1, ⟨hk.1.1.2.2.1, ⟨hk.1.1.2.2.2.1, ⟨hk.1.1.2.2.2.2, hk.1.2⟩⟩⟩⟩⟩⟩)), (by (with_reducible repeat (first | apply Kd.R_alloc | apply Kd.R_drewN | apply Kd.R_drew)); exact Kd.R_mono HO313.out (fun _ hk => hk.2)), (by (with_reducible repeat (first | refine blk_drewN ?_ _ | refine blk_drew ?_ | refine blk_alloc ?_ _)); exact BK297.out), (by (with_reducible repeat (first | refine blk_drewN ?_ _ | refine blk_drew ?_ | refine blk_alloc ?_ _)); exact BK298.out), (by (with_reducible repeat (first | refine blk_drewN ?_ _ | refine blk_drew ?_ | refine blk_alloc ?_ _)); exact BK299.out), (by (with_reducible repeat (first | refine blk_drewN ?_ _ | refine blk_drew ?_ | refine blk_alloc ?_ _)); exact BK300.out), (by (with_reducible repeat (first | refine blk_drewN ?_ _ | refine blk_drew ?_ | refine blk_alloc ?_ _)); exact BK314.out), GW314.out, GE314.out, NB297_314.out, NB314_297.out, NB298_314.out, NB314_298.out, NB299_314.out, NB314_299.out, NB300_314.out, NB314_300.out, (by repeat (first | (with_reducible first | exact HB.out | apply below_alloc | apply pw_below_drewN | apply below_drew1 | refine below_set ?_ GE297.out | refine below_set ?_ GE298.out | refine below_set ?_ GE299.out | refine below_set ?_ GE300.out | refine below_set ?_ GE314.out) | exact HB.out))⟩)
    rintro ⟨v312, gb314⟩ w33 ⟨hS_, h0_, h1_, h2_, h3_, h4_, h5_, h6_, h7_, h8_, h9_, h10_, h11_, h12_, h13_, h14_, h15_, h16_, h17_, h18_⟩
    have n0_ : Aside0 (Kd.R (Kd.int .u32) 37 w33 w.heap.size (fun k_ => some k_ ≠ (v312 : Value).ownBlock) (.slice Ao27 t301.length co27) t301) := ⟨h0_⟩
    have n1_ : Aside0 (Kd.V (Kd.int .u32) 37 w33 w.heap.size (fun k_ => some k_ ≠ (.slice Ao27 t301.length co27 : Value).ownBlock ∧ some k_ ≠ (v312 : Value).ownBlock ∧ k_ ≠ gb297 ∧ k_ ≠ gb298 ∧ k_ ≠ gb299 ∧ k_ ≠ gb300 ∧ k_ ≠ gb314) v305 t304) := ⟨h1_⟩
    have n2_ : Aside0 (Kd.R (Kd.int .u32) 37 w33 w.heap.size (fun k_ => some k_ ≠ (.slice Ao27 t301.length co27 : Value).ownBlock) v312 t311) := ⟨h2_⟩
    have n3_ : Aside0 (w33.heap[gb297]? = some (.cells #[.bool a0_0, .slice A0_1 l0_1.length c0_1] 25 (0, 0))) := ⟨h3_⟩
    have n4_ : Aside0 (w33.heap[gb298]? = some (.cells #[.bool a1_0, .slice A1_1 l1_1.length c1_1] 25 (0, 0))) := ⟨h4_⟩
    have n5_ : Aside0 (w33.heap[gb299]? = some (.cells #[.bool false, .slice none 0 0] 25 (0, 0))) := ⟨h5_⟩
    have n6_ : Aside0 (w33.heap[gb300]? = some (.cells #[.bool false, .slice none 0 0] 25 (0, 0))) := ⟨h6_⟩
    have n7_ : Aside0 (w33.heap[gb314]? = some (.cells #[.bool false, .slice none 0 0] 25 (0, 0))) := ⟨h7_⟩
    have n8_ : Aside0 (w.heap.size ≤ gb314) := ⟨h8_⟩
    have n9_ : Aside0 (w.heap.size ≤ gb314) := ⟨h9_⟩
    have n10_ : Aside0 (gb297 ≠ gb314) := ⟨h10_⟩
    have n11_ : Aside0 (gb314 ≠ gb297) := ⟨h11_⟩
    have n12_ : Aside0 (gb298 ≠ gb314) := ⟨h12_⟩
    have n13_ : Aside0 (gb314 ≠ gb298) := ⟨h13_⟩
    have n14_ : Aside0 (gb299 ≠ gb314) := ⟨h14_⟩
    have n15_ : Aside0 (gb314 ≠ gb299) := ⟨h15_⟩
    have n16_ : Aside0 (gb300 ≠ gb314) := ⟨h16_⟩
    have n17_ : Aside0 (gb314 ≠ gb300) := ⟨h17_⟩
    have n18_ : Aside0 (Below w.heap.size w w33) := ⟨h18_⟩
    clear HO303
    clear HO306
    clear BK297
    clear BK298
    clear BK299
    clear BK300
    clear HB
    clear h0_ h1_ h2_ h3_ h4_ h5_ h6_ h7_ h8_ h9_ h10_ h11_ h12_ h13_ h14_ h15_ h16_ h17_ h18_
    have HO303 := n0_
    have HO306 := n1_
    have HO313 := n2_
    have BK297 := n3_
    have BK298 := n4_
    have BK299 := n5_
    have BK300 := n6_
    have BK314 := n7_
    have GW314 := n8_
    have GE314 := n9_
    have NB297_314 := n10_
    have NB314_297 := n11_
    have NB298_314 := n12_
    have NB314_298 := n13_
    have NB299_314 := n14_
    have NB314_299 := n15_
    have NB300_314 := n16_
    have NB314_300 := n17_
    have HB := n18_
    clear n0_ n1_ n2_ n3_ n4_ n5_ n6_ n7_ n8_ n9_ n10_ n11_ n12_ n13_ n14_ n15_ n16_ n17_ n18_
    have hHeld : w33.cell? ⟨gb297, 0, none⟩ = some (.bool a0_0) ∧ w33.cell? ⟨gb297, 1, none⟩ = some (.slice A0_1 l0_1.length c0_1) ∧ w33.cell? ⟨gb298, 0, none⟩ = some (.bool a1_0) ∧ w33.cell? ⟨gb298, 1, none⟩ = some (.slice A1_1 l1_1.length c1_1) := hS_
    obtain ⟨Ao35, co35, eo35⟩ := Kd.R_slice HO313.out
    (first | subst eo35 | (injection eo35 with f1_ f2_ f3_; have f4_ := f1_.symm; have f5_ := f3_.symm; clear f1_ f2_ f3_; subst f4_; subst f5_))
    refine norm_ (a' := ?_) ?_ ?_
    rotate_left
    · simp only [putAll, Act.put, List.setIfInBounds_toArray, List.set_cons_zero, List.set_cons_succ]
      rfl
    refine one_ (i := 9) (N := none) #[true, true, true, true, true, true, true, true, true, true] rfl rfl (one_of HT_.out (by kernel_rfl)) (by decide) (fun K hK => ?_)
    have hs34 : w33.cell? ⟨gb314, 0, none⟩ = some (.bool false) := (blk_cell BK314.out 0).trans rfl
    have hfs34 := blk_frozen BK314.out 0
    have hns34_0 := NB297_314.out
    have hns34_1 := NB298_314.out
    have hns34_2 := NB299_314.out
    have hns34_3 := NB300_314.out
    have hms34_0 := NB314_297.out
    have hms34_1 := NB314_298.out
    have hms34_2 := NB314_299.out
    have hms34_3 := NB314_300.out
    have hs36 : w33.cell? ⟨gb314, 1, none⟩ = some (.slice none 0 0) := (blk_cell BK314.out 1).trans rfl
    have hfs36 := blk_frozen BK314.out 1
    have hns36_0 := NB297_314.out
    have hns36_1 := NB298_314.out
    have hns36_2 := NB299_314.out
    have hns36_3 := NB300_314.out
    have hms36_0 := NB314_297.out
    have hms36_1 := NB314_298.out
    have hms36_2 := NB314_299.out
    have hms36_3 := NB314_300.out
    refine skip_ (w1 := ?_) (by rfl) rfl ?_ ?_
    rotate_left
    · go_simp
      rfl
    refine hK.out _ _ ⟨((cell_far (p := ⟨gb314, _, none⟩) NB297_314.out _).trans (((cell_far (p := ⟨gb314, _, none⟩) NB297_314.out _).trans (hHeld.1)))), ((cell_far (p := ⟨gb314, _, none⟩) NB297_314.out _).trans (((cell_far (p := ⟨gb314, _, none⟩) NB297_314.out _).trans (hHeld.2.1)))), ((cell_far (p := ⟨gb314, _, none⟩) NB298_314.out _).trans (((cell_far (p := ⟨gb314, _, none⟩) NB298_314.out _).trans (hHeld.2.2.1)))), ((cell_far (p := ⟨gb314, _, none⟩) NB298_314.out _).trans (((cell_far (p := ⟨gb314, _, none⟩) NB298_314.out _).trans (hHeld.2.2.2))))⟩ (fun hHeld => ?_)
    clear hK K
    refine done_ (done_of HT_.out (by kernel_rfl)) ?_
    try go_wp2
    have n0_ : Aside0 (Kd.R (Kd.int .u32) 37 ((w33.setCell ⟨gb314, 0, none⟩ (.bool t310)).setCell ⟨gb314, 1, none⟩ (.slice Ao35 t311.length co35)) w.heap.size (fun k_ => some k_ ≠ (.slice Ao35 t311.length co35 : Value).ownBlock) (.slice Ao27 t301.length co27) t301) := ⟨by (with_reducible repeat (first | apply Kd.R_alloc | apply Kd.R_drewN | apply Kd.R_drew)); exact Kd.R_mono (Kd.R_far (p := ⟨gb314, 1, none⟩) (Kd.R_far (p := ⟨gb314, 0, none⟩) (Kd.R_types HO303.out BK314.out (by decide)) (fun _ hk => hk.2) (.bool t310)) (fun _ hk => hk.2) (.slice Ao35 t311.length co35)) (fun _ hk => hk.1)⟩
    have n1_ : Aside0 (Kd.V (Kd.int .u32) 37 ((w33.setCell ⟨gb314, 0, none⟩ (.bool t310)).setCell ⟨gb314, 1, none⟩ (.slice Ao35 t311.length co35)) w.heap.size (fun k_ => some k_ ≠ (.slice Ao27 t301.length co27 : Value).ownBlock ∧ some k_ ≠ (.slice Ao35 t311.length co35 : Value).ownBlock ∧ k_ ≠ gb297 ∧ k_ ≠ gb298 ∧ k_ ≠ gb299 ∧ k_ ≠ gb300 ∧ k_ ≠ gb314) v305 t304) := ⟨by (with_reducible repeat (first | apply Kd.V_alloc | apply Kd.V_drewN | apply Kd.V_drew)); exact Kd.V_mono (Kd.V_far (p := ⟨gb314, 1, none⟩) (Kd.V_far (p := ⟨gb314, 0, none⟩) (Kd.V_mono HO306.out (fun k_ hk => (⟨hk, hk.2.2.2.2.2.2⟩ : _ ∧ k_ ≠ gb314))) (fun _ hk => hk.2) (.bool t310)) (fun _ hk => hk.2) (.slice Ao35 t311.length co35)) (fun _ hk => ⟨hk.1.1, ⟨hk.1.2.1, ⟨hk.1.2.2.1, ⟨hk.1.2.2.2.1, ⟨hk.1.2.2.2.2.1, ⟨hk.1.2.2.2.2.2.1, hk.1.2.2.2.2.2.2⟩⟩⟩⟩⟩⟩)⟩
    have n2_ : Aside0 (Kd.R (Kd.int .u32) 37 ((w33.setCell ⟨gb314, 0, none⟩ (.bool t310)).setCell ⟨gb314, 1, none⟩ (.slice Ao35 t311.length co35)) w.heap.size (fun k_ => some k_ ≠ (.slice Ao27 t301.length co27 : Value).ownBlock) (.slice Ao35 t311.length co35) t311) := ⟨by (with_reducible repeat (first | apply Kd.R_alloc | apply Kd.R_drewN | apply Kd.R_drew)); exact Kd.R_mono (Kd.R_far (p := ⟨gb314, 1, none⟩) (Kd.R_far (p := ⟨gb314, 0, none⟩) (Kd.R_types HO313.out BK314.out (by decide)) (fun _ hk => hk.2) (.bool t310)) (fun _ hk => hk.2) (.slice Ao35 t311.length co35)) (fun _ hk => hk.1)⟩
    have n3_ : Aside0 (((w33.setCell ⟨gb314, 0, none⟩ (.bool t310)).setCell ⟨gb314, 1, none⟩ (.slice Ao35 t311.length co35)).heap[gb297]? = some (.cells #[.bool a0_0, .slice A0_1 l0_1.length c0_1] 25 (0, 0))) := ⟨by (with_reducible repeat (first | refine blk_drewN ?_ _ | refine blk_drew ?_ | refine blk_alloc ?_ _)); refine blk_far ?_ NB297_314.out _; (with_reducible repeat (first | refine blk_drewN ?_ _ | refine blk_drew ?_ | refine blk_alloc ?_ _)); refine blk_far ?_ NB297_314.out _; (with_reducible repeat (first | refine blk_drewN ?_ _ | refine blk_drew ?_ | refine blk_alloc ?_ _)); exact BK297.out⟩
    have n4_ : Aside0 (((w33.setCell ⟨gb314, 0, none⟩ (.bool t310)).setCell ⟨gb314, 1, none⟩ (.slice Ao35 t311.length co35)).heap[gb298]? = some (.cells #[.bool a1_0, .slice A1_1 l1_1.length c1_1] 25 (0, 0))) := ⟨by (with_reducible repeat (first | refine blk_drewN ?_ _ | refine blk_drew ?_ | refine blk_alloc ?_ _)); refine blk_far ?_ NB298_314.out _; (with_reducible repeat (first | refine blk_drewN ?_ _ | refine blk_drew ?_ | refine blk_alloc ?_ _)); refine blk_far ?_ NB298_314.out _; (with_reducible repeat (first | refine blk_drewN ?_ _ | refine blk_drew ?_ | refine blk_alloc ?_ _)); exact BK298.out⟩
    have n5_ : Aside0 (((w33.setCell ⟨gb314, 0, none⟩ (.bool t310)).setCell ⟨gb314, 1, none⟩ (.slice Ao35 t311.length co35)).heap[gb299]? = some (.cells #[.bool false, .slice none 0 0] 25 (0, 0))) := ⟨by (with_reducible repeat (first | refine blk_drewN ?_ _ | refine blk_drew ?_ | refine blk_alloc ?_ _)); refine blk_far ?_ NB299_314.out _; (with_reducible repeat (first | refine blk_drewN ?_ _ | refine blk_drew ?_ | refine blk_alloc ?_ _)); refine blk_far ?_ NB299_314.out _; (with_reducible repeat (first | refine blk_drewN ?_ _ | refine blk_drew ?_ | refine blk_alloc ?_ _)); exact BK299.out⟩
    have n6_ : Aside0 (((w33.setCell ⟨gb314, 0, none⟩ (.bool t310)).setCell ⟨gb314, 1, none⟩ (.slice Ao35 t311.length co35)).heap[gb300]? = some (.cells #[.bool false, .slice none 0 0] 25 (0, 0))) := ⟨by (with_reducible repeat (first | refine blk_drewN ?_ _ | refine blk_drew ?_ | refine blk_alloc ?_ _)); refine blk_far ?_ NB300_314.out _; (with_reducible repeat (first | refine blk_drewN ?_ _ | refine blk_drew ?_ | refine blk_alloc ?_ _)); refine blk_far ?_ NB300_314.out _; (with_reducible repeat (first | refine blk_drewN ?_ _ | refine blk_drew ?_ | refine blk_alloc ?_ _)); exact BK300.out⟩
    have n7_ : Aside0 (((w33.setCell ⟨gb314, 0, none⟩ (.bool t310)).setCell ⟨gb314, 1, none⟩ (.slice Ao35 t311.length co35)).heap[gb314]? = some (.cells #[.bool t310, .slice Ao35 t311.length co35] 25 (0, 0))) := ⟨by (with_reducible repeat (first | refine blk_drewN ?_ _ | refine blk_drew ?_ | refine blk_alloc ?_ _)); refine blk_put (cs := #[.bool t310, .slice none 0 0]) ?_ 1 _ rfl; (with_reducible repeat (first | refine blk_drewN ?_ _ | refine blk_drew ?_ | refine blk_alloc ?_ _)); refine blk_put (cs := #[.bool false, .slice none 0 0]) ?_ 0 _ rfl; (with_reducible repeat (first | refine blk_drewN ?_ _ | refine blk_drew ?_ | refine blk_alloc ?_ _)); exact BK314.out⟩
    have n8_ : Aside0 (Below w.heap.size w ((w33.setCell ⟨gb314, 0, none⟩ (.bool t310)).setCell ⟨gb314, 1, none⟩ (.slice Ao35 t311.length co35))) := ⟨by repeat (first | (with_reducible first | exact HB.out | apply below_alloc | apply pw_below_drewN | apply below_drew1 | refine below_set ?_ GE297.out | refine below_set ?_ GE298.out | refine below_set ?_ GE299.out | refine below_set ?_ GE300.out | refine below_set ?_ GE314.out) | exact HB.out)⟩
    (try clear HO303)
    (try clear HO306)
    (try clear HO313)
    (try clear BK297)
    (try clear BK298)
    (try clear BK299)
    (try clear BK300)
    (try clear BK314)
    (try clear HB)
    generalize ((w33.setCell ⟨gb314, 0, none⟩ (.bool t310)).setCell ⟨gb314, 1, none⟩ (.slice Ao35 t311.length co35)) = w37 at n0_ n1_ n2_ n3_ n4_ n5_ n6_ n7_ n8_ ⊢
    have HO303 := n0_
    have HO306 := n1_
    have HO313 := n2_
    have BK297 := n3_
    have BK298 := n4_
    have BK299 := n5_
    have BK300 := n6_
    have BK314 := n7_
    have HB := n8_
    clear n0_ n1_ n2_ n3_ n4_ n5_ n6_ n7_ n8_
    have n0_ := Aside0.mk (Kd.R_drew HO303.out)
    have n1_ := Aside0.mk (Kd.V_drew HO306.out)
    have n2_ := Aside0.mk (Kd.R_drew HO313.out)
    have n3_ := Aside0.mk (blk_drew BK297.out)
    have n4_ := Aside0.mk (blk_drew BK298.out)
    have n5_ := Aside0.mk (blk_drew BK299.out)
    have n6_ := Aside0.mk (blk_drew BK300.out)
    have n7_ := Aside0.mk (blk_drew BK314.out)
    have n8_ := Aside0.mk (below_drew1 HB.out)
    clear HO303
    clear HO306
    clear HO313
    clear BK297
    clear BK298
    clear BK299
    clear BK300
    clear BK314
    clear HB
    have HO303 := n0_
    have HO306 := n1_
    have HO313 := n2_
    have BK297 := n3_
    have BK298 := n4_
    have BK299 := n5_
    have BK300 := n6_
    have BK314 := n7_
    have HB := n8_
    clear n0_ n1_ n2_ n3_ n4_ n5_ n6_ n7_ n8_
    refine start_ (n := 7) (S := fun w' => w'.cell? ⟨gb314, 0, none⟩ = some (.bool t310) ∧ w'.cell? ⟨gb314, 1, none⟩ = some (.slice Ao35 t311.length co35) ∧ w'.cell? ⟨gb298, 0, none⟩ = some (.bool a1_0) ∧ w'.cell? ⟨gb298, 1, none⟩ = some (.slice A1_1 l1_1.length c1_1)) (ds := []) #[false, false, false, false, false, false, false] (by kernel_rfl) rfl rfl ⟨(blk_cell BK314.out 0).trans rfl, (blk_cell BK314.out 1).trans rfl, (blk_cell BK298.out 0).trans rfl, (blk_cell BK298.out 1).trans rfl⟩ (fun hHeld => ?_)
    generalize w37.drew = w38 at HO303 HO306 HO313 BK297 BK298 BK299 BK300 BK314 HB hHeld ⊢
    refine pure_ (i := 0) (N := some 35) (v := ?_) (a' := ?_) #[true, false, false, false, false, false, false] rfl rfl (by kernel_rfl) (fun _ _ _ h => h) (Or.inl ⟨by rfl, ?_⟩) ?_ ?_
    rotate_left
    · intro w'
      go_simp
      with_reducible rfl
    rotate_left
    · simp only [Act.put, List.setIfInBounds_toArray, List.set_cons_zero, List.set_cons_succ, i64_w, i32_w]
      rfl
    refine take_ (i := 3) (N := some 38) (v := ?_) (a' := ?_) #[true, false, false, true, false, false, false] rfl rfl (by kernel_rfl) (fun _ _ _ h => h) (Or.inl ⟨by rfl, ?_⟩) hHeld ?_ ?_
    rotate_left
    · rintro w' ⟨s0, s1, s2, s3⟩
      go_simp
      with_reducible rfl
    rotate_left
    · simp only [Act.put, List.setIfInBounds_toArray, List.set_cons_zero, List.set_cons_succ, i64_w, i32_w]
      rfl
    refine one_ (i := 1) (N := some 36) #[true, true, false, true, false, false, false] rfl rfl (by kernel_rfl) (by decide) (fun K hK => ?_)
    refine Clo.goesF_ Try.func83 (by kernel_rfl) rfl #[.pointer (some ⟨gb297, 0, none⟩), .pointer (some ⟨gb298, 0, none⟩), .pointer (some ⟨gb314, 0, none⟩)] (by rfl) rfl rfl (by rfl) ?_
    with_reducible refine (whole_Floor_cl1.calls k gb297 gb298 gb314 a0_0 _ _ l0_1 a1_0 _ _ l1_1 t310 _ _ t311 t315 t316 _ ?side1 ?side2 ?side3 ?side4 ?side5 ?side6 BK297.out BK298.out BK314.out A8.out).mono ?_
    (case side1 => repeat (first | exact (Kd.C_below HR0_1.out HB.out) | (with_reducible refine Kd.C_alloc ?_ _) | (with_reducible refine Kd.C_drewN ?_ _) | (with_reducible refine Kd.C_drew ?_)))
    (case side2 => exact HC0_1.out)
    (case side3 => repeat (first | exact (Kd.C_below HR1_1.out HB.out) | (with_reducible refine Kd.C_alloc ?_ _) | (with_reducible refine Kd.C_drewN ?_ _) | (with_reducible refine Kd.C_drew ?_)))
    (case side4 => exact HC1_1.out)
    (case side5 => repeat (first | exact (Kd.R_reads' HO313.out).2.2 | (with_reducible refine Kd.C_alloc ?_ _) | (with_reducible refine Kd.C_drewN ?_ _) | (with_reducible refine Kd.C_drew ?_)))
    (case side6 => exact (Kd.R_reads' HO313.out).2.1)
    rintro e w39 ⟨v317, rfl, ho0, hb⟩
    refine ⟨_, rfl, ?_⟩
    have n0_ := Aside0.mk (Kd.R_elder' (by (with_reducible repeat (first | apply Kd.R_alloc | apply Kd.R_drewN | apply Kd.R_drew)); exact HO303.out) (Kd.R_base ho0) hb)
    have n1_ := Aside0.mk (Kd.V_elder' (by (with_reducible repeat (first | apply Kd.V_alloc | apply Kd.V_drewN | apply Kd.V_drew)); exact HO306.out) (Kd.R_base ho0) hb)
    have n2_ := Aside0.mk (Kd.R_elder' (by (with_reducible repeat (first | apply Kd.R_alloc | apply Kd.R_drewN | apply Kd.R_drew)); exact HO313.out) (Kd.R_base ho0) hb)
    have n3_ := Aside0.mk (Kd.R_lower (Kd.R_new' (Kd.R_new' ho0 (Kd.R_lt (by (with_reducible repeat (first | apply Kd.R_alloc | apply Kd.R_drewN | apply Kd.R_drew)); exact HO303.out))) (Kd.R_lt (by (with_reducible repeat (first | apply Kd.R_alloc | apply Kd.R_drewN | apply Kd.R_drew)); exact HO313.out))) (below_size (by repeat (first | (with_reducible first | exact HB.out | apply below_alloc | apply pw_below_drewN | apply below_drew1 | refine below_set ?_ GE297.out | refine below_set ?_ GE298.out | refine below_set ?_ GE299.out | refine below_set ?_ GE300.out | refine below_set ?_ GE314.out) | exact HB.out))))
    have n4_ := Aside0.mk (blk_below (g := gb297) (o := .cells #[.bool a0_0, .slice A0_1 l0_1.length c0_1] 25 (0, 0)) (by (with_reducible repeat (first | refine blk_drewN ?_ _ | refine blk_drew ?_ | refine blk_alloc ?_ _)); exact BK297.out) hb)
    have n5_ := Aside0.mk (blk_below (g := gb298) (o := .cells #[.bool a1_0, .slice A1_1 l1_1.length c1_1] 25 (0, 0)) (by (with_reducible repeat (first | refine blk_drewN ?_ _ | refine blk_drew ?_ | refine blk_alloc ?_ _)); exact BK298.out) hb)
    have n6_ := Aside0.mk (blk_below (g := gb299) (o := .cells #[.bool false, .slice none 0 0] 25 (0, 0)) (by (with_reducible repeat (first | refine blk_drewN ?_ _ | refine blk_drew ?_ | refine blk_alloc ?_ _)); exact BK299.out) hb)
    have n7_ := Aside0.mk (blk_below (g := gb300) (o := .cells #[.bool false, .slice none 0 0] 25 (0, 0)) (by (with_reducible repeat (first | refine blk_drewN ?_ _ | refine blk_drew ?_ | refine blk_alloc ?_ _)); exact BK300.out) hb)
    have n8_ := Aside0.mk (blk_below (g := gb314) (o := .cells #[.bool t310, .slice Ao35 t311.length co35] 25 (0, 0)) (by (with_reducible repeat (first | refine blk_drewN ?_ _ | refine blk_drew ?_ | refine blk_alloc ?_ _)); exact BK314.out) hb)
    have n9_ := Aside0.mk (below_step (by repeat (first | (with_reducible first | exact HB.out | apply below_alloc | apply pw_below_drewN | apply below_drew1 | refine below_set ?_ GE297.out | refine below_set ?_ GE298.out | refine below_set ?_ GE299.out | refine below_set ?_ GE300.out | refine below_set ?_ GE314.out) | exact HB.out)) hb)
    clear HO303
    clear HO306
    clear HO313
    clear BK297
    clear BK298
    clear BK299
    clear BK300
    clear BK314
    clear HB
    have HO303 := n0_
    have HO306 := n1_
    have HO313 := n2_
    have HO318 := n3_
    have BK297 := n4_
    have BK298 := n5_
    have BK299 := n6_
    have BK300 := n7_
    have BK314 := n8_
    have HB := n9_
    clear n0_ n1_ n2_ n3_ n4_ n5_ n6_ n7_ n8_ n9_
    (try clear hb)
    (try clear ho0)
    obtain ⟨Ao40, co40, eo40⟩ := Kd.R_slice HO318.out
    (first | subst eo40 | (injection eo40 with f1_ f2_ f3_; have f4_ := f1_.symm; have f5_ := f3_.symm; clear f1_ f2_ f3_; subst f4_; subst f5_))
    refine hK.out _ _ ⟨(blk_cell BK314.out 0).trans rfl, (blk_cell BK314.out 1).trans rfl, (blk_cell BK298.out 0).trans rfl, (blk_cell BK298.out 1).trans rfl⟩ (fun hHeld => ?_)
    clear hK K
    refine norm_ (a' := ?_) ?_ ?_
    rotate_left
    · show Act.put _ (some 36) _ = _
      simp only [Act.put, List.setIfInBounds_toArray, List.set_cons_zero, List.set_cons_succ, i64_w, i32_w]
      rfl
    refine one_ (i := 2) (N := some 37) #[true, true, true, true, false, false, false] rfl rfl (by kernel_rfl) (by decide) (fun K hK => ?_)
    refine goes_ Try.func31 (by kernel_rfl) rfl #[.agg #[.bool t315, .slice Ao40 t316.length co40]] (by rfl) rfl rfl (by (try simp only [List.map_toArray, List.map_cons, List.map_nil]); first | done | rfl | (simp only [List.length_drop, List.length_take]; rfl)) ?_
    with_reducible refine (whole_Sign.calls k t315 _ _ t316 t319 _ ?side1 ?side2 A9.out).mono ?_
    (case side1 => repeat (first | exact (Kd.R_reads' HO318.out).2.2 | (with_reducible refine Kd.C_alloc ?_ _) | (with_reducible refine Kd.C_drewN ?_ _) | (with_reducible refine Kd.C_drew ?_)))
    (case side2 => exact (Kd.R_reads' HO318.out).2.1)
    rintro e w41 ⟨rfl, hb⟩
    refine ⟨_, rfl, ?_⟩
    have n0_ := Aside0.mk (Kd.R_below (by (with_reducible repeat (first | apply Kd.R_alloc | apply Kd.R_drewN | apply Kd.R_drew)); exact HO303.out) hb)
    have n1_ := Aside0.mk (Kd.V_below (by (with_reducible repeat (first | apply Kd.V_alloc | apply Kd.V_drewN | apply Kd.V_drew)); exact HO306.out) hb)
    have n2_ := Aside0.mk (Kd.R_below (by (with_reducible repeat (first | apply Kd.R_alloc | apply Kd.R_drewN | apply Kd.R_drew)); exact HO313.out) hb)
    have n3_ := Aside0.mk (Kd.R_below (by (with_reducible repeat (first | apply Kd.R_alloc | apply Kd.R_drewN | apply Kd.R_drew)); exact HO318.out) hb)
    have n4_ := Aside0.mk (blk_below (g := gb297) (o := .cells #[.bool a0_0, .slice A0_1 l0_1.length c0_1] 25 (0, 0)) (by (with_reducible repeat (first | refine blk_drewN ?_ _ | refine blk_drew ?_ | refine blk_alloc ?_ _)); exact BK297.out) hb)
    have n5_ := Aside0.mk (blk_below (g := gb298) (o := .cells #[.bool a1_0, .slice A1_1 l1_1.length c1_1] 25 (0, 0)) (by (with_reducible repeat (first | refine blk_drewN ?_ _ | refine blk_drew ?_ | refine blk_alloc ?_ _)); exact BK298.out) hb)
    have n6_ := Aside0.mk (blk_below (g := gb299) (o := .cells #[.bool false, .slice none 0 0] 25 (0, 0)) (by (with_reducible repeat (first | refine blk_drewN ?_ _ | refine blk_drew ?_ | refine blk_alloc ?_ _)); exact BK299.out) hb)
    have n7_ := Aside0.mk (blk_below (g := gb300) (o := .cells #[.bool false, .slice none 0 0] 25 (0, 0)) (by (with_reducible repeat (first | refine blk_drewN ?_ _ | refine blk_drew ?_ | refine blk_alloc ?_ _)); exact BK300.out) hb)
    have n8_ := Aside0.mk (blk_below (g := gb314) (o := .cells #[.bool t310, .slice Ao35 t311.length co35] 25 (0, 0)) (by (with_reducible repeat (first | refine blk_drewN ?_ _ | refine blk_drew ?_ | refine blk_alloc ?_ _)); exact BK314.out) hb)
    have n9_ := Aside0.mk (below_step (by repeat (first | (with_reducible first | exact HB.out | apply below_alloc | apply pw_below_drewN | apply below_drew1 | refine below_set ?_ GE297.out | refine below_set ?_ GE298.out | refine below_set ?_ GE299.out | refine below_set ?_ GE300.out | refine below_set ?_ GE314.out) | exact HB.out)) hb)
    clear HO303
    clear HO306
    clear HO313
    clear HO318
    clear BK297
    clear BK298
    clear BK299
    clear BK300
    clear BK314
    clear HB
    have HO303 := n0_
    have HO306 := n1_
    have HO313 := n2_
    have HO318 := n3_
    have BK297 := n4_
    have BK298 := n5_
    have BK299 := n6_
    have BK300 := n7_
    have BK314 := n8_
    have HB := n9_
    clear n0_ n1_ n2_ n3_ n4_ n5_ n6_ n7_ n8_ n9_
    (try clear hb)
    refine hK.out _ _ ⟨(blk_cell BK314.out 0).trans rfl, (blk_cell BK314.out 1).trans rfl, (blk_cell BK298.out 0).trans rfl, (blk_cell BK298.out 1).trans rfl⟩ (fun hHeld => ?_)
    clear hK K
    refine norm_ (a' := ?_) ?_ ?_
    rotate_left
    · show Act.put _ (some 37) _ = _
      simp only [Act.put, List.setIfInBounds_toArray, List.set_cons_zero, List.set_cons_succ, i64_w, i32_w]
      rfl
    refine one_ (i := 4) (N := some 39) #[true, true, true, true, true, false, false] rfl rfl (by kernel_rfl) (by decide) (fun K hK => ?_)
    refine goes_ Try.func31 (by kernel_rfl) rfl #[.agg #[.bool a1_0, .slice A1_1 l1_1.length c1_1]] (by rfl) rfl rfl (by (try simp only [List.map_toArray, List.map_cons, List.map_nil]); first | done | rfl | (simp only [List.length_drop, List.length_take]; rfl)) ?_
    with_reducible refine (whole_Sign.calls k a1_0 _ _ l1_1 t320 _ ?side1 ?side2 A10.out).mono ?_
    (case side1 => repeat (first | exact (Kd.C_below HR1_1.out HB.out) | (with_reducible refine Kd.C_alloc ?_ _) | (with_reducible refine Kd.C_drewN ?_ _) | (with_reducible refine Kd.C_drew ?_)))
    (case side2 => exact HC1_1.out)
    rintro e w42 ⟨rfl, hb⟩
    refine ⟨_, rfl, ?_⟩
    have n0_ := Aside0.mk (Kd.R_below (by (with_reducible repeat (first | apply Kd.R_alloc | apply Kd.R_drewN | apply Kd.R_drew)); exact HO303.out) hb)
    have n1_ := Aside0.mk (Kd.V_below (by (with_reducible repeat (first | apply Kd.V_alloc | apply Kd.V_drewN | apply Kd.V_drew)); exact HO306.out) hb)
    have n2_ := Aside0.mk (Kd.R_below (by (with_reducible repeat (first | apply Kd.R_alloc | apply Kd.R_drewN | apply Kd.R_drew)); exact HO313.out) hb)
    have n3_ := Aside0.mk (Kd.R_below (by (with_reducible repeat (first | apply Kd.R_alloc | apply Kd.R_drewN | apply Kd.R_drew)); exact HO318.out) hb)
    have n4_ := Aside0.mk (blk_below (g := gb297) (o := .cells #[.bool a0_0, .slice A0_1 l0_1.length c0_1] 25 (0, 0)) (by (with_reducible repeat (first | refine blk_drewN ?_ _ | refine blk_drew ?_ | refine blk_alloc ?_ _)); exact BK297.out) hb)
    have n5_ := Aside0.mk (blk_below (g := gb298) (o := .cells #[.bool a1_0, .slice A1_1 l1_1.length c1_1] 25 (0, 0)) (by (with_reducible repeat (first | refine blk_drewN ?_ _ | refine blk_drew ?_ | refine blk_alloc ?_ _)); exact BK298.out) hb)
    have n6_ := Aside0.mk (blk_below (g := gb299) (o := .cells #[.bool false, .slice none 0 0] 25 (0, 0)) (by (with_reducible repeat (first | refine blk_drewN ?_ _ | refine blk_drew ?_ | refine blk_alloc ?_ _)); exact BK299.out) hb)
    have n7_ := Aside0.mk (blk_below (g := gb300) (o := .cells #[.bool false, .slice none 0 0] 25 (0, 0)) (by (with_reducible repeat (first | refine blk_drewN ?_ _ | refine blk_drew ?_ | refine blk_alloc ?_ _)); exact BK300.out) hb)
    have n8_ := Aside0.mk (blk_below (g := gb314) (o := .cells #[.bool t310, .slice Ao35 t311.length co35] 25 (0, 0)) (by (with_reducible repeat (first | refine blk_drewN ?_ _ | refine blk_drew ?_ | refine blk_alloc ?_ _)); exact BK314.out) hb)
    have n9_ := Aside0.mk (below_step (by repeat (first | (with_reducible first | exact HB.out | apply below_alloc | apply pw_below_drewN | apply below_drew1 | refine below_set ?_ GE297.out | refine below_set ?_ GE298.out | refine below_set ?_ GE299.out | refine below_set ?_ GE300.out | refine below_set ?_ GE314.out) | exact HB.out)) hb)
    clear HO303
    clear HO306
    clear HO313
    clear HO318
    clear BK297
    clear BK298
    clear BK299
    clear BK300
    clear BK314
    clear HB
    have HO303 := n0_
    have HO306 := n1_
    have HO313 := n2_
    have HO318 := n3_
    have BK297 := n4_
    have BK298 := n5_
    have BK299 := n6_
    have BK300 := n7_
    have BK314 := n8_
    have HB := n9_
    clear n0_ n1_ n2_ n3_ n4_ n5_ n6_ n7_ n8_ n9_
    (try clear hb)
    refine hK.out _ _ ⟨(blk_cell BK314.out 0).trans rfl, (blk_cell BK314.out 1).trans rfl, (blk_cell BK298.out 0).trans rfl, (blk_cell BK298.out 1).trans rfl⟩ (fun hHeld => ?_)
    clear hK K
    refine norm_ (a' := ?_) ?_ ?_
    rotate_left
    · show Act.put _ (some 39) _ = _
      simp only [Act.put, List.setIfInBounds_toArray, List.set_cons_zero, List.set_cons_succ, i64_w, i32_w]
      rfl
    refine pure_ (i := 5) (N := some 40) (v := ?_) (a' := ?_) #[true, true, true, true, true, true, false] rfl rfl (by kernel_rfl) (fun _ _ _ h => h) (Or.inl ⟨by rfl, ?_⟩) ?_ ?_
    rotate_left
    · intro w'
      go_simp
      with_reducible rfl
    rotate_left
    · simp only [Act.put, List.setIfInBounds_toArray, List.set_cons_zero, List.set_cons_succ, i64_w, i32_w]
      rfl
    refine pure_ (i := 6) (N := some 41) (v := ?_) (a' := ?_) #[true, true, true, true, true, true, true] rfl rfl (by kernel_rfl) (fun _ _ _ h => h) (Or.inl ⟨by rfl, ?_⟩) ?_ ?_
    rotate_left
    · intro w'
      go_simp
      with_reducible rfl
    rotate_left
    · simp only [Act.put, List.setIfInBounds_toArray, List.set_cons_zero, List.set_cons_succ, i64_w, i32_w]
      rfl
    refine done_ (by kernel_rfl) ?_
    have H := HTEST.out
    clear HTEST
    by_cases c11 : (wrap64 (t319 * t320)) < 0
    · rw [if_pos c11] at H
      have c11b0 : decide ((wrap64 (t319 * t320)) < 0) = true := decide_eq_true c11
      clear c11
      replace H := Option.bind_eq_some_iff.mp H
      obtain ⟨⟨t321, t322⟩, A120, H⟩ := H
      replace H : ((whole_Sub.f k t310 t311 t321 t322).bind fun bt325 => ((whole_Floor_cl1.f k a0_0 l0_1 a1_0 l1_1 bt325.1 bt325.2).bind fun bt329 => (some (bt325.1, bt325.2, bt329.1, bt329.2, 0)))) = some (r1, r2, r3, r4, r5) := H
      have A12 := Aside0.mk A120
      clear A120
      replace H := Option.bind_eq_some_iff.mp H
      obtain ⟨⟨t325, t326⟩, A130, H⟩ := H
      replace H : ((whole_Floor_cl1.f k a0_0 l0_1 a1_0 l1_1 t325 t326).bind fun bt329 => (some (t325, t326, bt329.1, bt329.2, 0))) = some (r1, r2, r3, r4, r5) := H
      have A13 := Aside0.mk A130
      clear A130
      replace H := Option.bind_eq_some_iff.mp H
      obtain ⟨⟨t329, t330⟩, A140, H⟩ := H
      replace H : (some (t325, t326, t329, t330, 0)) = some (r1, r2, r3, r4, r5) := H
      have A14 := Aside0.mk A140
      clear A140
      simp only [Option.some.injEq, Prod.mk.injEq] at H
      obtain ⟨rfl, rfl, rfl, rfl, rfl⟩ := H
      rw [c11b0]
      try go_wp2
      have n0_ := Aside0.mk (Kd.R_drew HO303.out)
      have n1_ := Aside0.mk (Kd.V_drew HO306.out)
      have n2_ := Aside0.mk (Kd.R_drew HO313.out)
      have n3_ := Aside0.mk (Kd.R_drew HO318.out)
      have n4_ := Aside0.mk (blk_drew BK297.out)
      have n5_ := Aside0.mk (blk_drew BK298.out)
      have n6_ := Aside0.mk (blk_drew BK299.out)
      have n7_ := Aside0.mk (blk_drew BK300.out)
      have n8_ := Aside0.mk (blk_drew BK314.out)
      have n9_ := Aside0.mk (below_drew1 HB.out)
      clear HO303
      clear HO306
      clear HO313
      clear HO318
      clear BK297
      clear BK298
      clear BK299
      clear BK300
      clear BK314
      clear HB
      have HO303 := n0_
      have HO306 := n1_
      have HO313 := n2_
      have HO318 := n3_
      have BK297 := n4_
      have BK298 := n5_
      have BK299 := n6_
      have BK300 := n7_
      have BK314 := n8_
      have HB := n9_
      clear n0_ n1_ n2_ n3_ n4_ n5_ n6_ n7_ n8_ n9_
      refine start_ (n := 4) (S := fun w' => w'.cell? ⟨gb314, 0, none⟩ = some (.bool t310) ∧ w'.cell? ⟨gb314, 1, none⟩ = some (.slice Ao35 t311.length co35)) (ds := [3]) #[false, false, false, false] (by kernel_rfl) rfl rfl ⟨(blk_cell BK314.out 0).trans rfl, (blk_cell BK314.out 1).trans rfl⟩ (fun hHeld => ?_)
      generalize w42.drew = w43 at HO303 HO306 HO313 HO318 BK297 BK298 BK299 BK300 BK314 HB hHeld ⊢
      refine take_ (i := 0) (N := some 42) (v := ?_) (a' := ?_) #[true, false, false, false] rfl rfl (by kernel_rfl) (fun _ _ _ h => h) (Or.inl ⟨by rfl, ?_⟩) hHeld ?_ ?_
      rotate_left
      · rintro w' ⟨s0, s1⟩
        go_simp
        with_reducible rfl
      rotate_left
      · simp only [Act.put, List.setIfInBounds_toArray, List.set_cons_zero, List.set_cons_succ, i64_w, i32_w]
        rfl
      refine one_ (i := 1) (N := some 43) #[true, true, false, false] rfl rfl (by kernel_rfl) (by decide) (fun K hK => ?_)
      refine goes_ Try.func37 (by kernel_rfl) rfl #[.int .i64 1] (by rfl) rfl rfl (by (try simp only [List.map_toArray, List.map_cons, List.map_nil]); first | done | rfl | (simp only [List.length_drop, List.length_take]; rfl)) ?_
      with_reducible refine (whole_Of.calls k 1 t321 t322 _ A12.out).mono ?_
      rintro e w44 ⟨v323, rfl, ho0, hb⟩
      refine ⟨_, rfl, ?_⟩
      have n0_ := Aside0.mk (Kd.R_elder' (by (with_reducible repeat (first | apply Kd.R_alloc | apply Kd.R_drewN | apply Kd.R_drew)); exact HO303.out) (Kd.R_base ho0) hb)
      have n1_ := Aside0.mk (Kd.V_elder' (by (with_reducible repeat (first | apply Kd.V_alloc | apply Kd.V_drewN | apply Kd.V_drew)); exact HO306.out) (Kd.R_base ho0) hb)
      have n2_ := Aside0.mk (Kd.R_elder' (by (with_reducible repeat (first | apply Kd.R_alloc | apply Kd.R_drewN | apply Kd.R_drew)); exact HO313.out) (Kd.R_base ho0) hb)
      have n3_ := Aside0.mk (Kd.R_elder' (by (with_reducible repeat (first | apply Kd.R_alloc | apply Kd.R_drewN | apply Kd.R_drew)); exact HO318.out) (Kd.R_base ho0) hb)
      have n4_ := Aside0.mk (Kd.R_lower (Kd.R_new' (Kd.R_new' (Kd.R_new' ho0 (Kd.R_lt (by (with_reducible repeat (first | apply Kd.R_alloc | apply Kd.R_drewN | apply Kd.R_drew)); exact HO303.out))) (Kd.R_lt (by (with_reducible repeat (first | apply Kd.R_alloc | apply Kd.R_drewN | apply Kd.R_drew)); exact HO313.out))) (Kd.R_lt (by (with_reducible repeat (first | apply Kd.R_alloc | apply Kd.R_drewN | apply Kd.R_drew)); exact HO318.out))) (below_size (by repeat (first | (with_reducible first | exact HB.out | apply below_alloc | apply pw_below_drewN | apply below_drew1 | refine below_set ?_ GE297.out | refine below_set ?_ GE298.out | refine below_set ?_ GE299.out | refine below_set ?_ GE300.out | refine below_set ?_ GE314.out) | exact HB.out))))
      have n5_ := Aside0.mk (blk_below (g := gb297) (o := .cells #[.bool a0_0, .slice A0_1 l0_1.length c0_1] 25 (0, 0)) (by (with_reducible repeat (first | refine blk_drewN ?_ _ | refine blk_drew ?_ | refine blk_alloc ?_ _)); exact BK297.out) hb)
      have n6_ := Aside0.mk (blk_below (g := gb298) (o := .cells #[.bool a1_0, .slice A1_1 l1_1.length c1_1] 25 (0, 0)) (by (with_reducible repeat (first | refine blk_drewN ?_ _ | refine blk_drew ?_ | refine blk_alloc ?_ _)); exact BK298.out) hb)
      have n7_ := Aside0.mk (blk_below (g := gb299) (o := .cells #[.bool false, .slice none 0 0] 25 (0, 0)) (by (with_reducible repeat (first | refine blk_drewN ?_ _ | refine blk_drew ?_ | refine blk_alloc ?_ _)); exact BK299.out) hb)
      have n8_ := Aside0.mk (blk_below (g := gb300) (o := .cells #[.bool false, .slice none 0 0] 25 (0, 0)) (by (with_reducible repeat (first | refine blk_drewN ?_ _ | refine blk_drew ?_ | refine blk_alloc ?_ _)); exact BK300.out) hb)
      have n9_ := Aside0.mk (blk_below (g := gb314) (o := .cells #[.bool t310, .slice Ao35 t311.length co35] 25 (0, 0)) (by (with_reducible repeat (first | refine blk_drewN ?_ _ | refine blk_drew ?_ | refine blk_alloc ?_ _)); exact BK314.out) hb)
      have n10_ := Aside0.mk (below_step (by repeat (first | (with_reducible first | exact HB.out | apply below_alloc | apply pw_below_drewN | apply below_drew1 | refine below_set ?_ GE297.out | refine below_set ?_ GE298.out | refine below_set ?_ GE299.out | refine below_set ?_ GE300.out | refine below_set ?_ GE314.out) | exact HB.out)) hb)
      clear HO303
      clear HO306
      clear HO313
      clear HO318
      clear BK297
      clear BK298
      clear BK299
      clear BK300
      clear BK314
      clear HB
      have HO303 := n0_
      have HO306 := n1_
      have HO313 := n2_
      have HO318 := n3_
      have HO324 := n4_
      have BK297 := n5_
      have BK298 := n6_
      have BK299 := n7_
      have BK300 := n8_
      have BK314 := n9_
      have HB := n10_
      clear n0_ n1_ n2_ n3_ n4_ n5_ n6_ n7_ n8_ n9_ n10_
      (try clear hb)
      (try clear ho0)
      obtain ⟨Ao45, co45, eo45⟩ := Kd.R_slice HO324.out
      (first | subst eo45 | (injection eo45 with f1_ f2_ f3_; have f4_ := f1_.symm; have f5_ := f3_.symm; clear f1_ f2_ f3_; subst f4_; subst f5_))
      refine hK.out _ _ ⟨(blk_cell BK314.out 0).trans rfl, (blk_cell BK314.out 1).trans rfl⟩ (fun hHeld => ?_)
      clear hK K
      refine norm_ (a' := ?_) ?_ ?_
      rotate_left
      · show Act.put _ (some 43) _ = _
        simp only [Act.put, List.setIfInBounds_toArray, List.set_cons_zero, List.set_cons_succ, i64_w, i32_w]
        rfl
      refine one_ (i := 2) (N := some 44) #[true, true, true, false] rfl rfl (by kernel_rfl) (by decide) (fun K hK => ?_)
      refine goes_ Try.func23 (by kernel_rfl) rfl #[.agg #[.bool t310, .slice Ao35 t311.length co35], .agg #[.bool t321, .slice Ao45 t322.length co45]] (by rfl) rfl rfl (by (try simp only [List.map_toArray, List.map_cons, List.map_nil]); first | done | rfl | (simp only [List.length_drop, List.length_take]; rfl)) ?_
      with_reducible refine (whole_Sub.calls k t310 _ _ t311 t321 _ _ t322 t325 t326 _ ?side1 ?side2 ?side3 ?side4 A13.out).mono ?_
      (case side1 => repeat (first | exact (Kd.R_reads' HO313.out).2.2 | (with_reducible refine Kd.C_alloc ?_ _) | (with_reducible refine Kd.C_drewN ?_ _) | (with_reducible refine Kd.C_drew ?_)))
      (case side2 => exact (Kd.R_reads' HO313.out).2.1)
      (case side3 => repeat (first | exact (Kd.R_reads' HO324.out).2.2 | (with_reducible refine Kd.C_alloc ?_ _) | (with_reducible refine Kd.C_drewN ?_ _) | (with_reducible refine Kd.C_drew ?_)))
      (case side4 => exact (Kd.R_reads' HO324.out).2.1)
      rintro e w46 ⟨v327, rfl, ho0, hb⟩
      refine ⟨_, rfl, ?_⟩
      have n0_ := Aside0.mk (Kd.R_elder' (by (with_reducible repeat (first | apply Kd.R_alloc | apply Kd.R_drewN | apply Kd.R_drew)); exact HO303.out) (Kd.R_base ho0) hb)
      have n1_ := Aside0.mk (Kd.V_elder' (by (with_reducible repeat (first | apply Kd.V_alloc | apply Kd.V_drewN | apply Kd.V_drew)); exact HO306.out) (Kd.R_base ho0) hb)
      have n2_ := Aside0.mk (Kd.R_elder' (by (with_reducible repeat (first | apply Kd.R_alloc | apply Kd.R_drewN | apply Kd.R_drew)); exact HO313.out) (Kd.R_base ho0) hb)
      have n3_ := Aside0.mk (Kd.R_elder' (by (with_reducible repeat (first | apply Kd.R_alloc | apply Kd.R_drewN | apply Kd.R_drew)); exact HO318.out) (Kd.R_base ho0) hb)
      have n4_ := Aside0.mk (Kd.R_elder' (by (with_reducible repeat (first | apply Kd.R_alloc | apply Kd.R_drewN | apply Kd.R_drew)); exact HO324.out) (Kd.R_base ho0) hb)
      have n5_ := Aside0.mk (Kd.R_lower (Kd.R_new' (Kd.R_new' (Kd.R_new' (Kd.R_new' ho0 (Kd.R_lt (by (with_reducible repeat (first | apply Kd.R_alloc | apply Kd.R_drewN | apply Kd.R_drew)); exact HO303.out))) (Kd.R_lt (by (with_reducible repeat (first | apply Kd.R_alloc | apply Kd.R_drewN | apply Kd.R_drew)); exact HO313.out))) (Kd.R_lt (by (with_reducible repeat (first | apply Kd.R_alloc | apply Kd.R_drewN | apply Kd.R_drew)); exact HO318.out))) (Kd.R_lt (by (with_reducible repeat (first | apply Kd.R_alloc | apply Kd.R_drewN | apply Kd.R_drew)); exact HO324.out))) (below_size (by repeat (first | (with_reducible first | exact HB.out | apply below_alloc | apply pw_below_drewN | apply below_drew1 | refine below_set ?_ GE297.out | refine below_set ?_ GE298.out | refine below_set ?_ GE299.out | refine below_set ?_ GE300.out | refine below_set ?_ GE314.out) | exact HB.out))))
      have n6_ := Aside0.mk (blk_below (g := gb297) (o := .cells #[.bool a0_0, .slice A0_1 l0_1.length c0_1] 25 (0, 0)) (by (with_reducible repeat (first | refine blk_drewN ?_ _ | refine blk_drew ?_ | refine blk_alloc ?_ _)); exact BK297.out) hb)
      have n7_ := Aside0.mk (blk_below (g := gb298) (o := .cells #[.bool a1_0, .slice A1_1 l1_1.length c1_1] 25 (0, 0)) (by (with_reducible repeat (first | refine blk_drewN ?_ _ | refine blk_drew ?_ | refine blk_alloc ?_ _)); exact BK298.out) hb)
      have n8_ := Aside0.mk (blk_below (g := gb299) (o := .cells #[.bool false, .slice none 0 0] 25 (0, 0)) (by (with_reducible repeat (first | refine blk_drewN ?_ _ | refine blk_drew ?_ | refine blk_alloc ?_ _)); exact BK299.out) hb)
      have n9_ := Aside0.mk (blk_below (g := gb300) (o := .cells #[.bool false, .slice none 0 0] 25 (0, 0)) (by (with_reducible repeat (first | refine blk_drewN ?_ _ | refine blk_drew ?_ | refine blk_alloc ?_ _)); exact BK300.out) hb)
      have n10_ := Aside0.mk (blk_below (g := gb314) (o := .cells #[.bool t310, .slice Ao35 t311.length co35] 25 (0, 0)) (by (with_reducible repeat (first | refine blk_drewN ?_ _ | refine blk_drew ?_ | refine blk_alloc ?_ _)); exact BK314.out) hb)
      have n11_ := Aside0.mk (below_step (by repeat (first | (with_reducible first | exact HB.out | apply below_alloc | apply pw_below_drewN | apply below_drew1 | refine below_set ?_ GE297.out | refine below_set ?_ GE298.out | refine below_set ?_ GE299.out | refine below_set ?_ GE300.out | refine below_set ?_ GE314.out) | exact HB.out)) hb)
      clear HO303
      clear HO306
      clear HO313
      clear HO318
      clear HO324
      clear BK297
      clear BK298
      clear BK299
      clear BK300
      clear BK314
      clear HB
      have HO303 := n0_
      have HO306 := n1_
      have HO313 := n2_
      have HO318 := n3_
      have HO324 := n4_
      have HO328 := n5_
      have BK297 := n6_
      have BK298 := n7_
      have BK299 := n8_
      have BK300 := n9_
      have BK314 := n10_
      have HB := n11_
      clear n0_ n1_ n2_ n3_ n4_ n5_ n6_ n7_ n8_ n9_ n10_ n11_
      (try clear hb)
      (try clear ho0)
      obtain ⟨Ao48, co48, eo48⟩ := Kd.R_slice HO328.out
      (first | subst eo48 | (injection eo48 with f1_ f2_ f3_; have f4_ := f1_.symm; have f5_ := f3_.symm; clear f1_ f2_ f3_; subst f4_; subst f5_))
      refine hK.out _ _ ⟨(blk_cell BK314.out 0).trans rfl, (blk_cell BK314.out 1).trans rfl⟩ (fun hHeld => ?_)
      clear hK K
      refine norm_ (a' := ?_) ?_ ?_
      rotate_left
      · show Act.put _ (some 44) _ = _
        simp only [Act.put, List.setIfInBounds_toArray, List.set_cons_zero, List.set_cons_succ, i64_w, i32_w]
        rfl
      refine last_ (i := 3) (N := none) #[true, true, true, true] rfl rfl (by kernel_rfl) (by decide) (fun K hK => ?_)
      have hs47 : w46.cell? ⟨gb314, 0, none⟩ = some (.bool t310) := (blk_cell BK314.out 0).trans rfl
      have hfs47 := blk_frozen BK314.out 0
      have hns47_0 := NB297_314.out
      have hns47_1 := NB298_314.out
      have hns47_2 := NB299_314.out
      have hns47_3 := NB300_314.out
      have hms47_0 := NB314_297.out
      have hms47_1 := NB314_298.out
      have hms47_2 := NB314_299.out
      have hms47_3 := NB314_300.out
      have hs49 : w46.cell? ⟨gb314, 1, none⟩ = some (.slice Ao35 t311.length co35) := (blk_cell BK314.out 1).trans rfl
      have hfs49 := blk_frozen BK314.out 1
      have hns49_0 := NB297_314.out
      have hns49_1 := NB298_314.out
      have hns49_2 := NB299_314.out
      have hns49_3 := NB300_314.out
      have hms49_0 := NB314_297.out
      have hms49_1 := NB314_298.out
      have hms49_2 := NB314_299.out
      have hms49_3 := NB314_300.out
      refine skip_ (w1 := ?_) (by rfl) rfl ?_ ?_
      rotate_left
      · go_simp
        rfl
      refine hK.out _ _ ?_
      clear hK K
      refine done_ (by kernel_rfl) ?_
      try go_wp2
      have n0_ : Aside0 (Kd.R (Kd.int .u32) 37 ((w46.setCell ⟨gb314, 0, none⟩ (.bool t325)).setCell ⟨gb314, 1, none⟩ (.slice Ao48 t326.length co48)) w.heap.size (fun k_ => some k_ ≠ (.slice Ao35 t311.length co35 : Value).ownBlock ∧ some k_ ≠ (.slice Ao40 t316.length co40 : Value).ownBlock ∧ some k_ ≠ (.slice Ao45 t322.length co45 : Value).ownBlock ∧ some k_ ≠ (.slice Ao48 t326.length co48 : Value).ownBlock) (.slice Ao27 t301.length co27) t301) := ⟨by (with_reducible repeat (first | apply Kd.R_alloc | apply Kd.R_drewN | apply Kd.R_drew)); exact Kd.R_mono (Kd.R_far (p := ⟨gb314, 1, none⟩) (Kd.R_far (p := ⟨gb314, 0, none⟩) (Kd.R_types HO303.out BK314.out (by decide)) (fun _ hk => hk.2) (.bool t325)) (fun _ hk => hk.2) (.slice Ao48 t326.length co48)) (fun _ hk => ⟨hk.1.1.1.1, ⟨hk.1.1.1.2, ⟨hk.1.1.2, hk.1.2⟩⟩⟩)⟩
      have n1_ : Aside0 (Kd.V (Kd.int .u32) 37 ((w46.setCell ⟨gb314, 0, none⟩ (.bool t325)).setCell ⟨gb314, 1, none⟩ (.slice Ao48 t326.length co48)) w.heap.size (fun k_ => some k_ ≠ (.slice Ao27 t301.length co27 : Value).ownBlock ∧ some k_ ≠ (.slice Ao35 t311.length co35 : Value).ownBlock ∧ some k_ ≠ (.slice Ao40 t316.length co40 : Value).ownBlock ∧ some k_ ≠ (.slice Ao45 t322.length co45 : Value).ownBlock ∧ some k_ ≠ (.slice Ao48 t326.length co48 : Value).ownBlock ∧ k_ ≠ gb297 ∧ k_ ≠ gb298 ∧ k_ ≠ gb299 ∧ k_ ≠ gb300 ∧ k_ ≠ gb314) v305 t304) := ⟨by (with_reducible repeat (first | apply Kd.V_alloc | apply Kd.V_drewN | apply Kd.V_drew)); exact Kd.V_mono (Kd.V_far (p := ⟨gb314, 1, none⟩) (Kd.V_far (p := ⟨gb314, 0, none⟩) (Kd.V_mono HO306.out (fun k_ hk => (⟨hk, hk.1.1.1.2.2.2.2.2.2⟩ : _ ∧ k_ ≠ gb314))) (fun _ hk => hk.2) (.bool t325)) (fun _ hk => hk.2) (.slice Ao48 t326.length co48)) (fun _ hk => ⟨hk.1.1.1.1.1, ⟨hk.1.1.1.1.2.1, ⟨hk.1.1.1.2, ⟨hk.1.1.2, ⟨hk.1.2, ⟨hk.1.1.1.1.2.2.1, ⟨hk.1.1.1.1.2.2.2.1, ⟨hk.1.1.1.1.2.2.2.2.1, ⟨hk.1.1.1.1.2.2.2.2.2.1, hk.1.1.1.1.2.2.2.2.2.2⟩⟩⟩⟩⟩⟩⟩⟩⟩)⟩
      have n2_ : Aside0 (Kd.R (Kd.int .u32) 37 ((w46.setCell ⟨gb314, 0, none⟩ (.bool t325)).setCell ⟨gb314, 1, none⟩ (.slice Ao48 t326.length co48)) w.heap.size (fun k_ => some k_ ≠ (.slice Ao27 t301.length co27 : Value).ownBlock ∧ some k_ ≠ (.slice Ao40 t316.length co40 : Value).ownBlock ∧ some k_ ≠ (.slice Ao45 t322.length co45 : Value).ownBlock ∧ some k_ ≠ (.slice Ao48 t326.length co48 : Value).ownBlock) (.slice Ao35 t311.length co35) t311) := ⟨by (with_reducible repeat (first | apply Kd.R_alloc | apply Kd.R_drewN | apply Kd.R_drew)); exact Kd.R_mono (Kd.R_far (p := ⟨gb314, 1, none⟩) (Kd.R_far (p := ⟨gb314, 0, none⟩) (Kd.R_types HO313.out BK314.out (by decide)) (fun _ hk => hk.2) (.bool t325)) (fun _ hk => hk.2) (.slice Ao48 t326.length co48)) (fun _ hk => ⟨hk.1.1.1.1, ⟨hk.1.1.1.2, ⟨hk.1.1.2, hk.1.2⟩⟩⟩)⟩
      have n3_ : Aside0 (Kd.R (Kd.int .u32) 37 ((w46.setCell ⟨gb314, 0, none⟩ (.bool t325)).setCell ⟨gb314, 1, none⟩ (.slice Ao48 t326.length co48)) w.heap.size (fun k_ => some k_ ≠ (.slice Ao27 t301.length co27 : Value).ownBlock ∧ some k_ ≠ (.slice Ao35 t311.length co35 : Value).ownBlock ∧ some k_ ≠ (.slice Ao45 t322.length co45 : Value).ownBlock ∧ some k_ ≠ (.slice Ao48 t326.length co48 : Value).ownBlock) (.slice Ao40 t316.length co40) t316) := ⟨by (with_reducible repeat (first | apply Kd.R_alloc | apply Kd.R_drewN | apply Kd.R_drew)); exact Kd.R_mono (Kd.R_far (p := ⟨gb314, 1, none⟩) (Kd.R_far (p := ⟨gb314, 0, none⟩) (Kd.R_types HO318.out BK314.out (by decide)) (fun _ hk => hk.2) (.bool t325)) (fun _ hk => hk.2) (.slice Ao48 t326.length co48)) (fun _ hk => ⟨hk.1.1.1.1.2, ⟨hk.1.1.1.2, ⟨hk.1.1.2, hk.1.2⟩⟩⟩)⟩
      have n4_ : Aside0 (Kd.R (Kd.int .u32) 37 ((w46.setCell ⟨gb314, 0, none⟩ (.bool t325)).setCell ⟨gb314, 1, none⟩ (.slice Ao48 t326.length co48)) w.heap.size (fun k_ => some k_ ≠ (.slice Ao27 t301.length co27 : Value).ownBlock ∧ some k_ ≠ (.slice Ao35 t311.length co35 : Value).ownBlock ∧ some k_ ≠ (.slice Ao40 t316.length co40 : Value).ownBlock ∧ some k_ ≠ (.slice Ao48 t326.length co48 : Value).ownBlock) (.slice Ao45 t322.length co45) t322) := ⟨by (with_reducible repeat (first | apply Kd.R_alloc | apply Kd.R_drewN | apply Kd.R_drew)); exact Kd.R_mono (Kd.R_far (p := ⟨gb314, 1, none⟩) (Kd.R_far (p := ⟨gb314, 0, none⟩) (Kd.R_types HO324.out BK314.out (by decide)) (fun _ hk => hk.2) (.bool t325)) (fun _ hk => hk.2) (.slice Ao48 t326.length co48)) (fun _ hk => ⟨hk.1.1.1.1.2, ⟨hk.1.1.1.2, ⟨hk.1.1.2, hk.1.2⟩⟩⟩)⟩
      have n5_ : Aside0 (Kd.R (Kd.int .u32) 37 ((w46.setCell ⟨gb314, 0, none⟩ (.bool t325)).setCell ⟨gb314, 1, none⟩ (.slice Ao48 t326.length co48)) w.heap.size (fun k_ => some k_ ≠ (.slice Ao27 t301.length co27 : Value).ownBlock ∧ some k_ ≠ (.slice Ao35 t311.length co35 : Value).ownBlock ∧ some k_ ≠ (.slice Ao40 t316.length co40 : Value).ownBlock ∧ some k_ ≠ (.slice Ao45 t322.length co45 : Value).ownBlock) (.slice Ao48 t326.length co48) t326) := ⟨by (with_reducible repeat (first | apply Kd.R_alloc | apply Kd.R_drewN | apply Kd.R_drew)); exact Kd.R_mono (Kd.R_far (p := ⟨gb314, 1, none⟩) (Kd.R_far (p := ⟨gb314, 0, none⟩) (Kd.R_types HO328.out BK314.out (by decide)) (fun _ hk => hk.2) (.bool t325)) (fun _ hk => hk.2) (.slice Ao48 t326.length co48)) (fun _ hk => ⟨hk.1.1.1.1.2, ⟨hk.1.1.1.2, ⟨hk.1.1.2, hk.1.2⟩⟩⟩)⟩
      have n6_ : Aside0 (((w46.setCell ⟨gb314, 0, none⟩ (.bool t325)).setCell ⟨gb314, 1, none⟩ (.slice Ao48 t326.length co48)).heap[gb297]? = some (.cells #[.bool a0_0, .slice A0_1 l0_1.length c0_1] 25 (0, 0))) := ⟨by (with_reducible repeat (first | refine blk_drewN ?_ _ | refine blk_drew ?_ | refine blk_alloc ?_ _)); refine blk_far ?_ NB297_314.out _; (with_reducible repeat (first | refine blk_drewN ?_ _ | refine blk_drew ?_ | refine blk_alloc ?_ _)); refine blk_far ?_ NB297_314.out _; (with_reducible repeat (first | refine blk_drewN ?_ _ | refine blk_drew ?_ | refine blk_alloc ?_ _)); exact BK297.out⟩
      have n7_ : Aside0 (((w46.setCell ⟨gb314, 0, none⟩ (.bool t325)).setCell ⟨gb314, 1, none⟩ (.slice Ao48 t326.length co48)).heap[gb298]? = some (.cells #[.bool a1_0, .slice A1_1 l1_1.length c1_1] 25 (0, 0))) := ⟨by (with_reducible repeat (first | refine blk_drewN ?_ _ | refine blk_drew ?_ | refine blk_alloc ?_ _)); refine blk_far ?_ NB298_314.out _; (with_reducible repeat (first | refine blk_drewN ?_ _ | refine blk_drew ?_ | refine blk_alloc ?_ _)); refine blk_far ?_ NB298_314.out _; (with_reducible repeat (first | refine blk_drewN ?_ _ | refine blk_drew ?_ | refine blk_alloc ?_ _)); exact BK298.out⟩
      have n8_ : Aside0 (((w46.setCell ⟨gb314, 0, none⟩ (.bool t325)).setCell ⟨gb314, 1, none⟩ (.slice Ao48 t326.length co48)).heap[gb299]? = some (.cells #[.bool false, .slice none 0 0] 25 (0, 0))) := ⟨by (with_reducible repeat (first | refine blk_drewN ?_ _ | refine blk_drew ?_ | refine blk_alloc ?_ _)); refine blk_far ?_ NB299_314.out _; (with_reducible repeat (first | refine blk_drewN ?_ _ | refine blk_drew ?_ | refine blk_alloc ?_ _)); refine blk_far ?_ NB299_314.out _; (with_reducible repeat (first | refine blk_drewN ?_ _ | refine blk_drew ?_ | refine blk_alloc ?_ _)); exact BK299.out⟩
      have n9_ : Aside0 (((w46.setCell ⟨gb314, 0, none⟩ (.bool t325)).setCell ⟨gb314, 1, none⟩ (.slice Ao48 t326.length co48)).heap[gb300]? = some (.cells #[.bool false, .slice none 0 0] 25 (0, 0))) := ⟨by (with_reducible repeat (first | refine blk_drewN ?_ _ | refine blk_drew ?_ | refine blk_alloc ?_ _)); refine blk_far ?_ NB300_314.out _; (with_reducible repeat (first | refine blk_drewN ?_ _ | refine blk_drew ?_ | refine blk_alloc ?_ _)); refine blk_far ?_ NB300_314.out _; (with_reducible repeat (first | refine blk_drewN ?_ _ | refine blk_drew ?_ | refine blk_alloc ?_ _)); exact BK300.out⟩
      have n10_ : Aside0 (((w46.setCell ⟨gb314, 0, none⟩ (.bool t325)).setCell ⟨gb314, 1, none⟩ (.slice Ao48 t326.length co48)).heap[gb314]? = some (.cells #[.bool t325, .slice Ao48 t326.length co48] 25 (0, 0))) := ⟨by (with_reducible repeat (first | refine blk_drewN ?_ _ | refine blk_drew ?_ | refine blk_alloc ?_ _)); refine blk_put (cs := #[.bool t325, .slice Ao35 t311.length co35]) ?_ 1 _ rfl; (with_reducible repeat (first | refine blk_drewN ?_ _ | refine blk_drew ?_ | refine blk_alloc ?_ _)); refine blk_put (cs := #[.bool t310, .slice Ao35 t311.length co35]) ?_ 0 _ rfl; (with_reducible repeat (first | refine blk_drewN ?_ _ | refine blk_drew ?_ | refine blk_alloc ?_ _)); exact BK314.out⟩
      have n11_ : Aside0 (Below w.heap.size w ((w46.setCell ⟨gb314, 0, none⟩ (.bool t325)).setCell ⟨gb314, 1, none⟩ (.slice Ao48 t326.length co48))) := ⟨by repeat (first | (with_reducible first | exact HB.out | apply below_alloc | apply pw_below_drewN | apply below_drew1 | refine below_set ?_ GE297.out | refine below_set ?_ GE298.out | refine below_set ?_ GE299.out | refine below_set ?_ GE300.out | refine below_set ?_ GE314.out) | exact HB.out)⟩
      (try clear HO303)
      (try clear HO306)
      (try clear HO313)
      (try clear HO318)
      (try clear HO324)
      (try clear HO328)
      (try clear BK297)
      (try clear BK298)
      (try clear BK299)
      (try clear BK300)
      (try clear BK314)
      (try clear HB)
      generalize ((w46.setCell ⟨gb314, 0, none⟩ (.bool t325)).setCell ⟨gb314, 1, none⟩ (.slice Ao48 t326.length co48)) = w50 at n0_ n1_ n2_ n3_ n4_ n5_ n6_ n7_ n8_ n9_ n10_ n11_ ⊢
      have HO303 := n0_
      have HO306 := n1_
      have HO313 := n2_
      have HO318 := n3_
      have HO324 := n4_
      have HO328 := n5_
      have BK297 := n6_
      have BK298 := n7_
      have BK299 := n8_
      have BK300 := n9_
      have BK314 := n10_
      have HB := n11_
      clear n0_ n1_ n2_ n3_ n4_ n5_ n6_ n7_ n8_ n9_ n10_ n11_
      have n0_ := Aside0.mk (Kd.R_drew HO303.out)
      have n1_ := Aside0.mk (Kd.V_drew HO306.out)
      have n2_ := Aside0.mk (Kd.R_drew HO313.out)
      have n3_ := Aside0.mk (Kd.R_drew HO318.out)
      have n4_ := Aside0.mk (Kd.R_drew HO324.out)
      have n5_ := Aside0.mk (Kd.R_drew HO328.out)
      have n6_ := Aside0.mk (blk_drew BK297.out)
      have n7_ := Aside0.mk (blk_drew BK298.out)
      have n8_ := Aside0.mk (blk_drew BK299.out)
      have n9_ := Aside0.mk (blk_drew BK300.out)
      have n10_ := Aside0.mk (blk_drew BK314.out)
      have n11_ := Aside0.mk (below_drew1 HB.out)
      clear HO303
      clear HO306
      clear HO313
      clear HO318
      clear HO324
      clear HO328
      clear BK297
      clear BK298
      clear BK299
      clear BK300
      clear BK314
      clear HB
      have HO303 := n0_
      have HO306 := n1_
      have HO313 := n2_
      have HO318 := n3_
      have HO324 := n4_
      have HO328 := n5_
      have BK297 := n6_
      have BK298 := n7_
      have BK299 := n8_
      have BK300 := n9_
      have BK314 := n10_
      have HB := n11_
      clear n0_ n1_ n2_ n3_ n4_ n5_ n6_ n7_ n8_ n9_ n10_ n11_
      refine start_ (n := 6) (S := fun w' => w'.cell? ⟨gb314, 0, none⟩ = some (.bool t325) ∧ w'.cell? ⟨gb314, 1, none⟩ = some (.slice Ao48 t326.length co48)) (ds := []) #[false, false, false, false, false, false] (by kernel_rfl) rfl rfl ⟨(blk_cell BK314.out 0).trans rfl, (blk_cell BK314.out 1).trans rfl⟩ (fun hHeld => ?_)
      generalize w50.drew = w51 at HO303 HO306 HO313 HO318 HO324 HO328 BK297 BK298 BK299 BK300 BK314 HB hHeld ⊢
      refine take_ (i := 0) (N := some 45) (v := ?_) (a' := ?_) #[true, false, false, false, false, false] rfl rfl (by kernel_rfl) (fun _ _ _ h => h) (Or.inl ⟨by rfl, ?_⟩) hHeld ?_ ?_
      rotate_left
      · rintro w' ⟨s0, s1⟩
        go_simp
        with_reducible rfl
      rotate_left
      · simp only [Act.put, List.setIfInBounds_toArray, List.set_cons_zero, List.set_cons_succ, i64_w, i32_w]
        rfl
      refine pure_ (i := 1) (N := some 46) (v := ?_) (a' := ?_) #[true, true, false, false, false, false] rfl rfl (by kernel_rfl) (fun _ _ _ h => h) (Or.inl ⟨by rfl, ?_⟩) ?_ ?_
      rotate_left
      · intro w'
        go_simp
        with_reducible rfl
      rotate_left
      · simp only [Act.put, List.setIfInBounds_toArray, List.set_cons_zero, List.set_cons_succ, i64_w, i32_w]
        rfl
      refine one_ (i := 2) (N := some 47) #[true, true, true, false, false, false] rfl rfl (by kernel_rfl) (by decide) (fun K hK => ?_)
      refine Clo.goesF_ Try.func83 (by kernel_rfl) rfl #[.pointer (some ⟨gb297, 0, none⟩), .pointer (some ⟨gb298, 0, none⟩), .pointer (some ⟨gb314, 0, none⟩)] (by rfl) rfl rfl (by rfl) ?_
      with_reducible refine (whole_Floor_cl1.calls k gb297 gb298 gb314 a0_0 _ _ l0_1 a1_0 _ _ l1_1 t325 _ _ t326 t329 t330 _ ?side1 ?side2 ?side3 ?side4 ?side5 ?side6 BK297.out BK298.out BK314.out A14.out).mono ?_
      (case side1 => repeat (first | exact (Kd.C_below HR0_1.out HB.out) | (with_reducible refine Kd.C_alloc ?_ _) | (with_reducible refine Kd.C_drewN ?_ _) | (with_reducible refine Kd.C_drew ?_)))
      (case side2 => exact HC0_1.out)
      (case side3 => repeat (first | exact (Kd.C_below HR1_1.out HB.out) | (with_reducible refine Kd.C_alloc ?_ _) | (with_reducible refine Kd.C_drewN ?_ _) | (with_reducible refine Kd.C_drew ?_)))
      (case side4 => exact HC1_1.out)
      (case side5 => repeat (first | exact (Kd.R_reads' HO328.out).2.2 | (with_reducible refine Kd.C_alloc ?_ _) | (with_reducible refine Kd.C_drewN ?_ _) | (with_reducible refine Kd.C_drew ?_)))
      (case side6 => exact (Kd.R_reads' HO328.out).2.1)
      rintro e w52 ⟨v331, rfl, ho0, hb⟩
      refine ⟨_, rfl, ?_⟩
      have n0_ := Aside0.mk (Kd.R_elder' (by (with_reducible repeat (first | apply Kd.R_alloc | apply Kd.R_drewN | apply Kd.R_drew)); exact HO303.out) (Kd.R_base ho0) hb)
      have n1_ := Aside0.mk (Kd.V_elder' (by (with_reducible repeat (first | apply Kd.V_alloc | apply Kd.V_drewN | apply Kd.V_drew)); exact HO306.out) (Kd.R_base ho0) hb)
      have n2_ := Aside0.mk (Kd.R_elder' (by (with_reducible repeat (first | apply Kd.R_alloc | apply Kd.R_drewN | apply Kd.R_drew)); exact HO313.out) (Kd.R_base ho0) hb)
      have n3_ := Aside0.mk (Kd.R_elder' (by (with_reducible repeat (first | apply Kd.R_alloc | apply Kd.R_drewN | apply Kd.R_drew)); exact HO318.out) (Kd.R_base ho0) hb)
      have n4_ := Aside0.mk (Kd.R_elder' (by (with_reducible repeat (first | apply Kd.R_alloc | apply Kd.R_drewN | apply Kd.R_drew)); exact HO324.out) (Kd.R_base ho0) hb)
      have n5_ := Aside0.mk (Kd.R_elder' (by (with_reducible repeat (first | apply Kd.R_alloc | apply Kd.R_drewN | apply Kd.R_drew)); exact HO328.out) (Kd.R_base ho0) hb)
      have n6_ := Aside0.mk (Kd.R_lower (Kd.R_new' (Kd.R_new' (Kd.R_new' (Kd.R_new' (Kd.R_new' ho0 (Kd.R_lt (by (with_reducible repeat (first | apply Kd.R_alloc | apply Kd.R_drewN | apply Kd.R_drew)); exact HO303.out))) (Kd.R_lt (by (with_reducible repeat (first | apply Kd.R_alloc | apply Kd.R_drewN | apply Kd.R_drew)); exact HO313.out))) (Kd.R_lt (by (with_reducible repeat (first | apply Kd.R_alloc | apply Kd.R_drewN | apply Kd.R_drew)); exact HO318.out))) (Kd.R_lt (by (with_reducible repeat (first | apply Kd.R_alloc | apply Kd.R_drewN | apply Kd.R_drew)); exact HO324.out))) (Kd.R_lt (by (with_reducible repeat (first | apply Kd.R_alloc | apply Kd.R_drewN | apply Kd.R_drew)); exact HO328.out))) (below_size (by repeat (first | (with_reducible first | exact HB.out | apply below_alloc | apply pw_below_drewN | apply below_drew1 | refine below_set ?_ GE297.out | refine below_set ?_ GE298.out | refine below_set ?_ GE299.out | refine below_set ?_ GE300.out | refine below_set ?_ GE314.out) | exact HB.out))))
      have n7_ := Aside0.mk (blk_below (g := gb297) (o := .cells #[.bool a0_0, .slice A0_1 l0_1.length c0_1] 25 (0, 0)) (by (with_reducible repeat (first | refine blk_drewN ?_ _ | refine blk_drew ?_ | refine blk_alloc ?_ _)); exact BK297.out) hb)
      have n8_ := Aside0.mk (blk_below (g := gb298) (o := .cells #[.bool a1_0, .slice A1_1 l1_1.length c1_1] 25 (0, 0)) (by (with_reducible repeat (first | refine blk_drewN ?_ _ | refine blk_drew ?_ | refine blk_alloc ?_ _)); exact BK298.out) hb)
      have n9_ := Aside0.mk (blk_below (g := gb299) (o := .cells #[.bool false, .slice none 0 0] 25 (0, 0)) (by (with_reducible repeat (first | refine blk_drewN ?_ _ | refine blk_drew ?_ | refine blk_alloc ?_ _)); exact BK299.out) hb)
      have n10_ := Aside0.mk (blk_below (g := gb300) (o := .cells #[.bool false, .slice none 0 0] 25 (0, 0)) (by (with_reducible repeat (first | refine blk_drewN ?_ _ | refine blk_drew ?_ | refine blk_alloc ?_ _)); exact BK300.out) hb)
      have n11_ := Aside0.mk (blk_below (g := gb314) (o := .cells #[.bool t325, .slice Ao48 t326.length co48] 25 (0, 0)) (by (with_reducible repeat (first | refine blk_drewN ?_ _ | refine blk_drew ?_ | refine blk_alloc ?_ _)); exact BK314.out) hb)
      have n12_ := Aside0.mk (below_step (by repeat (first | (with_reducible first | exact HB.out | apply below_alloc | apply pw_below_drewN | apply below_drew1 | refine below_set ?_ GE297.out | refine below_set ?_ GE298.out | refine below_set ?_ GE299.out | refine below_set ?_ GE300.out | refine below_set ?_ GE314.out) | exact HB.out)) hb)
      clear HO303
      clear HO306
      clear HO313
      clear HO318
      clear HO324
      clear HO328
      clear BK297
      clear BK298
      clear BK299
      clear BK300
      clear BK314
      clear HB
      have HO303 := n0_
      have HO306 := n1_
      have HO313 := n2_
      have HO318 := n3_
      have HO324 := n4_
      have HO328 := n5_
      have HO332 := n6_
      have BK297 := n7_
      have BK298 := n8_
      have BK299 := n9_
      have BK300 := n10_
      have BK314 := n11_
      have HB := n12_
      clear n0_ n1_ n2_ n3_ n4_ n5_ n6_ n7_ n8_ n9_ n10_ n11_ n12_
      (try clear hb)
      (try clear ho0)
      obtain ⟨Ao56, co56, eo56⟩ := Kd.R_slice HO332.out
      (first | subst eo56 | (injection eo56 with f1_ f2_ f3_; have f4_ := f1_.symm; have f5_ := f3_.symm; clear f1_ f2_ f3_; subst f4_; subst f5_))
      refine hK.out _ _ ⟨(blk_cell BK314.out 0).trans rfl, (blk_cell BK314.out 1).trans rfl⟩ (fun hHeld => ?_)
      clear hK K
      refine norm_ (a' := ?_) ?_ ?_
      rotate_left
      · show Act.put _ (some 47) _ = _
        simp only [Act.put, List.setIfInBounds_toArray, List.set_cons_zero, List.set_cons_succ, i64_w, i32_w]
        rfl
      refine one_ (i := 3) (N := none) #[true, true, true, true, false, false] rfl rfl (by kernel_rfl) (by decide) (fun K hK => ?_)
      have hs53 : w52.cell? ⟨gb299, 0, none⟩ = some (.bool false) := (blk_cell BK299.out 0).trans rfl
      have hfs53 := blk_frozen BK299.out 0
      have hns53_0 := NB297_299.out
      have hns53_1 := NB298_299.out
      have hns53_3 := NB300_299.out
      have hns53_4 := NB314_299.out
      have hms53_0 := NB299_297.out
      have hms53_1 := NB299_298.out
      have hms53_3 := NB299_300.out
      have hms53_4 := NB299_314.out
      have hs54 : w52.cell? ⟨gb299, 1, none⟩ = some (.slice none 0 0) := (blk_cell BK299.out 1).trans rfl
      have hfs54 := blk_frozen BK299.out 1
      have hns54_0 := NB297_299.out
      have hns54_1 := NB298_299.out
      have hns54_3 := NB300_299.out
      have hns54_4 := NB314_299.out
      have hms54_0 := NB299_297.out
      have hms54_1 := NB299_298.out
      have hms54_3 := NB299_300.out
      have hms54_4 := NB299_314.out
      refine skip_ (w1 := ?_) (by rfl) rfl ?_ ?_
      rotate_left
      · go_simp
        rfl
      refine hK.out _ _ ⟨((cell_far (p := ⟨gb299, _, none⟩) NB314_299.out _).trans (((cell_far (p := ⟨gb299, _, none⟩) NB314_299.out _).trans (hHeld.1)))), ((cell_far (p := ⟨gb299, _, none⟩) NB314_299.out _).trans (((cell_far (p := ⟨gb299, _, none⟩) NB314_299.out _).trans (hHeld.2))))⟩ (fun hHeld => ?_)
      clear hK K
      refine one_ (i := 4) (N := none) #[true, true, true, true, true, false] rfl rfl (by kernel_rfl) (by decide) (fun K hK => ?_)
      have hs55 : w52.cell? ⟨gb300, 0, none⟩ = some (.bool false) := (blk_cell BK300.out 0).trans rfl
      have hfs55 := blk_frozen BK300.out 0
      have hns55_0 := NB297_300.out
      have hns55_1 := NB298_300.out
      have hns55_2 := NB299_300.out
      have hns55_4 := NB314_300.out
      have hms55_0 := NB300_297.out
      have hms55_1 := NB300_298.out
      have hms55_2 := NB300_299.out
      have hms55_4 := NB300_314.out
      have hs57 : w52.cell? ⟨gb300, 1, none⟩ = some (.slice none 0 0) := (blk_cell BK300.out 1).trans rfl
      have hfs57 := blk_frozen BK300.out 1
      have hns57_0 := NB297_300.out
      have hns57_1 := NB298_300.out
      have hns57_2 := NB299_300.out
      have hns57_4 := NB314_300.out
      have hms57_0 := NB300_297.out
      have hms57_1 := NB300_298.out
      have hms57_2 := NB300_299.out
      have hms57_4 := NB300_314.out
      refine skip_ (w1 := ?_) (by rfl) rfl ?_ ?_
      rotate_left
      · go_simp
        rfl
      refine hK.out _ _ ⟨((cell_far (p := ⟨gb300, _, none⟩) NB314_300.out _).trans (((cell_far (p := ⟨gb300, _, none⟩) NB314_300.out _).trans (hHeld.1)))), ((cell_far (p := ⟨gb300, _, none⟩) NB314_300.out _).trans (((cell_far (p := ⟨gb300, _, none⟩) NB314_300.out _).trans (hHeld.2))))⟩ (fun hHeld => ?_)
      clear hK K
      refine pure_ (i := 5) (N := some 6) (v := ?_) (a' := ?_) #[true, true, true, true, true, true] rfl rfl (by kernel_rfl) (fun _ _ _ h => h) (Or.inl ⟨by rfl, ?_⟩) ?_ ?_
      rotate_left
      · intro w'
        go_simp
        with_reducible rfl
      rotate_left
      · simp only [Act.put, List.setIfInBounds_toArray, List.set_cons_zero, List.set_cons_succ, i64_w, i32_w]
        rfl
      refine done_ (by kernel_rfl) ?_
      try go_wp2
      refine bodyPost_ret (results_list (rs := [.cell 4 25, .cell 5 25, .tmp 6]) rfl (by simp) (.cell gb299 25 #[.bool t325, .slice Ao48 t326.length co48] (0, 0) _ rfl (by (with_reducible repeat (first | refine blk_drewN ?_ _ | refine blk_drew ?_ | refine blk_alloc ?_ _)); refine blk_far ?_ NB299_300.out _; (with_reducible repeat (first | refine blk_drewN ?_ _ | refine blk_drew ?_ | refine blk_alloc ?_ _)); refine blk_far ?_ NB299_300.out _; (with_reducible repeat (first | refine blk_drewN ?_ _ | refine blk_drew ?_ | refine blk_alloc ?_ _)); refine blk_put (cs := #[.bool t325, .slice none 0 0]) ?_ 1 _ rfl; (with_reducible repeat (first | refine blk_drewN ?_ _ | refine blk_drew ?_ | refine blk_alloc ?_ _)); refine blk_put (cs := #[.bool false, .slice none 0 0]) ?_ 0 _ rfl; (with_reducible repeat (first | refine blk_drewN ?_ _ | refine blk_drew ?_ | refine blk_alloc ?_ _)); exact BK299.out) Try.underlying25 rfl (by kernel_rfl) (.cell gb300 25 #[.bool t329, .slice Ao56 t330.length co56] (0, 0) _ rfl (by (with_reducible repeat (first | refine blk_drewN ?_ _ | refine blk_drew ?_ | refine blk_alloc ?_ _)); refine blk_put (cs := #[.bool t329, .slice none 0 0]) ?_ 1 _ rfl; (with_reducible repeat (first | refine blk_drewN ?_ _ | refine blk_drew ?_ | refine blk_alloc ?_ _)); refine blk_put (cs := #[.bool false, .slice none 0 0]) ?_ 0 _ rfl; (with_reducible repeat (first | refine blk_drewN ?_ _ | refine blk_drew ?_ | refine blk_alloc ?_ _)); refine blk_far ?_ NB300_299.out _; (with_reducible repeat (first | refine blk_drewN ?_ _ | refine blk_drew ?_ | refine blk_alloc ?_ _)); refine blk_far ?_ NB300_299.out _; (with_reducible repeat (first | refine blk_drewN ?_ _ | refine blk_drew ?_ | refine blk_alloc ?_ _)); exact BK300.out) Try.underlying25 rfl (by kernel_rfl) (.tmp .nil)))) rfl ?_
      exact ⟨_, _, by first | rfl | (simp [errW_none, errW_some] <;> rfl) | (simp [*, errW_none, errW_some] <;> rfl), by (with_reducible repeat (first | apply Kd.R_alloc | apply Kd.R_drewN | apply Kd.R_drew)); exact Kd.R_mono (Kd.R_far (p := ⟨gb300, 1, none⟩) (Kd.R_far (p := ⟨gb300, 0, none⟩) (Kd.R_far (p := ⟨gb299, 1, none⟩) (Kd.R_far (p := ⟨gb299, 0, none⟩) (Kd.R_types (Kd.R_types HO328.out BK299.out (by decide)) BK300.out (by decide)) (fun _ hk => hk.1.2) (.bool t325)) (fun _ hk => hk.1.2) (.slice Ao48 t326.length co48)) (fun _ hk => hk.2) (.bool t329)) (fun _ hk => hk.2) (.slice Ao56 t330.length co56)) (fun _ hk => hk.1.1.2), by (with_reducible repeat (first | apply Kd.R_alloc | apply Kd.R_drewN | apply Kd.R_drew)); exact Kd.R_mono (Kd.R_far (p := ⟨gb300, 1, none⟩) (Kd.R_far (p := ⟨gb300, 0, none⟩) (Kd.R_far (p := ⟨gb299, 1, none⟩) (Kd.R_far (p := ⟨gb299, 0, none⟩) (Kd.R_types (Kd.R_types HO332.out BK299.out (by decide)) BK300.out (by decide)) (fun _ hk => hk.1.2) (.bool t325)) (fun _ hk => hk.1.2) (.slice Ao48 t326.length co48)) (fun _ hk => hk.2) (.bool t329)) (fun _ hk => hk.2) (.slice Ao56 t330.length co56)) (fun _ hk => hk.1.1.2), by repeat (first | (with_reducible first | exact HB.out | apply below_alloc | apply pw_below_drewN | apply below_drew1 | refine below_set ?_ GE297.out | refine below_set ?_ GE298.out | refine below_set ?_ GE299.out | refine below_set ?_ GE300.out | refine below_set ?_ GE314.out) | exact HB.out)⟩
    · rw [if_neg c11] at H
      have c11b0 : decide ((wrap64 (t319 * t320)) < 0) = false := decide_eq_false c11
      clear c11
      replace H := Option.bind_eq_some_iff.mp H
      obtain ⟨⟨t333, t334⟩, A580, H⟩ := H
      replace H : (some (t310, t311, t333, t334, 0)) = some (r1, r2, r3, r4, r5) := H
      have A58 := Aside0.mk A580
      clear A580
      simp only [Option.some.injEq, Prod.mk.injEq] at H
      obtain ⟨rfl, rfl, rfl, rfl, rfl⟩ := H
      rw [c11b0]
      try go_wp2
      have n0_ := Aside0.mk (Kd.R_drew HO303.out)
      have n1_ := Aside0.mk (Kd.V_drew HO306.out)
      have n2_ := Aside0.mk (Kd.R_drew HO313.out)
      have n3_ := Aside0.mk (Kd.R_drew HO318.out)
      have n4_ := Aside0.mk (blk_drew BK297.out)
      have n5_ := Aside0.mk (blk_drew BK298.out)
      have n6_ := Aside0.mk (blk_drew BK299.out)
      have n7_ := Aside0.mk (blk_drew BK300.out)
      have n8_ := Aside0.mk (blk_drew BK314.out)
      have n9_ := Aside0.mk (below_drew1 HB.out)
      clear HO303
      clear HO306
      clear HO313
      clear HO318
      clear BK297
      clear BK298
      clear BK299
      clear BK300
      clear BK314
      clear HB
      have HO303 := n0_
      have HO306 := n1_
      have HO313 := n2_
      have HO318 := n3_
      have BK297 := n4_
      have BK298 := n5_
      have BK299 := n6_
      have BK300 := n7_
      have BK314 := n8_
      have HB := n9_
      clear n0_ n1_ n2_ n3_ n4_ n5_ n6_ n7_ n8_ n9_
      refine start_ (n := 6) (S := fun w' => w'.cell? ⟨gb314, 0, none⟩ = some (.bool t310) ∧ w'.cell? ⟨gb314, 1, none⟩ = some (.slice Ao35 t311.length co35)) (ds := []) #[false, false, false, false, false, false] (by kernel_rfl) rfl rfl ⟨(blk_cell BK314.out 0).trans rfl, (blk_cell BK314.out 1).trans rfl⟩ (fun hHeld => ?_)
      generalize w42.drew = w87 at HO303 HO306 HO313 HO318 BK297 BK298 BK299 BK300 BK314 HB hHeld ⊢
      refine take_ (i := 0) (N := some 45) (v := ?_) (a' := ?_) #[true, false, false, false, false, false] rfl rfl (by kernel_rfl) (fun _ _ _ h => h) (Or.inl ⟨by rfl, ?_⟩) hHeld ?_ ?_
      rotate_left
      · rintro w' ⟨s0, s1⟩
        go_simp
        with_reducible rfl
      rotate_left
      · simp only [Act.put, List.setIfInBounds_toArray, List.set_cons_zero, List.set_cons_succ, i64_w, i32_w]
        rfl
      refine pure_ (i := 1) (N := some 46) (v := ?_) (a' := ?_) #[true, true, false, false, false, false] rfl rfl (by kernel_rfl) (fun _ _ _ h => h) (Or.inl ⟨by rfl, ?_⟩) ?_ ?_
      rotate_left
      · intro w'
        go_simp
        with_reducible rfl
      rotate_left
      · simp only [Act.put, List.setIfInBounds_toArray, List.set_cons_zero, List.set_cons_succ, i64_w, i32_w]
        rfl
      refine one_ (i := 2) (N := some 47) #[true, true, true, false, false, false] rfl rfl (by kernel_rfl) (by decide) (fun K hK => ?_)
      refine Clo.goesF_ Try.func83 (by kernel_rfl) rfl #[.pointer (some ⟨gb297, 0, none⟩), .pointer (some ⟨gb298, 0, none⟩), .pointer (some ⟨gb314, 0, none⟩)] (by rfl) rfl rfl (by rfl) ?_
      with_reducible refine (whole_Floor_cl1.calls k gb297 gb298 gb314 a0_0 _ _ l0_1 a1_0 _ _ l1_1 t310 _ _ t311 t333 t334 _ ?side1 ?side2 ?side3 ?side4 ?side5 ?side6 BK297.out BK298.out BK314.out A58.out).mono ?_
      (case side1 => repeat (first | exact (Kd.C_below HR0_1.out HB.out) | (with_reducible refine Kd.C_alloc ?_ _) | (with_reducible refine Kd.C_drewN ?_ _) | (with_reducible refine Kd.C_drew ?_)))
      (case side2 => exact HC0_1.out)
      (case side3 => repeat (first | exact (Kd.C_below HR1_1.out HB.out) | (with_reducible refine Kd.C_alloc ?_ _) | (with_reducible refine Kd.C_drewN ?_ _) | (with_reducible refine Kd.C_drew ?_)))
      (case side4 => exact HC1_1.out)
      (case side5 => repeat (first | exact (Kd.R_reads' HO313.out).2.2 | (with_reducible refine Kd.C_alloc ?_ _) | (with_reducible refine Kd.C_drewN ?_ _) | (with_reducible refine Kd.C_drew ?_)))
      (case side6 => exact (Kd.R_reads' HO313.out).2.1)
      rintro e w88 ⟨v335, rfl, ho0, hb⟩
      refine ⟨_, rfl, ?_⟩
      have n0_ := Aside0.mk (Kd.R_elder' (by (with_reducible repeat (first | apply Kd.R_alloc | apply Kd.R_drewN | apply Kd.R_drew)); exact HO303.out) (Kd.R_base ho0) hb)
      have n1_ := Aside0.mk (Kd.V_elder' (by (with_reducible repeat (first | apply Kd.V_alloc | apply Kd.V_drewN | apply Kd.V_drew)); exact HO306.out) (Kd.R_base ho0) hb)
      have n2_ := Aside0.mk (Kd.R_elder' (by (with_reducible repeat (first | apply Kd.R_alloc | apply Kd.R_drewN | apply Kd.R_drew)); exact HO313.out) (Kd.R_base ho0) hb)
      have n3_ := Aside0.mk (Kd.R_elder' (by (with_reducible repeat (first | apply Kd.R_alloc | apply Kd.R_drewN | apply Kd.R_drew)); exact HO318.out) (Kd.R_base ho0) hb)
      have n4_ := Aside0.mk (Kd.R_lower (Kd.R_new' (Kd.R_new' (Kd.R_new' ho0 (Kd.R_lt (by (with_reducible repeat (first | apply Kd.R_alloc | apply Kd.R_drewN | apply Kd.R_drew)); exact HO303.out))) (Kd.R_lt (by (with_reducible repeat (first | apply Kd.R_alloc | apply Kd.R_drewN | apply Kd.R_drew)); exact HO313.out))) (Kd.R_lt (by (with_reducible repeat (first | apply Kd.R_alloc | apply Kd.R_drewN | apply Kd.R_drew)); exact HO318.out))) (below_size (by repeat (first | (with_reducible first | exact HB.out | apply below_alloc | apply pw_below_drewN | apply below_drew1 | refine below_set ?_ GE297.out | refine below_set ?_ GE298.out | refine below_set ?_ GE299.out | refine below_set ?_ GE300.out | refine below_set ?_ GE314.out) | exact HB.out))))
      have n5_ := Aside0.mk (blk_below (g := gb297) (o := .cells #[.bool a0_0, .slice A0_1 l0_1.length c0_1] 25 (0, 0)) (by (with_reducible repeat (first | refine blk_drewN ?_ _ | refine blk_drew ?_ | refine blk_alloc ?_ _)); exact BK297.out) hb)
      have n6_ := Aside0.mk (blk_below (g := gb298) (o := .cells #[.bool a1_0, .slice A1_1 l1_1.length c1_1] 25 (0, 0)) (by (with_reducible repeat (first | refine blk_drewN ?_ _ | refine blk_drew ?_ | refine blk_alloc ?_ _)); exact BK298.out) hb)
      have n7_ := Aside0.mk (blk_below (g := gb299) (o := .cells #[.bool false, .slice none 0 0] 25 (0, 0)) (by (with_reducible repeat (first | refine blk_drewN ?_ _ | refine blk_drew ?_ | refine blk_alloc ?_ _)); exact BK299.out) hb)
      have n8_ := Aside0.mk (blk_below (g := gb300) (o := .cells #[.bool false, .slice none 0 0] 25 (0, 0)) (by (with_reducible repeat (first | refine blk_drewN ?_ _ | refine blk_drew ?_ | refine blk_alloc ?_ _)); exact BK300.out) hb)
      have n9_ := Aside0.mk (blk_below (g := gb314) (o := .cells #[.bool t310, .slice Ao35 t311.length co35] 25 (0, 0)) (by (with_reducible repeat (first | refine blk_drewN ?_ _ | refine blk_drew ?_ | refine blk_alloc ?_ _)); exact BK314.out) hb)
      have n10_ := Aside0.mk (below_step (by repeat (first | (with_reducible first | exact HB.out | apply below_alloc | apply pw_below_drewN | apply below_drew1 | refine below_set ?_ GE297.out | refine below_set ?_ GE298.out | refine below_set ?_ GE299.out | refine below_set ?_ GE300.out | refine below_set ?_ GE314.out) | exact HB.out)) hb)
      clear HO303
      clear HO306
      clear HO313
      clear HO318
      clear BK297
      clear BK298
      clear BK299
      clear BK300
      clear BK314
      clear HB
      have HO303 := n0_
      have HO306 := n1_
      have HO313 := n2_
      have HO318 := n3_
      have HO336 := n4_
      have BK297 := n5_
      have BK298 := n6_
      have BK299 := n7_
      have BK300 := n8_
      have BK314 := n9_
      have HB := n10_
      clear n0_ n1_ n2_ n3_ n4_ n5_ n6_ n7_ n8_ n9_ n10_
      (try clear hb)
      (try clear ho0)
      obtain ⟨Ao92, co92, eo92⟩ := Kd.R_slice HO336.out
      (first | subst eo92 | (injection eo92 with f1_ f2_ f3_; have f4_ := f1_.symm; have f5_ := f3_.symm; clear f1_ f2_ f3_; subst f4_; subst f5_))
      refine hK.out _ _ ⟨(blk_cell BK314.out 0).trans rfl, (blk_cell BK314.out 1).trans rfl⟩ (fun hHeld => ?_)
      clear hK K
      refine norm_ (a' := ?_) ?_ ?_
      rotate_left
      · show Act.put _ (some 47) _ = _
        simp only [Act.put, List.setIfInBounds_toArray, List.set_cons_zero, List.set_cons_succ, i64_w, i32_w]
        rfl
      refine one_ (i := 3) (N := none) #[true, true, true, true, false, false] rfl rfl (by kernel_rfl) (by decide) (fun K hK => ?_)
      have hs89 : w88.cell? ⟨gb299, 0, none⟩ = some (.bool false) := (blk_cell BK299.out 0).trans rfl
      have hfs89 := blk_frozen BK299.out 0
      have hns89_0 := NB297_299.out
      have hns89_1 := NB298_299.out
      have hns89_3 := NB300_299.out
      have hns89_4 := NB314_299.out
      have hms89_0 := NB299_297.out
      have hms89_1 := NB299_298.out
      have hms89_3 := NB299_300.out
      have hms89_4 := NB299_314.out
      have hs90 : w88.cell? ⟨gb299, 1, none⟩ = some (.slice none 0 0) := (blk_cell BK299.out 1).trans rfl
      have hfs90 := blk_frozen BK299.out 1
      have hns90_0 := NB297_299.out
      have hns90_1 := NB298_299.out
      have hns90_3 := NB300_299.out
      have hns90_4 := NB314_299.out
      have hms90_0 := NB299_297.out
      have hms90_1 := NB299_298.out
      have hms90_3 := NB299_300.out
      have hms90_4 := NB299_314.out
      refine skip_ (w1 := ?_) (by rfl) rfl ?_ ?_
      rotate_left
      · go_simp
        rfl
      refine hK.out _ _ ⟨((cell_far (p := ⟨gb299, _, none⟩) NB314_299.out _).trans (((cell_far (p := ⟨gb299, _, none⟩) NB314_299.out _).trans (hHeld.1)))), ((cell_far (p := ⟨gb299, _, none⟩) NB314_299.out _).trans (((cell_far (p := ⟨gb299, _, none⟩) NB314_299.out _).trans (hHeld.2))))⟩ (fun hHeld => ?_)
      clear hK K
      refine one_ (i := 4) (N := none) #[true, true, true, true, true, false] rfl rfl (by kernel_rfl) (by decide) (fun K hK => ?_)
      have hs91 : w88.cell? ⟨gb300, 0, none⟩ = some (.bool false) := (blk_cell BK300.out 0).trans rfl
      have hfs91 := blk_frozen BK300.out 0
      have hns91_0 := NB297_300.out
      have hns91_1 := NB298_300.out
      have hns91_2 := NB299_300.out
      have hns91_4 := NB314_300.out
      have hms91_0 := NB300_297.out
      have hms91_1 := NB300_298.out
      have hms91_2 := NB300_299.out
      have hms91_4 := NB300_314.out
      have hs93 : w88.cell? ⟨gb300, 1, none⟩ = some (.slice none 0 0) := (blk_cell BK300.out 1).trans rfl
      have hfs93 := blk_frozen BK300.out 1
      have hns93_0 := NB297_300.out
      have hns93_1 := NB298_300.out
      have hns93_2 := NB299_300.out
      have hns93_4 := NB314_300.out
      have hms93_0 := NB300_297.out
      have hms93_1 := NB300_298.out
      have hms93_2 := NB300_299.out
      have hms93_4 := NB300_314.out
      refine skip_ (w1 := ?_) (by rfl) rfl ?_ ?_
      rotate_left
      · go_simp
        rfl
      refine hK.out _ _ ⟨((cell_far (p := ⟨gb300, _, none⟩) NB314_300.out _).trans (((cell_far (p := ⟨gb300, _, none⟩) NB314_300.out _).trans (hHeld.1)))), ((cell_far (p := ⟨gb300, _, none⟩) NB314_300.out _).trans (((cell_far (p := ⟨gb300, _, none⟩) NB314_300.out _).trans (hHeld.2))))⟩ (fun hHeld => ?_)
      clear hK K
      refine pure_ (i := 5) (N := some 6) (v := ?_) (a' := ?_) #[true, true, true, true, true, true] rfl rfl (by kernel_rfl) (fun _ _ _ h => h) (Or.inl ⟨by rfl, ?_⟩) ?_ ?_
      rotate_left
      · intro w'
        go_simp
        with_reducible rfl
      rotate_left
      · simp only [Act.put, List.setIfInBounds_toArray, List.set_cons_zero, List.set_cons_succ, i64_w, i32_w]
        rfl
      refine done_ (by kernel_rfl) ?_
      try go_wp2
      refine bodyPost_ret (results_list (rs := [.cell 4 25, .cell 5 25, .tmp 6]) rfl (by simp) (.cell gb299 25 #[.bool t310, .slice Ao35 t311.length co35] (0, 0) _ rfl (by (with_reducible repeat (first | refine blk_drewN ?_ _ | refine blk_drew ?_ | refine blk_alloc ?_ _)); refine blk_far ?_ NB299_300.out _; (with_reducible repeat (first | refine blk_drewN ?_ _ | refine blk_drew ?_ | refine blk_alloc ?_ _)); refine blk_far ?_ NB299_300.out _; (with_reducible repeat (first | refine blk_drewN ?_ _ | refine blk_drew ?_ | refine blk_alloc ?_ _)); refine blk_put (cs := #[.bool t310, .slice none 0 0]) ?_ 1 _ rfl; (with_reducible repeat (first | refine blk_drewN ?_ _ | refine blk_drew ?_ | refine blk_alloc ?_ _)); refine blk_put (cs := #[.bool false, .slice none 0 0]) ?_ 0 _ rfl; (with_reducible repeat (first | refine blk_drewN ?_ _ | refine blk_drew ?_ | refine blk_alloc ?_ _)); exact BK299.out) Try.underlying25 rfl (by kernel_rfl) (.cell gb300 25 #[.bool t333, .slice Ao92 t334.length co92] (0, 0) _ rfl (by (with_reducible repeat (first | refine blk_drewN ?_ _ | refine blk_drew ?_ | refine blk_alloc ?_ _)); refine blk_put (cs := #[.bool t333, .slice none 0 0]) ?_ 1 _ rfl; (with_reducible repeat (first | refine blk_drewN ?_ _ | refine blk_drew ?_ | refine blk_alloc ?_ _)); refine blk_put (cs := #[.bool false, .slice none 0 0]) ?_ 0 _ rfl; (with_reducible repeat (first | refine blk_drewN ?_ _ | refine blk_drew ?_ | refine blk_alloc ?_ _)); refine blk_far ?_ NB300_299.out _; (with_reducible repeat (first | refine blk_drewN ?_ _ | refine blk_drew ?_ | refine blk_alloc ?_ _)); refine blk_far ?_ NB300_299.out _; (with_reducible repeat (first | refine blk_drewN ?_ _ | refine blk_drew ?_ | refine blk_alloc ?_ _)); exact BK300.out) Try.underlying25 rfl (by kernel_rfl) (.tmp .nil)))) rfl ?_
      exact ⟨_, _, by first | rfl | (simp [errW_none, errW_some] <;> rfl) | (simp [*, errW_none, errW_some] <;> rfl), by (with_reducible repeat (first | apply Kd.R_alloc | apply Kd.R_drewN | apply Kd.R_drew)); exact Kd.R_mono (Kd.R_far (p := ⟨gb300, 1, none⟩) (Kd.R_far (p := ⟨gb300, 0, none⟩) (Kd.R_far (p := ⟨gb299, 1, none⟩) (Kd.R_far (p := ⟨gb299, 0, none⟩) (Kd.R_types (Kd.R_types HO313.out BK299.out (by decide)) BK300.out (by decide)) (fun _ hk => hk.1.2) (.bool t310)) (fun _ hk => hk.1.2) (.slice Ao35 t311.length co35)) (fun _ hk => hk.2) (.bool t333)) (fun _ hk => hk.2) (.slice Ao92 t334.length co92)) (fun _ hk => hk.1.1.2), by (with_reducible repeat (first | apply Kd.R_alloc | apply Kd.R_drewN | apply Kd.R_drew)); exact Kd.R_mono (Kd.R_far (p := ⟨gb300, 1, none⟩) (Kd.R_far (p := ⟨gb300, 0, none⟩) (Kd.R_far (p := ⟨gb299, 1, none⟩) (Kd.R_far (p := ⟨gb299, 0, none⟩) (Kd.R_types (Kd.R_types HO336.out BK299.out (by decide)) BK300.out (by decide)) (fun _ hk => hk.1.2) (.bool t310)) (fun _ hk => hk.1.2) (.slice Ao35 t311.length co35)) (fun _ hk => hk.2) (.bool t333)) (fun _ hk => hk.2) (.slice Ao92 t334.length co92)) (fun _ hk => hk.1.1.1.2), by repeat (first | (with_reducible first | exact HB.out | apply below_alloc | apply pw_below_drewN | apply below_drew1 | refine below_set ?_ GE297.out | refine below_set ?_ GE298.out | refine below_set ?_ GE299.out | refine below_set ?_ GE300.out | refine below_set ?_ GE314.out) | exact HB.out)⟩
  · rw [if_neg c4] at H
    have c4b0 : (t307 == 0) = false := beq_eq_false_iff_ne.mpr c4
    have c4b1 : (t307 != 0) = true := bne_iff_ne.mpr c4
    simp only [Option.some.injEq, Prod.mk.injEq] at H
    obtain ⟨rfl, rfl, rfl, rfl, rfl⟩ := H
    go_enter Try.func34, Try.ntmps34
    go_wp2_with (first | ((with_reducible refine gate_dst (N := 2) rfl ?_); refine box_event ?hg (N := 2) ?hd (cs := #[.bool a0_0, .slice A0_1 l0_1.length c0_1]) (t := 25) ?hr ?_; (case hd => rfl); (case hg => rfl); (case hr => first | (go_simp; done) | (go_simp; rfl)); intro gb297 hg w94 hbox hb; have n0_ := Aside0.mk (below_step (by repeat (first | (with_reducible first | exact HB.out | apply below_alloc | apply pw_below_drewN | apply below_drew1) | exact HB.out)) hb); have n1_ := Aside0.mk (hbox); have n2_ := Aside0.mk ((by rw [hg]; exact (below_size (by repeat (first | (with_reducible first | exact HB.out | apply below_alloc | apply pw_below_drewN | apply below_drew1) | exact HB.out))) : w.heap.size ≤ gb297)); have n3_ := Aside0.mk ((by rw [hg]; exact (below_size (by repeat (first | (with_reducible first | exact HB.out | apply below_alloc | apply pw_below_drewN | apply below_drew1) | exact HB.out))) : w.heap.size ≤ gb297)); clear HB; have HB := n0_; have BK297 := n1_; have GW297 := n2_; have GE297 := n3_; clear n0_ n1_ n2_ n3_; clear hb hbox hg) | ((with_reducible refine gate_dst (N := 3) rfl ?_); refine box_event ?hg (N := 3) ?hd (cs := #[.bool a1_0, .slice A1_1 l1_1.length c1_1]) (t := 25) ?hr ?_; (case hd => rfl); (case hg => rfl); (case hr => first | (go_simp; done) | (go_simp; rfl)); intro gb298 hg w95 hbox hb; have n0_ := Aside0.mk (blk_below (g := gb297) (o := .cells #[.bool a0_0, .slice A0_1 l0_1.length c0_1] 25 (0, 0)) (by (with_reducible repeat (first | refine blk_drewN ?_ _ | refine blk_drew ?_ | refine blk_alloc ?_ _)); exact BK297.out) hb); have n1_ := Aside0.mk (below_step (by repeat (first | (with_reducible first | exact HB.out | apply below_alloc | apply pw_below_drewN | apply below_drew1 | refine below_set ?_ GE297.out) | exact HB.out)) hb); have n2_ := Aside0.mk (hbox); have n3_ := Aside0.mk ((by rw [hg]; exact (below_size (by repeat (first | (with_reducible first | exact HB.out | apply below_alloc | apply pw_below_drewN | apply below_drew1 | refine below_set ?_ GE297.out) | exact HB.out))) : w.heap.size ≤ gb298)); have n4_ := Aside0.mk ((by rw [hg]; exact (below_size (by repeat (first | (with_reducible first | exact HB.out | apply below_alloc | apply pw_below_drewN | apply below_drew1 | refine below_set ?_ GE297.out) | exact HB.out))) : w.heap.size ≤ gb298)); have n5_ := Aside0.mk ((by rw [hg]; exact Nat.ne_of_lt (blk_lt (g := gb297) (o := .cells #[.bool a0_0, .slice A0_1 l0_1.length c0_1] 25 (0, 0)) (by (with_reducible repeat (first | refine blk_drewN ?_ _ | refine blk_drew ?_ | refine blk_alloc ?_ _)); exact BK297.out)) : gb297 ≠ gb298)); have n6_ := Aside0.mk ((by rw [hg]; exact Nat.ne_of_gt (blk_lt (g := gb297) (o := .cells #[.bool a0_0, .slice A0_1 l0_1.length c0_1] 25 (0, 0)) (by (with_reducible repeat (first | refine blk_drewN ?_ _ | refine blk_drew ?_ | refine blk_alloc ?_ _)); exact BK297.out)) : gb298 ≠ gb297)); clear BK297; clear HB; have BK297 := n0_; have HB := n1_; have BK298 := n2_; have GW298 := n3_; have GE298 := n4_; have NB297_298 := n5_; have NB298_297 := n6_; clear n0_ n1_ n2_ n3_ n4_ n5_ n6_; clear hb hbox hg) | ((with_reducible refine gate_dst (N := 4) rfl ?_); refine box_event ?hg (N := 4) ?hd (cs := #[.bool false, .slice none 0 0]) (t := 25) ?hr ?_; (case hd => rfl); (case hg => rfl); (case hr => first | (go_simp; done) | (go_simp; rfl)); intro gb299 hg w96 hbox hb; have n0_ := Aside0.mk (blk_below (g := gb297) (o := .cells #[.bool a0_0, .slice A0_1 l0_1.length c0_1] 25 (0, 0)) (by (with_reducible repeat (first | refine blk_drewN ?_ _ | refine blk_drew ?_ | refine blk_alloc ?_ _)); exact BK297.out) hb); have n1_ := Aside0.mk (blk_below (g := gb298) (o := .cells #[.bool a1_0, .slice A1_1 l1_1.length c1_1] 25 (0, 0)) (by (with_reducible repeat (first | refine blk_drewN ?_ _ | refine blk_drew ?_ | refine blk_alloc ?_ _)); exact BK298.out) hb); have n2_ := Aside0.mk (below_step (by repeat (first | (with_reducible first | exact HB.out | apply below_alloc | apply pw_below_drewN | apply below_drew1 | refine below_set ?_ GE297.out | refine below_set ?_ GE298.out) | exact HB.out)) hb); have n3_ := Aside0.mk (hbox); have n4_ := Aside0.mk ((by rw [hg]; exact (below_size (by repeat (first | (with_reducible first | exact HB.out | apply below_alloc | apply pw_below_drewN | apply below_drew1 | refine below_set ?_ GE297.out | refine below_set ?_ GE298.out) | exact HB.out))) : w.heap.size ≤ gb299)); have n5_ := Aside0.mk ((by rw [hg]; exact (below_size (by repeat (first | (with_reducible first | exact HB.out | apply below_alloc | apply pw_below_drewN | apply below_drew1 | refine below_set ?_ GE297.out | refine below_set ?_ GE298.out) | exact HB.out))) : w.heap.size ≤ gb299)); have n6_ := Aside0.mk ((by rw [hg]; exact Nat.ne_of_lt (blk_lt (g := gb297) (o := .cells #[.bool a0_0, .slice A0_1 l0_1.length c0_1] 25 (0, 0)) (by (with_reducible repeat (first | refine blk_drewN ?_ _ | refine blk_drew ?_ | refine blk_alloc ?_ _)); exact BK297.out)) : gb297 ≠ gb299)); have n7_ := Aside0.mk ((by rw [hg]; exact Nat.ne_of_gt (blk_lt (g := gb297) (o := .cells #[.bool a0_0, .slice A0_1 l0_1.length c0_1] 25 (0, 0)) (by (with_reducible repeat (first | refine blk_drewN ?_ _ | refine blk_drew ?_ | refine blk_alloc ?_ _)); exact BK297.out)) : gb299 ≠ gb297)); have n8_ := Aside0.mk ((by rw [hg]; exact Nat.ne_of_lt (blk_lt (g := gb298) (o := .cells #[.bool a1_0, .slice A1_1 l1_1.length c1_1] 25 (0, 0)) (by (with_reducible repeat (first | refine blk_drewN ?_ _ | refine blk_drew ?_ | refine blk_alloc ?_ _)); exact BK298.out)) : gb298 ≠ gb299)); have n9_ := Aside0.mk ((by rw [hg]; exact Nat.ne_of_gt (blk_lt (g := gb298) (o := .cells #[.bool a1_0, .slice A1_1 l1_1.length c1_1] 25 (0, 0)) (by (with_reducible repeat (first | refine blk_drewN ?_ _ | refine blk_drew ?_ | refine blk_alloc ?_ _)); exact BK298.out)) : gb299 ≠ gb298)); clear BK297; clear BK298; clear HB; have BK297 := n0_; have BK298 := n1_; have HB := n2_; have BK299 := n3_; have GW299 := n4_; have GE299 := n5_; have NB297_299 := n6_; have NB299_297 := n7_; have NB298_299 := n8_; have NB299_298 := n9_; clear n0_ n1_ n2_ n3_ n4_ n5_ n6_ n7_ n8_ n9_; clear hb hbox hg) | ((with_reducible refine gate_dst (N := 5) rfl ?_); refine box_event ?hg (N := 5) ?hd (cs := #[.bool false, .slice none 0 0]) (t := 25) ?hr ?_; (case hd => rfl); (case hg => rfl); (case hr => first | (go_simp; done) | (go_simp; rfl)); intro gb300 hg w97 hbox hb; have n0_ := Aside0.mk (blk_below (g := gb297) (o := .cells #[.bool a0_0, .slice A0_1 l0_1.length c0_1] 25 (0, 0)) (by (with_reducible repeat (first | refine blk_drewN ?_ _ | refine blk_drew ?_ | refine blk_alloc ?_ _)); exact BK297.out) hb); have n1_ := Aside0.mk (blk_below (g := gb298) (o := .cells #[.bool a1_0, .slice A1_1 l1_1.length c1_1] 25 (0, 0)) (by (with_reducible repeat (first | refine blk_drewN ?_ _ | refine blk_drew ?_ | refine blk_alloc ?_ _)); exact BK298.out) hb); have n2_ := Aside0.mk (blk_below (g := gb299) (o := .cells #[.bool false, .slice none 0 0] 25 (0, 0)) (by (with_reducible repeat (first | refine blk_drewN ?_ _ | refine blk_drew ?_ | refine blk_alloc ?_ _)); exact BK299.out) hb); have n3_ := Aside0.mk (below_step (by repeat (first | (with_reducible first | exact HB.out | apply below_alloc | apply pw_below_drewN | apply below_drew1 | refine below_set ?_ GE297.out | refine below_set ?_ GE298.out | refine below_set ?_ GE299.out) | exact HB.out)) hb); have n4_ := Aside0.mk (hbox); have n5_ := Aside0.mk ((by rw [hg]; exact (below_size (by repeat (first | (with_reducible first | exact HB.out | apply below_alloc | apply pw_below_drewN | apply below_drew1 | refine below_set ?_ GE297.out | refine below_set ?_ GE298.out | refine below_set ?_ GE299.out) | exact HB.out))) : w.heap.size ≤ gb300)); have n6_ := Aside0.mk ((by rw [hg]; exact (below_size (by repeat (first | (with_reducible first | exact HB.out | apply below_alloc | apply pw_below_drewN | apply below_drew1 | refine below_set ?_ GE297.out | refine below_set ?_ GE298.out | refine below_set ?_ GE299.out) | exact HB.out))) : w.heap.size ≤ gb300)); have n7_ := Aside0.mk ((by rw [hg]; exact Nat.ne_of_lt (blk_lt (g := gb297) (o := .cells #[.bool a0_0, .slice A0_1 l0_1.length c0_1] 25 (0, 0)) (by (with_reducible repeat (first | refine blk_drewN ?_ _ | refine blk_drew ?_ | refine blk_alloc ?_ _)); exact BK297.out)) : gb297 ≠ gb300)); have n8_ := Aside0.mk ((by rw [hg]; exact Nat.ne_of_gt (blk_lt (g := gb297) (o := .cells #[.bool a0_0, .slice A0_1 l0_1.length c0_1] 25 (0, 0)) (by (with_reducible repeat (first | refine blk_drewN ?_ _ | refine blk_drew ?_ | refine blk_alloc ?_ _)); exact BK297.out)) : gb300 ≠ gb297)); have n9_ := Aside0.mk ((by rw [hg]; exact Nat.ne_of_lt (blk_lt (g := gb298) (o := .cells #[.bool a1_0, .slice A1_1 l1_1.length c1_1] 25 (0, 0)) (by (with_reducible repeat (first | refine blk_drewN ?_ _ | refine blk_drew ?_ | refine blk_alloc ?_ _)); exact BK298.out)) : gb298 ≠ gb300)); have n10_ := Aside0.mk ((by rw [hg]; exact Nat.ne_of_gt (blk_lt (g := gb298) (o := .cells #[.bool a1_0, .slice A1_1 l1_1.length c1_1] 25 (0, 0)) (by (with_reducible repeat (first | refine blk_drewN ?_ _ | refine blk_drew ?_ | refine blk_alloc ?_ _)); exact BK298.out)) : gb300 ≠ gb298)); have n11_ := Aside0.mk ((by rw [hg]; exact Nat.ne_of_lt (blk_lt (g := gb299) (o := .cells #[.bool false, .slice none 0 0] 25 (0, 0)) (by (with_reducible repeat (first | refine blk_drewN ?_ _ | refine blk_drew ?_ | refine blk_alloc ?_ _)); exact BK299.out)) : gb299 ≠ gb300)); have n12_ := Aside0.mk ((by rw [hg]; exact Nat.ne_of_gt (blk_lt (g := gb299) (o := .cells #[.bool false, .slice none 0 0] 25 (0, 0)) (by (with_reducible repeat (first | refine blk_drewN ?_ _ | refine blk_drew ?_ | refine blk_alloc ?_ _)); exact BK299.out)) : gb300 ≠ gb299)); clear BK297; clear BK298; clear BK299; clear HB; have BK297 := n0_; have BK298 := n1_; have BK299 := n2_; have HB := n3_; have BK300 := n4_; have GW300 := n5_; have GE300 := n6_; have NB297_300 := n7_; have NB300_297 := n8_; have NB298_300 := n9_; have NB300_298 := n10_; have NB299_300 := n11_; have NB300_299 := n12_; clear n0_ n1_ n2_ n3_ n4_ n5_ n6_ n7_ n8_ n9_ n10_ n11_ n12_; clear hb hbox hg; have hnb98 := NB297_298.out; have hnc98 := NB298_297.out; have hnb99 := NB297_299.out; have hnc99 := NB299_297.out; have hnb100 := NB297_300.out; have hnc100 := NB300_297.out; have hcz101_0 : w97.cell? ⟨gb297, 0, none⟩ = some (.bool a0_0) := (blk_cell BK297.out 0).trans rfl; have hcz101_1 : w97.cell? ⟨gb297, 1, none⟩ = some (.slice A0_1 l0_1.length c0_1) := (blk_cell BK297.out 1).trans rfl; have hfz101_0 := blk_frozen BK297.out 0; have hfz101_1 := blk_frozen BK297.out 1; have hnb102 := NB298_299.out; have hnc102 := NB299_298.out; have hnb103 := NB298_300.out; have hnc103 := NB300_298.out; have hcz104_0 : w97.cell? ⟨gb298, 0, none⟩ = some (.bool a1_0) := (blk_cell BK298.out 0).trans rfl; have hcz104_1 : w97.cell? ⟨gb298, 1, none⟩ = some (.slice A1_1 l1_1.length c1_1) := (blk_cell BK298.out 1).trans rfl; have hfz104_0 := blk_frozen BK298.out 0; have hfz104_1 := blk_frozen BK298.out 1) | ((with_reducible refine gate_callee (f := 82) rfl ?_); refine goesL_ (some 17) rfl rfl Try.func82 (by kernel_rfl) rfl #[.slice A0_1 l0_1.length c0_1, .slice A1_1 l1_1.length c1_1] rfl (by (try simp only [List.map_toArray, List.map_cons, List.map_nil]); first | done | rfl | (simp only [List.length_drop, List.length_take]; rfl)) ?_; (with_reducible refine (nat_DivMod.calls k _ _ l0_1 _ _ l1_1 t301 t304 t307 _ ?side1 ?side2 ?side3 ?side4 A3.out).mono ?_); (case side1 => repeat (first | exact (Kd.C_below HR0_1.out HB.out) | (with_reducible refine Kd.C_alloc ?_ _) | (with_reducible refine Kd.C_drewN ?_ _) | (with_reducible refine Kd.C_drew ?_))); (case side2 => exact HC0_1.out); (case side3 => repeat (first | exact (Kd.C_below HR1_1.out HB.out) | (with_reducible refine Kd.C_alloc ?_ _) | (with_reducible refine Kd.C_drewN ?_ _) | (with_reducible refine Kd.C_drew ?_))); (case side4 => exact HC1_1.out); rintro e w105 ⟨v302, v305, rfl, ho0, ho1, hb⟩; refine ⟨_, rfl, ?_⟩; have n0_ := Aside0.mk (Kd.R_lower (Kd.R_mono (ok' := fun k_ => True) ho0 (fun _ hk_ => trivial)) (below_size (by repeat (first | (with_reducible first | exact HB.out | apply below_alloc | apply pw_below_drewN | apply below_drew1 | refine below_set ?_ GE297.out | refine below_set ?_ GE298.out | refine below_set ?_ GE299.out | refine below_set ?_ GE300.out) | exact HB.out)))); have n1_ := Aside0.mk (Kd.V_lower (Kd.V_mono (ok' := fun k_ => some k_ ≠ (v302 : Value).ownBlock ∧ k_ ≠ gb297 ∧ k_ ≠ gb298 ∧ k_ ≠ gb299 ∧ k_ ≠ gb300) ho1 (fun k_ hk_ => ⟨hk_.2, (Kd.freshB (g := gb297) (o := .cells #[.bool a0_0, .slice A0_1 l0_1.length c0_1] 25 (0, 0)) (by (with_reducible repeat (first | refine blk_drewN ?_ _ | refine blk_drew ?_ | refine blk_alloc ?_ _)); exact BK297.out) k_ hk_.1), (Kd.freshB (g := gb298) (o := .cells #[.bool a1_0, .slice A1_1 l1_1.length c1_1] 25 (0, 0)) (by (with_reducible repeat (first | refine blk_drewN ?_ _ | refine blk_drew ?_ | refine blk_alloc ?_ _)); exact BK298.out) k_ hk_.1), (Kd.freshB (g := gb299) (o := .cells #[.bool false, .slice none 0 0] 25 (0, 0)) (by (with_reducible repeat (first | refine blk_drewN ?_ _ | refine blk_drew ?_ | refine blk_alloc ?_ _)); exact BK299.out) k_ hk_.1), (Kd.freshB (g := gb300) (o := .cells #[.bool false, .slice none 0 0] 25 (0, 0)) (by (with_reducible repeat (first | refine blk_drewN ?_ _ | refine blk_drew ?_ | refine blk_alloc ?_ _)); exact BK300.out) k_ hk_.1)⟩)) (below_size (by repeat (first | (with_reducible first | exact HB.out | apply below_alloc | apply pw_below_drewN | apply below_drew1 | refine below_set ?_ GE297.out | refine below_set ?_ GE298.out | refine below_set ?_ GE299.out | refine below_set ?_ GE300.out) | exact HB.out)))); have n2_ := Aside0.mk (blk_below (g := gb297) (o := .cells #[.bool a0_0, .slice A0_1 l0_1.length c0_1] 25 (0, 0)) (by (with_reducible repeat (first | refine blk_drewN ?_ _ | refine blk_drew ?_ | refine blk_alloc ?_ _)); exact BK297.out) hb); have n3_ := Aside0.mk (blk_below (g := gb298) (o := .cells #[.bool a1_0, .slice A1_1 l1_1.length c1_1] 25 (0, 0)) (by (with_reducible repeat (first | refine blk_drewN ?_ _ | refine blk_drew ?_ | refine blk_alloc ?_ _)); exact BK298.out) hb); have n4_ := Aside0.mk (blk_below (g := gb299) (o := .cells #[.bool false, .slice none 0 0] 25 (0, 0)) (by (with_reducible repeat (first | refine blk_drewN ?_ _ | refine blk_drew ?_ | refine blk_alloc ?_ _)); exact BK299.out) hb); have n5_ := Aside0.mk (blk_below (g := gb300) (o := .cells #[.bool false, .slice none 0 0] 25 (0, 0)) (by (with_reducible repeat (first | refine blk_drewN ?_ _ | refine blk_drew ?_ | refine blk_alloc ?_ _)); exact BK300.out) hb); have n6_ := Aside0.mk (below_step (by repeat (first | (with_reducible first | exact HB.out | apply below_alloc | apply pw_below_drewN | apply below_drew1 | refine below_set ?_ GE297.out | refine below_set ?_ GE298.out | refine below_set ?_ GE299.out | refine below_set ?_ GE300.out) | exact HB.out)) hb); clear BK297; clear BK298; clear BK299; clear BK300; clear HB; have HO303 := n0_; have HO306 := n1_; have BK297 := n2_; have BK298 := n3_; have BK299 := n4_; have BK300 := n5_; have HB := n6_; clear n0_ n1_ n2_ n3_ n4_ n5_ n6_; (try clear hb); (try clear ho0); (try clear ho1); have hnb106 := NB299_300.out; have hnc106 := NB300_299.out; have hcz107_0 : w105.cell? ⟨gb299, 0, none⟩ = some (.bool false) := (blk_cell BK299.out 0).trans rfl; have hcz107_1 : w105.cell? ⟨gb299, 1, none⟩ = some (.slice none 0 0) := (blk_cell BK299.out 1).trans rfl; have hfz107_0 := blk_frozen BK299.out 0; have hfz107_1 := blk_frozen BK299.out 1; have hcz108_0 : w105.cell? ⟨gb300, 0, none⟩ = some (.bool false) := (blk_cell BK300.out 0).trans rfl; have hcz108_1 : w105.cell? ⟨gb300, 1, none⟩ = some (.slice none 0 0) := (blk_cell BK300.out 1).trans rfl; have hfz108_0 := blk_frozen BK300.out 0; have hfz108_1 := blk_frozen BK300.out 1))
    refine bodyPost_ret (results_list (rs := [.cell 4 25, .cell 5 25, .tmp 6]) rfl (by simp) (.cell gb299 25 #[.bool false, .slice none 0 0] (0, 0) _ rfl (by (with_reducible repeat (first | refine blk_drewN ?_ _ | refine blk_drew ?_ | refine blk_alloc ?_ _)); refine blk_far ?_ NB299_300.out _; (with_reducible repeat (first | refine blk_drewN ?_ _ | refine blk_drew ?_ | refine blk_alloc ?_ _)); refine blk_far ?_ NB299_300.out _; (with_reducible repeat (first | refine blk_drewN ?_ _ | refine blk_drew ?_ | refine blk_alloc ?_ _)); refine blk_put (cs := #[.bool false, .slice none 0 0]) ?_ 1 _ rfl; (with_reducible repeat (first | refine blk_drewN ?_ _ | refine blk_drew ?_ | refine blk_alloc ?_ _)); refine blk_put (cs := #[.bool false, .slice none 0 0]) ?_ 0 _ rfl; (with_reducible repeat (first | refine blk_drewN ?_ _ | refine blk_drew ?_ | refine blk_alloc ?_ _)); exact BK299.out) Try.underlying25 rfl (by kernel_rfl) (.cell gb300 25 #[.bool false, .slice none 0 0] (0, 0) _ rfl (by (with_reducible repeat (first | refine blk_drewN ?_ _ | refine blk_drew ?_ | refine blk_alloc ?_ _)); refine blk_put (cs := #[.bool false, .slice none 0 0]) ?_ 1 _ rfl; (with_reducible repeat (first | refine blk_drewN ?_ _ | refine blk_drew ?_ | refine blk_alloc ?_ _)); refine blk_put (cs := #[.bool false, .slice none 0 0]) ?_ 0 _ rfl; (with_reducible repeat (first | refine blk_drewN ?_ _ | refine blk_drew ?_ | refine blk_alloc ?_ _)); refine blk_far ?_ NB300_299.out _; (with_reducible repeat (first | refine blk_drewN ?_ _ | refine blk_drew ?_ | refine blk_alloc ?_ _)); refine blk_far ?_ NB300_299.out _; (with_reducible repeat (first | refine blk_drewN ?_ _ | refine blk_drew ?_ | refine blk_alloc ?_ _)); exact BK300.out) Try.underlying25 rfl (by kernel_rfl) (.tmp .nil)))) rfl ?_
    exact ⟨_, _, by first | rfl | (simp [errW_none, errW_some] <;> rfl) | (simp [*, errW_none, errW_some] <;> rfl), by first | exact Kd.R_nil _ _ _ _ _ | exact Kd.N_nil _ _ _ _ _ | exact Kd.V_nil _ _ _ _ _ | exact Kd.Q_nil _ _ _ _ _ | exact Kd.S_nil _ _ _ _ _, by first | exact Kd.R_nil _ _ _ _ _ | exact Kd.N_nil _ _ _ _ _ | exact Kd.V_nil _ _ _ _ _ | exact Kd.Q_nil _ _ _ _ _ | exact Kd.S_nil _ _ _ _ _, by repeat (first | (with_reducible first | exact HB.out | apply below_alloc | apply pw_below_drewN | apply below_drew1 | refine below_set ?_ GE297.out | refine below_set ?_ GE298.out | refine below_set ?_ GE299.out | refine below_set ?_ GE300.out) | exact HB.out)⟩

theorem whole_Floor.ev0 {m m' : Bool} {l l' : List Int} {a b : Int} {K : Nat} (ha : Zn.Is m l a K) (hb : Zn.Is m' l' b K) (hK : K < 400000) (h0 : b = 0) : Ev (fun k => whole_Floor.f k m l m' l') (false, [], false, [], 5) := by
  have la := ha.len
  have lb := hb.len
  have D : ∀ k, nat_DivMod.f k l l' = some ([], [], 5) := fun k => by
    unfold nat_DivMod.f
    rw [if_pos ((Num.okd_iff l).2 ⟨by omega, ha.ws⟩), if_pos ((Num.okd_iff l').2 ⟨by omega, hb.ws⟩), if_pos (by rw [← hb.abs, h0]; rfl)]
  unfold whole_Floor.f
  exact Dec.val D (Dec.no (by decide) (Ev.now _))
theorem whole_Floor.ev {m m' : Bool} {l l' : List Int} {a b : Int} {K : Nat} (ha : Zn.Is m l a K) (hb : Zn.Is m' l' b K) (hK : K < 400000) (h0 : b ≠ 0) :
    Ev (fun k => whole_Floor.f k m l m' l') ((Zn.zd (Zn.fl a b).1).1, (Zn.zd (Zn.fl a b).1).2, (Zn.zd (Zn.fl a b).2).1, (Zn.zd (Zn.fl a b).2).2, 0) := by
  have la := ha.len
  have lb := hb.len
  have aa := ha.lt
  have D : ∀ k, nat_DivMod.f k l l' = some (Num.nd (a.natAbs / b.natAbs), Num.nd (a.natAbs % b.natAbs), 0) := fun k => by
    unfold nat_DivMod.f
    rw [if_pos ((Num.okd_iff l).2 ⟨by omega, ha.ws⟩), if_pos ((Num.okd_iff l').2 ⟨by omega, hb.ws⟩), if_neg (by rw [← hb.abs]; omega), ← ha.abs, ← hb.abs]
  have d : decide (wrap64 (a.sign * b.sign) < 0) = decide (a * b < 0) := by rw [Zn.w64_sign]; exact decide_eq_decide.2 (Zn.sign_mul_neg a b)
  have M := whole_Make.ev (Zn.Is.nd (m := decide (a * b < 0)) (Nat.lt_of_le_of_lt (Nat.div_le_self a.natAbs b.natAbs) aa)) (by omega)
  have eq : Zn.zv (decide (a * b < 0)) (a.natAbs / b.natAbs) = Zn.flq a b := rfl
  rw [eq] at M
  have hq : (Zn.flq a b).natAbs < 2 ^ (32 * K) := by
    unfold Zn.flq
    rw [Zn.natAbs_zv]
    exact Nat.lt_of_le_of_lt (Nat.div_le_self _ _) aa
  have Iq := Zn.Is.zd (Zn.abs_le hq (show K ≤ K + 1 by omega))
  have ha' := ha.le (show K ≤ K + (K + 1) by omega)
  have C1 := whole_Floor_cl1.ev ha' hb Iq (by omega)
  have er : a - b * Zn.flq a b = Zn.flr a b := rfl
  rw [er] at C1
  have hr : (Zn.flr a b).natAbs < 2 ^ (32 * K) := Nat.lt_trans (Zn.flr_lt a b h0) hb.lt
  have Ir := Zn.Is.zd hr
  unfold whole_Floor.f
  refine Dec.val D (Dec.yes rfl (Ev.bind (whole_Sign.ev ha (by omega)) (Ev.bind (whole_Sign.ev hb (by omega)) ?_)))
  refine Ev.congr (f := fun k => (whole_Make.f k (decide (a * b < 0)) (Num.nd (a.natAbs / b.natAbs))).bind fun bt310 => (whole_Floor_cl1.f k m l m' l' bt310.1 bt310.2).bind fun bt315 => (whole_Sign.f k bt315.1 bt315.2).bind fun t319 => (whole_Sign.f k m' l').bind fun t320 => if (wrap64 (t319 * t320)) < 0 then ((whole_Of.f k 1).bind fun bt321 => ((whole_Sub.f k bt310.1 bt310.2 bt321.1 bt321.2).bind fun bt325 => ((whole_Floor_cl1.f k m l m' l' bt325.1 bt325.2).bind fun bt329 => (some (bt325.1, bt325.2, bt329.1, bt329.2, 0))))) else ((whole_Floor_cl1.f k m l m' l' bt310.1 bt310.2).bind fun bt333 => (some (bt310.1, bt310.2, bt333.1, bt333.2, 0)))) (fun k => by rw [d]) ?_
  refine Ev.bind M (Ev.bind C1 (Ev.bind (whole_Sign.ev Ir (by omega)) (Ev.bind (whole_Sign.ev hb (by omega)) ?_)))
  by_cases hn : Zn.flr a b * b < 0
  · have e1 : Zn.fl a b = (Zn.flq a b - 1, a - b * (Zn.flq a b - 1)) := if_pos hn
    rw [e1]
    have O := whole_Of.ev 1 (by omega) (by omega)
    have I1 : Zn.Is (Zn.zd 1).1 (Zn.zd 1).2 1 K := Zn.Is.zd (by
      have := hb.lt
      have : 1 ≤ b.natAbs := by omega
      show 1 < _
      rcases Nat.eq_zero_or_pos K with e | e
      · subst e; omega
      · exact Nat.lt_of_lt_of_le (show 1 < 2 ^ 32 by decide) (Nat.pow_le_pow_right (by omega) (by omega)))
    have S := whole_Sub.ev (Zn.Is.zd hq) I1 (by omega)
    have Ix : Zn.Is (Zn.zd (Zn.flq a b - 1)).1 (Zn.zd (Zn.flq a b - 1)).2 (Zn.flq a b - 1) (K + 1) := Zn.Is.zd (Zn.abs_sub hq I1.lt)
    have C2 := whole_Floor_cl1.ev ha' hb Ix (by omega)
    exact Dec.yes (by rw [Zn.w64_sign]; exact (Zn.sign_mul_neg _ _).2 hn) (Ev.bind O (Ev.bind S (Ev.bind C2 (Ev.now _))))
  · have e1 : Zn.fl a b = (Zn.flq a b, Zn.flr a b) := if_neg hn
    rw [e1]
    exact Dec.no (by rw [Zn.w64_sign]; exact fun e => hn ((Zn.sign_mul_neg _ _).1 e)) (Ev.bind C1 (Ev.now _))

end Go.Proofs.Ytjpkljkkcbaohaa.PR
