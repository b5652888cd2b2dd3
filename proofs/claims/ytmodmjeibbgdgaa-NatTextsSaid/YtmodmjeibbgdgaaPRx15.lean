-- PRINTED by print.py (a twelfth state) out of the translation. Not trusted: Lean checks it.
import Derived.Test.YtmodmjeibbgdgaaNum
import Derived.Test.YtmodmjeibbgdgaaDec
import Derived.Test.YtmodmjeibbgdgaaPRg0
import Derived.Test.YtmodmjeibbgdgaaPRx13
import Derived.Test.YtmodmjeibbgdgaaPRx14
namespace Go.Proofs.Ytmodmjeibbgdgaa.PR
open Go.RowKit Go.Proofs.YtmodmjeibbgdgaaW.PrintWords Go.Proofs.YtmodmjeibbgdgaaW.PrintLast Go.Proofs.YtmodmjeibbgdgaaW.PrintMore
attribute [local go_sem] max2_int min2_int max_two min_two max_three min_three max_four min_four   -- for this text's walks alone
set_option linter.unusedVariables false
set_option linter.unusedSimpArgs false

/-! ### nat_Text: function 34 -/
mutual
def nat_Text.l0 : Nat → List Int → List Int → Option (ByteArray)
  | 0, _, _ => none
  | k + 1, x0, x3 => if (x0.length : Int) > 0 then ((nat_Of.f k 1000000000).bind fun t186 => ((nat_DivMod.f k x0 t186).bind fun bt189 => ((nat_Small.f k bt189.2.1).bind fun bt196 => (nat_Text.l1 k x3 bt189.1 bt196.1 0)))) else (nat_Text.l2 k x3)
def nat_Text.l1 : Nat → List Int → List Int → Int → Int → Option (ByteArray)
  | 0, _, _, _, _ => none
  | k + 1, x3, x4, x7, x26 => if x26 < 9 then (if x3.length < 140737488355328 then (nat_Text.l1 k (x3 ++ [(IntKind.u64.wrap (48 + (Int.tmod x7 10))) % 256]) x4 (IntKind.u64.wrap (Int.tdiv x7 10)) (wrap64 (x26 + 1))) else (none)) else (nat_Text.l0 k x4 x3)
def nat_Text.l2 : Nat → List Int → Option (ByteArray)
  | 0, _ => none
  | k + 1, x3 => if (x3.length : Int) > 1 then (if 0 ≤ (wrap64 ((x3.length : Int) - 1)) then (if (wrap64 ((x3.length : Int) - 1)) < (x3.length : Int) then (if (rd x3 (wrap64 ((x3.length : Int) - 1))) = 48 then (if (wrap64 ((x3.length : Int) - 1)) ≤ (x3.length : Int) then (nat_Text.l2 k (x3.take ((wrap64 ((x3.length : Int) - 1)) : Int).toNat)) else (none)) else (if (x3.length : Int) = 0 then (some (⟨#[48]⟩ : ByteArray)) else ((slices_Reverse_byte_byte.f k x3).bind fun t205 => (some (strOfNums t205))))) else (none)) else (none)) else (if (x3.length : Int) = 0 then (some (⟨#[48]⟩ : ByteArray)) else ((slices_Reverse_byte_byte.f k x3).bind fun t206 => (some (strOfNums t206))))
end
def nat_Text.f (k : Nat) (l0 : List Int) : Option (ByteArray) := (nat_trim.f k l0).bind fun t183 => (nat_Text.l0 k t183 ([] : List Int))
theorem nat_Text.mono_l : ∀ k, (∀ y0 y1, LeO (nat_Text.l0 k y0 y1) (nat_Text.l0 (k + 1) y0 y1)) ∧ (∀ y0 y1 y2 y3, LeO (nat_Text.l1 k y0 y1 y2 y3) (nat_Text.l1 (k + 1) y0 y1 y2 y3)) ∧ (∀ y0, LeO (nat_Text.l2 k y0) (nat_Text.l2 (k + 1) y0))
  | 0 => ⟨fun _ _ r h => by simp [nat_Text.l0] at h, fun _ _ _ _ r h => by simp [nat_Text.l1] at h, fun _ r h => by simp [nat_Text.l2] at h⟩
  | k + 1 => by
    obtain ⟨ih0, ih1, ih2⟩ := nat_Text.mono_l k
    refine ⟨?_, ?_, ?_⟩
    · intro y0 y1
      unfold nat_Text.l0
      repeat' first
      | (with_reducible exact ih0 _ _)
      | (with_reducible exact ih1 _ _ _ _)
      | (with_reducible exact ih2 _)
      | (with_reducible exact nat_DivMod.mono _ _ _)
      | (with_reducible exact nat_Of.mono _ _)
      | (with_reducible exact nat_Small.mono _ _)
      | (with_reducible exact nat_trim.mono _ _)
      | (with_reducible exact slices_Reverse_byte_byte.mono _ _)
      | (with_reducible exact LeO.refl _)
      | (with_reducible exact LeO.none _)
      | (with_reducible refine LeO.ite ?_ ?_)
      | (with_reducible refine LeO.bind ?_ (fun _ => ?_))
      | exact ih0 _ _
      | exact ih1 _ _ _ _
      | exact ih2 _
      | exact nat_DivMod.mono _ _ _
      | exact nat_Of.mono _ _
      | exact nat_Small.mono _ _
      | exact nat_trim.mono _ _
      | exact slices_Reverse_byte_byte.mono _ _
      | exact LeO.none _
      | refine LeO.ite ?_ ?_
      | refine LeO.bind ?_ (fun _ => ?_)
    · intro y0 y1 y2 y3
      unfold nat_Text.l1
      repeat' first
      | (with_reducible exact ih0 _ _)
      | (with_reducible exact ih1 _ _ _ _)
      | (with_reducible exact ih2 _)
      | (with_reducible exact nat_DivMod.mono _ _ _)
      | (with_reducible exact nat_Of.mono _ _)
      | (with_reducible exact nat_Small.mono _ _)
      | (with_reducible exact nat_trim.mono _ _)
      | (with_reducible exact slices_Reverse_byte_byte.mono _ _)
      | (with_reducible exact LeO.refl _)
      | (with_reducible exact LeO.none _)
      | (with_reducible refine LeO.ite ?_ ?_)
      | (with_reducible refine LeO.bind ?_ (fun _ => ?_))
      | exact ih0 _ _
      | exact ih1 _ _ _ _
      | exact ih2 _
      | exact nat_DivMod.mono _ _ _
      | exact nat_Of.mono _ _
      | exact nat_Small.mono _ _
      | exact nat_trim.mono _ _
      | exact slices_Reverse_byte_byte.mono _ _
      | exact LeO.none _
      | refine LeO.ite ?_ ?_
      | refine LeO.bind ?_ (fun _ => ?_)
    · intro y0
      unfold nat_Text.l2
      repeat' first
      | (with_reducible exact ih0 _ _)
      | (with_reducible exact ih1 _ _ _ _)
      | (with_reducible exact ih2 _)
      | (with_reducible exact nat_DivMod.mono _ _ _)
      | (with_reducible exact nat_Of.mono _ _)
      | (with_reducible exact nat_Small.mono _ _)
      | (with_reducible exact nat_trim.mono _ _)
      | (with_reducible exact slices_Reverse_byte_byte.mono _ _)
      | (with_reducible exact LeO.refl _)
      | (with_reducible exact LeO.none _)
      | (with_reducible refine LeO.ite ?_ ?_)
      | (with_reducible refine LeO.bind ?_ (fun _ => ?_))
      | exact ih0 _ _
      | exact ih1 _ _ _ _
      | exact ih2 _
      | exact nat_DivMod.mono _ _ _
      | exact nat_Of.mono _ _
      | exact nat_Small.mono _ _
      | exact nat_trim.mono _ _
      | exact slices_Reverse_byte_byte.mono _ _
      | exact LeO.none _
      | refine LeO.ite ?_ ?_
      | refine LeO.bind ?_ (fun _ => ?_)
theorem nat_Text.mono : ∀ a0 k, LeO (nat_Text.f k a0) (nat_Text.f (k + 1) a0) := by
  intro a0 k
  obtain ⟨ih0, ih1, ih2⟩ := nat_Text.mono_l k
  unfold nat_Text.f
  repeat' first
      | (with_reducible exact ih0 _ _)
      | (with_reducible exact ih1 _ _ _ _)
      | (with_reducible exact ih2 _)
      | (with_reducible exact nat_DivMod.mono _ _ _)
      | (with_reducible exact nat_Of.mono _ _)
      | (with_reducible exact nat_Small.mono _ _)
      | (with_reducible exact nat_trim.mono _ _)
      | (with_reducible exact slices_Reverse_byte_byte.mono _ _)
      | (with_reducible exact LeO.refl _)
      | (with_reducible exact LeO.none _)
      | (with_reducible refine LeO.ite ?_ ?_)
      | (with_reducible refine LeO.bind ?_ (fun _ => ?_))
      | exact ih0 _ _
      | exact ih1 _ _ _ _
      | exact ih2 _
      | exact nat_DivMod.mono _ _ _
      | exact nat_Of.mono _ _
      | exact nat_Small.mono _ _
      | exact nat_trim.mono _ _
      | exact slices_Reverse_byte_byte.mono _ _
      | exact LeO.none _
      | refine LeO.ite ?_ ?_
      | refine LeO.bind ?_ (fun _ => ?_)
set_option maxHeartbeats 8000000 in
set_option maxRecDepth 100000 in
theorem nat_Text.calls (k : Nat) (A0 : Option Addr) (c0 : Nat) (l0 : List Int) (r : ByteArray) (w : World) (hr0 : Kd.C (Kd.int .u32) w A0 l0.length l0) (hc0 : l0.length ≤ c0) (h : nat_Text.f k l0 = some r) :
    Calls Try.prog 34 #[.slice A0 l0.length c0] w fun e w' => e = .returned (.string r) ∧ Below w.heap.size w w' := by
  have HR0 := Aside0.mk hr0
  have HC0 := Aside0.mk hc0
  clear hr0 hc0
  have HB := Aside0.mk (Below.refl w.heap.size w)
  have H : ((nat_trim.f k l0).bind fun t183 => (nat_Text.l0 k t183 ([] : List Int))) = some r := h
  clear h
  replace H := Option.bind_eq_some_iff.mp H
  obtain ⟨t183, A20, H⟩ := H
  replace H : (nat_Text.l0 k t183 ([] : List Int)) = some r := H
  have A2 := Aside0.mk A20
  clear A20
  have H' := Aside0.mk H
  clear H
  go_enter Try.func34, Try.ntmps34
  go_wp2_with (first | ((with_reducible refine gate_callee (f := 38) rfl ?_); refine goesL_ (some 10) rfl rfl Try.func38 (by kernel_rfl) rfl #[.slice A0 l0.length c0] rfl (by (try simp only [List.map_toArray, List.map_cons, List.map_nil]); first | done | rfl | (simp only [List.length_drop, List.length_take]; rfl)) ?_; (with_reducible refine (nat_trim.calls k _ _ l0 t183 _ ?side1 ?side2 A2.out).mono ?_); (case side1 => repeat (first | exact HR0.out | (with_reducible refine Kd.C_alloc ?_ _) | (with_reducible refine Kd.C_drewN ?_ _) | (with_reducible refine Kd.C_drew ?_))); (case side2 => exact HC0.out); rintro e w3 ⟨v184, rfl, ho0, hb⟩; refine ⟨_, rfl, ?_⟩; have n0_ := Aside0.mk (Kd.R_lower ho0 (below_size (by repeat (first | (with_reducible first | exact HB.out | apply below_alloc | apply pw_below_drewN | apply below_drew1) | exact HB.out)))); have n1_ := Aside0.mk (below_step (by repeat (first | (with_reducible first | exact HB.out | apply below_alloc | apply pw_below_drewN | apply below_drew1) | exact HB.out)) hb); clear HB; have HO185 := n0_; have HB := n1_; clear n0_ n1_; (try clear hb); (try clear hb2); (try clear hk); (try clear hi); (try clear ho0)))
  go_loopg [0, 3] k (fun kq v0 v3 w' => ∃ (x0_1 : List Int) (x3_1 : List Int), Aside0 (nat_Text.l0 kq x0_1 x3_1 = some r) ∧ Aside0 (kq ≤ k) ∧ Aside0 (Kd.R (Kd.int .u32) 33 w' w.heap.size (fun _ => True) v0 x0_1) ∧ Aside0 (Kd.R (Kd.int .u8) 5 w' w.heap.size (fun _ => True) v3 x3_1) ∧ Aside0 (Below w.heap.size w w'))
  case atStart => exact ⟨(t183), (([] : List Int)), H', ⟨Nat.le_refl _⟩, ⟨by (with_reducible repeat (first | apply Kd.R_alloc | apply Kd.R_drewN | apply Kd.R_drew)); exact HO185.out⟩, ⟨by first | exact Kd.R_nil _ _ _ _ _ | exact Kd.N_nil _ _ _ _ _ | exact Kd.V_nil _ _ _ _ _ | exact Kd.Q_nil _ _ _ _ _ | exact Kd.S_nil _ _ _ _ _⟩, ⟨by repeat (first | (with_reducible first | exact HB.out | apply below_alloc | apply pw_below_drewN | apply below_drew1) | exact HB.out)⟩⟩
  case round =>
    clear H'
    try clear p2
    try clear c3
    obtain ⟨x0_1, x3_1, HA, HK1, HO_0, HO_3, HB⟩ := hrel
    cases gk with
    | zero => exact absurd HA.out (by simp [nat_Text.l0])
    | succ k1 =>
      have H := HA.out
      clear HA
      simp only [nat_Text.l0] at H
      by_cases c4 : (x0_1.length : Int) > 0
      · rw [if_pos c4] at H
        have c4b0 : decide (0 < (x0_1.length : Int)) = true := decide_eq_true c4
        have c4b1 : decide (0 < x0_1.length) = true := decide_eq_true (by omega)
        clear c4
        replace H := Option.bind_eq_some_iff.mp H
        obtain ⟨t186, A50, H⟩ := H
        replace H : ((nat_DivMod.f k1 x0_1 t186).bind fun bt189 => ((nat_Small.f k1 bt189.2.1).bind fun bt196 => (nat_Text.l1 k1 x3_1 bt189.1 bt196.1 0))) = some r := H
        have A5 := Aside0.mk A50
        clear A50
        replace H := Option.bind_eq_some_iff.mp H
        obtain ⟨⟨t189, t192, t195⟩, A60, H⟩ := H
        replace H : ((nat_Small.f k1 t192).bind fun bt196 => (nat_Text.l1 k1 x3_1 t189 bt196.1 0)) = some r := H
        have A6 := Aside0.mk A60
        clear A60
        replace H := Option.bind_eq_some_iff.mp H
        obtain ⟨⟨t196, t197⟩, A70, H⟩ := H
        replace H : (nat_Text.l1 k1 x3_1 t189 t196 0) = some r := H
        have A7 := Aside0.mk A70
        clear A70
        have H' := Aside0.mk H
        clear H
        obtain ⟨Ao8, co8, eo8⟩ := Kd.R_slice HO_0.out
        subst eo8
        go_wp2_with (first | ((with_reducible refine gate_callee (f := 18) rfl ?_); refine goesL_ (some 16) rfl rfl Try.func18 (by kernel_rfl) rfl #[.int .u64 1000000000] rfl (by (try simp only [List.map_toArray, List.map_cons, List.map_nil]); first | done | rfl | (simp only [List.length_drop, List.length_take]; rfl)) ?_; (with_reducible refine (nat_Of.calls k1 1000000000 t186 _ A5.out).mono ?_); rintro e w9 ⟨v187, rfl, ho0, hb⟩; refine ⟨_, rfl, ?_⟩; have n0_ := Aside0.mk (Kd.R_elder' (by (with_reducible repeat (first | apply Kd.R_alloc | apply Kd.R_drewN | apply Kd.R_drew)); exact HO_0.out) (Kd.R_base ho0) hb); have n1_ := Aside0.mk (Kd.R_below (by (with_reducible repeat (first | apply Kd.R_alloc | apply Kd.R_drewN | apply Kd.R_drew)); exact HO_3.out) hb); have n2_ := Aside0.mk (Kd.R_lower (Kd.R_new' ho0 (Kd.R_lt (by (with_reducible repeat (first | apply Kd.R_alloc | apply Kd.R_drewN | apply Kd.R_drew)); exact HO_0.out))) (below_size (by repeat (first | (with_reducible first | exact HB.out | apply below_alloc | apply pw_below_drewN | apply below_drew1) | exact HB.out)))); have n3_ := Aside0.mk (below_step (by repeat (first | (with_reducible first | exact HB.out | apply below_alloc | apply pw_below_drewN | apply below_drew1) | exact HB.out)) hb); clear HO_0; clear HO_3; clear HB; have HO_0 := n0_; have HO_3 := n1_; have HO188 := n2_; have HB := n3_; clear n0_ n1_ n2_ n3_; (try clear hb); (try clear hb2); (try clear hk); (try clear hi); (try clear ho0); obtain ⟨Ao10, co10, eo10⟩ := Kd.R_slice HO188.out; subst eo10) | ((with_reducible refine gate_callee (f := 21) rfl ?_); refine goesL_ (some 17) rfl rfl Try.func21 (by kernel_rfl) rfl #[.slice Ao8 x0_1.length co8, .slice Ao10 t186.length co10] rfl (by (try simp only [List.map_toArray, List.map_cons, List.map_nil]); first | done | rfl | (simp only [List.length_drop, List.length_take]; rfl)) ?_; (with_reducible refine (nat_DivMod.calls k1 _ _ x0_1 _ _ t186 t189 t192 t195 _ ?side1 ?side2 ?side3 ?side4 A6.out).mono ?_); (case side1 => repeat (first | exact (Kd.R_reads' HO_0.out).2.2 | (with_reducible refine Kd.C_alloc ?_ _) | (with_reducible refine Kd.C_drewN ?_ _) | (with_reducible refine Kd.C_drew ?_))); (case side2 => exact (Kd.R_reads' HO_0.out).2.1); (case side3 => repeat (first | exact (Kd.R_reads' HO188.out).2.2 | (with_reducible refine Kd.C_alloc ?_ _) | (with_reducible refine Kd.C_drewN ?_ _) | (with_reducible refine Kd.C_drew ?_))); (case side4 => exact (Kd.R_reads' HO188.out).2.1); rintro e w11 ⟨v190, v193, rfl, ho0, ho1, hb⟩; refine ⟨_, rfl, ?_⟩; have n0_ := Aside0.mk (Kd.R_elder' (by (with_reducible repeat (first | apply Kd.R_alloc | apply Kd.R_drewN | apply Kd.R_drew)); exact HO_0.out) (Kd.R_base ho0) hb); have n1_ := Aside0.mk (Kd.R_below (by (with_reducible repeat (first | apply Kd.R_alloc | apply Kd.R_drewN | apply Kd.R_drew)); exact HO_3.out) hb); have n2_ := Aside0.mk (Kd.R_elder' (by (with_reducible repeat (first | apply Kd.R_alloc | apply Kd.R_drewN | apply Kd.R_drew)); exact HO188.out) (Kd.R_base ho0) hb); have n3_ := Aside0.mk (Kd.R_lower (Kd.R_new' (Kd.R_new' (Kd.R_mono (ok' := fun k_ => True) ho0 (fun _ hk_ => trivial)) (Kd.R_lt (by (with_reducible repeat (first | apply Kd.R_alloc | apply Kd.R_drewN | apply Kd.R_drew)); exact HO_0.out))) (Kd.R_lt (by (with_reducible repeat (first | apply Kd.R_alloc | apply Kd.R_drewN | apply Kd.R_drew)); exact HO188.out))) (below_size (by repeat (first | (with_reducible first | exact HB.out | apply below_alloc | apply pw_below_drewN | apply below_drew1) | exact HB.out)))); have n4_ := Aside0.mk (Kd.V_lower (Kd.V_mono (ok' := fun k_ => some k_ ≠ (v190 : Value).ownBlock ∧ some k_ ≠ (.slice Ao8 x0_1.length co8 : Value).ownBlock ∧ some k_ ≠ (u3 : Value).ownBlock ∧ some k_ ≠ (.slice Ao10 t186.length co10 : Value).ownBlock) ho1 (fun k_ hk_ => ⟨hk_.2, (Kd.fresh' (Kd.R_lt (by (with_reducible repeat (first | apply Kd.R_alloc | apply Kd.R_drewN | apply Kd.R_drew)); exact HO_0.out)) k_ hk_.1), (Kd.fresh' (Kd.R_lt (by (with_reducible repeat (first | apply Kd.R_alloc | apply Kd.R_drewN | apply Kd.R_drew)); exact HO_3.out)) k_ hk_.1), (Kd.fresh' (Kd.R_lt (by (with_reducible repeat (first | apply Kd.R_alloc | apply Kd.R_drewN | apply Kd.R_drew)); exact HO188.out)) k_ hk_.1)⟩)) (below_size (by repeat (first | (with_reducible first | exact HB.out | apply below_alloc | apply pw_below_drewN | apply below_drew1) | exact HB.out)))); have n5_ := Aside0.mk (below_step (by repeat (first | (with_reducible first | exact HB.out | apply below_alloc | apply pw_below_drewN | apply below_drew1) | exact HB.out)) hb); clear HO_0; clear HO_3; clear HO188; clear HB; have HO_0 := n0_; have HO_3 := n1_; have HO188 := n2_; have HO191 := n3_; have HO194 := n4_; have HB := n5_; clear n0_ n1_ n2_ n3_ n4_ n5_; (try clear hb); (try clear hb2); (try clear hk); (try clear hi); (try clear ho0); (try clear ho1); obtain ⟨Ao12, co12, eo12⟩ := Kd.V_slice HO194.out; subst eo12) | ((with_reducible refine gate_callee (f := 16) rfl ?_); refine goesL_ (some 23) rfl rfl Try.func16 (by kernel_rfl) rfl #[.slice Ao12 t192.length co12] rfl (by (try simp only [List.map_toArray, List.map_cons, List.map_nil]); first | done | rfl | (simp only [List.length_drop, List.length_take]; rfl)) ?_; (with_reducible refine (nat_Small.calls k1 _ _ t192 t196 t197 _ ?side1 ?side2 A7.out).mono ?_); (case side1 => repeat (first | exact (Kd.V_reads' HO194.out).2.2 | (with_reducible refine Kd.C_alloc ?_ _) | (with_reducible refine Kd.C_drewN ?_ _) | (with_reducible refine Kd.C_drew ?_))); (case side2 => exact (Kd.V_reads' HO194.out).2.1); rintro e w13 ⟨rfl, hb⟩; refine ⟨_, rfl, ?_⟩; have n0_ := Aside0.mk (Kd.R_below (by (with_reducible repeat (first | apply Kd.R_alloc | apply Kd.R_drewN | apply Kd.R_drew)); exact HO_0.out) hb); have n1_ := Aside0.mk (Kd.R_below (by (with_reducible repeat (first | apply Kd.R_alloc | apply Kd.R_drewN | apply Kd.R_drew)); exact HO_3.out) hb); have n2_ := Aside0.mk (Kd.R_below (by (with_reducible repeat (first | apply Kd.R_alloc | apply Kd.R_drewN | apply Kd.R_drew)); exact HO188.out) hb); have n3_ := Aside0.mk (Kd.R_below (by (with_reducible repeat (first | apply Kd.R_alloc | apply Kd.R_drewN | apply Kd.R_drew)); exact HO191.out) hb); have n4_ := Aside0.mk (Kd.V_below (by (with_reducible repeat (first | apply Kd.V_alloc | apply Kd.V_drewN | apply Kd.V_drew)); exact HO194.out) hb); have n5_ := Aside0.mk (below_step (by repeat (first | (with_reducible first | exact HB.out | apply below_alloc | apply pw_below_drewN | apply below_drew1) | exact HB.out)) hb); clear HO_0; clear HO_3; clear HO188; clear HO191; clear HO194; clear HB; have HO_0 := n0_; have HO_3 := n1_; have HO188 := n2_; have HO191 := n3_; have HO194 := n4_; have HB := n5_; clear n0_ n1_ n2_ n3_ n4_ n5_; (try clear hb); (try clear hb2); (try clear hk); (try clear hi)))
        go_loopg [3, 7, 26] k1 (fun kq v3 v7 v26 w' => ∃ (x3_2 : List Int) (x7_2 : Int) (x26_2 : Int), v7 = .int .u64 x7_2 ∧ v26 = .int .i64 x26_2 ∧ Aside0 (nat_Text.l1 kq x3_2 t189 x7_2 x26_2 = some r) ∧ Aside0 (kq ≤ k1) ∧ Aside0 (Kd.R (Kd.int .u8) 5 w' w.heap.size (fun _ => True) v3 x3_2) ∧ Aside0 (Kd.R (Kd.int .u32) 33 w' w.heap.size (fun _ => True) v190 t189) ∧ Aside0 (Below w.heap.size w w'))
        case atStart => exact ⟨(x3_1), (t196), (0), (by first | rfl | (simp; done) | (simp [*]; done)), (by first | rfl | (simp; done) | (simp [*]; done)), H', ⟨Nat.le_refl _⟩, ⟨by (with_reducible repeat (first | apply Kd.R_alloc | apply Kd.R_drewN | apply Kd.R_drew)); exact HO_3.out⟩, ⟨by (with_reducible repeat (first | apply Kd.R_alloc | apply Kd.R_drewN | apply Kd.R_drew)); exact Kd.R_mono HO191.out (fun _ hk => trivial)⟩, ⟨by repeat (first | (with_reducible first | exact HB.out | apply below_alloc | apply pw_below_drewN | apply below_drew1) | exact HB.out)⟩⟩
        case round =>
          clear H'
          try clear c1
          try clear c2
          try clear p2
          try clear c3
          try clear c4
          try clear c4b0
          try clear c4b1
          try clear p2
          obtain ⟨x3_2, x7_2, x26_2, rfl, rfl, HA, HK2, HO_3, HO_4, HB⟩ := hrel
          cases gk with
          | zero => exact absurd HA.out (by simp [nat_Text.l1])
          | succ k2 =>
            have H := HA.out
            clear HA
            simp only [nat_Text.l1] at H
            by_cases c14 : x26_2 < 9
            · rw [if_pos c14] at H
              have c14b0 : decide (x26_2 < 9) = true := decide_eq_true c14
              clear c14
              by_cases c15 : x3_2.length < 140737488355328
              · rw [if_pos c15] at H
                have LMc15 := Aside0.mk c15
                clear c15
                obtain ⟨y198, hy198⟩ : ∃ y_ : List Int, y_ = (x3_2 ++ [(IntKind.u64.wrap (48 + (Int.tmod x7_2 10))) % 256]) := ⟨_, rfl⟩
                replace H : (nat_Text.l1 k2 y198 t189 (IntKind.u64.wrap (Int.tdiv x7_2 10)) (wrap64 (x26_2 + 1))) = some r := by first | (rw [hy198]; with_reducible exact H) | (have H2_ := (Option.bind_some _ _).symm.trans H; rw [hy198]; with_reducible exact H2_) | (have H2_ := (Option.bind_some _ _).symm.trans H; with_reducible exact H2_) | with_reducible exact H | (rw [hy198]; exact H) | exact H
                have Ny198 := Aside0.mk hy198
                clear hy198
                have H' := Aside0.mk H
                clear H
                go_wp2_with (first | ((with_reducible refine gate_builtin (b := .append) (xs := #[.tmp 28, .tmp 33]) rfl ?_); (try (refine gate_guard (by rfl) ?_; dsimp only)); at_builtin; refine Kd.R_append (Kd.int .u8) (w0 := w) w.heap.size rfl (.tmp 28) (.tmp 33) 65 5 (.int .u8 0) 1 rfl Try.underlying65 info5 rfl (by decide) (by omega) u3 x3_2 ((IntKind.u64.wrap (48 + (Int.tmod x7_2 10))) % 256) [.int .u8 ((IntKind.u64.wrap (48 + (Int.tmod x7_2 10))) % 256)] (fun _ => True) (fun _ => False) rfl rfl ?aP (fun _ hk => hk.elim) ?aF ?aO ?aB ?aS ?aL ?_; (case aP => exact rfl); (case aB => exact (by repeat (first | (with_reducible first | exact HB.out | apply below_alloc | apply pw_below_drewN | apply below_drew1) | exact HB.out))); (case aF => exact (fun _ _ => trivial)); (case aO => exact (by (with_reducible repeat (first | apply Kd.R_alloc | apply Kd.R_drewN | apply Kd.R_drew)); exact HO_3.out)); (case aS => exact (below_size (by repeat (first | (with_reducible first | exact HB.out | apply below_alloc | apply pw_below_drewN | apply below_drew1) | exact HB.out)))); (case aL => have := LMc15.out; omega); intro v199 w16 ho hb hg hat; rw [← Ny198.out] at ho; have n0_ := Aside0.mk (Kd.R_over' (by (with_reducible repeat (first | apply Kd.R_alloc | apply Kd.R_drewN | apply Kd.R_drew)); exact HO_4.out) (Kd.R_typed (by (with_reducible repeat (first | apply Kd.R_alloc | apply Kd.R_drewN | apply Kd.R_drew)); exact HO_3.out)) (by decide) hg); have n1_ := Aside0.mk (hb); have n2_ := Aside0.mk (ho); clear HO_4; clear HB; clear HO_3; have HO_4 := n0_; have HB := n1_; have HO200 := n2_; clear n0_ n1_ n2_; clear ho hb hg hat))
                go_roundg k2
                case measure => have := HK1.out; have := HK2.out; omega
                case rel => exact ⟨(y198), (IntKind.u64.wrap (Int.tdiv x7_2 10)), (wrap64 (x26_2 + 1)), (by first | rfl | (simp; done) | (simp [*]; done)), (by first | rfl | (simp; done) | (simp [*]; done)), H', ⟨by have := HK1.out; have := HK2.out; omega⟩, ⟨by (with_reducible repeat (first | apply Kd.R_alloc | apply Kd.R_drewN | apply Kd.R_drew)); exact HO200.out⟩, ⟨by (with_reducible repeat (first | apply Kd.R_alloc | apply Kd.R_drewN | apply Kd.R_drew)); exact HO_4.out⟩, ⟨by repeat (first | (with_reducible first | exact HB.out | apply below_alloc | apply pw_below_drewN | apply below_drew1) | exact HB.out)⟩⟩
              · rw [if_neg c15] at H
                exact absurd H (by simp)
            · rw [if_neg c14] at H
              have c14b0 : decide (x26_2 < 9) = false := decide_eq_false c14
              clear c14
              have H' := Aside0.mk H
              clear H
              go_wp2
              go_roundg k2
              case measure => have := HK1.out; have := HK2.out; omega
              case rel => exact ⟨(t189), (x3_2), H', ⟨by have := HK1.out; have := HK2.out; omega⟩, ⟨by (with_reducible repeat (first | apply Kd.R_alloc | apply Kd.R_drewN | apply Kd.R_drew)); exact HO_4.out⟩, ⟨by (with_reducible repeat (first | apply Kd.R_alloc | apply Kd.R_drewN | apply Kd.R_drew)); exact HO_3.out⟩, ⟨by repeat (first | (with_reducible first | exact HB.out | apply below_alloc | apply pw_below_drewN | apply below_drew1) | exact HB.out)⟩⟩
      · rw [if_neg c4] at H
        have c4b0 : decide (0 < (x0_1.length : Int)) = false := decide_eq_false c4
        have c4b1 : decide (0 < x0_1.length) = false := decide_eq_false (by omega)
        clear c4
        have H' := Aside0.mk H
        clear H
        obtain ⟨Ao17, co17, eo17⟩ := Kd.R_slice HO_0.out
        subst eo17
        go_wp2
        go_loopg [3] k1 (fun kq v3 w' => ∃ (x3_2 : List Int), Aside0 (nat_Text.l2 kq x3_2 = some r) ∧ Aside0 (kq ≤ k1) ∧ Aside0 (Kd.R (Kd.int .u8) 5 w' w.heap.size (fun _ => True) v3 x3_2) ∧ Aside0 (Below w.heap.size w w'))
        case atStart => exact ⟨(x3_1), H', ⟨Nat.le_refl _⟩, ⟨by (with_reducible repeat (first | apply Kd.R_alloc | apply Kd.R_drewN | apply Kd.R_drew)); exact HO_3.out⟩, ⟨by repeat (first | (with_reducible first | exact HB.out | apply below_alloc | apply pw_below_drewN | apply below_drew1) | exact HB.out)⟩⟩
        case round =>
          clear H'
          try clear c1
          try clear c2
          try clear p2
          try clear c3
          try clear c4
          try clear c4b0
          try clear c4b1
          try clear p6
          try clear c14
          try clear c14b0
          try clear c15
          try clear c16
          try clear p2
          obtain ⟨x3_2, HA, HK2, HO_3, HB⟩ := hrel
          cases gk with
          | zero => exact absurd HA.out (by simp [nat_Text.l2])
          | succ k2 =>
            have H := HA.out
            clear HA
            simp only [nat_Text.l2] at H
            by_cases c18 : (x3_2.length : Int) > 1
            · rw [if_pos c18] at H
              have c18b0 : decide (1 < (x3_2.length : Int)) = true := decide_eq_true c18
              have c18b1 : decide (1 < x3_2.length) = true := decide_eq_true (by omega)
              clear c18
              obtain ⟨ji19, hji19⟩ : ∃ j_ : Int, (wrap64 ((x3_2.length : Int) - 1)) = j_ := ⟨_, rfl⟩
              replace H : (if 0 ≤ (ji19) then (if (ji19) < (x3_2.length : Int) then (if (rd x3_2 (ji19)) = 48 then (if (ji19) ≤ (x3_2.length : Int) then (nat_Text.l2 k2 (x3_2.take ((ji19) : Int).toNat)) else (none)) else (if (x3_2.length : Int) = 0 then (some (⟨#[48]⟩ : ByteArray)) else ((slices_Reverse_byte_byte.f k2 x3_2).bind fun t205 => (some (strOfNums t205))))) else (none)) else (none)) = some r := by first | (rw [hji19] at H; exact H) | (simp only [hji19] at H ⊢; exact H)
              have hji19w : (IntKind.i64.wrap ((x3_2.length : Int) - 1)) = ji19 := (i64_w _).trans hji19
              by_cases c20 : 0 ≤ (ji19)
              · rw [if_pos c20] at H
                have c20b0 : decide (0 ≤ (ji19)) = true := decide_eq_true c20
                clear c20
                by_cases c21 : (ji19) < (x3_2.length : Int)
                · rw [if_pos c21] at H
                  have c21b0 : decide ((ji19) < (x3_2.length : Int)) = true := decide_eq_true c21
                  clear c21
                  by_cases c22 : (rd x3_2 (ji19)) = 48
                  · rw [if_pos c22] at H
                    have c22b0 : ((rd x3_2 (ji19)) == 48) = true := beq_iff_eq.mpr c22
                    have c22b1 : ((rd x3_2 (ji19)) != 48) = false := bne_eq_false_iff_eq.mpr c22
                    clear c22
                    by_cases c23 : (ji19) ≤ (x3_2.length : Int)
                    · rw [if_pos c23] at H
                      have c23b0 := eq_true c23
                      have c23b1 : decide ((ji19) ≤ (x3_2.length : Int)) = true := decide_eq_true c23
                      clear c23
                      obtain ⟨y202, hy202⟩ : ∃ y_ : List Int, y_ = (x3_2.take ((ji19) : Int).toNat) := ⟨_, rfl⟩
                      replace H : (nat_Text.l2 k2 y202) = some r := by first | (rw [hy202]; with_reducible exact H) | (have H2_ := (Option.bind_some _ _).symm.trans H; rw [hy202]; with_reducible exact H2_) | (have H2_ := (Option.bind_some _ _).symm.trans H; with_reducible exact H2_) | with_reducible exact H | (rw [hy202]; exact H) | exact H
                      have Ny202 := Aside0.mk hy202
                      clear hy202
                      have H' := Aside0.mk H
                      clear H
                      obtain ⟨Ao24, co24, eo24⟩ := Kd.R_slice HO_3.out
                      subst eo24
                      have p201 : 0 ≤ ((ji19) : Int) := of_decide_eq_true (by first | (with_reducible assumption) | assumption)
                      have q201 : (ji19) < (x3_2.length : Int) := of_decide_eq_true (by first | (with_reducible assumption) | assumption)
                      obtain ⟨ad201, e201, hx201_0⟩ := Kd.at_int (Kd.R_reads' HO_3.out).2.2 (ji19) p201 q201
                      cases e201
                      replace p201 := eq_true p201
                      replace q201 := eq_true q201
                      have q25 : ((ji19) : Int) ≤ ((x3_2.length : Int) : Int) := of_decide_eq_true (by first | (with_reducible assumption) | assumption)
                      obtain ⟨i025, hi025, _, hsz25, _⟩ := info_parts info5
                      have hcut25 := cut_to (P := Try.prog) 65 5 .i64 Try.underlying65 hi025 (some ad201) x3_2.length co24 (ji19) (of_decide_eq_true (by first | (with_reducible assumption) | assumption)) q25 (Kd.R_reads' HO_3.out).2.1
                      have hr25 := Kd.R_take (m := ((ji19) : Int).toNat) HO_3.out (by omega)
                      have hy25 : y202.length = ((ji19) : Int).toNat := (by rw [Ny202.out, List.length_take]; omega)
                      rw [← Ny202.out] at hr25
                      rw [← hy25] at hr25 hcut25
                      clear hy25 hi025 hsz25 HO_3
                      have HO204 := Aside0.mk hr25
                      clear hr25
                      replace q25 := eq_true q25
                      go_wp2
                      go_roundg k2
                      case measure => have := HK1.out; have := HK2.out; omega
                      case rel => exact ⟨(y202), H', ⟨by have := HK1.out; have := HK2.out; omega⟩, ⟨by (with_reducible repeat (first | apply Kd.R_alloc | apply Kd.R_drewN | apply Kd.R_drew)); exact HO204.out⟩, ⟨by repeat (first | (with_reducible first | exact HB.out | apply below_alloc | apply pw_below_drewN | apply below_drew1) | exact HB.out)⟩⟩
                    · rw [if_neg c23] at H
                      exact absurd H (by simp)
                  · rw [if_neg c22] at H
                    have c22b0 : ((rd x3_2 (ji19)) == 48) = false := beq_eq_false_iff_ne.mpr c22
                    have c22b1 : ((rd x3_2 (ji19)) != 48) = true := bne_iff_ne.mpr c22
                    by_cases c26 : (x3_2.length : Int) = 0
                    · rw [if_pos c26] at H
                      have c26b0 : ((x3_2.length : Int) == 0) = true := beq_iff_eq.mpr c26
                      have c26b1 : ((x3_2.length : Int) != 0) = false := bne_eq_false_iff_eq.mpr c26
                      clear c26
                      obtain rfl := Option.some.inj H
                      obtain ⟨Ao27, co27, eo27⟩ := Kd.R_slice HO_3.out
                      subst eo27
                      have p201 : 0 ≤ ((ji19) : Int) := of_decide_eq_true (by first | (with_reducible assumption) | assumption)
                      have q201 : (ji19) < (x3_2.length : Int) := of_decide_eq_true (by first | (with_reducible assumption) | assumption)
                      obtain ⟨ad201, e201, hx201_0⟩ := Kd.at_int (Kd.R_reads' HO_3.out).2.2 (ji19) p201 q201
                      cases e201
                      replace p201 := eq_true p201
                      replace q201 := eq_true q201
                      go_wp2
                      go_ret
                      exact ⟨by first | rfl | (simp [errW_none, errW_some] <;> rfl) | (simp only [← hji19]; first | rfl | (simp [errW_none, errW_some] <;> rfl)) | (simp [*, errW_none, errW_some] <;> rfl), by repeat (first | (with_reducible first | exact HB.out | apply below_alloc | apply pw_below_drewN | apply below_drew1) | exact HB.out)⟩
                    · rw [if_neg c26] at H
                      have c26b0 : ((x3_2.length : Int) == 0) = false := beq_eq_false_iff_ne.mpr c26
                      have c26b1 : ((x3_2.length : Int) != 0) = true := bne_iff_ne.mpr c26
                      have c26b2 : ¬ (x3_2 = []) := fun h_ => c26 (by rw [h_]; rfl)
                      replace H := Option.bind_eq_some_iff.mp H
                      obtain ⟨t205, A280, H⟩ := H
                      replace H : (some (strOfNums t205)) = some r := H
                      have A28 := Aside0.mk A280
                      clear A280
                      obtain rfl := Option.some.inj H
                      obtain ⟨Ao29, co29, eo29⟩ := Kd.R_slice HO_3.out
                      subst eo29
                      have p201 : 0 ≤ ((ji19) : Int) := of_decide_eq_true (by first | (with_reducible assumption) | assumption)
                      have q201 : (ji19) < (x3_2.length : Int) := of_decide_eq_true (by first | (with_reducible assumption) | assumption)
                      obtain ⟨ad201, e201, hx201_0⟩ := Kd.at_int (Kd.R_reads' HO_3.out).2.2 (ji19) p201 q201
                      cases e201
                      replace p201 := eq_true p201
                      replace q201 := eq_true q201
                      go_wp2_with (first | ((with_reducible refine gate_callee (f := 44) rfl ?_); refine goesL_ (some 60) rfl rfl Try.func44 (by kernel_rfl) rfl #[.slice (some ad201) x3_2.length co29] rfl (by (try simp only [List.map_toArray, List.map_cons, List.map_nil]); first | done | rfl | (simp only [List.length_drop, List.length_take]; rfl)) ?_; (with_reducible refine (slices_Reverse_byte_byte.calls k2 (fun k_ => some k_ = (.slice (some ad201) x3_2.length co29 : Value).ownBlock) (.slice (some ad201) x3_2.length co29) x3_2 t205 w _ ?side1 ?side2 A28.out).mono ?_); (case side1 => repeat (first | (with_reducible first | exact HB.out | apply below_alloc | apply pw_below_drewN | apply below_drew1) | exact HB.out)); (case side2 => exact Kd.R_tight rfl HO_3.out); rintro e w30 ⟨rfl, hy0, hb, hkp⟩; refine ⟨_, rfl, ?_⟩; have n0_ := Aside0.mk (Kd.R_reok rfl hy0 (fun k_ e_ => HO_3.out.1 k_ e_)); have n1_ := Aside0.mk (hb); clear HO_3; clear HB; have HO_3 := n0_; have HB := n1_; clear n0_ n1_; (try clear hb); (try clear hkp); (try clear hy0); have hcv31 := own_string (P := Try.prog) Try.underlying65 Try.underlying5 Try.underlying9 (Kd.own_of_R HO_3.out)))
                      go_ret
                      exact ⟨by first | rfl | (simp [errW_none, errW_some] <;> rfl) | (simp only [← hji19]; first | rfl | (simp [errW_none, errW_some] <;> rfl)) | (simp [*, errW_none, errW_some] <;> rfl), by repeat (first | (with_reducible first | exact HB.out | apply below_alloc | apply pw_below_drewN | apply below_drew1) | exact HB.out)⟩
                · rw [if_neg c21] at H
                  exact absurd H (by simp)
              · rw [if_neg c20] at H
                exact absurd H (by simp)
            · rw [if_neg c18] at H
              have c18b0 : decide (1 < (x3_2.length : Int)) = false := decide_eq_false c18
              have c18b1 : decide (1 < x3_2.length) = false := decide_eq_false (by omega)
              clear c18
              by_cases c32 : (x3_2.length : Int) = 0
              · rw [if_pos c32] at H
                have c32b0 : ((x3_2.length : Int) == 0) = true := beq_iff_eq.mpr c32
                have c32b1 : ((x3_2.length : Int) != 0) = false := bne_eq_false_iff_eq.mpr c32
                clear c32
                obtain rfl := Option.some.inj H
                obtain ⟨Ao33, co33, eo33⟩ := Kd.R_slice HO_3.out
                subst eo33
                go_wp2
                go_ret
                exact ⟨by first | rfl | (simp [errW_none, errW_some] <;> rfl) | (simp [*, errW_none, errW_some] <;> rfl), by repeat (first | (with_reducible first | exact HB.out | apply below_alloc | apply pw_below_drewN | apply below_drew1) | exact HB.out)⟩
              · rw [if_neg c32] at H
                have c32b0 : ((x3_2.length : Int) == 0) = false := beq_eq_false_iff_ne.mpr c32
                have c32b1 : ((x3_2.length : Int) != 0) = true := bne_iff_ne.mpr c32
                have c32b2 : ¬ (x3_2 = []) := fun h_ => c32 (by rw [h_]; rfl)
                replace H := Option.bind_eq_some_iff.mp H
                obtain ⟨t206, A340, H⟩ := H
                replace H : (some (strOfNums t206)) = some r := H
                have A34 := Aside0.mk A340
                clear A340
                obtain rfl := Option.some.inj H
                obtain ⟨Ao35, co35, eo35⟩ := Kd.R_slice HO_3.out
                subst eo35
                go_wp2_with (first | ((with_reducible refine gate_callee (f := 44) rfl ?_); refine goesL_ (some 60) rfl rfl Try.func44 (by kernel_rfl) rfl #[.slice Ao35 x3_2.length co35] rfl (by (try simp only [List.map_toArray, List.map_cons, List.map_nil]); first | done | rfl | (simp only [List.length_drop, List.length_take]; rfl)) ?_; (with_reducible refine (slices_Reverse_byte_byte.calls k2 (fun k_ => some k_ = (.slice Ao35 x3_2.length co35 : Value).ownBlock) (.slice Ao35 x3_2.length co35) x3_2 t206 w _ ?side1 ?side2 A34.out).mono ?_); (case side1 => repeat (first | (with_reducible first | exact HB.out | apply below_alloc | apply pw_below_drewN | apply below_drew1) | exact HB.out)); (case side2 => exact Kd.R_tight rfl HO_3.out); rintro e w36 ⟨rfl, hy0, hb, hkp⟩; refine ⟨_, rfl, ?_⟩; have n0_ := Aside0.mk (Kd.R_reok rfl hy0 (fun k_ e_ => HO_3.out.1 k_ e_)); have n1_ := Aside0.mk (hb); clear HO_3; clear HB; have HO_3 := n0_; have HB := n1_; clear n0_ n1_; (try clear hb); (try clear hkp); (try clear hy0); have hcv37 := own_string (P := Try.prog) Try.underlying65 Try.underlying5 Try.underlying9 (Kd.own_of_R HO_3.out)))
                go_ret
                exact ⟨by first | rfl | (simp [errW_none, errW_some] <;> rfl) | (simp [*, errW_none, errW_some] <;> rfl), by repeat (first | (with_reducible first | exact HB.out | apply below_alloc | apply pw_below_drewN | apply below_drew1) | exact HB.out)⟩

/-- The noughts at the end are taken off, and the letters turned round. -/
theorem nat_Text.ev_2 (n : Nat) : ∀ {out : List Nat}, out.length = n → n < 4000000000 → Dec.Ds out → Ev (fun k => nat_Text.l2 k (Dec.cs out)) (Dec.dec (Dec.dv out)) := by
  have fin : ∀ (out : List Nat) (d : Nat), d < 10 → Dec.Ds out → out.length < 4000000000 → (out = [] ∨ d ≠ 0) → Ev (fun k => (slices_Reverse_byte_byte.f k (Dec.cs (out ++ [d]))).bind fun t205 => (some (strOfNums t205))) (Dec.dec (Dec.dv (out ++ [d]))) := by
    intro out d hd ho hl h0
    refine Ev.bind (slices_Reverse_byte_byte.ev (by rw [Dec.cs_length, List.length_append, List.length_singleton]; omega)) ?_
    rw [Dec.str_cs]
    by_cases hd0 : d = 0
    · rcases h0 with h0 | h0
      · subst hd0
        subst h0
        exact Ev.now _
      · exact absurd hd0 h0
    · unfold Dec.dec
      rw [Dec.dc_snoc ho hd hd0]
      exact Ev.now _
  induction n with
  | zero =>
    intro out hl hn h
    obtain rfl : out = [] := List.eq_nil_of_length_eq_zero hl
    refine Ev.step (f := fun _ => some (Dec.dec (Dec.dv []))) (fun k => ?_) (Ev.now _)
    rw [nat_Text.l2, Dec.cs_length, if_neg (by rw [List.length_nil]; omega), if_pos (by rw [List.length_nil]; omega)]
    exact congrArg some Dec.dec_zero.symm
  | succ n ih =>
    intro out hl hn h
    rcases List.eq_nil_or_concat out with rfl | ⟨l', d, rfl⟩
    · simp at hl
    · rw [List.concat_eq_append] at hl h ⊢
      have hd : d < 10 := h.right.head
      have hn' : l'.length = n := by simpa using hl
      have hlen : (Dec.cs (l' ++ [d])).length = l'.length + 1 := by rw [Dec.cs_length, List.length_append, List.length_singleton]
      have hp : wrap64 (((Dec.cs (l' ++ [d])).length : Int) - 1) = (l'.length : Int) := by rw [hlen, Dec.w64 (by omega) (by omega)]; omega
      by_cases h0 : n = 0
      · obtain rfl : l' = [] := List.eq_nil_of_length_eq_zero (by omega)
        refine Ev.step (f := fun k => (slices_Reverse_byte_byte.f k (Dec.cs ([] ++ [d]))).bind fun t205 => (some (strOfNums t205))) (fun k => ?_) (fin [] d hd Dec.Ds.nil (by rw [List.length_nil]; omega) (.inl rfl))
        rw [nat_Text.l2, hlen, if_neg (by rw [List.length_nil]; omega), if_neg (by rw [List.length_nil]; omega)]
      · by_cases hd0 : d = 0
        · subst hd0
          refine Ev.step (f := fun k => nat_Text.l2 k (Dec.cs l')) (fun k => ?_) ?_
          · rw [nat_Text.l2, hp, hlen, if_pos (by omega), if_pos (by omega), if_pos (by omega), Dec.rd_cs, if_pos (by omega), if_pos (by omega), Int.toNat_natCast, Dec.cs_take, List.take_left]
          · rw [Dec.dv_snoc, Nat.mul_zero, Nat.add_zero]
            exact ih hn' (by omega) h.left
        · refine Ev.step (f := fun k => (slices_Reverse_byte_byte.f k (Dec.cs (l' ++ [d]))).bind fun t205 => (some (strOfNums t205))) (fun k => ?_) (fin l' d hd h.left (by omega) (.inr hd0))
          rw [nat_Text.l2, hp, hlen, if_pos (by omega), if_pos (by omega), if_pos (by omega), Dec.rd_cs, if_neg (by omega), if_neg (by omega)]
/-- Nine digits of what is left, then what follows. -/
theorem nat_Text.ev_1 {x4 : List Int} {r : ByteArray} (out : List Nat) (ho : Dec.Ds out) (hl : out.length < 2000000000) (m : Nat)
    (next : ∀ o2 : List Nat, o2.length = out.length + 9 → Dec.Ds o2 → Dec.dv o2 = Dec.dv out + 10 ^ out.length * m → Ev (fun k => nat_Text.l0 k x4 (Dec.cs o2)) r) (d : Nat) : ∀ (q : Nat) (o2 : List Nat) (j : Nat), j + d = 9 → q < 10 ^ d → o2.length = out.length + j → Dec.Ds o2 → Dec.dv o2 + 10 ^ o2.length * q = Dec.dv out + 10 ^ out.length * m →
    Ev (fun k => nat_Text.l1 k (Dec.cs o2) x4 (q : Int) (j : Int)) r := by
  induction d with
  | zero =>
    intro q o2 j hj hq hlo hd hv
    obtain rfl : q = 0 := by rw [Nat.pow_zero] at hq; omega
    refine Ev.step (f := fun k => nat_Text.l0 k x4 (Dec.cs o2)) (fun k => ?_) (next o2 (by omega) hd (by rw [Nat.mul_zero, Nat.add_zero] at hv; exact hv))
    rw [nat_Text.l1, if_neg (by omega)]
  | succ d ih =>
    intro q o2 j hj hq hlo hd hv
    have hq9 : q < 10 ^ 9 := Nat.lt_of_lt_of_le hq (Nat.pow_le_pow_right (by omega) (by omega))
    have hq10 : q < 1000000000 := hq9
    refine Ev.step (f := fun k => nat_Text.l1 k (Dec.cs (o2 ++ [q % 10])) x4 ((q / 10 : Nat) : Int) ((j + 1 : Nat) : Int)) (fun k => ?_) ?_
    · have e1 : (IntKind.u64.wrap (48 + ((q % 10 : Nat) : Int))) % 256 = ((48 + q % 10 : Nat) : Int) := by
        rw [show (48 : Int) + ((q % 10 : Nat) : Int) = ((48 + q % 10 : Nat) : Int) from by omega, u64_nat _ (by omega)]
        omega
      rw [nat_Text.l1, if_pos (by omega), if_pos (by rw [Dec.cs_length]; omega), Dec.tmod10, Dec.tdiv10, e1, u64_nat _ (by omega), Dec.cs_snoc, Dec.w64s _ (by omega)]
    · refine ih (q / 10) _ (j + 1) (by omega) (by rw [Nat.pow_succ] at hq; omega) (by rw [List.length_append, List.length_singleton]; omega) (hd.snoc (Nat.mod_lt _ (by omega))) ?_
      rw [Dec.dv_snoc, List.length_append, List.length_singleton, Nat.pow_succ, ← hv]
      have h3 : 10 ^ o2.length * q = 10 ^ o2.length * (q % 10 + 10 * (q / 10)) := by congr 1; omega
      rw [Nat.mul_add, ← Nat.mul_assoc] at h3
      omega
theorem nat_Text.ev_0 (d : Nat) : ∀ (n : Nat) (out : List Nat), n < 1000000000 ^ d → (Num.nd n).length < 100000000 → out.length + 9 * d < 2000000000 → Dec.Ds out → Ev (fun k => nat_Text.l0 k (Num.nd n) (Dec.cs out)) (Dec.dec (Dec.dv out + 10 ^ out.length * n)) := by
  have stop : ∀ out : List Nat, out.length < 2000000000 → Dec.Ds out → Ev (fun k => nat_Text.l0 k (Num.nd 0) (Dec.cs out)) (Dec.dec (Dec.dv out + 10 ^ out.length * 0)) := by
    intro out hl ho
    rw [Nat.mul_zero, Nat.add_zero, Num.nd_zero]
    refine Ev.step (f := fun k => nat_Text.l2 k (Dec.cs out)) (fun k => ?_) (nat_Text.ev_2 _ rfl (by omega) ho)
    rw [nat_Text.l0, if_neg (by rw [List.length_nil]; omega)]
  induction d with
  | zero =>
    intro n out hn hl ho hd
    obtain rfl : n = 0 := by rw [Nat.pow_zero] at hn; omega
    exact stop out (by omega) hd
  | succ d ih =>
    intro n out hn hl ho hd
    by_cases h0 : n = 0
    · subst h0
      exact stop out (by omega) hd
    · have h2 : 0 < (Num.nd n).length := by
        rcases Nat.eq_zero_or_pos (Num.nd n).length with h | h
        · exact absurd (Num.nd_eq_nil.1 (List.eq_nil_of_length_eq_zero h)) h0
        · exact h
      obtain ⟨B, hB⟩ : ∃ B : Nat, B = 1000000000 := ⟨_, rfl⟩
      have hBi : (1000000000 : Int) = (B : Int) := by omega
      have hdm : ∀ k, nat_DivMod.f k (Num.nd n) (Num.nd B) = some (Num.nd (n / B), Num.nd (n % B), 0) := by
        intro k
        unfold nat_DivMod.f
        have h9 : (Num.nd B).length ≤ 1 := Num.nd_length_le (k := 1) (by rw [hB]; decide)
        rw [if_pos ((Num.okd_iff _).2 ⟨by omega, Num.Ws_nd _⟩), if_pos ((Num.okd_iff _).2 ⟨by omega, Num.Ws_nd _⟩), Num.nv_nd, Num.nv_nd, if_neg (by omega)]
      have hmod : n % B < 1000000000 := by rw [hB]; exact Nat.mod_lt _ (by omega)
      have hsm : ∀ k, nat_Small.f k (Num.nd (n % B)) = some (((n % B : Nat) : Int), true) := by
        intro k
        unfold nat_Small.f
        have h9 : (Num.nd (n % B)).length ≤ 1 := Num.nd_length_le (k := 1) (Nat.lt_trans hmod (by decide))
        rw [if_pos (Num.okw_of (by omega) (Num.Ws_nd _)), Num.nv_nd, if_pos (by omega)]
      have hof := nat_Of.ev B (by omega)
      refine Ev.step (f := fun k => (nat_Of.f k (B : Int)).bind fun t186 => ((nat_DivMod.f k (Num.nd n) t186).bind fun bt189 => ((nat_Small.f k bt189.2.1).bind fun bt196 => (nat_Text.l1 k (Dec.cs out) bt189.1 bt196.1 0)))) (fun k => ?_) (Ev.bind hof (Ev.bind (Ev.congr hdm (Ev.now _)) (Ev.bind (Ev.congr hsm (Ev.now _)) ?_)))
      · rw [nat_Text.l0, if_pos (by omega), hBi]
      · have hdv : (n / B) * B + n % B = n := by rw [Nat.mul_comm]; exact Nat.div_add_mod n B
        refine nat_Text.ev_1 out hd (by omega) (n % B) (fun o2 hl2 hd2 hv2 => ?_) 9 (n % B) out 0 (by omega) hmod rfl hd rfl
        have := ih (n / B) o2 (by rw [Nat.pow_succ] at hn; rw [hB]; exact Nat.div_lt_of_lt_mul (by rw [Nat.mul_comm]; exact hn)) (Nat.lt_of_le_of_lt (Num.nd_len_mono (Nat.div_le_self _ _)) hl) (by omega) hd2
        rw [hv2, hl2, Nat.pow_add, show 10 ^ 9 = B from by rw [hB]] at this
        have e : Dec.dv out + 10 ^ out.length * (n % B) + 10 ^ out.length * B * (n / B) = Dec.dv out + 10 ^ out.length * n := by
          rw [Nat.mul_assoc, Nat.add_assoc, ← Nat.mul_add, Nat.mul_comm B, Nat.add_comm (n % B), hdv]
        rw [e] at this
        exact this
theorem nat_Text.ev {l : List Int} (hW : Num.Ws l) (hl : l.length < 10000000) : Ev (fun k => nat_Text.f k l) (Dec.dec (Num.nv l)) := by
  have hlt := Num.nv_lt hW
  have hp : 2 ^ (32 * l.length) ≤ 1000000000 ^ (2 * l.length) := by
    rw [Nat.pow_mul, Nat.pow_mul]
    exact Nat.pow_le_pow_left (by decide) _
  have := nat_Text.ev_0 (2 * l.length) (Num.nv l) [] (Nat.lt_of_lt_of_le hlt hp) (Nat.lt_of_le_of_lt (Num.nd_length_le hlt) (by omega)) (by rw [List.length_nil]; omega) Dec.Ds.nil
  rw [List.length_nil, Dec.dv, Nat.pow_zero, Nat.one_mul, Nat.zero_add] at this
  unfold nat_Text.f
  exact Ev.bind (nat_trim.ev hW (by omega)) this

end Go.Proofs.Ytmodmjeibbgdgaa.PR
