-- PRINTED by print.py (a twelfth state) out of the translation. Not trusted: Lean checks it.
import Derived.Test.YtmodmjeibbgdgaaPRg0
import Derived.Test.YtmodmjeibbgdgaaPRx9
import Derived.Test.YtmodmjeibbgdgaaPRx11
namespace Go.Proofs.Ytmodmjeibbgdgaa.PR
open Go.RowKit Go.Proofs.YtmodmjeibbgdgaaW.PrintWords Go.Proofs.YtmodmjeibbgdgaaW.PrintLast Go.Proofs.YtmodmjeibbgdgaaW.PrintMore
attribute [local go_sem] max2_int min2_int max_two min_two max_three min_three max_four min_four   -- for this text's walks alone
set_option linter.unusedVariables false
set_option linter.unusedSimpArgs false

/-! ### nat_digit: function 40 -/
def nat_digit.l0 : Nat → List Int → List Int → Int → Int → Option (Int × List Int)
  | 0, _, _, _, _ => none
  | k + 1, x0, x1, x6, x7 => if x7 ≥ 0 then ((nat_Shift.f k x1 x7).bind fun t157 => ((nat_Sub.f k x0 t157).bind fun bt160 => (if bt160.2 = true then (if 0 ≤ x7 then (nat_digit.l0 k bt160.1 x1 (Go.bits .or .u32 x6 (shl .u32 1 x7)) (wrap64 (x7 - 1))) else (none)) else (nat_digit.l0 k x0 x1 x6 (wrap64 (x7 - 1)))))) else (some (x6, x0))
def nat_digit.f (k : Nat) (l0 : List Int) (l1 : List Int) : Option (Int × List Int) := nat_digit.l0 k l0 l1 0 31
theorem nat_digit.mono_l : ∀ k, (∀ y0 y1 y2 y3, LeO (nat_digit.l0 k y0 y1 y2 y3) (nat_digit.l0 (k + 1) y0 y1 y2 y3))
  | 0 => fun _ _ _ _ r h => by simp [nat_digit.l0] at h
  | k + 1 => by
    have ih0 := nat_digit.mono_l k
    · intro y0 y1 y2 y3
      unfold nat_digit.l0
      repeat' first
      | (with_reducible exact ih0 _ _ _ _)
      | (with_reducible exact nat_Shift.mono _ _ _)
      | (with_reducible exact nat_Sub.mono _ _ _)
      | (with_reducible exact LeO.refl _)
      | (with_reducible exact LeO.none _)
      | (with_reducible refine LeO.ite ?_ ?_)
      | (with_reducible refine LeO.bind ?_ (fun _ => ?_))
      | exact ih0 _ _ _ _
      | exact nat_Shift.mono _ _ _
      | exact nat_Sub.mono _ _ _
      | exact LeO.none _
      | refine LeO.ite ?_ ?_
      | refine LeO.bind ?_ (fun _ => ?_)
theorem nat_digit.mono : ∀ a0 a1 k, LeO (nat_digit.f k a0 a1) (nat_digit.f (k + 1) a0 a1) := by
  intro a0 a1 k
  have ih0 := nat_digit.mono_l k
  unfold nat_digit.f
  repeat' first
      | (with_reducible exact ih0 _ _ _ _)
      | (with_reducible exact nat_Shift.mono _ _ _)
      | (with_reducible exact nat_Sub.mono _ _ _)
      | (with_reducible exact LeO.refl _)
      | (with_reducible exact LeO.none _)
      | (with_reducible refine LeO.ite ?_ ?_)
      | (with_reducible refine LeO.bind ?_ (fun _ => ?_))
      | exact ih0 _ _ _ _
      | exact nat_Shift.mono _ _ _
      | exact nat_Sub.mono _ _ _
      | exact LeO.none _
      | refine LeO.ite ?_ ?_
      | refine LeO.bind ?_ (fun _ => ?_)
set_option maxHeartbeats 8000000 in
set_option maxRecDepth 100000 in
theorem nat_digit.calls (k : Nat) (P0_ : Nat → Prop) (A0 : Option Addr) (c0 : Nat) (l0 : List Int) (A1 : Option Addr) (c1 : Nat) (l1 : List Int) (r1 : Int) (r2 : List Int) (w : World) (hs0 : Kd.V (Kd.int .u32) 33 w w.heap.size (fun k_ => P0_ k_) (.slice A0 l0.length c0) l0) (hr1 : Kd.C (Kd.int .u32) w A1 l1.length l1) (hc1 : l1.length ≤ c1) (h : nat_digit.f k l0 l1 = some (r1, r2)) :
    Calls Try.prog 40 #[.slice A0 l0.length c0, .slice A1 l1.length c1] w fun e w' => ∃ v1_ : Value, e = .returned (.tuple #[.int .u32 r1, v1_]) ∧ Kd.V (Kd.int .u32) 33 w' w.heap.size (fun k_ => (P0_ k_ ∨ w.heap.size ≤ k_)) v1_ r2 ∧ Below w.heap.size w w' := by
  have HO0 := Aside0.mk (show Kd.V (Kd.int .u32) 33 w w.heap.size (fun k_ => (P0_ k_ ∨ w.heap.size ≤ k_)) (.slice A0 l0.length c0) l0 from Kd.V_mono hs0 (fun k_ hk => .inl hk))
  have HR1 := Aside0.mk hr1
  have HC1 := Aside0.mk hc1
  clear hr1 hc1
  have HB := Aside0.mk (Below.refl w.heap.size w)
  have H : (nat_digit.l0 k l0 l1 0 31) = some (r1, r2) := h
  clear h
  have H' := Aside0.mk H
  clear H
  go_enter Try.func40, Try.ntmps40
  go_wp2
  go_loopg [0, 6, 7] k (fun kq v0 v6 v7 w' => ∃ (x0_1 : List Int) (x6_1 : Int) (x7_1 : Int), v6 = .int .u32 x6_1 ∧ v7 = .int .i64 x7_1 ∧ Aside0 (nat_digit.l0 kq x0_1 l1 x6_1 x7_1 = some (r1, r2)) ∧ Aside0 (kq ≤ k) ∧ Aside0 (Kd.V (Kd.int .u32) 33 w' w.heap.size (fun k_ => (P0_ k_ ∨ w.heap.size ≤ k_)) v0 x0_1) ∧ Aside0 (Below w.heap.size w w'))
  case atStart => exact ⟨(l0), (0), (31), (by first | rfl | (simp; done) | (simp [*]; done)), (by first | rfl | (simp; done) | (simp [*]; done)), H', ⟨Nat.le_refl _⟩, ⟨by (with_reducible repeat (first | apply Kd.V_alloc | apply Kd.V_drewN | apply Kd.V_drew)); exact HO0.out⟩, ⟨by repeat (first | (with_reducible first | exact HB.out | apply below_alloc | apply pw_below_drewN | apply below_drew1) | exact HB.out)⟩⟩
  case round =>
    clear H'
    try clear c1
    try clear p2
    obtain ⟨x0_1, x6_1, x7_1, rfl, rfl, HA, HK1, HO_0, HB⟩ := hrel
    cases gk with
    | zero => exact absurd HA.out (by simp [nat_digit.l0])
    | succ k1 =>
      have H := HA.out
      clear HA
      simp only [nat_digit.l0] at H
      by_cases c3 : x7_1 ≥ 0
      · rw [if_pos c3] at H
        have c3b0 : decide (0 ≤ x7_1) = true := decide_eq_true c3
        clear c3
        replace H := Option.bind_eq_some_iff.mp H
        obtain ⟨t157, A40, H⟩ := H
        replace H : ((nat_Sub.f k1 x0_1 t157).bind fun bt160 => (if bt160.2 = true then (if 0 ≤ x7_1 then (nat_digit.l0 k1 bt160.1 l1 (Go.bits .or .u32 x6_1 (shl .u32 1 x7_1)) (wrap64 (x7_1 - 1))) else (none)) else (nat_digit.l0 k1 x0_1 l1 x6_1 (wrap64 (x7_1 - 1))))) = some (r1, r2) := H
        have A4 := Aside0.mk A40
        clear A40
        replace H := Option.bind_eq_some_iff.mp H
        obtain ⟨⟨t160, t161⟩, A50, H⟩ := H
        replace H : (if t161 = true then (if 0 ≤ x7_1 then (nat_digit.l0 k1 t160 l1 (Go.bits .or .u32 x6_1 (shl .u32 1 x7_1)) (wrap64 (x7_1 - 1))) else (none)) else (nat_digit.l0 k1 x0_1 l1 x6_1 (wrap64 (x7_1 - 1)))) = some (r1, r2) := H
        have A5 := Aside0.mk A50
        clear A50
        by_cases c6 : t161 = true
        · subst c6
          have H1 : (if 0 ≤ x7_1 then (nat_digit.l0 k1 t160 l1 (Go.bits .or .u32 x6_1 (shl .u32 1 x7_1)) (wrap64 (x7_1 - 1))) else (none)) = some (r1, r2) := by rw [if_pos rfl] at H; exact H
          clear H
          have H := H1
          clear H1
          by_cases c7 : 0 ≤ x7_1
          · rw [if_pos c7] at H
            have c7b0 := eq_true c7
            have c7b1 : decide (0 ≤ x7_1) = true := decide_eq_true c7
            clear c7
            obtain ⟨ji8, hji8⟩ : ∃ j_ : Int, (shl .u32 1 x7_1) = j_ := ⟨_, rfl⟩
            replace H : (nat_digit.l0 k1 t160 l1 (Go.bits .or .u32 x6_1 (ji8)) (wrap64 (x7_1 - 1))) = some (r1, r2) := by first | (rw [hji8] at H; exact H) | (simp only [hji8] at H ⊢; exact H)
            (try rw [hji8] at A4)
            (try rw [hji8] at A5)
            have hji8_ : (IntKind.u32.wrap (1 * 2 ^ min x7_1.toNat 32)) = ji8 := hji8
            have hji8z : x7_1 ≤ 32 → (IntKind.u32.wrap (1 * 2 ^ x7_1.toNat)) = ji8 := shl_small hji8
            have hji8u : (IntKind.u32.wrap (2 ^ min x7_1.toNat 32)) = ji8 := by have h_ := hji8_; rw [Int.one_mul] at h_; exact h_
            have hji8v : x7_1 ≤ 32 → (IntKind.u32.wrap (2 ^ x7_1.toNat)) = ji8 := fun hle_ => by have h_ := hji8z hle_; rw [Int.one_mul] at h_; exact h_
            have H' := Aside0.mk H
            clear H
            go_wp2_with (first | ((with_reducible refine gate_callee (f := 25) rfl ?_); refine goesL_ (some 18) rfl rfl Try.func25 (by kernel_rfl) rfl #[.slice A1 l1.length c1, .int .i64 x7_1] rfl (by (try simp only [List.map_toArray, List.map_cons, List.map_nil]); first | done | rfl | (simp only [List.length_drop, List.length_take]; rfl)) ?_; (with_reducible refine (nat_Shift.calls k1 _ _ l1 x7_1 t157 _ ?side1 ?side2 A4.out).mono ?_); (case side1 => repeat (first | exact (Kd.C_below HR1.out HB.out) | (with_reducible refine Kd.C_alloc ?_ _) | (with_reducible refine Kd.C_drewN ?_ _) | (with_reducible refine Kd.C_drew ?_))); (case side2 => exact HC1.out); rintro e w9 ⟨v158, rfl, ho0, hb⟩; refine ⟨_, rfl, ?_⟩; have n0_ := Aside0.mk (Kd.V_elder' (by (with_reducible repeat (first | apply Kd.V_alloc | apply Kd.V_drewN | apply Kd.V_drew)); exact HO_0.out) (Kd.R_base ho0) hb); have n1_ := Aside0.mk (Kd.R_lower (Kd.R_newM (M := fun k_ => (w.heap.size ≤ k_)) ho0 (below_size (by repeat (first | (with_reducible first | exact HB.out | apply below_alloc | apply pw_below_drewN | apply below_drew1) | exact HB.out))) (fun k_ h_ => h_)) (below_size (by repeat (first | (with_reducible first | exact HB.out | apply below_alloc | apply pw_below_drewN | apply below_drew1) | exact HB.out)))); have n2_ := Aside0.mk (below_step (by repeat (first | (with_reducible first | exact HB.out | apply below_alloc | apply pw_below_drewN | apply below_drew1) | exact HB.out)) hb); clear HO_0; clear HB; have HO_0 := n0_; have HO159 := n1_; have HB := n2_; clear n0_ n1_ n2_; (try clear hb); (try clear hb2); (try clear hk); (try clear hi); (try clear ho0); obtain ⟨Ao10, co10, eo10⟩ := Kd.V_slice HO_0.out; subst eo10; obtain ⟨Ao11, co11, eo11⟩ := Kd.R_slice HO159.out; subst eo11) | ((with_reducible refine gate_callee (f := 29) rfl ?_); refine goesL_ (some 19) rfl rfl Try.func29 (by kernel_rfl) rfl #[.slice Ao10 x0_1.length co10, .slice Ao11 t157.length co11] rfl (by (try simp only [List.map_toArray, List.map_cons, List.map_nil]); first | done | rfl | (simp only [List.length_drop, List.length_take]; rfl)) ?_; (with_reducible refine (nat_Sub.calls k1 _ _ x0_1 _ _ t157 t160 true _ ?side1 ?side2 ?side3 ?side4 A5.out).mono ?_); (case side1 => repeat (first | exact (Kd.V_reads' HO_0.out).2.2 | (with_reducible refine Kd.C_alloc ?_ _) | (with_reducible refine Kd.C_drewN ?_ _) | (with_reducible refine Kd.C_drew ?_))); (case side2 => exact (Kd.V_reads' HO_0.out).2.1); (case side3 => repeat (first | exact (Kd.R_reads' HO159.out).2.2 | (with_reducible refine Kd.C_alloc ?_ _) | (with_reducible refine Kd.C_drewN ?_ _) | (with_reducible refine Kd.C_drew ?_))); (case side4 => exact (Kd.R_reads' HO159.out).2.1); rintro e w12 ⟨v162, rfl, ho0, hb⟩; refine ⟨_, rfl, ?_⟩; have n0_ := Aside0.mk (Kd.V_elder' (by (with_reducible repeat (first | apply Kd.V_alloc | apply Kd.V_drewN | apply Kd.V_drew)); exact HO_0.out) (Kd.R_base ho0) hb); have n1_ := Aside0.mk (Kd.R_elder' (by (with_reducible repeat (first | apply Kd.R_alloc | apply Kd.R_drewN | apply Kd.R_drew)); exact HO159.out) (Kd.R_base ho0) hb); have n2_ := Aside0.mk (Kd.R_lower (Kd.R_new' (Kd.R_newM (M := fun k_ => (w.heap.size ≤ k_)) ho0 (below_size (by repeat (first | (with_reducible first | exact HB.out | apply below_alloc | apply pw_below_drewN | apply below_drew1) | exact HB.out))) (fun k_ h_ => h_)) (Kd.R_lt (by (with_reducible repeat (first | apply Kd.R_alloc | apply Kd.R_drewN | apply Kd.R_drew)); exact HO159.out))) (below_size (by repeat (first | (with_reducible first | exact HB.out | apply below_alloc | apply pw_below_drewN | apply below_drew1) | exact HB.out)))); have n3_ := Aside0.mk (below_step (by repeat (first | (with_reducible first | exact HB.out | apply below_alloc | apply pw_below_drewN | apply below_drew1) | exact HB.out)) hb); clear HO_0; clear HO159; clear HB; have HO_0 := n0_; have HO159 := n1_; have HO163 := n2_; have HB := n3_; clear n0_ n1_ n2_ n3_; (try clear hb); (try clear hb2); (try clear hk); (try clear hi); (try clear ho0)))
            go_roundg k1
            case measure => have := HK1.out; omega
            case rel => exact ⟨(t160), (Go.bits .or .u32 x6_1 (ji8)), (wrap64 (x7_1 - 1)), (by first | rfl | (simp; done) | (simp only [← hji8] <;> (first | rfl | simp)) | (simp [*]; done)), (by first | rfl | (simp; done) | (simp [*]; done)), H', ⟨by have := HK1.out; omega⟩, ⟨Kd.V_mono (Kd.R_V (by (with_reducible repeat (first | apply Kd.R_alloc | apply Kd.R_drewN | apply Kd.R_drew)); exact Kd.R_mono HO163.out (fun _ hk => hk.1.1))) (fun k_ hk => by first | exact ⟨(.inr (hk.1)), hk.2⟩ | exact (.inr (hk)))⟩, ⟨by repeat (first | (with_reducible first | exact HB.out | apply below_alloc | apply pw_below_drewN | apply below_drew1) | exact HB.out)⟩⟩
          · rw [if_neg c7] at H
            exact absurd H (by simp)
        · replace c6 := Bool.eq_false_iff.mpr c6
          subst c6
          have H1 : (nat_digit.l0 k1 x0_1 l1 x6_1 (wrap64 (x7_1 - 1))) = some (r1, r2) := by rw [if_neg (show ¬ (false = true) by decide)] at H; exact H
          clear H
          have H := H1
          clear H1
          have H' := Aside0.mk H
          clear H
          go_wp2_with (first | ((with_reducible refine gate_callee (f := 25) rfl ?_); refine goesL_ (some 18) rfl rfl Try.func25 (by kernel_rfl) rfl #[.slice A1 l1.length c1, .int .i64 x7_1] rfl (by (try simp only [List.map_toArray, List.map_cons, List.map_nil]); first | done | rfl | (simp only [List.length_drop, List.length_take]; rfl)) ?_; (with_reducible refine (nat_Shift.calls k1 _ _ l1 x7_1 t157 _ ?side1 ?side2 A4.out).mono ?_); (case side1 => repeat (first | exact (Kd.C_below HR1.out HB.out) | (with_reducible refine Kd.C_alloc ?_ _) | (with_reducible refine Kd.C_drewN ?_ _) | (with_reducible refine Kd.C_drew ?_))); (case side2 => exact HC1.out); rintro e w13 ⟨v158, rfl, ho0, hb⟩; refine ⟨_, rfl, ?_⟩; have n0_ := Aside0.mk (Kd.V_elder' (by (with_reducible repeat (first | apply Kd.V_alloc | apply Kd.V_drewN | apply Kd.V_drew)); exact HO_0.out) (Kd.R_base ho0) hb); have n1_ := Aside0.mk (Kd.R_lower (Kd.R_newM (M := fun k_ => (w.heap.size ≤ k_)) ho0 (below_size (by repeat (first | (with_reducible first | exact HB.out | apply below_alloc | apply pw_below_drewN | apply below_drew1) | exact HB.out))) (fun k_ h_ => h_)) (below_size (by repeat (first | (with_reducible first | exact HB.out | apply below_alloc | apply pw_below_drewN | apply below_drew1) | exact HB.out)))); have n2_ := Aside0.mk (below_step (by repeat (first | (with_reducible first | exact HB.out | apply below_alloc | apply pw_below_drewN | apply below_drew1) | exact HB.out)) hb); clear HO_0; clear HB; have HO_0 := n0_; have HO159 := n1_; have HB := n2_; clear n0_ n1_ n2_; (try clear hb); (try clear hb2); (try clear hk); (try clear hi); (try clear ho0); obtain ⟨Ao14, co14, eo14⟩ := Kd.V_slice HO_0.out; subst eo14; obtain ⟨Ao15, co15, eo15⟩ := Kd.R_slice HO159.out; subst eo15) | ((with_reducible refine gate_callee (f := 29) rfl ?_); refine goesL_ (some 19) rfl rfl Try.func29 (by kernel_rfl) rfl #[.slice Ao14 x0_1.length co14, .slice Ao15 t157.length co15] rfl (by (try simp only [List.map_toArray, List.map_cons, List.map_nil]); first | done | rfl | (simp only [List.length_drop, List.length_take]; rfl)) ?_; (with_reducible refine (nat_Sub.calls k1 _ _ x0_1 _ _ t157 t160 false _ ?side1 ?side2 ?side3 ?side4 A5.out).mono ?_); (case side1 => repeat (first | exact (Kd.V_reads' HO_0.out).2.2 | (with_reducible refine Kd.C_alloc ?_ _) | (with_reducible refine Kd.C_drewN ?_ _) | (with_reducible refine Kd.C_drew ?_))); (case side2 => exact (Kd.V_reads' HO_0.out).2.1); (case side3 => repeat (first | exact (Kd.R_reads' HO159.out).2.2 | (with_reducible refine Kd.C_alloc ?_ _) | (with_reducible refine Kd.C_drewN ?_ _) | (with_reducible refine Kd.C_drew ?_))); (case side4 => exact (Kd.R_reads' HO159.out).2.1); rintro e w16 ⟨v162, rfl, ho0, hb⟩; refine ⟨_, rfl, ?_⟩; have n0_ := Aside0.mk (Kd.V_elder' (by (with_reducible repeat (first | apply Kd.V_alloc | apply Kd.V_drewN | apply Kd.V_drew)); exact HO_0.out) (Kd.R_base ho0) hb); have n1_ := Aside0.mk (Kd.R_elder' (by (with_reducible repeat (first | apply Kd.R_alloc | apply Kd.R_drewN | apply Kd.R_drew)); exact HO159.out) (Kd.R_base ho0) hb); have n2_ := Aside0.mk (Kd.R_lower (Kd.R_new' (Kd.R_newM (M := fun k_ => (w.heap.size ≤ k_)) ho0 (below_size (by repeat (first | (with_reducible first | exact HB.out | apply below_alloc | apply pw_below_drewN | apply below_drew1) | exact HB.out))) (fun k_ h_ => h_)) (Kd.R_lt (by (with_reducible repeat (first | apply Kd.R_alloc | apply Kd.R_drewN | apply Kd.R_drew)); exact HO159.out))) (below_size (by repeat (first | (with_reducible first | exact HB.out | apply below_alloc | apply pw_below_drewN | apply below_drew1) | exact HB.out)))); have n3_ := Aside0.mk (below_step (by repeat (first | (with_reducible first | exact HB.out | apply below_alloc | apply pw_below_drewN | apply below_drew1) | exact HB.out)) hb); clear HO_0; clear HO159; clear HB; have HO_0 := n0_; have HO159 := n1_; have HO163 := n2_; have HB := n3_; clear n0_ n1_ n2_ n3_; (try clear hb); (try clear hb2); (try clear hk); (try clear hi); (try clear ho0)))
          go_roundg k1
          case measure => have := HK1.out; omega
          case rel => exact ⟨(x0_1), (x6_1), (wrap64 (x7_1 - 1)), (by first | rfl | (simp; done) | (simp [*]; done)), (by first | rfl | (simp; done) | (simp [*]; done)), H', ⟨by have := HK1.out; omega⟩, ⟨by (with_reducible repeat (first | apply Kd.V_alloc | apply Kd.V_drewN | apply Kd.V_drew)); exact Kd.V_mono HO_0.out (fun _ hk => hk.1.1)⟩, ⟨by repeat (first | (with_reducible first | exact HB.out | apply below_alloc | apply pw_below_drewN | apply below_drew1) | exact HB.out)⟩⟩
      · rw [if_neg c3] at H
        have c3b0 : decide (0 ≤ x7_1) = false := decide_eq_false c3
        clear c3
        simp only [Option.some.injEq, Prod.mk.injEq] at H
        obtain ⟨rfl, rfl⟩ := H
        go_wp2
        go_ret2
        exact ⟨_, by first | rfl | (simp [errW_none, errW_some] <;> rfl) | (simp [*, errW_none, errW_some] <;> rfl), by (with_reducible repeat (first | apply Kd.V_alloc | apply Kd.V_drewN | apply Kd.V_drew)); exact HO_0.out, by repeat (first | (with_reducible first | exact HB.out | apply below_alloc | apply pw_below_drewN | apply below_drew1) | exact HB.out)⟩

theorem nat_digit.or_sum {r x y : Nat} (hr : r ≤ 32) (hx : x < 2 ^ r) (hy : y % 2 ^ r = 0) (hy1 : y < 4294967296) : Go.bits .or .u32 (y : Int) (x : Int) = ((y + x : Nat) : Int) := by
  have hc : Go.bits .or .u32 (y : Int) (x : Int) = Go.bits .or .u32 (x : Int) (y : Int) := by simp only [bits, BitVec.or_comm]
  rw [hc, nat_Shift.or_sum hr hx hy hy1, Nat.add_comm]
theorem nat_digit.ev_l {b : List Int} (hb : Num.Ws b) (hlb : b.length < 549755813890) (h0 : Num.nv b ≠ 0) (m : Nat) : ∀ (A Q : Nat), m ≤ 32 → A < 2 ^ m * Num.nv b → Q % 2 ^ m = 0 → Q < 4294967296 →
    Ev (fun k => nat_digit.l0 k (Num.nd A) b (Q : Int) ((m : Int) - 1)) (((Q + A / Num.nv b : Nat) : Int), Num.nd (A % Num.nv b)) := by
  have hB := Num.nv_lt hb
  obtain ⟨B, hBe⟩ : ∃ B, B = Num.nv b := ⟨_, rfl⟩
  rw [← hBe] at hB h0 ⊢
  have hokb : Num.okw b = true := Num.okw_of (by omega) hb
  have hok : ∀ n : Nat, n < 2 ^ 32 * B → Num.okw (Num.nd n) = true := by
    intro n hn
    refine Num.okw_of ?_ (Num.Ws_nd n)
    have h1 : n < 2 ^ (32 * (b.length + 1)) := by
      rw [Num.pow_succ32]
      have := Nat.mul_lt_mul_of_pos_left hB (show 0 < 2 ^ 32 from by decide)
      rw [Nat.mul_comm (2 ^ (32 * b.length))]
      exact Nat.lt_trans hn this
    have := Num.nd_length_le h1
    omega
  induction m with
  | zero =>
    intro A Q hm hA hQ hQ1
    rw [Nat.pow_zero, Nat.one_mul] at hA
    rw [Nat.div_eq_of_lt hA, Nat.mod_eq_of_lt hA]
    refine Ev.step (f := fun _ => some ((Q : Int), Num.nd A)) (fun k => ?_) (Ev.now _)
    simp only [nat_digit.l0]
    rw [if_neg (by omega)]
  | succ m ih =>
    intro A Q hm hA hQ hQ1
    have hp : 2 ^ m ≤ 2 ^ 31 := Nat.pow_le_pow_right (by omega) (by omega)
    have hm31 : m ≤ 31 := by omega
    have hpB : 2 ^ m * B ≤ 2 ^ 31 * B := Nat.mul_le_mul_right _ hp
    have hA32 : A < 2 ^ 32 * B := by
      have : 2 ^ (m + 1) * B ≤ 2 ^ 32 * B := Nat.mul_le_mul_right _ (Nat.pow_le_pow_right (by omega) hm)
      omega
    have hS32 : 2 ^ m * B < 2 ^ 32 * B := by
      have : 0 < B := by omega
      omega
    have hsh := nat_Shift.ev hokb (show m ≤ 65536 from by omega)
    rw [← hBe] at hsh
    have hsub := nat_Sub.ev (hok A hA32) (hok _ hS32)
    rw [Num.nv_nd, Num.nv_nd] at hsub
    have hdvd : 2 ^ m ∣ Q := Nat.dvd_trans (Nat.pow_dvd_pow 2 (Nat.le_succ m)) (Nat.dvd_of_mod_eq_zero hQ)
    have hQm : Q % 2 ^ m = 0 := Nat.mod_eq_zero_of_dvd hdvd
    have c1 : ((m + 1 : Nat) : Int) - 1 ≥ 0 := by omega
    have e1 : ((m + 1 : Nat) : Int) - 1 = (m : Int) := by omega
    have e2 : wrap64 ((m : Int) - 1) = (m : Int) - 1 := nat_trim.w64 (by omega) (by omega)
    refine Ev.step (f := fun k => (nat_Shift.f k b (m : Int)).bind fun t157 => ((nat_Sub.f k (Num.nd A) t157).bind fun bt160 => (if bt160.2 = true then (if 0 ≤ (m : Int) then (nat_digit.l0 k bt160.1 b (Go.bits .or .u32 (Q : Int) (shl .u32 1 (m : Int))) (wrap64 ((m : Int) - 1))) else (none)) else (nat_digit.l0 k (Num.nd A) b (Q : Int) (wrap64 ((m : Int) - 1)))))) (fun k => ?_) ?_
    · simp only [nat_digit.l0]
      rw [if_pos c1, e1]
    · refine Ev.bind hsh (Ev.bind hsub ?_)
      by_cases hlt : A < 2 ^ m * B
      · rw [if_pos hlt]
        refine Ev.congr (fun k => ?_) (ih A Q (by omega) hlt hQm hQ1)
        simp only [Bool.false_eq_true, if_false]
        rw [e2]
      · rw [if_neg hlt]
        have hA' : A - 2 ^ m * B < 2 ^ m * B := by
          rw [Nat.pow_succ, Nat.mul_right_comm] at hA
          omega
        have hQ2 : Q + 2 ^ m < 4294967296 := by
          obtain ⟨u, hu⟩ := Nat.dvd_of_mod_eq_zero hQ
          obtain ⟨v, hv⟩ : 2 ^ (m + 1) ∣ 4294967296 := Nat.pow_dvd_pow 2 (show m + 1 ≤ 32 from hm)
          have hpp : 2 ^ (m + 1) = 2 ^ m * 2 := Nat.pow_succ 2 m
          have hpos : 0 < 2 ^ m := Nat.two_pow_pos m
          rw [hu, hv] at hQ1
          have h1 := Nat.lt_of_mul_lt_mul_left hQ1
          have h2 := Nat.mul_le_mul_left (2 ^ (m + 1)) (show u + 1 ≤ v from h1)
          rw [Nat.mul_add, ← hv, ← hu] at h2
          omega
        have hshl : shl .u32 1 (m : Int) = ((2 ^ m : Nat) : Int) := by
          unfold shl
          rw [Int.toNat_natCast, show min m IntKind.u32.bits = m from Nat.min_eq_left (show m ≤ 32 from by omega), Int.one_mul]
          have e : (2 : Int) ^ m = ((2 ^ m : Nat) : Int) := by rw [Int.natCast_pow]; rfl
          have w : ∀ n : Int, IntKind.u32.wrap n = n % 4294967296 := fun n => by simp [IntKind.wrap, IntKind.bits, IntKind.signed]
          rw [e, w]
          omega
        have hor : Go.bits .or .u32 (Q : Int) ((2 ^ m : Nat) : Int) = ((Q + 2 ^ m : Nat) : Int) := nat_digit.or_sum (r := m + 1) (by omega) (Nat.pow_lt_pow_right (by omega) (by omega)) hQ hQ1
        have hdiv : Q + A / B = Q + 2 ^ m + (A - 2 ^ m * B) / B := by
          have : A = A - 2 ^ m * B + 2 ^ m * B := by omega
          conv => lhs; rw [this, Nat.add_mul_div_right _ _ (by omega)]
          omega
        have hmod : A % B = (A - 2 ^ m * B) % B := by
          have : A = A - 2 ^ m * B + 2 ^ m * B := by omega
          conv => lhs; rw [this, Nat.add_mul_mod_self_right]
        rw [hdiv, hmod]
        refine Ev.congr (fun k => ?_) (ih (A - 2 ^ m * B) (Q + 2 ^ m) (by omega) hA' (by rw [Nat.add_mod_right]; exact hQm) hQ2)
        simp only [if_true]
        rw [if_pos (Int.natCast_nonneg m), hshl, hor, e2]
theorem nat_digit.ev {b : List Int} (hb : Num.Ws b) (hlb : b.length < 549755813890) (h0 : Num.nv b ≠ 0) (A : Nat) (hA : A < 4294967296 * Num.nv b) : Ev (fun k => nat_digit.f k (Num.nd A) b) (((A / Num.nv b : Nat) : Int), Num.nd (A % Num.nv b)) := by
  have := nat_digit.ev_l hb hlb h0 32 A 0 (by omega) hA (by decide) (by omega)
  rw [Nat.zero_add] at this
  exact this

end Go.Proofs.Ytmodmjeibbgdgaa.PR
