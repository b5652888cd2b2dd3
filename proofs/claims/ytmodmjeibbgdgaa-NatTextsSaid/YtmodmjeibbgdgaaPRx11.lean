-- PRINTED by print.py (a twelfth state) out of the translation. Not trusted: Lean checks it.
import Derived.Test.YtmodmjeibbgdgaaPRg0
import Derived.Test.YtmodmjeibbgdgaaPRx10
namespace Go.Proofs.Ytmodmjeibbgdgaa.PR
open Go.RowKit Go.Proofs.YtmodmjeibbgdgaaW.PrintWords Go.Proofs.YtmodmjeibbgdgaaW.PrintLast Go.Proofs.YtmodmjeibbgdgaaW.PrintMore
attribute [local go_sem] max2_int min2_int max_two min_two max_three min_three max_four min_four   -- for this text's walks alone
set_option linter.unusedVariables false
set_option linter.unusedSimpArgs false

/-! ### nat_Sub: function 29 -/
def nat_Sub.l0 : Nat → List Int → List Int → List Int → Int → Int → Int → Option (List Int × Bool)
  | 0, _, _, _, _, _, _ => none
  | k + 1, x0, x1, x6, x7, x18, x19 => if x19 < x18 then ((nat_at.f x0 x19).bind fun t151 => ((nat_at.f x1 x19).bind fun t152 => (if 0 ≤ x19 then (if x19 < (x6.length : Int) then (nat_Sub.l0 k x0 x1 (x6.set (x19 : Int).toNat ((IntKind.u64.wrap ((IntKind.u64.wrap (t151 - t152)) - x7)) % 4294967296)) ((IntKind.u64.wrap ((IntKind.u64.wrap (t151 - t152)) - x7)) / 9223372036854775808) x18 (wrap64 (x19 + 1))) else (none)) else (none)))) else ((nat_trim.f k x6).bind fun t154 => (some (t154, true)))
def nat_Sub.f (k : Nat) (l0 : List Int) (l1 : List Int) : Option (List Int × Bool) := (nat_Compare.f k l0 l1).bind fun t147 => (if t147 < 0 then (some (([] : List Int), false)) else (if 0 ≤ (l0.length : Int) then (if ((l0.length : Int) : Int).toNat ≤ 70368744177664 then ((some (List.replicate ((l0.length : Int) : Int).toNat 0 : List Int)).bind fun y148 => (nat_Sub.l0 k l0 l1 y148 0 (y148.length : Int) 0)) else (none)) else (none)))
theorem nat_Sub.mono_l : ∀ k, (∀ y0 y1 y2 y3 y4 y5, LeO (nat_Sub.l0 k y0 y1 y2 y3 y4 y5) (nat_Sub.l0 (k + 1) y0 y1 y2 y3 y4 y5))
  | 0 => fun _ _ _ _ _ _ r h => by simp [nat_Sub.l0] at h
  | k + 1 => by
    have ih0 := nat_Sub.mono_l k
    · intro y0 y1 y2 y3 y4 y5
      unfold nat_Sub.l0
      repeat' first
      | (with_reducible exact ih0 _ _ _ _ _ _)
      | (with_reducible exact nat_Compare.mono _ _ _)
      | (with_reducible exact nat_trim.mono _ _)
      | (with_reducible exact LeO.refl _)
      | (with_reducible exact LeO.none _)
      | (with_reducible refine LeO.ite ?_ ?_)
      | (with_reducible refine LeO.bind ?_ (fun _ => ?_))
      | exact ih0 _ _ _ _ _ _
      | exact nat_Compare.mono _ _ _
      | exact nat_trim.mono _ _
      | exact LeO.none _
      | refine LeO.ite ?_ ?_
      | refine LeO.bind ?_ (fun _ => ?_)
theorem nat_Sub.mono : ∀ a0 a1 k, LeO (nat_Sub.f k a0 a1) (nat_Sub.f (k + 1) a0 a1) := by
  intro a0 a1 k
  have ih0 := nat_Sub.mono_l k
  unfold nat_Sub.f
  repeat' first
      | (with_reducible exact ih0 _ _ _ _ _ _)
      | (with_reducible exact nat_Compare.mono _ _ _)
      | (with_reducible exact nat_trim.mono _ _)
      | (with_reducible exact LeO.refl _)
      | (with_reducible exact LeO.none _)
      | (with_reducible refine LeO.ite ?_ ?_)
      | (with_reducible refine LeO.bind ?_ (fun _ => ?_))
      | exact ih0 _ _ _ _ _ _
      | exact nat_Compare.mono _ _ _
      | exact nat_trim.mono _ _
      | exact LeO.none _
      | refine LeO.ite ?_ ?_
      | refine LeO.bind ?_ (fun _ => ?_)
set_option maxHeartbeats 8000000 in
set_option maxRecDepth 100000 in
theorem nat_Sub.calls (k : Nat) (A0 : Option Addr) (c0 : Nat) (l0 : List Int) (A1 : Option Addr) (c1 : Nat) (l1 : List Int) (r1 : List Int) (r2 : Bool) (w : World) (hr0 : Kd.C (Kd.int .u32) w A0 l0.length l0) (hc0 : l0.length ≤ c0) (hr1 : Kd.C (Kd.int .u32) w A1 l1.length l1) (hc1 : l1.length ≤ c1) (h : nat_Sub.f k l0 l1 = some (r1, r2)) :
    Calls Try.prog 29 #[.slice A0 l0.length c0, .slice A1 l1.length c1] w fun e w' => ∃ v0_ : Value, e = .returned (.tuple #[v0_, .bool r2]) ∧ Kd.R (Kd.int .u32) 33 w' w.heap.size (fun _ => True) v0_ r1 ∧ Below w.heap.size w w' := by
  have HR0 := Aside0.mk hr0
  have HC0 := Aside0.mk hc0
  clear hr0 hc0
  have HR1 := Aside0.mk hr1
  have HC1 := Aside0.mk hc1
  clear hr1 hc1
  have HB := Aside0.mk (Below.refl w.heap.size w)
  have H : ((nat_Compare.f k l0 l1).bind fun t147 => (if t147 < 0 then (some (([] : List Int), false)) else (if 0 ≤ (l0.length : Int) then (if ((l0.length : Int) : Int).toNat ≤ 70368744177664 then ((some (List.replicate ((l0.length : Int) : Int).toNat 0 : List Int)).bind fun y148 => (nat_Sub.l0 k l0 l1 y148 0 (y148.length : Int) 0)) else (none)) else (none)))) = some (r1, r2) := h
  clear h
  replace H := Option.bind_eq_some_iff.mp H
  obtain ⟨t147, A30, H⟩ := H
  replace H : (if t147 < 0 then (some (([] : List Int), false)) else (if 0 ≤ (l0.length : Int) then (if ((l0.length : Int) : Int).toNat ≤ 70368744177664 then ((some (List.replicate ((l0.length : Int) : Int).toNat 0 : List Int)).bind fun y148 => (nat_Sub.l0 k l0 l1 y148 0 (y148.length : Int) 0)) else (none)) else (none))) = some (r1, r2) := H
  have A3 := Aside0.mk A30
  clear A30
  by_cases c4 : t147 < 0
  · rw [if_pos c4] at H
    have c4b0 : decide (t147 < 0) = true := decide_eq_true c4
    clear c4
    simp only [Option.some.injEq, Prod.mk.injEq] at H
    obtain ⟨rfl, rfl⟩ := H
    go_enter Try.func29, Try.ntmps29
    go_wp2_with (first | ((with_reducible refine gate_callee (f := 19) rfl ?_); refine goesL_ (some 12) rfl rfl Try.func19 (by kernel_rfl) rfl #[.slice A0 l0.length c0, .slice A1 l1.length c1] rfl (by (try simp only [List.map_toArray, List.map_cons, List.map_nil]); first | done | rfl | (simp only [List.length_drop, List.length_take]; rfl)) ?_; (with_reducible refine (nat_Compare.calls k _ _ l0 _ _ l1 t147 _ ?side1 ?side2 ?side3 ?side4 A3.out).mono ?_); (case side1 => repeat (first | exact HR0.out | (with_reducible refine Kd.C_alloc ?_ _) | (with_reducible refine Kd.C_drewN ?_ _) | (with_reducible refine Kd.C_drew ?_))); (case side2 => exact HC0.out); (case side3 => repeat (first | exact HR1.out | (with_reducible refine Kd.C_alloc ?_ _) | (with_reducible refine Kd.C_drewN ?_ _) | (with_reducible refine Kd.C_drew ?_))); (case side4 => exact HC1.out); rintro e w5 ⟨rfl, hb⟩; refine ⟨_, rfl, ?_⟩; have n0_ := Aside0.mk (below_step (by repeat (first | (with_reducible first | exact HB.out | apply below_alloc | apply pw_below_drewN | apply below_drew1) | exact HB.out)) hb); clear HB; have HB := n0_; clear n0_; (try clear hb); (try clear hb2); (try clear hk); (try clear hi)))
    go_ret2
    exact ⟨_, by first | rfl | (simp [errW_none, errW_some] <;> rfl) | (simp [*, errW_none, errW_some] <;> rfl), by first | exact Kd.R_nil _ _ _ _ _ | exact Kd.N_nil _ _ _ _ _ | exact Kd.V_nil _ _ _ _ _ | exact Kd.Q_nil _ _ _ _ _ | exact Kd.S_nil _ _ _ _ _, by repeat (first | (with_reducible first | exact HB.out | apply below_alloc | apply pw_below_drewN | apply below_drew1) | exact HB.out)⟩
  · rw [if_neg c4] at H
    have c4b0 : decide (t147 < 0) = false := decide_eq_false c4
    clear c4
    by_cases c6 : 0 ≤ (l0.length : Int)
    · rw [if_pos c6] at H
      have c6b0 := eq_true c6
      have c6b1 : decide (0 ≤ (l0.length : Int)) = true := decide_eq_true c6
      clear c6
      by_cases c7 : ((l0.length : Int) : Int).toNat ≤ 70368744177664
      · rw [if_pos c7] at H
        have c7b0 := eq_true c7
        have c7b1 : decide (((l0.length : Int) : Int).toNat ≤ 70368744177664) = true := decide_eq_true c7
        clear c7
        obtain ⟨y148, hy148⟩ : ∃ y_ : List Int, y_ = (List.replicate ((l0.length : Int) : Int).toNat 0) := ⟨_, rfl⟩
        replace H : (nat_Sub.l0 k l0 l1 y148 0 (y148.length : Int) 0) = some (r1, r2) := by first | (rw [hy148]; with_reducible exact H) | (have H2_ := (Option.bind_some _ _).symm.trans H; rw [hy148]; with_reducible exact H2_) | (have H2_ := (Option.bind_some _ _).symm.trans H; with_reducible exact H2_) | with_reducible exact H | (rw [hy148]; exact H) | exact H
        have Ny148 := Aside0.mk hy148
        clear hy148
        have H' := Aside0.mk H
        clear H
        go_enter Try.func29, Try.ntmps29
        go_wp2_with (first | ((with_reducible refine gate_callee (f := 19) rfl ?_); refine goesL_ (some 12) rfl rfl Try.func19 (by kernel_rfl) rfl #[.slice A0 l0.length c0, .slice A1 l1.length c1] rfl (by (try simp only [List.map_toArray, List.map_cons, List.map_nil]); first | done | rfl | (simp only [List.length_drop, List.length_take]; rfl)) ?_; (with_reducible refine (nat_Compare.calls k _ _ l0 _ _ l1 t147 _ ?side1 ?side2 ?side3 ?side4 A3.out).mono ?_); (case side1 => repeat (first | exact HR0.out | (with_reducible refine Kd.C_alloc ?_ _) | (with_reducible refine Kd.C_drewN ?_ _) | (with_reducible refine Kd.C_drew ?_))); (case side2 => exact HC0.out); (case side3 => repeat (first | exact HR1.out | (with_reducible refine Kd.C_alloc ?_ _) | (with_reducible refine Kd.C_drewN ?_ _) | (with_reducible refine Kd.C_drew ?_))); (case side4 => exact HC1.out); rintro e w8 ⟨rfl, hb⟩; refine ⟨_, rfl, ?_⟩; have n0_ := Aside0.mk (below_step (by repeat (first | (with_reducible first | exact HB.out | apply below_alloc | apply pw_below_drewN | apply below_drew1) | exact HB.out)) hb); clear HB; have HB := n0_; clear n0_; (try clear hb); (try clear hb2); (try clear hk); (try clear hi)) | ((with_reducible refine gate_dst (N := 16) rfl ?_); refine Kd.R_make (Kd.int .u32) _ 33 rfl (N := 16) rfl 23 _ _ rfl (l0.length : Int) rfl rfl Try.underlying23 (.int .u32 0) 4 info33 rfl (by decide) (by omega) 0 (ok := fun _ => True) (okp := fun _ => True) rfl (fun _ hk => hk) trivial (of_decide_eq_true (by first | (with_reducible assumption) | assumption)) (Nat.le_trans (Nat.mul_le_mul_right _ (of_decide_eq_true (by first | (with_reducible assumption) | assumption) : (l0.length : Int).toNat ≤ 70368744177664)) (by omega)) (Below.refl _ _) (Nat.le_refl _) ?_; intro v149 w9 ho10 hb hg_ hnew_; clear hg_ hnew_; (first | rw [← Ny148.out] at ho10 | (simp only [Int.reduceToNat] at ho10; rw [← Ny148.out] at ho10)); have n0_ := Aside0.mk (Kd.R_lower ho10 (below_size (by repeat (first | (with_reducible first | exact HB.out | apply below_alloc | apply pw_below_drewN | apply below_drew1) | exact HB.out)))); have n1_ := Aside0.mk (below_step (by repeat (first | (with_reducible first | exact HB.out | apply below_alloc | apply pw_below_drewN | apply below_drew1) | exact HB.out)) hb); clear HB; have HO150 := n0_; have HB := n1_; clear n0_ n1_; clear hb ho10; obtain ⟨Ao11, co11, eo11⟩ := Kd.R_slice HO150.out; subst eo11))
        go_loopg [7, 19] k (fun kq v7 v19 w' => ∃ (x6_1 : List Int) (x7_1 : Int) (x19_1 : Int), v7 = .int .u64 x7_1 ∧ v19 = .int .i64 x19_1 ∧ Aside0 (nat_Sub.l0 kq l0 l1 x6_1 x7_1 (y148.length : Int) x19_1 = some (r1, r2)) ∧ Aside0 (kq ≤ k) ∧ Aside0 (Kd.R (Kd.int .u32) 33 w' w.heap.size (fun _ => True) (.slice Ao11 y148.length co11) x6_1) ∧ Aside0 (Below w.heap.size w w'))
        case atStart => exact ⟨(y148), (0), (0), (by first | rfl | (simp; done) | (simp [*]; done)), (by first | rfl | (simp; done) | (simp [*]; done)), H', ⟨Nat.le_refl _⟩, ⟨by (with_reducible repeat (first | apply Kd.R_alloc | apply Kd.R_drewN | apply Kd.R_drew)); exact HO150.out⟩, ⟨by repeat (first | (with_reducible first | exact HB.out | apply below_alloc | apply pw_below_drewN | apply below_drew1) | exact HB.out)⟩⟩
        case round =>
          clear H'
          try clear c1
          try clear c2
          try clear p2
          try clear c4
          try clear c4b0
          try clear c6
          try clear c6b0
          try clear c6b1
          try clear c7
          try clear c7b0
          try clear c7b1
          obtain ⟨x6_1, x7_1, x19_1, rfl, rfl, HA, HK1, HO_6, HB⟩ := hrel
          have hl6_1 := (Kd.R_reads' HO_6.out).1
          rw [hl6_1] at HO_6
          (try simp only [hl6_1])
          cases gk with
          | zero => exact absurd HA.out (by simp [nat_Sub.l0])
          | succ k1 =>
            have H := HA.out
            clear HA
            simp only [nat_Sub.l0] at H
            by_cases c12 : x19_1 < (y148.length : Int)
            · rw [if_pos c12] at H
              have c12b0 : decide (x19_1 < (y148.length : Int)) = true := decide_eq_true c12
              (try (have c12z0 : decide (x19_1 < (x6_1.length : Int)) = true := by rw [← hl6_1]; exact c12b0))
              clear c12
              replace H := Option.bind_eq_some_iff.mp H
              obtain ⟨t151, A130, H⟩ := H
              replace H : ((nat_at.f l1 x19_1).bind fun t152 => (if 0 ≤ x19_1 then (if x19_1 < (x6_1.length : Int) then (nat_Sub.l0 k1 l0 l1 (x6_1.set (x19_1 : Int).toNat ((IntKind.u64.wrap ((IntKind.u64.wrap (t151 - t152)) - x7_1)) % 4294967296)) ((IntKind.u64.wrap ((IntKind.u64.wrap (t151 - t152)) - x7_1)) / 9223372036854775808) (y148.length : Int) (wrap64 (x19_1 + 1))) else (none)) else (none))) = some (r1, r2) := H
              have A13 := Aside0.mk A130
              clear A130
              replace H := Option.bind_eq_some_iff.mp H
              obtain ⟨t152, A140, H⟩ := H
              replace H : (if 0 ≤ x19_1 then (if x19_1 < (x6_1.length : Int) then (nat_Sub.l0 k1 l0 l1 (x6_1.set (x19_1 : Int).toNat ((IntKind.u64.wrap ((IntKind.u64.wrap (t151 - t152)) - x7_1)) % 4294967296)) ((IntKind.u64.wrap ((IntKind.u64.wrap (t151 - t152)) - x7_1)) / 9223372036854775808) (y148.length : Int) (wrap64 (x19_1 + 1))) else (none)) else (none)) = some (r1, r2) := H
              have A14 := Aside0.mk A140
              clear A140
              by_cases c15 : 0 ≤ x19_1
              · rw [if_pos c15] at H
                have c15b0 : decide (0 ≤ x19_1) = true := decide_eq_true c15
                clear c15
                by_cases c16 : x19_1 < (x6_1.length : Int)
                · rw [if_pos c16] at H
                  have c16b0 : decide (x19_1 < (x6_1.length : Int)) = true := decide_eq_true c16
                  clear c16
                  obtain ⟨y153, hy153⟩ : ∃ y_ : List Int, y_ = (x6_1.set (x19_1 : Int).toNat ((IntKind.u64.wrap ((IntKind.u64.wrap (t151 - t152)) - x7_1)) % 4294967296)) := ⟨_, rfl⟩
                  replace H : (nat_Sub.l0 k1 l0 l1 y153 ((IntKind.u64.wrap ((IntKind.u64.wrap (t151 - t152)) - x7_1)) / 9223372036854775808) (y148.length : Int) (wrap64 (x19_1 + 1))) = some (r1, r2) := by first | (rw [hy153]; with_reducible exact H) | (have H2_ := (Option.bind_some _ _).symm.trans H; rw [hy153]; with_reducible exact H2_) | (have H2_ := (Option.bind_some _ _).symm.trans H; with_reducible exact H2_) | with_reducible exact H | (rw [hy153]; exact H) | exact H
                  have Ny153 := Aside0.mk hy153
                  clear hy153
                  have H' := Aside0.mk H
                  clear H
                  go_wp2_with (first | ((with_reducible refine gate_callee (f := 43) rfl ?_); refine goesL_ (some 24) rfl rfl Try.func43 (by kernel_rfl) rfl #[.slice A0 l0.length c0, .int .i64 x19_1] rfl (by (try simp only [List.map_toArray, List.map_cons, List.map_nil]); first | done | rfl | (simp only [List.length_drop, List.length_take]; rfl)) ?_; (with_reducible refine (nat_at.calls _ _ l0 x19_1 t151 _ ?side1 ?side2 A13.out).mono ?_); (case side1 => repeat (first | exact (Kd.C_below HR0.out HB.out) | (with_reducible refine Kd.C_alloc ?_ _) | (with_reducible refine Kd.C_drewN ?_ _) | (with_reducible refine Kd.C_drew ?_))); (case side2 => exact HC0.out); rintro e w' ⟨rfl, ⟨nd, rfl⟩⟩; refine ⟨_, rfl, ?_⟩; (try (rw [drewN_self wr]; generalize hq_ : World.drewN wr _ = wr; have n0_ : Aside0 (Kd.R (Kd.int .u32) 33 wr w.heap.size (fun _ => True) (.slice Ao11 x6_1.length co11) x6_1) := ⟨by rw [← hq_]; exact (by (with_reducible repeat (first | apply Kd.R_alloc | apply Kd.R_drewN | apply Kd.R_drew)); exact HO_6.out)⟩; have n1_ : Aside0 (Below w.heap.size w wr) := ⟨by rw [← hq_]; exact (by repeat (first | (with_reducible first | exact HB.out | apply below_alloc | apply pw_below_drewN | apply below_drew1) | exact HB.out))⟩; clear HO_6 HB hq_; have HO_6 := n0_; have HB := n1_; clear n0_ n1_))) | ((with_reducible refine gate_callee (f := 43) rfl ?_); refine goesL_ (some 27) rfl rfl Try.func43 (by kernel_rfl) rfl #[.slice A1 l1.length c1, .int .i64 x19_1] rfl (by (try simp only [List.map_toArray, List.map_cons, List.map_nil]); first | done | rfl | (simp only [List.length_drop, List.length_take]; rfl)) ?_; (with_reducible refine (nat_at.calls _ _ l1 x19_1 t152 _ ?side1 ?side2 A14.out).mono ?_); (case side1 => repeat (first | exact (Kd.C_below HR1.out HB.out) | (with_reducible refine Kd.C_alloc ?_ _) | (with_reducible refine Kd.C_drewN ?_ _) | (with_reducible refine Kd.C_drew ?_))); (case side2 => exact HC1.out); rintro e w' ⟨rfl, ⟨nd, rfl⟩⟩; refine ⟨_, rfl, ?_⟩; (try (rw [drewN_self wr]; generalize hq_ : World.drewN wr _ = wr; have n0_ : Aside0 (Kd.R (Kd.int .u32) 33 wr w.heap.size (fun _ => True) (.slice Ao11 x6_1.length co11) x6_1) := ⟨by rw [← hq_]; exact (by (with_reducible repeat (first | apply Kd.R_alloc | apply Kd.R_drewN | apply Kd.R_drew)); exact HO_6.out)⟩; have n1_ : Aside0 (Below w.heap.size w wr) := ⟨by rw [← hq_]; exact (by repeat (first | (with_reducible first | exact HB.out | apply below_alloc | apply pw_below_drewN | apply below_drew1) | exact HB.out))⟩; clear HO_6 HB hq_; have HO_6 := n0_; have HB := n1_; clear n0_ n1_)); have p17 : 0 ≤ (x19_1 : Int) := of_decide_eq_true (by first | (with_reducible assumption) | assumption); have q17 : (x19_1 : Int) < ((x6_1.length : Int) : Int) := of_decide_eq_true (by first | (with_reducible assumption) | assumption); obtain ⟨go17, co17, eo17, gb17, gl17, cl17, HG17⟩ := Kd.R_form HO_6.out (by omega); (first | cases eo17 | (injection eo17 with ea_ en_ ec_; (first | subst ea_ | (injection ea_ with ea_; subst ea_)); subst ec_; clear en_)); have GB17 := Aside0.mk gb17; have GG17 := Aside0.mk HG17; clear gb17 gl17 HG17; obtain ⟨hx17_0, hf17_0⟩ := Kd.R_celln 0 HO_6.out (x19_1 : Int) p17 q17; replace p17 := eq_true p17; replace q17 := eq_true q17; obtain ⟨hy18_, hz18_⟩ := Kd.R_celln 0 HO_6.out (x19_1 : Int) (of_decide_eq_true (by first | (with_reducible assumption) | assumption)) (of_decide_eq_true (by first | (with_reducible assumption) | assumption)); have HP18 := Kd.R_putg HO_6.out (x19_1 : Int) ((IntKind.u64.wrap ((IntKind.u64.wrap (t151 - t152)) - x7_1)) % 4294967296)) | ((with_reducible refine gate_store (t := 33) (p := 35) rfl ?_); refine store_event (t := 33) (p := 35) (v := ?vo_w19) (w1 := (wr.setCell ⟨go17, (x19_1 : Int).toNat, none⟩ (.int .u32 ((IntKind.u64.wrap ((IntKind.u64.wrap (t151 - t152)) - x7_1)) % 4294967296)))) ?hg ?ho ?hn ?hr ?_; (case ho => rfl); (case hg => rfl); (case hn => rfl); (case hr => first | (go_simp; done) | (go_simp; rfl)); intro w19 hw; have hg : wr.grownBy w19 (some go17) := (by rw [hw]; exact HP18.2); have hp_ : Kd.R (Kd.int .u32) 33 w19 w.heap.size (fun _ => True) (.slice (some ⟨go17, 0, none⟩) x6_1.length co11) y153 := (by rw [hw, Ny153.out]; exact HP18.1); clear HP18; have n0_ := Aside0.mk (hp_); have n1_ := Aside0.mk ((by rw [hw]; exact below_set (HB.out) GB17.out : Below w.heap.size w w19)); clear HO_6; clear HB; have HO_6 := n0_; have HB := n1_; clear n0_ n1_; clear hg hw hp_))
                  (try simp only [← hl6_1])
                  go_roundg k1
                  case measure => have := HK1.out; omega
                  case rel => exact ⟨(y153), ((IntKind.u64.wrap ((IntKind.u64.wrap (t151 - t152)) - x7_1)) / 9223372036854775808), (wrap64 (x19_1 + 1)), (by first | rfl | (simp; done) | (simp [*]; done)), (by first | rfl | (simp; done) | (simp [*]; done)), H', ⟨by have := HK1.out; omega⟩, ⟨by (try simp only [hl6_1]); (with_reducible repeat (first | apply Kd.R_alloc | apply Kd.R_drewN | apply Kd.R_drew)); exact HO_6.out⟩, ⟨by repeat (first | (with_reducible first | exact HB.out | apply below_alloc | apply pw_below_drewN | apply below_drew1) | exact HB.out)⟩⟩
                · rw [if_neg c16] at H
                  exact absurd H (by simp)
              · rw [if_neg c15] at H
                exact absurd H (by simp)
            · rw [if_neg c12] at H
              have c12b0 : decide (x19_1 < (y148.length : Int)) = false := decide_eq_false c12
              (try (have c12z0 : decide (x19_1 < (x6_1.length : Int)) = false := by rw [← hl6_1]; exact c12b0))
              clear c12
              replace H := Option.bind_eq_some_iff.mp H
              obtain ⟨t154, A200, H⟩ := H
              replace H : (some (t154, true)) = some (r1, r2) := H
              have A20 := Aside0.mk A200
              clear A200
              simp only [Option.some.injEq, Prod.mk.injEq] at H
              obtain ⟨rfl, rfl⟩ := H
              go_wp2_with (first | ((with_reducible refine gate_callee (f := 38) rfl ?_); refine goesL_ (some 40) rfl rfl Try.func38 (by kernel_rfl) rfl #[.slice Ao11 x6_1.length co11] rfl (by (try simp only [List.map_toArray, List.map_cons, List.map_nil]); first | done | rfl | (simp only [List.length_drop, List.length_take]; rfl)) ?_; (with_reducible refine (nat_trim.calls k1 _ _ x6_1 t154 _ ?side1 ?side2 A20.out).mono ?_); (case side1 => repeat (first | exact (Kd.R_reads' HO_6.out).2.2 | (with_reducible refine Kd.C_alloc ?_ _) | (with_reducible refine Kd.C_drewN ?_ _) | (with_reducible refine Kd.C_drew ?_))); (case side2 => exact (Kd.R_reads' HO_6.out).2.1); rintro e w21 ⟨v155, rfl, ho0, hb⟩; refine ⟨_, rfl, ?_⟩; have n0_ := Aside0.mk (Kd.R_elder' (by (with_reducible repeat (first | apply Kd.R_alloc | apply Kd.R_drewN | apply Kd.R_drew)); exact HO_6.out) (Kd.R_base ho0) hb); have n1_ := Aside0.mk (Kd.R_lower (Kd.R_new' ho0 (Kd.R_lt (by (with_reducible repeat (first | apply Kd.R_alloc | apply Kd.R_drewN | apply Kd.R_drew)); exact HO_6.out))) (below_size (by repeat (first | (with_reducible first | exact HB.out | apply below_alloc | apply pw_below_drewN | apply below_drew1) | exact HB.out)))); have n2_ := Aside0.mk (below_step (by repeat (first | (with_reducible first | exact HB.out | apply below_alloc | apply pw_below_drewN | apply below_drew1) | exact HB.out)) hb); clear HO_6; clear HB; have HO_6 := n0_; have HO156 := n1_; have HB := n2_; clear n0_ n1_ n2_; (try clear hb); (try clear hb2); (try clear hk); (try clear hi); (try clear ho0)))
              go_ret2
              exact ⟨_, by first | rfl | (simp [errW_none, errW_some] <;> rfl) | (simp [*, errW_none, errW_some] <;> rfl), by (with_reducible repeat (first | apply Kd.R_alloc | apply Kd.R_drewN | apply Kd.R_drew)); exact Kd.R_mono HO156.out (fun _ hk => trivial), by repeat (first | (with_reducible first | exact HB.out | apply below_alloc | apply pw_below_drewN | apply below_drew1) | exact HB.out)⟩
      · rw [if_neg c7] at H
        exact absurd H (by simp)
    · rw [if_neg c6] at H
      exact absurd H (by simp)

theorem nat_Sub.ev_l {a b : List Int} (ha : Num.Ws a) (hb : Num.Ws b) (hba : Num.nv b ≤ Num.nv a) (hL : a.length < 35184372088832) (d : Nat) : ∀ (i : Nat) (x : List Int) (c : Nat), i + d = a.length → x.length = a.length → Num.Ws x → c ≤ 1 →
    Num.nv (a.take i) + 2 ^ (32 * i) * c = Num.nv (x.take i) + Num.nv (b.take i) → Ev (fun k => nat_Sub.l0 k a b x (c : Int) (a.length : Int) (i : Int)) (Num.nd (Num.nv a - Num.nv b), true) := by
  induction d with
  | zero =>
    intro i x c hi hx hW hc hv
    obtain rfl : i = a.length := by omega
    have hva := Num.nv_lt ha
    have hvx := Num.nv_lt hW
    rw [hx] at hvx
    rw [List.take_of_length_le (Nat.le_refl _), List.take_of_length_le (by omega), Num.nv_take_of_lt (by omega)] at hv
    have hv2 : Num.nv x = Num.nv a - Num.nv b := by
      rcases Nat.eq_zero_or_pos c with h | h
      · subst h; omega
      · obtain rfl : c = 1 := by omega
        omega
    refine Ev.step (f := fun k => (nat_trim.f k x).bind fun t => some (t, true)) (fun k => ?_) ?_
    · simp only [nat_Sub.l0]
      rw [if_neg (by omega)]
    · rw [← hv2]
      exact Ev.bind (nat_trim.ev hW (by omega)) (Ev.now _)
  | succ d ih =>
    intro i x c hi hx hW hc hv
    have hga := ha.getD i
    have hgb := hb.getD i
    obtain ⟨p, hp⟩ : ∃ p : Nat, (p : Int) = a.getD i 0 := ⟨(a.getD i 0).toNat, by omega⟩
    obtain ⟨q, hq⟩ : ∃ q : Nat, (q : Int) = b.getD i 0 := ⟨(b.getD i 0).toNat, by omega⟩
    have wu : ∀ n : Int, IntKind.u64.wrap n = n % 18446744073709551616 := fun n => by simp [IntKind.wrap, IntKind.bits, IntKind.signed]
    obtain ⟨o, c', ho, ho1, hc1, hc2, hs⟩ : ∃ o c' : Nat, (IntKind.u64.wrap (IntKind.u64.wrap ((p : Int) - (q : Int)) - (c : Int))) % 4294967296 = (o : Int) ∧ o < 4294967296 ∧ (IntKind.u64.wrap (IntKind.u64.wrap ((p : Int) - (q : Int)) - (c : Int))) / 9223372036854775808 = (c' : Int) ∧ c' ≤ 1 ∧ p + 4294967296 * c' = o + q + c := by
      rw [wu, wu]
      by_cases h : q + c ≤ p
      · exact ⟨p - q - c, 0, by omega, by omega, by omega, by omega, by omega⟩
      · exact ⟨4294967296 + p - q - c, 1, by omega, by omega, by omega, by omega, by omega⟩
    have c1 : (i : Int) < (a.length : Int) := by omega
    have c2 : 0 ≤ (i : Int) := by omega
    have c3 : (i : Int) < (x.length : Int) := by omega
    have hoc := Aside0.mk (And.intro ho hc1)
    clear ho hc1 wu
    refine Ev.step (f := fun k => nat_Sub.l0 k a b (x.set i (o : Int)) (c' : Int) (a.length : Int) ((i + 1 : Nat) : Int)) (fun k => ?_) ?_
    · have e5 : wrap64 ((i : Int) + 1) = ((i + 1 : Nat) : Int) := by rw [nat_trim.w64 (by omega) (by omega)]; omega
      obtain ⟨ho, hc1⟩ := hoc.out
      simp only [nat_Sub.l0]
      rw [if_pos c1, nat_at.sem ha, nat_at.sem hb]
      simp only [Option.bind_some]
      rw [if_pos c2, if_pos c3, ← hp, ← hq, ho, hc1, e5]
      simp only [Int.toNat_natCast]
    · refine ih (i + 1) _ _ (by omega) (by rw [List.length_set]; exact hx) (hW.set i (by omega) (by omega)) (by omega) ?_
      rw [Num.nv_set_take (by omega), Num.nv_take_succ, Num.nv_take_succ, Num.pow_succ32, Int.toNat_natCast, ← hp, ← hq, Int.toNat_natCast, Int.toNat_natCast]
      have h2 : 2 ^ (32 * i) * (p + 4294967296 * c') = 2 ^ (32 * i) * (o + q + c) := by rw [hs]
      rw [Nat.mul_add, Nat.mul_add, Nat.mul_add, ← Nat.mul_assoc] at h2
      omega
theorem nat_Sub.ev {a b : List Int} (ha : Num.okw a = true) (hb : Num.okw b = true) : Ev (fun k => nat_Sub.f k a b) (if Num.nv a < Num.nv b then ([], false) else (Num.nd (Num.nv a - Num.nv b), true)) := by
  obtain ⟨la, wa⟩ := (Num.okw_iff a).1 ha
  obtain ⟨lb, wb⟩ := (Num.okw_iff b).1 hb
  have hc : ∀ k, nat_Compare.f k a b = some (Num.cmp (Num.nv a) (Num.nv b)) := fun k => by unfold nat_Compare.f; rw [if_pos ha, if_pos hb]
  by_cases h : Num.nv a < Num.nv b
  · rw [if_pos h]
    refine ⟨0, fun k _ => ?_⟩
    show nat_Sub.f k a b = _
    unfold nat_Sub.f
    rw [hc, Num.cmp_lt h]
    rfl
  · rw [if_neg h]
    have := nat_Sub.ev_l wa wb (by omega) (by omega) a.length 0 (List.replicate a.length 0) 0 (by omega) (by simp) (Num.Ws.replicate _) (by omega) (by simp [Num.nv])
    refine Ev.congr (fun k => ?_) this
    have h0 : ¬ Num.cmp (Num.nv a) (Num.nv b) < 0 := by unfold Num.cmp; rw [if_neg h]; split <;> omega
    unfold nat_Sub.f
    rw [hc]
    simp only [Option.bind_some]
    rw [if_neg h0, if_pos (show (0 : Int) ≤ (a.length : Int) from by omega), Int.toNat_natCast, if_pos (show a.length ≤ 70368744177664 from by omega)]
    simp only [List.length_replicate]
    rfl

end Go.Proofs.Ytmodmjeibbgdgaa.PR
