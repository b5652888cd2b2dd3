-- PRINTED by print.py (a twelfth state) out of the translation. Not trusted: Lean checks it.
import Derived.Test.YtmodmjeibbgdgaaPRg0
import Derived.Test.YtmodmjeibbgdgaaPRx10
namespace Go.Proofs.Ytmodmjeibbgdgaa.PR
open Go.RowKit Go.Proofs.YtmodmjeibbgdgaaW.PrintWords Go.Proofs.YtmodmjeibbgdgaaW.PrintLast Go.Proofs.YtmodmjeibbgdgaaW.PrintMore
attribute [local go_sem] max2_int min2_int max_two min_two max_three min_three max_four min_four   -- for this text's walks alone
set_option linter.unusedVariables false
set_option linter.unusedSimpArgs false

/-! ### nat_Add: function 30 -/
def nat_Add.l0 : Nat → List Int → List Int → List Int → Int → Int → Int → Option (List Int)
  | 0, _, _, _, _, _, _ => none
  | k + 1, x0, x1, x5, x6, x16, x17 => if x17 < x16 then ((nat_at.f x0 x17).bind fun t345 => ((nat_at.f x1 x17).bind fun t346 => (if 0 ≤ x17 then (if x17 < (x5.length : Int) then (nat_Add.l0 k x0 x1 (x5.set (x17 : Int).toNat ((IntKind.u64.wrap (x6 + (IntKind.u64.wrap (t345 + t346)))) % 4294967296)) ((IntKind.u64.wrap (x6 + (IntKind.u64.wrap (t345 + t346)))) / 4294967296) x16 (wrap64 (x17 + 1))) else (none)) else (none)))) else ((nat_trim.f k x5).bind fun t348 => (some t348))
def nat_Add.f (k : Nat) (l0 : List Int) (l1 : List Int) : Option (List Int) := if 0 ≤ (wrap64 ((mx (l0.length : Int) (l1.length : Int)) + 1)) then (if (wrap64 ((mx (l0.length : Int) (l1.length : Int)) + 1) : Int).toNat ≤ 70368744177664 then ((some (List.replicate (wrap64 ((mx (l0.length : Int) (l1.length : Int)) + 1) : Int).toNat 0 : List Int)).bind fun y342 => (nat_Add.l0 k l0 l1 y342 0 (y342.length : Int) 0)) else (none)) else (none)
theorem nat_Add.mono_l : ∀ k, (∀ y0 y1 y2 y3 y4 y5, LeO (nat_Add.l0 k y0 y1 y2 y3 y4 y5) (nat_Add.l0 (k + 1) y0 y1 y2 y3 y4 y5))
  | 0 => fun _ _ _ _ _ _ r h => by simp [nat_Add.l0] at h
  | k + 1 => by
    have ih0 := nat_Add.mono_l k
    · intro y0 y1 y2 y3 y4 y5
      unfold nat_Add.l0
      repeat' first
      | (with_reducible exact ih0 _ _ _ _ _ _)
      | (with_reducible exact nat_trim.mono _ _)
      | (with_reducible exact LeO.refl _)
      | (with_reducible exact LeO.none _)
      | (with_reducible refine LeO.ite ?_ ?_)
      | (with_reducible refine LeO.bind ?_ (fun _ => ?_))
      | exact ih0 _ _ _ _ _ _
      | exact nat_trim.mono _ _
      | exact LeO.none _
      | refine LeO.ite ?_ ?_
      | refine LeO.bind ?_ (fun _ => ?_)
theorem nat_Add.mono : ∀ a0 a1 k, LeO (nat_Add.f k a0 a1) (nat_Add.f (k + 1) a0 a1) := by
  intro a0 a1 k
  have ih0 := nat_Add.mono_l k
  unfold nat_Add.f
  repeat' first
      | (with_reducible exact ih0 _ _ _ _ _ _)
      | (with_reducible exact nat_trim.mono _ _)
      | (with_reducible exact LeO.refl _)
      | (with_reducible exact LeO.none _)
      | (with_reducible refine LeO.ite ?_ ?_)
      | (with_reducible refine LeO.bind ?_ (fun _ => ?_))
      | exact ih0 _ _ _ _ _ _
      | exact nat_trim.mono _ _
      | exact LeO.none _
      | refine LeO.ite ?_ ?_
      | refine LeO.bind ?_ (fun _ => ?_)
set_option maxHeartbeats 8000000 in
set_option maxRecDepth 100000 in
theorem nat_Add.calls (k : Nat) (A0 : Option Addr) (c0 : Nat) (l0 : List Int) (A1 : Option Addr) (c1 : Nat) (l1 : List Int) (r : List Int) (w : World) (hr0 : Kd.C (Kd.int .u32) w A0 l0.length l0) (hc0 : l0.length ≤ c0) (hr1 : Kd.C (Kd.int .u32) w A1 l1.length l1) (hc1 : l1.length ≤ c1) (h : nat_Add.f k l0 l1 = some r) :
    Calls Try.prog 30 #[.slice A0 l0.length c0, .slice A1 l1.length c1] w fun e w' => ∃ v0_ : Value, e = .returned (v0_) ∧ Kd.R (Kd.int .u32) 33 w' w.heap.size (fun _ => True) v0_ r ∧ Below w.heap.size w w' := by
  have HR0 := Aside0.mk hr0
  have HC0 := Aside0.mk hc0
  clear hr0 hc0
  have HR1 := Aside0.mk hr1
  have HC1 := Aside0.mk hc1
  clear hr1 hc1
  have HB := Aside0.mk (Below.refl w.heap.size w)
  have H : (if 0 ≤ (wrap64 ((mx (l0.length : Int) (l1.length : Int)) + 1)) then (if (wrap64 ((mx (l0.length : Int) (l1.length : Int)) + 1) : Int).toNat ≤ 70368744177664 then ((some (List.replicate (wrap64 ((mx (l0.length : Int) (l1.length : Int)) + 1) : Int).toNat 0 : List Int)).bind fun y342 => (nat_Add.l0 k l0 l1 y342 0 (y342.length : Int) 0)) else (none)) else (none)) = some r := h
  clear h
  obtain ⟨ji3, hji3⟩ : ∃ j_ : Int, (mx (l0.length : Int) (l1.length : Int)) = j_ := ⟨_, rfl⟩
  replace H : (if 0 ≤ (wrap64 ((ji3) + 1)) then (if (wrap64 ((ji3) + 1) : Int).toNat ≤ 70368744177664 then ((some (List.replicate (wrap64 ((ji3) + 1) : Int).toNat 0 : List Int)).bind fun y342 => (nat_Add.l0 k l0 l1 y342 0 (y342.length : Int) 0)) else (none)) else (none)) = some r := by first | (rw [hji3] at H; exact H) | (simp only [hji3] at H ⊢; exact H)
  (try (have hji3l : 0 ≤ ji3 := by (rw [← hji3]; unfold mx; (repeat' split) <;> omega)))
  (try (have hji3m : 0 ≤ ji3 := by omega))
  have hji3_ : (if (l0.length : Int) < (l1.length : Int) then (l1.length : Int) else (l0.length : Int)) = ji3 := hji3
  have hji3n : (if l0.length < l1.length then (l1.length : Int) else (l0.length : Int)) = ji3 := by rw [← hji3]; unfold mx; (repeat' split) <;> omega
  obtain ⟨ji4, hji4⟩ : ∃ j_ : Int, (wrap64 ((ji3) + 1)) = j_ := ⟨_, rfl⟩
  replace H : (if 0 ≤ (ji4) then (if (ji4 : Int).toNat ≤ 70368744177664 then ((some (List.replicate (ji4 : Int).toNat 0 : List Int)).bind fun y342 => (nat_Add.l0 k l0 l1 y342 0 (y342.length : Int) 0)) else (none)) else (none)) = some r := by first | (rw [hji4] at H; exact H) | (simp only [hji4] at H ⊢; exact H)
  have hji4w : (IntKind.i64.wrap ((ji3) + 1)) = ji4 := (i64_w _).trans hji4
  by_cases c5 : 0 ≤ (ji4)
  · rw [if_pos c5] at H
    have c5b0 := eq_true c5
    have c5b1 : decide (0 ≤ (ji4)) = true := decide_eq_true c5
    clear c5
    by_cases c6 : (ji4 : Int).toNat ≤ 70368744177664
    · rw [if_pos c6] at H
      have c6b0 := eq_true c6
      have c6b1 : decide ((ji4 : Int).toNat ≤ 70368744177664) = true := decide_eq_true c6
      clear c6
      obtain ⟨y342, hy342⟩ : ∃ y_ : List Int, y_ = (List.replicate (ji4 : Int).toNat 0) := ⟨_, rfl⟩
      replace H : (nat_Add.l0 k l0 l1 y342 0 (y342.length : Int) 0) = some r := by first | (rw [hy342]; with_reducible exact H) | (have H2_ := (Option.bind_some _ _).symm.trans H; rw [hy342]; with_reducible exact H2_) | (have H2_ := (Option.bind_some _ _).symm.trans H; with_reducible exact H2_) | with_reducible exact H | (rw [hy342]; exact H) | exact H
      have Ny342 := Aside0.mk hy342
      clear hy342
      have H' := Aside0.mk H
      clear H
      go_enter Try.func30, Try.ntmps30
      go_wp2_with (first | ((with_reducible refine gate_dst (N := 14) rfl ?_); refine Kd.R_make (Kd.int .u32) _ 33 rfl (N := 14) rfl 23 _ _ rfl ji4 rfl rfl Try.underlying23 (.int .u32 0) 4 info33 rfl (by decide) (by omega) 0 (ok := fun _ => True) (okp := fun _ => True) rfl (fun _ hk => hk) trivial (of_decide_eq_true (by first | (with_reducible assumption) | assumption)) (Nat.le_trans (Nat.mul_le_mul_right _ (of_decide_eq_true (by first | (with_reducible assumption) | assumption) : ji4.toNat ≤ 70368744177664)) (by omega)) (Below.refl _ _) (Nat.le_refl _) ?_; intro v343 w7 ho8 hb hg_ hnew_; clear hg_ hnew_; (first | rw [← Ny342.out] at ho8 | (simp only [Int.reduceToNat] at ho8; rw [← Ny342.out] at ho8)); have n0_ := Aside0.mk (Kd.R_lower ho8 (below_size (by repeat (first | (with_reducible first | exact HB.out | apply below_alloc | apply pw_below_drewN | apply below_drew1) | exact HB.out)))); have n1_ := Aside0.mk (below_step (by repeat (first | (with_reducible first | exact HB.out | apply below_alloc | apply pw_below_drewN | apply below_drew1) | exact HB.out)) hb); clear HB; have HO344 := n0_; have HB := n1_; clear n0_ n1_; clear hb ho8; obtain ⟨Ao9, co9, eo9⟩ := Kd.R_slice HO344.out; subst eo9))
      go_loopg [6, 17] k (fun kq v6 v17 w' => ∃ (x5_1 : List Int) (x6_1 : Int) (x17_1 : Int), v6 = .int .u64 x6_1 ∧ v17 = .int .i64 x17_1 ∧ Aside0 (nat_Add.l0 kq l0 l1 x5_1 x6_1 (y342.length : Int) x17_1 = some r) ∧ Aside0 (kq ≤ k) ∧ Aside0 (Kd.R (Kd.int .u32) 33 w' w.heap.size (fun _ => True) (.slice Ao9 y342.length co9) x5_1) ∧ Aside0 (Below w.heap.size w w'))
      case atStart => exact ⟨(y342), (0), (0), (by first | rfl | (simp; done) | (simp [*]; done)), (by first | rfl | (simp; done) | (simp [*]; done)), H', ⟨Nat.le_refl _⟩, ⟨by (with_reducible repeat (first | apply Kd.R_alloc | apply Kd.R_drewN | apply Kd.R_drew)); exact HO344.out⟩, ⟨by repeat (first | (with_reducible first | exact HB.out | apply below_alloc | apply pw_below_drewN | apply below_drew1) | exact HB.out)⟩⟩
      case round =>
        clear H'
        try clear c1
        try clear p2
        try clear c3
        try clear c5
        try clear c5b0
        try clear c5b1
        try clear c6
        try clear c6b0
        try clear c6b1
        try clear p6
        obtain ⟨x5_1, x6_1, x17_1, rfl, rfl, HA, HK1, HO_5, HB⟩ := hrel
        have hl5_1 := (Kd.R_reads' HO_5.out).1
        rw [hl5_1] at HO_5
        (try simp only [hl5_1])
        cases gk with
        | zero => exact absurd HA.out (by simp [nat_Add.l0])
        | succ k1 =>
          have H := HA.out
          clear HA
          simp only [nat_Add.l0] at H
          by_cases c10 : x17_1 < (y342.length : Int)
          · rw [if_pos c10] at H
            have c10b0 : decide (x17_1 < (y342.length : Int)) = true := decide_eq_true c10
            (try (have c10z0 : decide (x17_1 < (x5_1.length : Int)) = true := by rw [← hl5_1]; exact c10b0))
            clear c10
            replace H := Option.bind_eq_some_iff.mp H
            obtain ⟨t345, A110, H⟩ := H
            replace H : ((nat_at.f l1 x17_1).bind fun t346 => (if 0 ≤ x17_1 then (if x17_1 < (x5_1.length : Int) then (nat_Add.l0 k1 l0 l1 (x5_1.set (x17_1 : Int).toNat ((IntKind.u64.wrap (x6_1 + (IntKind.u64.wrap (t345 + t346)))) % 4294967296)) ((IntKind.u64.wrap (x6_1 + (IntKind.u64.wrap (t345 + t346)))) / 4294967296) (y342.length : Int) (wrap64 (x17_1 + 1))) else (none)) else (none))) = some r := H
            have A11 := Aside0.mk A110
            clear A110
            replace H := Option.bind_eq_some_iff.mp H
            obtain ⟨t346, A120, H⟩ := H
            replace H : (if 0 ≤ x17_1 then (if x17_1 < (x5_1.length : Int) then (nat_Add.l0 k1 l0 l1 (x5_1.set (x17_1 : Int).toNat ((IntKind.u64.wrap (x6_1 + (IntKind.u64.wrap (t345 + t346)))) % 4294967296)) ((IntKind.u64.wrap (x6_1 + (IntKind.u64.wrap (t345 + t346)))) / 4294967296) (y342.length : Int) (wrap64 (x17_1 + 1))) else (none)) else (none)) = some r := H
            have A12 := Aside0.mk A120
            clear A120
            by_cases c13 : 0 ≤ x17_1
            · rw [if_pos c13] at H
              have c13b0 : decide (0 ≤ x17_1) = true := decide_eq_true c13
              clear c13
              by_cases c14 : x17_1 < (x5_1.length : Int)
              · rw [if_pos c14] at H
                have c14b0 : decide (x17_1 < (x5_1.length : Int)) = true := decide_eq_true c14
                clear c14
                obtain ⟨y347, hy347⟩ : ∃ y_ : List Int, y_ = (x5_1.set (x17_1 : Int).toNat ((IntKind.u64.wrap (x6_1 + (IntKind.u64.wrap (t345 + t346)))) % 4294967296)) := ⟨_, rfl⟩
                replace H : (nat_Add.l0 k1 l0 l1 y347 ((IntKind.u64.wrap (x6_1 + (IntKind.u64.wrap (t345 + t346)))) / 4294967296) (y342.length : Int) (wrap64 (x17_1 + 1))) = some r := by first | (rw [hy347]; with_reducible exact H) | (have H2_ := (Option.bind_some _ _).symm.trans H; rw [hy347]; with_reducible exact H2_) | (have H2_ := (Option.bind_some _ _).symm.trans H; with_reducible exact H2_) | with_reducible exact H | (rw [hy347]; exact H) | exact H
                have Ny347 := Aside0.mk hy347
                clear hy347
                have H' := Aside0.mk H
                clear H
                go_wp2_with (first | ((with_reducible refine gate_callee (f := 43) rfl ?_); refine goesL_ (some 23) rfl rfl Try.func43 (by kernel_rfl) rfl #[.slice A0 l0.length c0, .int .i64 x17_1] rfl (by (try simp only [List.map_toArray, List.map_cons, List.map_nil]); first | done | rfl | (simp only [List.length_drop, List.length_take]; rfl)) ?_; (with_reducible refine (nat_at.calls _ _ l0 x17_1 t345 _ ?side1 ?side2 A11.out).mono ?_); (case side1 => repeat (first | exact (Kd.C_below HR0.out HB.out) | (with_reducible refine Kd.C_alloc ?_ _) | (with_reducible refine Kd.C_drewN ?_ _) | (with_reducible refine Kd.C_drew ?_))); (case side2 => exact HC0.out); rintro e w' ⟨rfl, ⟨nd, rfl⟩⟩; refine ⟨_, rfl, ?_⟩; (try (rw [drewN_self wr]; generalize hq_ : World.drewN wr _ = wr; have n0_ : Aside0 (Kd.R (Kd.int .u32) 33 wr w.heap.size (fun _ => True) (.slice Ao9 x5_1.length co9) x5_1) := ⟨by rw [← hq_]; exact (by (with_reducible repeat (first | apply Kd.R_alloc | apply Kd.R_drewN | apply Kd.R_drew)); exact HO_5.out)⟩; have n1_ : Aside0 (Below w.heap.size w wr) := ⟨by rw [← hq_]; exact (by repeat (first | (with_reducible first | exact HB.out | apply below_alloc | apply pw_below_drewN | apply below_drew1) | exact HB.out))⟩; clear HO_5 HB hq_; have HO_5 := n0_; have HB := n1_; clear n0_ n1_))) | ((with_reducible refine gate_callee (f := 43) rfl ?_); refine goesL_ (some 26) rfl rfl Try.func43 (by kernel_rfl) rfl #[.slice A1 l1.length c1, .int .i64 x17_1] rfl (by (try simp only [List.map_toArray, List.map_cons, List.map_nil]); first | done | rfl | (simp only [List.length_drop, List.length_take]; rfl)) ?_; (with_reducible refine (nat_at.calls _ _ l1 x17_1 t346 _ ?side1 ?side2 A12.out).mono ?_); (case side1 => repeat (first | exact (Kd.C_below HR1.out HB.out) | (with_reducible refine Kd.C_alloc ?_ _) | (with_reducible refine Kd.C_drewN ?_ _) | (with_reducible refine Kd.C_drew ?_))); (case side2 => exact HC1.out); rintro e w' ⟨rfl, ⟨nd, rfl⟩⟩; refine ⟨_, rfl, ?_⟩; (try (rw [drewN_self wr]; generalize hq_ : World.drewN wr _ = wr; have n0_ : Aside0 (Kd.R (Kd.int .u32) 33 wr w.heap.size (fun _ => True) (.slice Ao9 x5_1.length co9) x5_1) := ⟨by rw [← hq_]; exact (by (with_reducible repeat (first | apply Kd.R_alloc | apply Kd.R_drewN | apply Kd.R_drew)); exact HO_5.out)⟩; have n1_ : Aside0 (Below w.heap.size w wr) := ⟨by rw [← hq_]; exact (by repeat (first | (with_reducible first | exact HB.out | apply below_alloc | apply pw_below_drewN | apply below_drew1) | exact HB.out))⟩; clear HO_5 HB hq_; have HO_5 := n0_; have HB := n1_; clear n0_ n1_)); have p15 : 0 ≤ (x17_1 : Int) := of_decide_eq_true (by first | (with_reducible assumption) | assumption); have q15 : (x17_1 : Int) < ((x5_1.length : Int) : Int) := of_decide_eq_true (by first | (with_reducible assumption) | assumption); obtain ⟨go15, co15, eo15, gb15, gl15, cl15, HG15⟩ := Kd.R_form HO_5.out (by omega); (first | cases eo15 | (injection eo15 with ea_ en_ ec_; (first | subst ea_ | (injection ea_ with ea_; subst ea_)); subst ec_; clear en_)); have GB15 := Aside0.mk gb15; have GG15 := Aside0.mk HG15; clear gb15 gl15 HG15; obtain ⟨hx15_0, hf15_0⟩ := Kd.R_celln 0 HO_5.out (x17_1 : Int) p15 q15; replace p15 := eq_true p15; replace q15 := eq_true q15; obtain ⟨hy16_, hz16_⟩ := Kd.R_celln 0 HO_5.out (x17_1 : Int) (of_decide_eq_true (by first | (with_reducible assumption) | assumption)) (of_decide_eq_true (by first | (with_reducible assumption) | assumption)); have HP16 := Kd.R_putg HO_5.out (x17_1 : Int) ((IntKind.u64.wrap (x6_1 + (IntKind.u64.wrap (t345 + t346)))) % 4294967296)) | ((with_reducible refine gate_store (t := 33) (p := 33) rfl ?_); refine store_event (t := 33) (p := 33) (v := ?vo_w17) (w1 := (wr.setCell ⟨go15, (x17_1 : Int).toNat, none⟩ (.int .u32 ((IntKind.u64.wrap (x6_1 + (IntKind.u64.wrap (t345 + t346)))) % 4294967296)))) ?hg ?ho ?hn ?hr ?_; (case ho => rfl); (case hg => rfl); (case hn => rfl); (case hr => first | (go_simp; done) | (go_simp; rfl)); intro w17 hw; have hg : wr.grownBy w17 (some go15) := (by rw [hw]; exact HP16.2); have hp_ : Kd.R (Kd.int .u32) 33 w17 w.heap.size (fun _ => True) (.slice (some ⟨go15, 0, none⟩) x5_1.length co9) y347 := (by rw [hw, Ny347.out]; exact HP16.1); clear HP16; have n0_ := Aside0.mk (hp_); have n1_ := Aside0.mk ((by rw [hw]; exact below_set (HB.out) GB15.out : Below w.heap.size w w17)); clear HO_5; clear HB; have HO_5 := n0_; have HB := n1_; clear n0_ n1_; clear hg hw hp_))
                (try simp only [← hl5_1])
                go_roundg k1
                case measure => have := HK1.out; omega
                case rel => exact ⟨(y347), ((IntKind.u64.wrap (x6_1 + (IntKind.u64.wrap (t345 + t346)))) / 4294967296), (wrap64 (x17_1 + 1)), (by first | rfl | (simp; done) | (simp [*]; done)), (by first | rfl | (simp; done) | (simp [*]; done)), H', ⟨by have := HK1.out; omega⟩, ⟨by (try simp only [hl5_1]); (with_reducible repeat (first | apply Kd.R_alloc | apply Kd.R_drewN | apply Kd.R_drew)); exact HO_5.out⟩, ⟨by repeat (first | (with_reducible first | exact HB.out | apply below_alloc | apply pw_below_drewN | apply below_drew1) | exact HB.out)⟩⟩
              · rw [if_neg c14] at H
                exact absurd H (by simp)
            · rw [if_neg c13] at H
              exact absurd H (by simp)
          · rw [if_neg c10] at H
            have c10b0 : decide (x17_1 < (y342.length : Int)) = false := decide_eq_false c10
            (try (have c10z0 : decide (x17_1 < (x5_1.length : Int)) = false := by rw [← hl5_1]; exact c10b0))
            clear c10
            replace H := Option.bind_eq_some_iff.mp H
            obtain ⟨t348, A180, H⟩ := H
            replace H : (some t348) = some r := H
            have A18 := Aside0.mk A180
            clear A180
            obtain rfl := Option.some.inj H
            go_wp2_with (first | ((with_reducible refine gate_callee (f := 38) rfl ?_); refine goesL_ (some 38) rfl rfl Try.func38 (by kernel_rfl) rfl #[.slice Ao9 x5_1.length co9] rfl (by (try simp only [List.map_toArray, List.map_cons, List.map_nil]); first | done | rfl | (simp only [List.length_drop, List.length_take]; rfl)) ?_; (with_reducible refine (nat_trim.calls k1 _ _ x5_1 t348 _ ?side1 ?side2 A18.out).mono ?_); (case side1 => repeat (first | exact (Kd.R_reads' HO_5.out).2.2 | (with_reducible refine Kd.C_alloc ?_ _) | (with_reducible refine Kd.C_drewN ?_ _) | (with_reducible refine Kd.C_drew ?_))); (case side2 => exact (Kd.R_reads' HO_5.out).2.1); rintro e w19 ⟨v349, rfl, ho0, hb⟩; refine ⟨_, rfl, ?_⟩; have n0_ := Aside0.mk (Kd.R_elder' (by (with_reducible repeat (first | apply Kd.R_alloc | apply Kd.R_drewN | apply Kd.R_drew)); exact HO_5.out) (Kd.R_base ho0) hb); have n1_ := Aside0.mk (Kd.R_lower (Kd.R_new' ho0 (Kd.R_lt (by (with_reducible repeat (first | apply Kd.R_alloc | apply Kd.R_drewN | apply Kd.R_drew)); exact HO_5.out))) (below_size (by repeat (first | (with_reducible first | exact HB.out | apply below_alloc | apply pw_below_drewN | apply below_drew1) | exact HB.out)))); have n2_ := Aside0.mk (below_step (by repeat (first | (with_reducible first | exact HB.out | apply below_alloc | apply pw_below_drewN | apply below_drew1) | exact HB.out)) hb); clear HO_5; clear HB; have HO_5 := n0_; have HO350 := n1_; have HB := n2_; clear n0_ n1_ n2_; (try clear hb); (try clear hb2); (try clear hk); (try clear hi); (try clear ho0)))
            go_ret
            exact ⟨_, by first | rfl | (simp [errW_none, errW_some] <;> rfl) | (simp only [← hji3, ← hji4]; first | rfl | (simp [errW_none, errW_some] <;> rfl)) | (simp [*, errW_none, errW_some] <;> rfl), by (with_reducible repeat (first | apply Kd.R_alloc | apply Kd.R_drewN | apply Kd.R_drew)); exact Kd.R_mono HO350.out (fun _ hk => trivial), by repeat (first | (with_reducible first | exact HB.out | apply below_alloc | apply pw_below_drewN | apply below_drew1) | exact HB.out)⟩
    · rw [if_neg c6] at H
      exact absurd H (by simp)
  · rw [if_neg c5] at H
    exact absurd H (by simp)

theorem nat_Add.ev_l {a b : List Int} (ha : Num.Ws a) (hb : Num.Ws b) {L : Nat} (hLa : a.length < L) (hLb : b.length < L) (hL : L < 35184372088832) (d : Nat) : ∀ (i : Nat) (x : List Int) (c : Nat), i + d = L → x.length = L → Num.Ws x → c ≤ 1 →
    Num.nv (x.take i) + 2 ^ (32 * i) * c = Num.nv (a.take i) + Num.nv (b.take i) → Ev (fun k => nat_Add.l0 k a b x (c : Int) (L : Int) (i : Int)) (Num.nd (Num.nv a + Num.nv b)) := by
  induction d with
  | zero =>
    intro i x c hi hx hW hc hv
    obtain rfl : i = L := by omega
    rw [List.take_of_length_le (by omega), List.take_of_length_le (by omega), List.take_of_length_le (by omega)] at hv
    have hva := Num.nv_lt ha
    have hvb := Num.nv_lt hb
    have hP : 2 ^ (32 * a.length) * 2 ≤ 2 ^ (32 * i) := by
      rw [← Nat.pow_succ]
      exact Nat.pow_le_pow_right (by omega) (by omega)
    have hQ : 2 ^ (32 * b.length) * 2 ≤ 2 ^ (32 * i) := by
      rw [← Nat.pow_succ]
      exact Nat.pow_le_pow_right (by omega) (by omega)
    obtain rfl : c = 0 := by
      rcases Nat.eq_zero_or_pos c with h | h
      · exact h
      · obtain rfl : c = 1 := by omega
        omega
    have hv2 : Num.nv x = Num.nv a + Num.nv b := by omega
    refine Ev.step (f := fun k => (nat_trim.f k x).bind fun t => some t) (fun k => ?_) ?_
    · simp only [nat_Add.l0]
      rw [if_neg (by omega)]
    · rw [← hv2]
      exact Ev.bind (nat_trim.ev hW (by omega)) (Ev.now _)
  | succ d ih =>
    intro i x c hi hx hW hc hv
    have hga := ha.getD i
    have hgb := hb.getD i
    obtain ⟨p, hp⟩ : ∃ p : Nat, (p : Int) = a.getD i 0 := ⟨(a.getD i 0).toNat, by omega⟩
    obtain ⟨q, hq⟩ : ∃ q : Nat, (q : Int) = b.getD i 0 := ⟨(b.getD i 0).toNat, by omega⟩
    have c1 : (i : Int) < (L : Int) := by omega
    have c2 : 0 ≤ (i : Int) := by omega
    have c3 : (i : Int) < (x.length : Int) := by omega
    refine Ev.step (f := fun k => nat_Add.l0 k a b (x.set i (((c + p + q) % 4294967296 : Nat) : Int)) (((c + p + q) / 4294967296 : Nat) : Int) (L : Int) ((i + 1 : Nat) : Int)) (fun k => ?_) ?_
    · have e1 : IntKind.u64.wrap ((p : Int) + (q : Int)) = (p : Int) + (q : Int) := nat_trim.u64w (by omega) (by omega)
      have e2 : IntKind.u64.wrap ((c : Int) + ((p : Int) + (q : Int))) = ((c + p + q : Nat) : Int) := by rw [nat_trim.u64w (by omega) (by omega)]; omega
      have e3 : ((c + p + q : Nat) : Int) % 4294967296 = (((c + p + q) % 4294967296 : Nat) : Int) := by omega
      have e4 : ((c + p + q : Nat) : Int) / 4294967296 = (((c + p + q) / 4294967296 : Nat) : Int) := by omega
      have e5 : wrap64 ((i : Int) + 1) = ((i + 1 : Nat) : Int) := by rw [nat_trim.w64 (by omega) (by omega)]; omega
      simp only [nat_Add.l0]
      rw [if_pos c1, nat_at.sem ha, nat_at.sem hb]
      simp only [Option.bind_some]
      rw [if_pos c2, if_pos c3, ← hp, ← hq, e1, e2, e3, e4, e5]
      simp only [Int.toNat_natCast]
    · refine ih (i + 1) _ _ (by omega) (by rw [List.length_set]; exact hx) (hW.set i (by omega) (by omega)) (by omega) ?_
      rw [Num.nv_set_take (by omega), Num.nv_take_succ, Num.nv_take_succ, Num.pow_succ32, Int.toNat_natCast, ← hp, ← hq, Int.toNat_natCast, Int.toNat_natCast]
      have := Num.split_mul (2 ^ (32 * i)) (c + p + q)
      have h2 : 2 ^ (32 * i) * (c + p + q) = 2 ^ (32 * i) * c + 2 ^ (32 * i) * p + 2 ^ (32 * i) * q := by rw [Nat.mul_add, Nat.mul_add]
      omega
theorem nat_Add.ev {a b : List Int} (ha : Num.okw a = true) (hb : Num.okw b = true) : Ev (fun k => nat_Add.f k a b) (Num.nd (Num.nv a + Num.nv b)) := by
  obtain ⟨la, wa⟩ := (Num.okw_iff a).1 ha
  obtain ⟨lb, wb⟩ := (Num.okw_iff b).1 hb
  obtain ⟨L, hL⟩ : ∃ L : Nat, wrap64 (mx (a.length : Int) (b.length : Int) + 1) = (L : Int) ∧ a.length < L ∧ b.length < L ∧ L ≤ 1099511627776 := by
    refine ⟨max a.length b.length + 1, ?_, by omega, by omega, by omega⟩
    rw [nat_trim.w64 (by unfold mx; split <;> omega) (by unfold mx; split <;> omega)]
    unfold mx
    split <;> omega
  obtain ⟨hL, h1, h2, h3⟩ := hL
  have := nat_Add.ev_l wa wb h1 h2 (by omega) L 0 (List.replicate L 0) 0 (by omega) (by simp) (Num.Ws.replicate _) (by omega) (by simp [Num.nv])
  unfold nat_Add.f
  rw [hL]
  refine Ev.congr (fun k => ?_) this
  rw [if_pos (show (0 : Int) ≤ (L : Int) from by omega), Int.toNat_natCast, if_pos (show L ≤ 70368744177664 from by omega)]
  simp only [Option.bind_some, List.length_replicate]
  rfl

end Go.Proofs.Ytmodmjeibbgdgaa.PR
