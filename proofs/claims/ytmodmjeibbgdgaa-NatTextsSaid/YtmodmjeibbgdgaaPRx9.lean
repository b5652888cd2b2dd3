-- PRINTED by print.py (a twelfth state) out of the translation. Not trusted: Lean checks it.
import Derived.Test.YtmodmjeibbgdgaaPRg0
namespace Go.Proofs.Ytmodmjeibbgdgaa.PR
open Go.RowKit Go.Proofs.YtmodmjeibbgdgaaW.PrintWords Go.Proofs.YtmodmjeibbgdgaaW.PrintLast Go.Proofs.YtmodmjeibbgdgaaW.PrintMore
attribute [local go_sem] max2_int min2_int max_two min_two max_three min_three max_four min_four   -- for this text's walks alone
set_option linter.unusedVariables false
set_option linter.unusedSimpArgs false

/-! ### nat_Shift: function 25 -/
mutual
def nat_Shift.j0 : Nat → List Int → Int → Bool → Option (List Int)
  | 0, _, _, _ => none
  | k + 1, x0, x1, x14 => if x14 = true then ((nat_trim.f k x0).bind fun t132 => (some t132)) else (if 0 ≤ (wrap64 ((wrap64 ((x0.length : Int) + (wrap64 (Int.tdiv x1 32)))) + 1)) then (if (wrap64 ((wrap64 ((x0.length : Int) + (wrap64 (Int.tdiv x1 32)))) + 1) : Int).toNat ≤ 70368744177664 then (nat_Shift.l0 k x1 (List.replicate (wrap64 ((wrap64 ((x0.length : Int) + (wrap64 (Int.tdiv x1 32)))) + 1) : Int).toNat 0) x0 (x0.length : Int) 0) else (none)) else (none))
def nat_Shift.l0 : Nat → Int → List Int → List Int → Int → Int → Option (List Int)
  | 0, _, _, _, _, _ => none
  | k + 1, x1, x5, x24, x25, x26 => if x26 < x25 then (if 0 ≤ x26 then (if x26 < (x24.length : Int) then (if 0 ≤ (Int.tmod x1 32) then (if 0 ≤ (wrap64 (x26 + (wrap64 (Int.tdiv x1 32)))) then (if (wrap64 (x26 + (wrap64 (Int.tdiv x1 32)))) < (x5.length : Int) then ((some (x5.set ((wrap64 (x26 + (wrap64 (Int.tdiv x1 32)))) : Int).toNat (Go.bits .or .u32 (rd x5 (wrap64 (x26 + (wrap64 (Int.tdiv x1 32))))) ((shl .u64 (IntKind.u64.wrap (rd x24 x26)) (Int.tmod x1 32)) % 4294967296)) : List Int)).bind fun y140 => (if 0 ≤ (wrap64 ((wrap64 (x26 + (wrap64 (Int.tdiv x1 32)))) + 1)) then (if (wrap64 ((wrap64 (x26 + (wrap64 (Int.tdiv x1 32)))) + 1)) < (x5.length : Int) then (nat_Shift.l0 k x1 (y140.set ((wrap64 ((wrap64 (x26 + (wrap64 (Int.tdiv x1 32)))) + 1)) : Int).toNat (Go.bits .or .u32 (rd y140 (wrap64 ((wrap64 (x26 + (wrap64 (Int.tdiv x1 32)))) + 1))) (((shl .u64 (IntKind.u64.wrap (rd x24 x26)) (Int.tmod x1 32)) / 4294967296) % 4294967296))) x24 x25 (wrap64 (x26 + 1))) else (none)) else (none))) else (none)) else (none)) else (none)) else (none)) else (none)) else ((nat_trim.f k x5).bind fun t143 => (some t143))
end
def nat_Shift.f (k : Nat) (l0 : List Int) (a1 : Int) : Option (List Int) := if a1 < 0 then (nat_Shift.j0 k l0 a1 true) else (nat_Shift.j0 k l0 a1 (decide (a1 > 65536)))
theorem nat_Shift.mono_l : ∀ k, (∀ y0 y1 y2, LeO (nat_Shift.j0 k y0 y1 y2) (nat_Shift.j0 (k + 1) y0 y1 y2)) ∧ (∀ y0 y1 y2 y3 y4, LeO (nat_Shift.l0 k y0 y1 y2 y3 y4) (nat_Shift.l0 (k + 1) y0 y1 y2 y3 y4))
  | 0 => ⟨fun _ _ _ r h => by simp [nat_Shift.j0] at h, fun _ _ _ _ _ r h => by simp [nat_Shift.l0] at h⟩
  | k + 1 => by
    obtain ⟨ih0, ih1⟩ := nat_Shift.mono_l k
    refine ⟨?_, ?_⟩
    · intro y0 y1 y2
      unfold nat_Shift.j0
      repeat' first
      | (with_reducible exact ih0 _ _ _)
      | (with_reducible exact ih1 _ _ _ _ _)
      | (with_reducible exact nat_trim.mono _ _)
      | (with_reducible exact LeO.refl _)
      | (with_reducible exact LeO.none _)
      | (with_reducible refine LeO.ite ?_ ?_)
      | (with_reducible refine LeO.bind ?_ (fun _ => ?_))
      | exact ih0 _ _ _
      | exact ih1 _ _ _ _ _
      | exact nat_trim.mono _ _
      | exact LeO.none _
      | refine LeO.ite ?_ ?_
      | refine LeO.bind ?_ (fun _ => ?_)
    · intro y0 y1 y2 y3 y4
      unfold nat_Shift.l0
      repeat' first
      | (with_reducible exact ih0 _ _ _)
      | (with_reducible exact ih1 _ _ _ _ _)
      | (with_reducible exact nat_trim.mono _ _)
      | (with_reducible exact LeO.refl _)
      | (with_reducible exact LeO.none _)
      | (with_reducible refine LeO.ite ?_ ?_)
      | (with_reducible refine LeO.bind ?_ (fun _ => ?_))
      | exact ih0 _ _ _
      | exact ih1 _ _ _ _ _
      | exact nat_trim.mono _ _
      | exact LeO.none _
      | refine LeO.ite ?_ ?_
      | refine LeO.bind ?_ (fun _ => ?_)
theorem nat_Shift.mono : ∀ a0 a1 k, LeO (nat_Shift.f k a0 a1) (nat_Shift.f (k + 1) a0 a1) := by
  intro a0 a1 k
  obtain ⟨ih0, ih1⟩ := nat_Shift.mono_l k
  unfold nat_Shift.f
  repeat' first
      | (with_reducible exact ih0 _ _ _)
      | (with_reducible exact ih1 _ _ _ _ _)
      | (with_reducible exact nat_trim.mono _ _)
      | (with_reducible exact LeO.refl _)
      | (with_reducible exact LeO.none _)
      | (with_reducible refine LeO.ite ?_ ?_)
      | (with_reducible refine LeO.bind ?_ (fun _ => ?_))
      | exact ih0 _ _ _
      | exact ih1 _ _ _ _ _
      | exact nat_trim.mono _ _
      | exact LeO.none _
      | refine LeO.ite ?_ ?_
      | refine LeO.bind ?_ (fun _ => ?_)
set_option maxHeartbeats 8000000 in
set_option maxRecDepth 100000 in
theorem nat_Shift.calls (k : Nat) (A0 : Option Addr) (c0 : Nat) (l0 : List Int) (a1 : Int) (r : List Int) (w : World) (hr0 : Kd.C (Kd.int .u32) w A0 l0.length l0) (hc0 : l0.length ≤ c0) (h : nat_Shift.f k l0 a1 = some r) :
    Calls Try.prog 25 #[.slice A0 l0.length c0, .int .i64 a1] w fun e w' => ∃ v0_ : Value, e = .returned (v0_) ∧ Kd.R (Kd.int .u32) 33 w' w.heap.size (fun _ => True) v0_ r ∧ Below w.heap.size w w' := by
  have HR0 := Aside0.mk hr0
  have HC0 := Aside0.mk hc0
  clear hr0 hc0
  have HB := Aside0.mk (Below.refl w.heap.size w)
  have H : (if a1 < 0 then (nat_Shift.j0 k l0 a1 true) else (nat_Shift.j0 k l0 a1 (decide (a1 > 65536)))) = some r := h
  clear h
  have HC3 := Aside0.mk H
  clear H
  go_enter Try.func25, Try.ntmps25
  go_upto_region 1 with (fail)
  go_cut [14] (fun v14 wc => ∃ (kq : Nat) (x14_2 : Bool), v14 = .bool x14_2 ∧ Aside0 (nat_Shift.j0 kq l0 a1 x14_2 = some r) ∧ Aside0 (kq ≤ k) ∧ Aside0 (Below w.heap.size w wc))
  case first =>
    have H := HC3.out
    clear HC3
    by_cases c4 : a1 < 0
    · rw [if_pos c4] at H
      have c4b0 : decide (a1 < 0) = true := decide_eq_true c4
      clear c4
      (first | rw [c4b0] | (simp only [i64_w, i32_w]; rw [c4b0]) | skip)
      have H' := Aside0.mk H
      clear H
      go_wp2
      go_meet
      case rel => exact ⟨_, (true), (by first | rfl | (simp; done) | (simp [*]; done)), H', ⟨by first | omega | exact Nat.le_refl _⟩, ⟨by repeat (first | (with_reducible first | exact HB.out | apply below_alloc | apply pw_below_drewN | apply below_drew1) | exact HB.out)⟩⟩
    · rw [if_neg c4] at H
      have c4b0 : decide (a1 < 0) = false := decide_eq_false c4
      clear c4
      (first | rw [c4b0] | (simp only [i64_w, i32_w]; rw [c4b0]) | skip)
      have H' := Aside0.mk H
      clear H
      go_wp2
      go_meet
      case rel => exact ⟨_, (decide (a1 > 65536)), (by first | rfl | (simp; done) | (simp [*]; done)), H', ⟨by first | omega | exact Nat.le_refl _⟩, ⟨by repeat (first | (with_reducible first | exact HB.out | apply below_alloc | apply pw_below_drewN | apply below_drew1) | exact HB.out)⟩⟩
  case rest =>
    clear HC3
    try clear c2
    try clear p2
    try clear c4
    try clear c4b0
    obtain ⟨kq, x14_2, rfl, HA, HJ2, HB⟩ := hcut
    cases kq with
    | zero => exact absurd HA.out (by simp [nat_Shift.j0])
    | succ kj2 =>
      have H := HA.out
      clear HA
      simp only [nat_Shift.j0] at H
      by_cases c5 : x14_2 = true
      · subst c5
        have H1 : ((nat_trim.f kj2 l0).bind fun t132 => (some t132)) = some r := by rw [if_pos rfl] at H; exact H
        clear H
        have H := H1
        clear H1
        replace H := Option.bind_eq_some_iff.mp H
        obtain ⟨t132, A60, H⟩ := H
        replace H : (some t132) = some r := H
        have A6 := Aside0.mk A60
        clear A60
        obtain rfl := Option.some.inj H
        go_wp2_with (first | ((with_reducible refine gate_callee (f := 38) rfl ?_); refine goesL_ (some 16) rfl rfl Try.func38 (by kernel_rfl) rfl #[.slice A0 l0.length c0] rfl (by (try simp only [List.map_toArray, List.map_cons, List.map_nil]); first | done | rfl | (simp only [List.length_drop, List.length_take]; rfl)) ?_; (with_reducible refine (nat_trim.calls kj2 _ _ l0 t132 _ ?side1 ?side2 A6.out).mono ?_); (case side1 => repeat (first | exact (Kd.C_below HR0.out HB.out) | (with_reducible refine Kd.C_alloc ?_ _) | (with_reducible refine Kd.C_drewN ?_ _) | (with_reducible refine Kd.C_drew ?_))); (case side2 => exact HC0.out); rintro e w7 ⟨v133, rfl, ho0, hb⟩; refine ⟨_, rfl, ?_⟩; have n0_ := Aside0.mk (Kd.R_lower ho0 (below_size (by repeat (first | (with_reducible first | exact HB.out | apply below_alloc | apply pw_below_drewN | apply below_drew1) | exact HB.out)))); have n1_ := Aside0.mk (below_step (by repeat (first | (with_reducible first | exact HB.out | apply below_alloc | apply pw_below_drewN | apply below_drew1) | exact HB.out)) hb); clear HB; have HO134 := n0_; have HB := n1_; clear n0_ n1_; (try clear hb); (try clear hb2); (try clear hk); (try clear hi); (try clear ho0)))
        go_ret
        exact ⟨_, by first | rfl | (simp [errW_none, errW_some] <;> rfl) | (simp [*, errW_none, errW_some] <;> rfl), by (with_reducible repeat (first | apply Kd.R_alloc | apply Kd.R_drewN | apply Kd.R_drew)); exact HO134.out, by repeat (first | (with_reducible first | exact HB.out | apply below_alloc | apply pw_below_drewN | apply below_drew1) | exact HB.out)⟩
      · replace c5 := Bool.eq_false_iff.mpr c5
        subst c5
        have H1 : (if 0 ≤ (wrap64 ((wrap64 ((l0.length : Int) + (wrap64 (Int.tdiv a1 32)))) + 1)) then (if (wrap64 ((wrap64 ((l0.length : Int) + (wrap64 (Int.tdiv a1 32)))) + 1) : Int).toNat ≤ 70368744177664 then (nat_Shift.l0 kj2 a1 (List.replicate (wrap64 ((wrap64 ((l0.length : Int) + (wrap64 (Int.tdiv a1 32)))) + 1) : Int).toNat 0) l0 (l0.length : Int) 0) else (none)) else (none)) = some r := by rw [if_neg (show ¬ (false = true) by decide)] at H; exact H
        clear H
        have H := H1
        clear H1
        obtain ⟨ji8, hji8⟩ : ∃ j_ : Int, (wrap64 ((wrap64 ((l0.length : Int) + (wrap64 (Int.tdiv a1 32)))) + 1)) = j_ := ⟨_, rfl⟩
        replace H : (if 0 ≤ (ji8) then (if (ji8 : Int).toNat ≤ 70368744177664 then (nat_Shift.l0 kj2 a1 (List.replicate (ji8 : Int).toNat 0) l0 (l0.length : Int) 0) else (none)) else (none)) = some r := by first | (rw [hji8] at H; exact H) | (simp only [hji8] at H ⊢; exact H)
        have hji8w : (IntKind.i64.wrap ((wrap64 ((l0.length : Int) + (wrap64 (Int.tdiv a1 32)))) + 1)) = ji8 := (i64_w _).trans hji8
        by_cases c9 : 0 ≤ (ji8)
        · rw [if_pos c9] at H
          have c9b0 := eq_true c9
          have c9b1 : decide (0 ≤ (ji8)) = true := decide_eq_true c9
          clear c9
          by_cases c10 : (ji8 : Int).toNat ≤ 70368744177664
          · rw [if_pos c10] at H
            have c10b0 := eq_true c10
            have c10b1 : decide ((ji8 : Int).toNat ≤ 70368744177664) = true := decide_eq_true c10
            clear c10
            obtain ⟨y135, hy135⟩ : ∃ y_ : List Int, y_ = (List.replicate (ji8 : Int).toNat 0) := ⟨_, rfl⟩
            replace H : (nat_Shift.l0 kj2 a1 y135 l0 (l0.length : Int) 0) = some r := by first | (rw [hy135]; with_reducible exact H) | (have H2_ := (Option.bind_some _ _).symm.trans H; rw [hy135]; with_reducible exact H2_) | (have H2_ := (Option.bind_some _ _).symm.trans H; with_reducible exact H2_) | with_reducible exact H | (rw [hy135]; exact H) | exact H
            have Ny135 := Aside0.mk hy135
            clear hy135
            have H' := Aside0.mk H
            clear H
            go_wp2_with (first | ((with_reducible refine gate_dst (N := 23) rfl ?_); refine Kd.R_make (Kd.int .u32) _ 33 rfl (N := 23) rfl 23 _ _ rfl ji8 rfl rfl Try.underlying23 (.int .u32 0) 4 info33 rfl (by decide) (by omega) 0 (ok := fun _ => True) (okp := fun _ => True) rfl (fun _ hk => hk) trivial (of_decide_eq_true (by first | (with_reducible assumption) | assumption)) (Nat.le_trans (Nat.mul_le_mul_right _ (of_decide_eq_true (by first | (with_reducible assumption) | assumption) : ji8.toNat ≤ 70368744177664)) (by omega)) (Below.refl _ _) (Nat.le_refl _) ?_; intro v136 w11 ho12 hb hg_ hnew_; clear hg_ hnew_; (first | rw [← Ny135.out] at ho12 | (simp only [Int.reduceToNat] at ho12; rw [← Ny135.out] at ho12)); have n0_ := Aside0.mk (Kd.R_lower ho12 (below_size (by repeat (first | (with_reducible first | exact HB.out | apply below_alloc | apply pw_below_drewN | apply below_drew1) | exact HB.out)))); have n1_ := Aside0.mk (below_step (by repeat (first | (with_reducible first | exact HB.out | apply below_alloc | apply pw_below_drewN | apply below_drew1) | exact HB.out)) hb); clear HB; have HO137 := n0_; have HB := n1_; clear n0_ n1_; clear hb ho12))
            go_loopg [26] kj2 (fun kq v26 w' => ∃ (x5_2 : List Int) (x26_2 : Int), v26 = .int .i64 x26_2 ∧ Aside0 (nat_Shift.l0 kq a1 x5_2 l0 (l0.length : Int) x26_2 = some r) ∧ Aside0 (kq ≤ kj2) ∧ Aside0 (Kd.R (Kd.int .u32) 33 w' w.heap.size (fun _ => True) v136 x5_2) ∧ Aside0 (Below w.heap.size w w'))
            case atStart => exact ⟨(y135), (0), (by first | rfl | (simp; done) | (simp [*]; done)), H', ⟨Nat.le_refl _⟩, ⟨by (with_reducible repeat (first | apply Kd.R_alloc | apply Kd.R_drewN | apply Kd.R_drew)); exact HO137.out⟩, ⟨by repeat (first | (with_reducible first | exact HB.out | apply below_alloc | apply pw_below_drewN | apply below_drew1) | exact HB.out)⟩⟩
            case round =>
              clear H'
              try clear c1
              try clear c2
              try clear p2
              try clear c3
              try clear c4
              try clear c4b0
              try clear c5
              try clear p6
              try clear c9
              try clear c9b0
              try clear c9b1
              try clear c10
              try clear c10b0
              try clear c10b1
              try clear p2
              obtain ⟨x5_2, x26_2, rfl, HA, HK2, HO_5, HB⟩ := hrel
              cases gk with
              | zero => exact absurd HA.out (by simp [nat_Shift.l0])
              | succ k2 =>
                have H := HA.out
                clear HA
                simp only [nat_Shift.l0] at H
                by_cases c13 : x26_2 < (l0.length : Int)
                · rw [if_pos c13] at H
                  have c13b0 : decide (x26_2 < (l0.length : Int)) = true := decide_eq_true c13
                  clear c13
                  by_cases c14 : 0 ≤ x26_2
                  · rw [if_pos c14] at H
                    have c14b0 : decide (0 ≤ x26_2) = true := decide_eq_true c14
                    clear c14
                    by_cases c15 : x26_2 < (l0.length : Int)
                    · rw [if_pos c15] at H
                      have c15b0 : decide (x26_2 < (l0.length : Int)) = true := decide_eq_true c15
                      clear c15
                      obtain ⟨ji16, hji16⟩ : ∃ j_ : Int, (Int.tmod a1 32) = j_ := ⟨_, rfl⟩
                      replace H : (if 0 ≤ (ji16) then (if 0 ≤ (wrap64 (x26_2 + (wrap64 (Int.tdiv a1 32)))) then (if (wrap64 (x26_2 + (wrap64 (Int.tdiv a1 32)))) < (x5_2.length : Int) then ((some (x5_2.set ((wrap64 (x26_2 + (wrap64 (Int.tdiv a1 32)))) : Int).toNat (Go.bits .or .u32 (rd x5_2 (wrap64 (x26_2 + (wrap64 (Int.tdiv a1 32))))) ((shl .u64 (IntKind.u64.wrap (rd l0 x26_2)) (ji16)) % 4294967296)) : List Int)).bind fun y140 => (if 0 ≤ (wrap64 ((wrap64 (x26_2 + (wrap64 (Int.tdiv a1 32)))) + 1)) then (if (wrap64 ((wrap64 (x26_2 + (wrap64 (Int.tdiv a1 32)))) + 1)) < (x5_2.length : Int) then (nat_Shift.l0 k2 a1 (y140.set ((wrap64 ((wrap64 (x26_2 + (wrap64 (Int.tdiv a1 32)))) + 1)) : Int).toNat (Go.bits .or .u32 (rd y140 (wrap64 ((wrap64 (x26_2 + (wrap64 (Int.tdiv a1 32)))) + 1))) (((shl .u64 (IntKind.u64.wrap (rd l0 x26_2)) (ji16)) / 4294967296) % 4294967296))) l0 (l0.length : Int) (wrap64 (x26_2 + 1))) else (none)) else (none))) else (none)) else (none)) else (none)) = some r := by first | (rw [hji16] at H; exact H) | (simp only [hji16] at H ⊢; exact H)
                      by_cases c17 : 0 ≤ (ji16)
                      · rw [if_pos c17] at H
                        have c17b0 := eq_true c17
                        have c17b1 : decide (0 ≤ (ji16)) = true := decide_eq_true c17
                        clear c17
                        obtain ⟨ji18, hji18⟩ : ∃ j_ : Int, (shl .u64 (IntKind.u64.wrap (rd l0 x26_2)) (ji16)) = j_ := ⟨_, rfl⟩
                        replace H : (if 0 ≤ (wrap64 (x26_2 + (wrap64 (Int.tdiv a1 32)))) then (if (wrap64 (x26_2 + (wrap64 (Int.tdiv a1 32)))) < (x5_2.length : Int) then ((some (x5_2.set ((wrap64 (x26_2 + (wrap64 (Int.tdiv a1 32)))) : Int).toNat (Go.bits .or .u32 (rd x5_2 (wrap64 (x26_2 + (wrap64 (Int.tdiv a1 32))))) ((ji18) % 4294967296)) : List Int)).bind fun y140 => (if 0 ≤ (wrap64 ((wrap64 (x26_2 + (wrap64 (Int.tdiv a1 32)))) + 1)) then (if (wrap64 ((wrap64 (x26_2 + (wrap64 (Int.tdiv a1 32)))) + 1)) < (x5_2.length : Int) then (nat_Shift.l0 k2 a1 (y140.set ((wrap64 ((wrap64 (x26_2 + (wrap64 (Int.tdiv a1 32)))) + 1)) : Int).toNat (Go.bits .or .u32 (rd y140 (wrap64 ((wrap64 (x26_2 + (wrap64 (Int.tdiv a1 32)))) + 1))) (((ji18) / 4294967296) % 4294967296))) l0 (l0.length : Int) (wrap64 (x26_2 + 1))) else (none)) else (none))) else (none)) else (none)) = some r := by first | (rw [hji18] at H; exact H) | (simp only [hji18] at H ⊢; exact H)
                        have hji18_ : (IntKind.u64.wrap ((IntKind.u64.wrap (rd l0 x26_2)) * 2 ^ min (ji16).toNat 64)) = ji18 := hji18
                        have hji18z : (ji16) ≤ 64 → (IntKind.u64.wrap ((IntKind.u64.wrap (rd l0 x26_2)) * 2 ^ (ji16).toNat)) = ji18 := shl_small hji18
                        obtain ⟨ji19, hji19⟩ : ∃ j_ : Int, (wrap64 (x26_2 + (wrap64 (Int.tdiv a1 32)))) = j_ := ⟨_, rfl⟩
                        replace H : (if 0 ≤ (ji19) then (if (ji19) < (x5_2.length : Int) then ((some (x5_2.set ((ji19) : Int).toNat (Go.bits .or .u32 (rd x5_2 (ji19)) ((ji18) % 4294967296)) : List Int)).bind fun y140 => (if 0 ≤ (wrap64 ((ji19) + 1)) then (if (wrap64 ((ji19) + 1)) < (x5_2.length : Int) then (nat_Shift.l0 k2 a1 (y140.set ((wrap64 ((ji19) + 1)) : Int).toNat (Go.bits .or .u32 (rd y140 (wrap64 ((ji19) + 1))) (((ji18) / 4294967296) % 4294967296))) l0 (l0.length : Int) (wrap64 (x26_2 + 1))) else (none)) else (none))) else (none)) else (none)) = some r := by first | (rw [hji19] at H; exact H) | (simp only [hji19] at H ⊢; exact H)
                        have hji19w : (IntKind.i64.wrap (x26_2 + (wrap64 (Int.tdiv a1 32)))) = ji19 := (i64_w _).trans hji19
                        by_cases c20 : 0 ≤ (ji19)
                        · rw [if_pos c20] at H
                          have c20b0 : decide (0 ≤ (ji19)) = true := decide_eq_true c20
                          clear c20
                          by_cases c21 : (ji19) < (x5_2.length : Int)
                          · rw [if_pos c21] at H
                            have c21b0 : decide ((ji19) < (x5_2.length : Int)) = true := decide_eq_true c21
                            clear c21
                            obtain ⟨y140, hy140⟩ : ∃ y_ : List Int, y_ = (x5_2.set ((ji19) : Int).toNat (Go.bits .or .u32 (rd x5_2 (ji19)) ((ji18) % 4294967296))) := ⟨_, rfl⟩
                            replace H : (if 0 ≤ (wrap64 ((ji19) + 1)) then (if (wrap64 ((ji19) + 1)) < (x5_2.length : Int) then (nat_Shift.l0 k2 a1 (y140.set ((wrap64 ((ji19) + 1)) : Int).toNat (Go.bits .or .u32 (rd y140 (wrap64 ((ji19) + 1))) (((ji18) / 4294967296) % 4294967296))) l0 (l0.length : Int) (wrap64 (x26_2 + 1))) else (none)) else (none)) = some r := by first | (rw [hy140]; with_reducible exact H) | (have H2_ := (Option.bind_some _ _).symm.trans H; rw [hy140]; with_reducible exact H2_) | (have H2_ := (Option.bind_some _ _).symm.trans H; with_reducible exact H2_) | with_reducible exact H | (rw [hy140]; exact H) | exact H
                            have Ny140 := Aside0.mk hy140
                            clear hy140
                            obtain ⟨ji23, hji23⟩ : ∃ j_ : Int, (wrap64 ((ji19) + 1)) = j_ := ⟨_, rfl⟩
                            replace H : (if 0 ≤ (ji23) then (if (ji23) < (x5_2.length : Int) then (nat_Shift.l0 k2 a1 (y140.set ((ji23) : Int).toNat (Go.bits .or .u32 (rd y140 (ji23)) (((ji18) / 4294967296) % 4294967296))) l0 (l0.length : Int) (wrap64 (x26_2 + 1))) else (none)) else (none)) = some r := by first | (rw [hji23] at H; exact H) | (simp only [hji23] at H ⊢; exact H)
                            have hji23w : (IntKind.i64.wrap ((ji19) + 1)) = ji23 := (i64_w _).trans hji23
                            by_cases c24 : 0 ≤ (ji23)
                            · rw [if_pos c24] at H
                              have c24b0 : decide (0 ≤ (ji23)) = true := decide_eq_true c24
                              clear c24
                              by_cases c25 : (ji23) < (x5_2.length : Int)
                              · rw [if_pos c25] at H
                                have c25b0 : decide ((ji23) < (x5_2.length : Int)) = true := decide_eq_true c25
                                clear c25
                                obtain ⟨y142, hy142⟩ : ∃ y_ : List Int, y_ = (y140.set ((ji23) : Int).toNat (Go.bits .or .u32 (rd y140 (ji23)) (((ji18) / 4294967296) % 4294967296))) := ⟨_, rfl⟩
                                replace H : (nat_Shift.l0 k2 a1 y142 l0 (l0.length : Int) (wrap64 (x26_2 + 1))) = some r := by first | (rw [hy142]; with_reducible exact H) | (have H2_ := (Option.bind_some _ _).symm.trans H; rw [hy142]; with_reducible exact H2_) | (have H2_ := (Option.bind_some _ _).symm.trans H; with_reducible exact H2_) | with_reducible exact H | (rw [hy142]; exact H) | exact H
                                have Ny142 := Aside0.mk hy142
                                clear hy142
                                have H' := Aside0.mk H
                                clear H
                                have p138 : 0 ≤ (x26_2 : Int) := of_decide_eq_true (by first | (with_reducible assumption) | assumption)
                                have q138 : x26_2 < (l0.length : Int) := of_decide_eq_true (by first | (with_reducible assumption) | assumption)
                                obtain ⟨ad138, e138, hx138_0⟩ := Kd.at_int HR0.out x26_2 p138 q138
                                cases e138
                                replace hx138_0 := (HB.out.cell (World.block_lt_of_cell? w _ hx138_0)).trans hx138_0
                                replace p138 := eq_true p138
                                replace q138 := eq_true q138
                                obtain ⟨Ao27, co27, eo27⟩ := Kd.R_slice HO_5.out
                                subst eo27
                                have p139 : 0 ≤ ((ji19) : Int) := of_decide_eq_true (by first | (with_reducible assumption) | assumption)
                                have q139 : (ji19) < (x5_2.length : Int) := of_decide_eq_true (by first | (with_reducible assumption) | assumption)
                                obtain ⟨ad139, e139, hx139_0⟩ := Kd.at_int (Kd.R_reads' HO_5.out).2.2 (ji19) p139 q139
                                cases e139
                                replace p139 := eq_true p139
                                replace q139 := eq_true q139
                                have p22 : 0 ≤ ((ji19) : Int) := of_decide_eq_true (by first | (with_reducible assumption) | assumption)
                                have q22 : ((ji19) : Int) < ((x5_2.length : Int) : Int) := of_decide_eq_true (by first | (with_reducible assumption) | assumption)
                                obtain ⟨go22, co22, eo22, gb22, gl22, cl22, HG22⟩ := Kd.R_form HO_5.out (by omega)
                                (first | cases eo22 | (injection eo22 with ea_ en_ ec_; (first | subst ea_ | (injection ea_ with ea_; subst ea_)); subst ec_; clear en_))
                                have GB22 := Aside0.mk gb22
                                have GG22 := Aside0.mk HG22
                                clear gb22 gl22 HG22
                                (first | simp only [add_plain] at hx139_0 | skip)
                                obtain ⟨hx22_0, hf22_0⟩ := Kd.R_celln 0 HO_5.out ((ji19) : Int) p22 q22
                                replace p22 := eq_true p22
                                replace q22 := eq_true q22
                                have HP28 := Kd.R_putg HO_5.out ((ji19) : Int) (Go.bits .or .u32 (rd x5_2 (ji19)) ((ji18) % 4294967296))
                                go_wp2_with (first | ((with_reducible refine gate_store (t := 33) (p := 46) rfl ?_); refine store_event (t := 33) (p := 46) (v := ?vo_w29) (w1 := (wr.setCell ⟨go22, ((ji19) : Int).toNat, none⟩ (.int .u32 (Go.bits .or .u32 (rd x5_2 (ji19)) ((ji18) % 4294967296))))) ?hg ?ho ?hn ?hr ?_; (case ho => rfl); (case hg => rfl); (case hn => rfl); (case hr => first | (go_simp; done) | (go_simp; rfl)); intro w29 hw; have hg : wr.grownBy w29 (some go22) := (by rw [hw]; exact HP28.2); have hp_ : Kd.R (Kd.int .u32) 33 w29 w.heap.size (fun _ => True) (.slice (some ⟨go22, 0, none⟩) x5_2.length co27) y140 := (by rw [hw, Ny140.out]; exact HP28.1); clear HP28; have n0_ := Aside0.mk (hp_); have n1_ := Aside0.mk ((by rw [hw]; exact below_set (HB.out) GB22.out : Below w.heap.size w w29)); clear HO_5; clear HB; have HO_5 := n0_; have HB := n1_; clear n0_ n1_; clear hg hw hp_; have p141 : 0 ≤ ((ji23) : Int) := of_decide_eq_true (by first | (with_reducible assumption) | assumption); have q141 : (ji23) < (y140.length : Int) := (by have h_ : ((ji23) : Int) < ((x5_2.length : Int) : Int) := of_decide_eq_true (by first | (with_reducible assumption) | assumption); first | (have e_ := (Kd.R_reads' HO_5.out).1; omega) | simpa only [Ny140.out, List.length_set] using h_); have ql141 : (((ji23) : Int) < ((x5_2.length : Int) : Int)) = True := eq_true (of_decide_eq_true (by first | (with_reducible assumption) | assumption)); obtain ⟨ad141, e141, hx141_0⟩ := Kd.at_int (Kd.R_reads' HO_5.out).2.2 (ji23) p141 q141; obtain rfl : (⟨go22, 0, none⟩ : Addr) = ad141 := (by injection e141); (first | simp only [add_plain] at hx141_0 | simp only [add_at] at hx141_0 | simp only [Addr.add, Nat.zero_add] at hx141_0 | skip); replace p141 := eq_true p141; replace q141 := eq_true q141; have p26 : 0 ≤ ((ji23) : Int) := of_decide_eq_true (by first | (with_reducible assumption) | assumption); have q26 : ((ji23) : Int) < ((x5_2.length : Int) : Int) := of_decide_eq_true (by first | (with_reducible assumption) | assumption); obtain ⟨hx26_0, hf26_0⟩ := Kd.R_celln 0 HO_5.out ((ji23) : Int) p26 q26; replace p26 := eq_true p26; replace q26 := eq_true q26; obtain ⟨hy30_, hz30_⟩ := Kd.R_celln 0 HO_5.out ((ji23) : Int) (of_decide_eq_true (by first | (with_reducible assumption) | assumption)) (of_decide_eq_true (by first | (with_reducible assumption) | assumption)); have HP30 := Kd.R_putg HO_5.out ((ji23) : Int) (Go.bits .or .u32 (rd y140 (ji23)) (((ji18) / 4294967296) % 4294967296))) | ((with_reducible refine gate_store (t := 33) (p := 59) rfl ?_); refine store_event (t := 33) (p := 59) (v := ?vo_w31) (w1 := (w29.setCell ⟨go22, ((ji23) : Int).toNat, none⟩ (.int .u32 (Go.bits .or .u32 (rd y140 (ji23)) (((ji18) / 4294967296) % 4294967296))))) ?hg ?ho ?hn ?hr ?_; (case ho => rfl); (case hg => rfl); (case hn => rfl); (case hr => first | (go_simp; done) | (go_simp; rfl)); intro w31 hw; have hg : w29.grownBy w31 (some go22) := (by rw [hw]; exact HP30.2); have hp_ : Kd.R (Kd.int .u32) 33 w31 w.heap.size (fun _ => True) (.slice (some ⟨go22, 0, none⟩) x5_2.length co27) y142 := (by rw [hw, Ny142.out]; exact HP30.1); clear HP30; have n0_ := Aside0.mk (hp_); have n1_ := Aside0.mk ((by rw [hw]; exact below_set (HB.out) GB22.out : Below w.heap.size w w31)); clear HO_5; clear HB; have HO_5 := n0_; have HB := n1_; clear n0_ n1_; clear hg hw hp_))
                                go_roundg k2
                                case measure => have := HJ2.out; have := HK2.out; omega
                                case rel => exact ⟨(y142), (wrap64 (x26_2 + 1)), (by first | rfl | (simp; done) | (simp [*]; done)), H', ⟨by have := HJ2.out; have := HK2.out; omega⟩, ⟨by (with_reducible repeat (first | apply Kd.R_alloc | apply Kd.R_drewN | apply Kd.R_drew)); exact HO_5.out⟩, ⟨by repeat (first | (with_reducible first | exact HB.out | apply below_alloc | apply pw_below_drewN | apply below_drew1) | exact HB.out)⟩⟩
                              · rw [if_neg c25] at H
                                exact absurd H (by simp)
                            · rw [if_neg c24] at H
                              exact absurd H (by simp)
                          · rw [if_neg c21] at H
                            exact absurd H (by simp)
                        · rw [if_neg c20] at H
                          exact absurd H (by simp)
                      · rw [if_neg c17] at H
                        exact absurd H (by simp)
                    · rw [if_neg c15] at H
                      exact absurd H (by simp)
                  · rw [if_neg c14] at H
                    exact absurd H (by simp)
                · rw [if_neg c13] at H
                  have c13b0 : decide (x26_2 < (l0.length : Int)) = false := decide_eq_false c13
                  clear c13
                  replace H := Option.bind_eq_some_iff.mp H
                  obtain ⟨t143, A320, H⟩ := H
                  replace H : (some t143) = some r := H
                  have A32 := Aside0.mk A320
                  clear A320
                  obtain rfl := Option.some.inj H
                  obtain ⟨Ao33, co33, eo33⟩ := Kd.R_slice HO_5.out
                  subst eo33
                  go_wp2_with (first | ((with_reducible refine gate_callee (f := 38) rfl ?_); refine goesL_ (some 62) rfl rfl Try.func38 (by kernel_rfl) rfl #[.slice Ao33 x5_2.length co33] rfl (by (try simp only [List.map_toArray, List.map_cons, List.map_nil]); first | done | rfl | (simp only [List.length_drop, List.length_take]; rfl)) ?_; (with_reducible refine (nat_trim.calls k2 _ _ x5_2 t143 _ ?side1 ?side2 A32.out).mono ?_); (case side1 => repeat (first | exact (Kd.R_reads' HO_5.out).2.2 | (with_reducible refine Kd.C_alloc ?_ _) | (with_reducible refine Kd.C_drewN ?_ _) | (with_reducible refine Kd.C_drew ?_))); (case side2 => exact (Kd.R_reads' HO_5.out).2.1); rintro e w34 ⟨v144, rfl, ho0, hb⟩; refine ⟨_, rfl, ?_⟩; have n0_ := Aside0.mk (Kd.R_elder' (by (with_reducible repeat (first | apply Kd.R_alloc | apply Kd.R_drewN | apply Kd.R_drew)); exact HO_5.out) (Kd.R_base ho0) hb); have n1_ := Aside0.mk (Kd.R_lower (Kd.R_new' ho0 (Kd.R_lt (by (with_reducible repeat (first | apply Kd.R_alloc | apply Kd.R_drewN | apply Kd.R_drew)); exact HO_5.out))) (below_size (by repeat (first | (with_reducible first | exact HB.out | apply below_alloc | apply pw_below_drewN | apply below_drew1) | exact HB.out)))); have n2_ := Aside0.mk (below_step (by repeat (first | (with_reducible first | exact HB.out | apply below_alloc | apply pw_below_drewN | apply below_drew1) | exact HB.out)) hb); clear HO_5; clear HB; have HO_5 := n0_; have HO145 := n1_; have HB := n2_; clear n0_ n1_ n2_; (try clear hb); (try clear hb2); (try clear hk); (try clear hi); (try clear ho0)))
                  go_ret
                  exact ⟨_, by first | rfl | (simp [errW_none, errW_some] <;> rfl) | (simp only [← hji8]; first | rfl | (simp [errW_none, errW_some] <;> rfl)) | (simp [*, errW_none, errW_some] <;> rfl), by (with_reducible repeat (first | apply Kd.R_alloc | apply Kd.R_drewN | apply Kd.R_drew)); exact Kd.R_mono HO145.out (fun _ hk => trivial), by repeat (first | (with_reducible first | exact HB.out | apply below_alloc | apply pw_below_drewN | apply below_drew1) | exact HB.out)⟩
          · rw [if_neg c10] at H
            exact absurd H (by simp)
        · rw [if_neg c9] at H
          exact absurd H (by simp)

theorem nat_Shift.or_sum {r x y : Nat} (hr : r ≤ 32) (hx : x < 2 ^ r) (hy : y % 2 ^ r = 0) (hy1 : y < 4294967296) : Go.bits .or .u32 (x : Int) (y : Int) = ((x + y : Nat) : Int) := by
  have hc : Go.bits .or .u32 (x : Int) (y : Int) = Go.bits .or .u32 (y : Int) (x : Int) := by simp only [bits, BitVec.or_comm]
  have hp : 2 ^ r ≤ 2 ^ 32 := Nat.pow_le_pow_right (by omega) hr
  have wu : ∀ n : Int, 0 ≤ n → n < 2 ^ 32 → IntKind.u32.wrap n = n := by
    intro n h0 h1
    have : IntKind.u32.wrap n = n % 4294967296 := by simp [IntKind.wrap, IntKind.bits, IntKind.signed]
    rw [this]
    have h2 : n < 4294967296 := h1
    omega
  have hx32 : x < 2 ^ 32 := by omega
  rw [hc, bits_join .u32 32 (by decide) wu r (y : Int) (x : Int) (by omega) (by exact_mod_cast hy) (by exact_mod_cast hy1) (by omega) (by exact_mod_cast hx) (by exact_mod_cast hx32)]
  omega
theorem nat_Shift.ev_l {a : List Int} (ha : Num.Ws a) (hla : a.length < 1099511627776) {n : Nat} (hn : n ≤ 65536) (d : Nat) : ∀ (i : Nat) (x : List Int), i + d = a.length → x.length = a.length + n / 32 + 1 → Num.Ws x →
    Num.nv x = 2 ^ n * Num.nv (a.take i) → Ev (fun k => nat_Shift.l0 k (n : Int) x a (a.length : Int) (i : Int)) (Num.nd (2 ^ n * Num.nv a)) := by
  induction d with
  | zero =>
    intro i x hi hx hW hv
    obtain rfl : i = a.length := by omega
    rw [List.take_of_length_le (Nat.le_refl _)] at hv
    refine Ev.step (f := fun k => (nat_trim.f k x).bind fun t => some t) (fun k => ?_) ?_
    · simp only [nat_Shift.l0]
      rw [if_neg (by omega)]
    · rw [← hv]
      exact Ev.bind (nat_trim.ev hW (by omega)) (Ev.now _)
  | succ d ih =>
    intro i x hi hx hW hv
    have hga := ha.getD i
    obtain ⟨p, hp⟩ : ∃ p : Nat, (p : Int) = a.getD i 0 := ⟨(a.getD i 0).toNat, by omega⟩
    obtain ⟨q, hq⟩ : ∃ q, q = n / 32 := ⟨_, rfl⟩
    obtain ⟨r, hr⟩ : ∃ r, r = n % 32 := ⟨_, rfl⟩
    have hnq : n = 32 * q + r := by omega
    have hr31 : r ≤ 31 := by omega
    have hxq : i + q + 1 < x.length := by omega
    -- the words at i + q and behind it
    have hR : 2 ^ r ≤ 4294967296 := Nat.le_trans (Nat.pow_le_pow_right (n := 2) (by omega) hr31) (by decide)
    have htk := Num.nv_take_lt ha i (by omega)
    have hxlt : Num.nv x < 2 ^ (32 * (i + q)) * 2 ^ r := by
      rw [hv, ← Nat.pow_add, show 32 * (i + q) + r = n + 32 * i from by omega, Nat.pow_add]
      exact Nat.mul_lt_mul_of_pos_left htk (Nat.two_pow_pos _)
    obtain ⟨ht1, ht2⟩ := Num.nv_top hR (by omega) hxlt
    have hx1 : x.getD (i + q + 1) 0 = 0 := by
      have := Num.nv_zero_getD (hW.drop _) ht2 0
      simpa using this
    have hgx := hW.getD (i + q)
    obtain ⟨u, hu⟩ : ∃ u : Nat, (u : Int) = x.getD (i + q) 0 := ⟨(x.getD (i + q) 0).toNat, by omega⟩
    have hu1 : u < 2 ^ r := by rw [← hu] at ht1; simpa using ht1
    have hpr : p * 2 ^ r < 4294967296 * 2 ^ r := Nat.mul_lt_mul_of_pos_right (by omega) (Nat.two_pow_pos _)
    have hhi : p * 2 ^ r / 4294967296 < 2 ^ r := Nat.div_lt_of_lt_mul hpr
    have hlo : (p * 2 ^ r) % 4294967296 % 2 ^ r = 0 := by
      rw [Nat.mod_mod_of_dvd _ (show 2 ^ r ∣ 4294967296 from Nat.pow_dvd_pow 2 (show r ≤ 32 from by omega))]
      exact Nat.mul_mod_left _ _
    have c1 : (i : Int) < (a.length : Int) := by omega
    have c2 : 0 ≤ (i : Int) := by omega
    have c4 : 0 ≤ (r : Int) := by omega
    have c5 : 0 ≤ ((i + q : Nat) : Int) := by omega
    have c6 : ((i + q : Nat) : Int) < (x.length : Int) := by omega
    have c7 : 0 ≤ ((i + q + 1 : Nat) : Int) := by omega
    have c8 : ((i + q + 1 : Nat) : Int) < (x.length : Int) := by omega
    have b1 : q < 9223372036854775808 := by omega
    have b2 : i + q < 9223372036854775808 := by omega
    have b3 : i + q + 1 < 9223372036854775808 := by omega
    have b4 : i + 1 < 9223372036854775808 := by omega
    have b6 : p < 4294967296 := by omega
    have b5 : p < 18446744073709551616 := by omega
    have b7 : p * 2 ^ r / 4294967296 < 4294967296 := by omega
    have b8 : r ≤ 32 := by omega
    have b9 : p * 2 ^ r % 4294967296 < 4294967296 := by omega
    refine Ev.step (f := fun k => nat_Shift.l0 k (n : Int) ((x.set (i + q) ((u + p * 2 ^ r % 4294967296 : Nat) : Int)).set (i + q + 1) ((p * 2 ^ r / 4294967296 : Nat) : Int)) a (a.length : Int) ((i + 1 : Nat) : Int)) (fun k => ?_) ?_
    · have t1 : Int.tdiv (n : Int) 32 = (q : Int) := by rw [hq]; rfl
      have t2 : Int.tmod (n : Int) 32 = (r : Int) := by rw [hr]; rfl
      have t3 := w64_nat q b1
      have t4 := w64_add i q b2
      have t5 := w64_succ (i + q) b3
      have t6 := w64_succ i b4
      have r1 := rd_at hp
      have r2 := rd_at hu
      have s0 := u64_nat p b5
      have s1 := shl64_nat p r b6 hr31
      have s2 := mod32_nat (p * 2 ^ r)
      have s3 : ((p * 2 ^ r : Nat) : Int) / 4294967296 % 4294967296 = ((p * 2 ^ r / 4294967296 : Nat) : Int) := by rw [div32_nat, mod32_nat, Nat.mod_eq_of_lt b7]
      have o1 := nat_Shift.or_sum (r := r) b8 hu1 hlo b9
      have r3 : rd (x.set (i + q) ((u + p * 2 ^ r % 4294967296 : Nat) : Int)) ((i + q + 1 : Nat) : Int) = ((0 : Nat) : Int) := by
        rw [rd_nat, List.getD_eq_getElem?_getD, List.getElem?_set_ne (Nat.ne_of_lt (Nat.lt_succ_self _)), ← List.getD_eq_getElem?_getD, hx1]
        rfl
      have o2 : Go.bits .or .u32 ((0 : Nat) : Int) ((p * 2 ^ r / 4294967296 : Nat) : Int) = ((p * 2 ^ r / 4294967296 : Nat) : Int) := by
        have := nat_Shift.or_sum (r := 0) (x := 0) (y := p * 2 ^ r / 4294967296) (Nat.zero_le _) (by decide) (Nat.mod_one _) b7
        rw [this, Nat.zero_add]
      simp only [nat_Shift.l0, t1, t2, t3, t4, t5, t6]
      rw [if_pos c1, if_pos c2, if_pos c1, if_pos c4, if_pos c5, if_pos c6, r1, r2, s0, s1, s2, s3, o1]
      simp only [Option.bind_some]
      rw [if_pos c7, if_pos c8]
      simp only [Int.toNat_natCast]
      rw [r3, o2]
    · have hM : u + p * 2 ^ r % 4294967296 < 4294967296 := by
        have h1 : p * 2 ^ r % 4294967296 + 2 ^ r ≤ 4294967296 := by
          obtain ⟨m, hm⟩ := Nat.dvd_of_mod_eq_zero hlo
          obtain ⟨m', hm'⟩ : 2 ^ r ∣ 4294967296 := Nat.pow_dvd_pow 2 (show r ≤ 32 from by omega)
          have hlt : p * 2 ^ r % 4294967296 < 4294967296 := Nat.mod_lt _ (by omega)
          rw [hm] at hlt ⊢
          rw [hm'] at hlt ⊢
          have := Nat.lt_of_mul_lt_mul_left hlt
          have := Nat.mul_le_mul_left (2 ^ r) (show m + 1 ≤ m' from this)
          rw [Nat.mul_add] at this
          omega
        omega
      refine ih (i + 1) _ (by omega) (by rw [List.length_set, List.length_set]; exact hx) ((hW.set _ (by omega) (by omega)).set _ (by omega) (by omega)) ?_
      have v1 := Num.nv_set (l := x) (i := i + q) (by omega) ((u + p * 2 ^ r % 4294967296 : Nat) : Int)
      have v2 := Num.nv_set (l := x.set (i + q) ((u + p * 2 ^ r % 4294967296 : Nat) : Int)) (i := i + q + 1) (by rw [List.length_set]; omega) ((p * 2 ^ r / 4294967296 : Nat) : Int)
      rw [List.getD_eq_getElem?_getD, List.getElem?_set_ne (by omega), ← List.getD_eq_getElem?_getD, hx1] at v2
      rw [← hu] at v1
      rw [Int.toNat_natCast] at v1 v2
      simp only [Int.toNat_natCast, Int.toNat_zero, Nat.mul_zero, Nat.add_zero] at v1 v2
      rw [Num.nv_take_succ, ← hp, Int.toNat_natCast, Nat.mul_add]
      have hs := Num.split_mul (2 ^ (32 * (i + q))) (p * 2 ^ r)
      rw [Num.pow_succ32] at v2
      have hfin : 2 ^ n * (2 ^ (32 * i) * p) = 2 ^ (32 * (i + q)) * (p * 2 ^ r) := by
        rw [hnq, Nat.pow_add, show 32 * (i + q) = 32 * i + 32 * q from by omega, Nat.pow_add]
        simp only [Nat.mul_assoc, Nat.mul_comm, Nat.mul_left_comm]
      rw [hfin, ← hs, ← hv]
      rw [Nat.mul_add (2 ^ (32 * (i + q)))] at v1
      omega
theorem nat_Shift.ev {a : List Int} (ha : Num.okw a = true) {n : Nat} (hn : n ≤ 65536) : Ev (fun k => nat_Shift.f k a (n : Int)) (Num.nd (2 ^ n * Num.nv a)) := by
  obtain ⟨la, wa⟩ := (Num.okw_iff a).1 ha
  have h := nat_Shift.ev_l wa la hn a.length 0 (List.replicate (a.length + n / 32 + 1) 0) (by omega) (by simp) (Num.Ws.replicate _) (by simp [Num.nv, Num.nv_replicate])
  refine Ev.congr (f := fun k => nat_Shift.j0 k a (n : Int) false) (fun k => ?_) (Ev.step (fun k => ?_) h)
  · unfold nat_Shift.f
    rw [if_neg (by omega), decide_eq_false (by omega)]
  · have t1 : Int.tdiv (n : Int) 32 = ((n / 32 : Nat) : Int) := rfl
    have t3 := w64_nat (n / 32) (by omega)
    have t4 := w64_add a.length (n / 32) (by omega)
    have t5 := w64_succ (a.length + n / 32) (by omega)
    have c1 : 0 ≤ ((a.length + n / 32 + 1 : Nat) : Int) := by omega
    have c2 : a.length + n / 32 + 1 ≤ 70368744177664 := by omega
    simp only [nat_Shift.j0, t1, t3, t4, t5]
    rw [if_neg (by decide), if_pos c1, Int.toNat_natCast, if_pos c2]
    rfl
theorem nat_Shift.ev_out {a : List Int} (ha : Num.okw a = true) {n : Int} (hn : n < 0 ∨ 65536 < n) : Ev (fun k => nat_Shift.f k a n) (Num.nd (Num.nv a)) := by
  obtain ⟨la, wa⟩ := (Num.okw_iff a).1 ha
  refine Ev.congr (f := fun k => nat_Shift.j0 k a n true) (fun k => ?_) (Ev.step (f := fun k => (nat_trim.f k a).bind fun t => some t) (fun k => ?_) (Ev.bind (nat_trim.ev wa (by omega)) (Ev.now _)))
  · unfold nat_Shift.f
    by_cases h : n < 0
    · rw [if_pos h]
    · rw [if_neg h, decide_eq_true (by omega)]
  · simp only [nat_Shift.j0]
    rw [if_pos trivial]

end Go.Proofs.Ytmodmjeibbgdgaa.PR
