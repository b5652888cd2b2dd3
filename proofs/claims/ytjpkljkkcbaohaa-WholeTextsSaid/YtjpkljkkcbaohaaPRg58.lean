/- Several functions' printed texts in one file. -/
import Derived.Test.YtjpkljkkcbaohaaPRg0
import Derived.Test.YtjpkljkkcbaohaaNum
import Derived.Test.YtjpkljkkcbaohaaDec
import Derived.Test.YtjpkljkkcbaohaaPRg9
import Derived.Test.YtjpkljkkcbaohaaPRg16
import Derived.Test.YtjpkljkkcbaohaaPRg23
import Derived.Test.YtjpkljkkcbaohaaInt
section
namespace Go.Proofs.Ytjpkljkkcbaohaa.PR
open Go.RowKit Go.Proofs.YtjpkljkkcbaohaaW.PrintWords Go.Proofs.YtjpkljkkcbaohaaW.PrintLast Go.Proofs.YtjpkljkkcbaohaaW.PrintMore
attribute [local go_sem] max2_int min2_int max_two min_two max_three min_three max_four min_four   -- for this text's walks alone
set_option linter.unusedVariables false
set_option linter.unusedSimpArgs false

/-! ### nat_Parse_cl1: function 90 -/
def nat_Parse_cl1.f (a0 : Int) : Option (Bool) := if a0 ≥ 48 then (some (decide (a0 ≤ 57))) else (some false)
set_option maxHeartbeats 8000000 in
set_option maxRecDepth 100000 in
theorem nat_Parse_cl1.calls (a0 : Int) (r : Bool) (w : World) (h : nat_Parse_cl1.f a0 = some r) :
    Calls Try.prog 90 #[.int .u8 a0] w fun e w' => e = .returned (.bool r) ∧ Drawn0 w w' := by
  have H : (if a0 ≥ 48 then (some (decide (a0 ≤ 57))) else (some false)) = some r := h
  clear h
  by_cases c2 : a0 ≥ 48
  · rw [if_pos c2] at H
    have c2b0 : decide (48 ≤ a0) = true := decide_eq_true c2
    clear c2
    obtain rfl := Option.some.inj H
    go_enter Try.func90, Try.ntmps90
    go_wp2
    go_ret
    exact ⟨by first | rfl | (simp; done) | (simp [*]; done), by repeat (first | exact Drawn0.refl _ | apply Drawn0.step)⟩
  · rw [if_neg c2] at H
    have c2b0 : decide (48 ≤ a0) = false := decide_eq_false c2
    clear c2
    obtain rfl := Option.some.inj H
    go_enter Try.func90, Try.ntmps90
    go_wp2
    go_ret
    exact ⟨by first | rfl | (simp; done) | (simp [*]; done), by repeat (first | exact Drawn0.refl _ | apply Drawn0.step)⟩

end Go.Proofs.Ytjpkljkkcbaohaa.PR

end
section
namespace Go.Proofs.Ytjpkljkkcbaohaa.PR
open Go.RowKit Go.Proofs.YtjpkljkkcbaohaaW.PrintWords Go.Proofs.YtjpkljkkcbaohaaW.PrintLast Go.Proofs.YtjpkljkkcbaohaaW.PrintMore
attribute [local go_sem] max2_int min2_int max_two min_two max_three min_three max_four min_four   -- for this text's walks alone
set_option linter.unusedVariables false
set_option linter.unusedSimpArgs false

theorem u8_w (n : Int) : IntKind.u8.wrap n = n % 256 := by simp [IntKind.wrap, IntKind.bits, IntKind.signed]
theorem u64_u8 (n : Int) : IntKind.u64.wrap (n % 256) = n % 256 := by simp [IntKind.wrap, IntKind.bits, IntKind.signed]; omega

/-! ### nat_Parse: function 41 -/
def nat_Parse.l0 : Nat → ByteArray → List Int → Int → Int → Option (List Int × Int)
  | 0, _, _, _, _ => none
  | k + 1, x0, x5, x8, x9 => if x9 < x8 then (if 0 ≤ x9 then (if x9 < (x0.size : Int) then ((nat_Parse_cl1.f (bt x0 x9)).bind fun t665 => (if t665 = true then (if x9 < 400 then ((nat_Of.f k 10).bind fun t666 => ((nat_Mul.f k x5 t666).bind fun t669 => ((nat_Of.f k (((bt x0 x9) - 48) % 256)).bind fun t672 => ((nat_Add.f k t669 t672).bind fun t675 => (nat_Parse.l0 k x0 t675 x8 (wrap64 (x9 + 1))))))) else (nat_Parse.l0 k x0 x5 x8 (wrap64 (x9 + 1)))) else (some (([] : List Int), 2)))) else (none)) else (none)) else (if x0.toList = ([] : List UInt8) then (some (([] : List Int), 2)) else (if (x0.size : Int) > 400 then (some (([] : List Int), 4)) else (some (x5, 0))))
def nat_Parse.f (k : Nat) (a0 : ByteArray) : Option (List Int × Int) := nat_Parse.l0 k a0 ([] : List Int) (a0.size : Int) 0
theorem nat_Parse.mono_l : ∀ k, (∀ y0 y1 y2 y3, LeO (nat_Parse.l0 k y0 y1 y2 y3) (nat_Parse.l0 (k + 1) y0 y1 y2 y3))
  | 0 => fun _ _ _ _ r h => by simp [nat_Parse.l0] at h
  | k + 1 => by
    have ih0 := nat_Parse.mono_l k
    · intro y0 y1 y2 y3
      unfold nat_Parse.l0
      repeat' first
      | (with_reducible exact ih0 _ _ _ _)
      | (with_reducible exact nat_Add.mono _ _ _)
      | (with_reducible exact nat_Mul.mono _ _ _)
      | (with_reducible exact nat_Of.mono _ _)
      | (with_reducible exact LeO.refl _)
      | (with_reducible exact LeO.none _)
      | (with_reducible refine LeO.ite ?_ ?_)
      | (with_reducible refine LeO.bind ?_ (fun _ => ?_))
      | exact ih0 _ _ _ _
      | exact nat_Add.mono _ _ _
      | exact nat_Mul.mono _ _ _
      | exact nat_Of.mono _ _
      | exact LeO.none _
      | refine LeO.ite ?_ ?_
      | refine LeO.bind ?_ (fun _ => ?_)
theorem nat_Parse.mono : ∀ a0 k, LeO (nat_Parse.f k a0) (nat_Parse.f (k + 1) a0) := by
  intro a0 k
  have ih0 := nat_Parse.mono_l k
  unfold nat_Parse.f
  repeat' first
      | (with_reducible exact ih0 _ _ _ _)
      | (with_reducible exact nat_Add.mono _ _ _)
      | (with_reducible exact nat_Mul.mono _ _ _)
      | (with_reducible exact nat_Of.mono _ _)
      | (with_reducible exact LeO.refl _)
      | (with_reducible exact LeO.none _)
      | (with_reducible refine LeO.ite ?_ ?_)
      | (with_reducible refine LeO.bind ?_ (fun _ => ?_))
      | exact ih0 _ _ _ _
      | exact nat_Add.mono _ _ _
      | exact nat_Mul.mono _ _ _
      | exact nat_Of.mono _ _
      | exact LeO.none _
      | refine LeO.ite ?_ ?_
      | refine LeO.bind ?_ (fun _ => ?_)
def nat_Parse.T9 : Bool × List (List Nat × List Nat) := (true, [([], []), ([], []), ([0, 1, 1], [0, 1]), ([], []), ([], []), ([3, 4], [3, 4]), ([5], [5]), ([6], [6]), ([7, 2], [7]), ([2, 8, 8], [2, 8]), ([9, 9, 0, 1, 2, 3, 4, 5, 6, 7, 8, 9], [0, 9])])
def nat_Parse.B9 : List Nat := [0, 0, 3, 0, 0, 24, 56, 120, 255, 511, 1023]
theorem nat_Parse.tab9 : rtab .any (opsOf Try.f41 9) = nat_Parse.T9 := by kernel_rfl
theorem nat_Parse.bits9 : waitsOk nat_Parse.T9.2 nat_Parse.B9 = true := by kernel_rfl
set_option maxHeartbeats 8000000 in
set_option maxRecDepth 100000 in
theorem nat_Parse.calls (k : Nat) (a0 : ByteArray) (r1 : List Int) (r2 : Int) (w : World) (h : nat_Parse.f k a0 = some (r1, r2)) :
    Calls Try.prog 41 #[.string a0] w fun e w' => ∃ v0_ : Value, e = .returned (.tuple #[v0_, .int .i64 r2]) ∧ Kd.R (Kd.int .u32) 37 w' w.heap.size (fun _ => True) v0_ r1 ∧ Below w.heap.size w w' := by
  have HB := Aside0.mk (Below.refl w.heap.size w)
  have H : (nat_Parse.l0 k a0 ([] : List Int) (a0.size : Int) 0) = some (r1, r2) := h
  clear h
  have H' := Aside0.mk H
  clear H
  go_enter Try.func41, Try.ntmps41
  go_wp2
  go_loopg [5, 9] k (fun kq v5 v9 w' => ∃ (x5_1 : List Int) (x9_1 : Int), v9 = .int .i64 x9_1 ∧ Aside0 (nat_Parse.l0 kq a0 x5_1 (a0.size : Int) x9_1 = some (r1, r2)) ∧ Aside0 (kq ≤ k) ∧ Aside0 (Kd.R (Kd.int .u32) 37 w' w.heap.size (fun _ => True) v5 x5_1) ∧ Aside0 (Below w.heap.size w w'))
  case atStart => exact ⟨(([] : List Int)), (0), (by first | rfl | (simp; done) | (simp [*]; done)), H', ⟨Nat.le_refl _⟩, ⟨by first | exact Kd.R_nil _ _ _ _ _ | exact Kd.N_nil _ _ _ _ _ | exact Kd.V_nil _ _ _ _ _ | exact Kd.Q_nil _ _ _ _ _ | exact Kd.S_nil _ _ _ _ _⟩, ⟨by repeat (first | (with_reducible first | exact HB.out | apply below_alloc | apply pw_below_drewN | apply below_drew1) | exact HB.out)⟩⟩
  case round =>
    clear H'
    obtain ⟨x5_1, x9_1, rfl, HA, HK1, HO_5, HB⟩ := hrel
    cases gk with
    | zero => exact absurd HA.out (by simp [nat_Parse.l0])
    | succ k1 =>
      have H := HA.out
      clear HA
      simp only [nat_Parse.l0] at H
      by_cases c2 : x9_1 < (a0.size : Int)
      · rw [if_pos c2] at H
        have c2b0 : decide (x9_1 < (a0.size : Int)) = true := decide_eq_true c2
        clear c2
        by_cases c3 : 0 ≤ x9_1
        · rw [if_pos c3] at H
          have c3b0 : decide (0 ≤ x9_1) = true := decide_eq_true c3
          clear c3
          by_cases c4 : x9_1 < (a0.size : Int)
          · rw [if_pos c4] at H
            have c4b0 : decide (x9_1 < (a0.size : Int)) = true := decide_eq_true c4
            clear c4
            replace H := Option.bind_eq_some_iff.mp H
            obtain ⟨t665, A60, H⟩ := H
            replace H : (if t665 = true then (if x9_1 < 400 then ((nat_Of.f k1 10).bind fun t666 => ((nat_Mul.f k1 x5_1 t666).bind fun t669 => ((nat_Of.f k1 (((bt a0 x9_1) - 48) % 256)).bind fun t672 => ((nat_Add.f k1 t669 t672).bind fun t675 => (nat_Parse.l0 k1 a0 t675 (a0.size : Int) (wrap64 (x9_1 + 1))))))) else (nat_Parse.l0 k1 a0 x5_1 (a0.size : Int) (wrap64 (x9_1 + 1)))) else (some (([] : List Int), 2))) = some (r1, r2) := H
            have A6 := Aside0.mk A60
            clear A60
            by_cases c7 : t665 = true
            · subst c7
              have H1 : (if x9_1 < 400 then ((nat_Of.f k1 10).bind fun t666 => ((nat_Mul.f k1 x5_1 t666).bind fun t669 => ((nat_Of.f k1 (((bt a0 x9_1) - 48) % 256)).bind fun t672 => ((nat_Add.f k1 t669 t672).bind fun t675 => (nat_Parse.l0 k1 a0 t675 (a0.size : Int) (wrap64 (x9_1 + 1))))))) else (nat_Parse.l0 k1 a0 x5_1 (a0.size : Int) (wrap64 (x9_1 + 1)))) = some (r1, r2) := by rw [if_pos rfl] at H; exact H
              clear H
              have H := H1
              clear H1
              by_cases c8 : x9_1 < 400
              · rw [if_pos c8] at H
                have c8b0 : decide (x9_1 < 400) = true := decide_eq_true c8
                clear c8
                replace H := Option.bind_eq_some_iff.mp H
                obtain ⟨t666, A90, H⟩ := H
                replace H : ((nat_Mul.f k1 x5_1 t666).bind fun t669 => ((nat_Of.f k1 (((bt a0 x9_1) - 48) % 256)).bind fun t672 => ((nat_Add.f k1 t669 t672).bind fun t675 => (nat_Parse.l0 k1 a0 t675 (a0.size : Int) (wrap64 (x9_1 + 1)))))) = some (r1, r2) := H
                have A9 := Aside0.mk A90
                clear A90
                replace H := Option.bind_eq_some_iff.mp H
                obtain ⟨t669, A100, H⟩ := H
                replace H : ((nat_Of.f k1 (((bt a0 x9_1) - 48) % 256)).bind fun t672 => ((nat_Add.f k1 t669 t672).bind fun t675 => (nat_Parse.l0 k1 a0 t675 (a0.size : Int) (wrap64 (x9_1 + 1))))) = some (r1, r2) := H
                have A10 := Aside0.mk A100
                clear A100
                replace H := Option.bind_eq_some_iff.mp H
                obtain ⟨t672, A120, H⟩ := H
                replace H : ((nat_Add.f k1 t669 t672).bind fun t675 => (nat_Parse.l0 k1 a0 t675 (a0.size : Int) (wrap64 (x9_1 + 1)))) = some (r1, r2) := H
                have A12 := Aside0.mk A120
                clear A120
                replace H := Option.bind_eq_some_iff.mp H
                obtain ⟨t675, A130, H⟩ := H
                replace H : (nat_Parse.l0 k1 a0 t675 (a0.size : Int) (wrap64 (x9_1 + 1))) = some (r1, r2) := H
                have A13 := Aside0.mk A130
                clear A130
                have H' := Aside0.mk H
                clear H
                have p5 : 0 ≤ (x9_1 : Int) := of_decide_eq_true (by first | (with_reducible assumption) | assumption)
                have q5 : x9_1 < (a0.size : Int) := of_decide_eq_true (by first | (with_reducible assumption) | assumption)
                have hx5 := bt_at a0 x9_1
                replace p5 := eq_true p5
                replace q5 := eq_true q5
                try go_wp2_with (first | (go_at_call 90; (with_reducible refine (nat_Parse_cl1.calls (bt a0 x9_1) true _ A6.out).mono ?_); rintro e w' ⟨rfl, ⟨nd, rfl⟩⟩))
                (try (rw [drewN_self wr]; generalize hq_ : World.drewN wr _ = wr; have n0_ : Aside0 (Kd.R (Kd.int .u32) 37 wr w.heap.size (fun _ => True) u5 x5_1) := ⟨by rw [← hq_]; exact (by (with_reducible repeat (first | apply Kd.R_alloc | apply Kd.R_drewN | apply Kd.R_drew)); exact HO_5.out)⟩; have n1_ : Aside0 (Below w.heap.size w wr) := ⟨by rw [← hq_]; exact (by repeat (first | (with_reducible first | exact HB.out | apply below_alloc | apply pw_below_drewN | apply below_drew1) | exact HB.out))⟩; clear HO_5 HB hq_; have HO_5 := n0_; have HB := n1_; clear n0_ n1_))
                have n0_ := Aside0.mk (Kd.R_drew HO_5.out)
                have n1_ := Aside0.mk (below_drew1 HB.out)
                clear HO_5
                clear HB
                have HO_5 := n0_
                have HB := n1_
                clear n0_ n1_
                have p11 : 0 ≤ (x9_1 : Int) := of_decide_eq_true (by first | (with_reducible assumption) | assumption)
                have q11 : x9_1 < (a0.size : Int) := of_decide_eq_true (by first | (with_reducible assumption) | assumption)
                have hx11 := bt_at a0 x9_1
                replace p11 := eq_true p11
                replace q11 := eq_true q11
                refine start_ (n := 11) (S := fun w' => True) (ds := []) #[false, false, false, false, false, false, false, false, false, false, false] (by kernel_rfl) rfl rfl trivial (fun hHeld => ?_); refine with_tabW nat_Parse.tab9 nat_Parse.bits9 (fun HT_ HW_ => ?_)
                generalize wr.drew = w14 at HO_5 HB hHeld ⊢
                refine pure_ (i := 0) (N := some 20) (v := ?_) (a' := ?_) #[true, false, false, false, false, false, false, false, false, false, false] rfl rfl (any_of HT_.out (by kernel_rfl)) (fun _ _ _ h => h) (Or.inl ⟨by rfl, ?_⟩) ?_ ?_
                rotate_left
                · intro w'
                  go_simp
                  with_reducible rfl
                rotate_left
                · simp only [Act.put, List.setIfInBounds_toArray, List.set_cons_zero, List.set_cons_succ, i64_w, i32_w, u8_w, u64_u8]
                  rfl
                refine pure_ (i := 3) (N := some 23) (v := ?_) (a' := ?_) #[true, false, false, true, false, false, false, false, false, false, false] rfl rfl (any_of HT_.out (by kernel_rfl)) (fun _ _ _ h => h) (Or.inl ⟨by rfl, ?_⟩) ?_ ?_
                rotate_left
                · intro w'
                  go_simp
                  with_reducible rfl
                rotate_left
                · simp only [Act.put, List.setIfInBounds_toArray, List.set_cons_zero, List.set_cons_succ, i64_w, i32_w, u8_w, u64_u8]
                  rfl
                refine pure_ (i := 4) (N := some 24) (v := ?_) (a' := ?_) #[true, false, false, true, true, false, false, false, false, false, false] rfl rfl (any_of HT_.out (by kernel_rfl)) (fun _ _ _ h => h) (Or.inl ⟨by rfl, ?_⟩) ?_ ?_
                rotate_left
                · intro w'
                  go_simp
                  with_reducible rfl
                rotate_left
                · simp only [Act.put, List.setIfInBounds_toArray, List.set_cons_zero, List.set_cons_succ, i64_w, i32_w, u8_w, u64_u8]
                  rfl
                refine take_ (i := 5) (N := some 25) (v := ?_) (a' := ?_) #[true, false, false, true, true, true, false, false, false, false, false] rfl rfl (take_ofW HT_.out HW_.out (by kernel_rfl)) (fun _ _ _ h => h) (Or.inl ⟨by rfl, ?_⟩) hHeld ?_ ?_
                rotate_left
                · intro w' _
                  go_simp
                  with_reducible rfl
                rotate_left
                · simp only [Act.put, List.setIfInBounds_toArray, List.set_cons_zero, List.set_cons_succ, i64_w, i32_w, u8_w, u64_u8]
                  rfl
                refine pure_ (i := 6) (N := some 26) (v := ?_) (a' := ?_) #[true, false, false, true, true, true, true, false, false, false, false] rfl rfl (any_of HT_.out (by kernel_rfl)) (fun _ _ _ h => h) (Or.inl ⟨by rfl, ?_⟩) ?_ ?_
                rotate_left
                · intro w'
                  go_simp
                  with_reducible rfl
                rotate_left
                · simp only [Act.put, List.setIfInBounds_toArray, List.set_cons_zero, List.set_cons_succ, i64_w, i32_w, u8_w, u64_u8]
                  rfl
                refine pure_ (i := 7) (N := some 27) (v := ?_) (a' := ?_) #[true, false, false, true, true, true, true, true, false, false, false] rfl rfl (any_of HT_.out (by kernel_rfl)) (fun _ _ _ h => h) (Or.inl ⟨by rfl, ?_⟩) ?_ ?_
                rotate_left
                · intro w'
                  go_simp
                  with_reducible rfl
                rotate_left
                · simp only [Act.put, List.setIfInBounds_toArray, List.set_cons_zero, List.set_cons_succ, i64_w, i32_w, u8_w, u64_u8]
                  rfl
                refine one_ (i := 1) (N := some 21) #[true, true, false, true, true, true, true, true, false, false, false] rfl rfl (one_of HT_.out (by kernel_rfl)) (by decide) (fun K hK => ?_)
                refine goes_ Try.func67 (by kernel_rfl) rfl #[.int .u64 10] (by rfl) rfl rfl (by (try simp only [List.map_toArray, List.map_cons, List.map_nil]); first | done | rfl | (simp only [List.length_drop, List.length_take]; rfl)) ?_
                with_reducible refine (nat_Of.calls k1 10 t666 _ A9.out).mono ?_
                rintro e w15 ⟨v667, rfl, ho0, hb⟩
                refine ⟨_, rfl, ?_⟩
                have n0_ := Aside0.mk (Kd.R_elder' (by (with_reducible repeat (first | apply Kd.R_alloc | apply Kd.R_drewN | apply Kd.R_drew)); exact HO_5.out) (Kd.R_base ho0) hb)
                have n1_ := Aside0.mk (Kd.R_lower (Kd.R_new' ho0 (Kd.R_lt (by (with_reducible repeat (first | apply Kd.R_alloc | apply Kd.R_drewN | apply Kd.R_drew)); exact HO_5.out))) (below_size (by repeat (first | (with_reducible first | exact HB.out | apply below_alloc | apply pw_below_drewN | apply below_drew1) | exact HB.out))))
                have n2_ := Aside0.mk (below_step (by repeat (first | (with_reducible first | exact HB.out | apply below_alloc | apply pw_below_drewN | apply below_drew1) | exact HB.out)) hb)
                clear HO_5
                clear HB
                have HO_5 := n0_
                have HO668 := n1_
                have HB := n2_
                clear n0_ n1_ n2_
                (try clear hb)
                (try clear ho0)
                obtain ⟨Ao16, co16, eo16⟩ := Kd.R_slice HO_5.out
                (first | subst eo16 | (injection eo16 with f1_ f2_ f3_; have f4_ := f1_.symm; have f5_ := f3_.symm; clear f1_ f2_ f3_; subst f4_; subst f5_))
                obtain ⟨Ao17, co17, eo17⟩ := Kd.R_slice HO668.out
                (first | subst eo17 | (injection eo17 with f1_ f2_ f3_; have f4_ := f1_.symm; have f5_ := f3_.symm; clear f1_ f2_ f3_; subst f4_; subst f5_))
                refine hK.out _ _ trivial (fun hHeld => ?_)
                clear hK K
                refine norm_ (a' := ?_) ?_ ?_
                rotate_left
                · show Act.put _ (some 21) _ = _
                  simp only [Act.put, List.setIfInBounds_toArray, List.set_cons_zero, List.set_cons_succ, i64_w, i32_w, u8_w, u64_u8]
                  rfl
                refine one_ (i := 2) (N := some 22) #[true, true, true, true, true, true, true, true, false, false, false] rfl rfl (one_of HT_.out (by kernel_rfl)) (by decide) (fun K hK => ?_)
                refine goes_ Try.func78 (by kernel_rfl) rfl #[.slice Ao16 x5_1.length co16, .slice Ao17 t666.length co17] (by rfl) rfl rfl (by (try simp only [List.map_toArray, List.map_cons, List.map_nil]); first | done | rfl | (simp only [List.length_drop, List.length_take]; rfl)) ?_
                with_reducible refine (nat_Mul.calls k1 _ _ x5_1 _ _ t666 t669 _ ?side1 ?side2 ?side3 ?side4 A10.out).mono ?_
                (case side1 => repeat (first | exact (Kd.R_reads' HO_5.out).2.2 | (with_reducible refine Kd.C_alloc ?_ _) | (with_reducible refine Kd.C_drewN ?_ _) | (with_reducible refine Kd.C_drew ?_)))
                (case side2 => exact (Kd.R_reads' HO_5.out).2.1)
                (case side3 => repeat (first | exact (Kd.R_reads' HO668.out).2.2 | (with_reducible refine Kd.C_alloc ?_ _) | (with_reducible refine Kd.C_drewN ?_ _) | (with_reducible refine Kd.C_drew ?_)))
                (case side4 => exact (Kd.R_reads' HO668.out).2.1)
                rintro e w18 ⟨v670, rfl, ho0, hb⟩
                refine ⟨_, rfl, ?_⟩
                have n0_ := Aside0.mk (Kd.R_elder' (by (with_reducible repeat (first | apply Kd.R_alloc | apply Kd.R_drewN | apply Kd.R_drew)); exact HO_5.out) (Kd.R_base ho0) hb)
                have n1_ := Aside0.mk (Kd.R_elder' (by (with_reducible repeat (first | apply Kd.R_alloc | apply Kd.R_drewN | apply Kd.R_drew)); exact HO668.out) (Kd.R_base ho0) hb)
                have n2_ := Aside0.mk (Kd.R_lower (Kd.R_new' (Kd.R_new' ho0 (Kd.R_lt (by (with_reducible repeat (first | apply Kd.R_alloc | apply Kd.R_drewN | apply Kd.R_drew)); exact HO_5.out))) (Kd.R_lt (by (with_reducible repeat (first | apply Kd.R_alloc | apply Kd.R_drewN | apply Kd.R_drew)); exact HO668.out))) (below_size (by repeat (first | (with_reducible first | exact HB.out | apply below_alloc | apply pw_below_drewN | apply below_drew1) | exact HB.out))))
                have n3_ := Aside0.mk (below_step (by repeat (first | (with_reducible first | exact HB.out | apply below_alloc | apply pw_below_drewN | apply below_drew1) | exact HB.out)) hb)
                clear HO_5
                clear HO668
                clear HB
                have HO_5 := n0_
                have HO668 := n1_
                have HO671 := n2_
                have HB := n3_
                clear n0_ n1_ n2_ n3_
                (try clear hb)
                (try clear ho0)
                refine hK.out _ _ trivial (fun hHeld => ?_)
                clear hK K
                refine norm_ (a' := ?_) ?_ ?_
                rotate_left
                · show Act.put _ (some 22) _ = _
                  simp only [Act.put, List.setIfInBounds_toArray, List.set_cons_zero, List.set_cons_succ, i64_w, i32_w, u8_w, u64_u8]
                  rfl
                refine one_ (i := 8) (N := some 28) #[true, true, true, true, true, true, true, true, true, false, false] rfl rfl (one_of HT_.out (by kernel_rfl)) (by decide) (fun K hK => ?_)
                refine goes_ Try.func67 (by kernel_rfl) rfl #[.int .u64 (((bt a0 x9_1) - 48) % 256)] (by rfl) rfl rfl (by (try simp only [List.map_toArray, List.map_cons, List.map_nil]); first | done | rfl | (simp only [List.length_drop, List.length_take]; rfl)) ?_
                with_reducible refine (nat_Of.calls k1 (((bt a0 x9_1) - 48) % 256) t672 _ A12.out).mono ?_
                rintro e w19 ⟨v673, rfl, ho0, hb⟩
                refine ⟨_, rfl, ?_⟩
                have n0_ := Aside0.mk (Kd.R_elder' (by (with_reducible repeat (first | apply Kd.R_alloc | apply Kd.R_drewN | apply Kd.R_drew)); exact HO_5.out) (Kd.R_base ho0) hb)
                have n1_ := Aside0.mk (Kd.R_elder' (by (with_reducible repeat (first | apply Kd.R_alloc | apply Kd.R_drewN | apply Kd.R_drew)); exact HO668.out) (Kd.R_base ho0) hb)
                have n2_ := Aside0.mk (Kd.R_elder' (by (with_reducible repeat (first | apply Kd.R_alloc | apply Kd.R_drewN | apply Kd.R_drew)); exact HO671.out) (Kd.R_base ho0) hb)
                have n3_ := Aside0.mk (Kd.R_lower (Kd.R_new' (Kd.R_new' (Kd.R_new' ho0 (Kd.R_lt (by (with_reducible repeat (first | apply Kd.R_alloc | apply Kd.R_drewN | apply Kd.R_drew)); exact HO_5.out))) (Kd.R_lt (by (with_reducible repeat (first | apply Kd.R_alloc | apply Kd.R_drewN | apply Kd.R_drew)); exact HO668.out))) (Kd.R_lt (by (with_reducible repeat (first | apply Kd.R_alloc | apply Kd.R_drewN | apply Kd.R_drew)); exact HO671.out))) (below_size (by repeat (first | (with_reducible first | exact HB.out | apply below_alloc | apply pw_below_drewN | apply below_drew1) | exact HB.out))))
                have n4_ := Aside0.mk (below_step (by repeat (first | (with_reducible first | exact HB.out | apply below_alloc | apply pw_below_drewN | apply below_drew1) | exact HB.out)) hb)
                clear HO_5
                clear HO668
                clear HO671
                clear HB
                have HO_5 := n0_
                have HO668 := n1_
                have HO671 := n2_
                have HO674 := n3_
                have HB := n4_
                clear n0_ n1_ n2_ n3_ n4_
                (try clear hb)
                (try clear ho0)
                obtain ⟨Ao20, co20, eo20⟩ := Kd.R_slice HO671.out
                (first | subst eo20 | (injection eo20 with f1_ f2_ f3_; have f4_ := f1_.symm; have f5_ := f3_.symm; clear f1_ f2_ f3_; subst f4_; subst f5_))
                obtain ⟨Ao21, co21, eo21⟩ := Kd.R_slice HO674.out
                (first | subst eo21 | (injection eo21 with f1_ f2_ f3_; have f4_ := f1_.symm; have f5_ := f3_.symm; clear f1_ f2_ f3_; subst f4_; subst f5_))
                refine hK.out _ _ trivial (fun hHeld => ?_)
                clear hK K
                refine norm_ (a' := ?_) ?_ ?_
                rotate_left
                · show Act.put _ (some 28) _ = _
                  simp only [Act.put, List.setIfInBounds_toArray, List.set_cons_zero, List.set_cons_succ, i64_w, i32_w, u8_w, u64_u8]
                  rfl
                refine one_ (i := 9) (N := some 29) #[true, true, true, true, true, true, true, true, true, true, false] rfl rfl (one_of HT_.out (by kernel_rfl)) (by decide) (fun K hK => ?_)
                refine goes_ Try.func72 (by kernel_rfl) rfl #[.slice Ao20 t669.length co20, .slice Ao21 t672.length co21] (by rfl) rfl rfl (by (try simp only [List.map_toArray, List.map_cons, List.map_nil]); first | done | rfl | (simp only [List.length_drop, List.length_take]; rfl)) ?_
                with_reducible refine (nat_Add.calls k1 _ _ t669 _ _ t672 t675 _ ?side1 ?side2 ?side3 ?side4 A13.out).mono ?_
                (case side1 => repeat (first | exact (Kd.R_reads' HO671.out).2.2 | (with_reducible refine Kd.C_alloc ?_ _) | (with_reducible refine Kd.C_drewN ?_ _) | (with_reducible refine Kd.C_drew ?_)))
                (case side2 => exact (Kd.R_reads' HO671.out).2.1)
                (case side3 => repeat (first | exact (Kd.R_reads' HO674.out).2.2 | (with_reducible refine Kd.C_alloc ?_ _) | (with_reducible refine Kd.C_drewN ?_ _) | (with_reducible refine Kd.C_drew ?_)))
                (case side4 => exact (Kd.R_reads' HO674.out).2.1)
                rintro e w22 ⟨v676, rfl, ho0, hb⟩
                refine ⟨_, rfl, ?_⟩
                have n0_ := Aside0.mk (Kd.R_elder' (by (with_reducible repeat (first | apply Kd.R_alloc | apply Kd.R_drewN | apply Kd.R_drew)); exact HO_5.out) (Kd.R_base ho0) hb)
                have n1_ := Aside0.mk (Kd.R_elder' (by (with_reducible repeat (first | apply Kd.R_alloc | apply Kd.R_drewN | apply Kd.R_drew)); exact HO668.out) (Kd.R_base ho0) hb)
                have n2_ := Aside0.mk (Kd.R_elder' (by (with_reducible repeat (first | apply Kd.R_alloc | apply Kd.R_drewN | apply Kd.R_drew)); exact HO671.out) (Kd.R_base ho0) hb)
                have n3_ := Aside0.mk (Kd.R_elder' (by (with_reducible repeat (first | apply Kd.R_alloc | apply Kd.R_drewN | apply Kd.R_drew)); exact HO674.out) (Kd.R_base ho0) hb)
                have n4_ := Aside0.mk (Kd.R_lower (Kd.R_new' (Kd.R_new' (Kd.R_new' (Kd.R_new' ho0 (Kd.R_lt (by (with_reducible repeat (first | apply Kd.R_alloc | apply Kd.R_drewN | apply Kd.R_drew)); exact HO_5.out))) (Kd.R_lt (by (with_reducible repeat (first | apply Kd.R_alloc | apply Kd.R_drewN | apply Kd.R_drew)); exact HO668.out))) (Kd.R_lt (by (with_reducible repeat (first | apply Kd.R_alloc | apply Kd.R_drewN | apply Kd.R_drew)); exact HO671.out))) (Kd.R_lt (by (with_reducible repeat (first | apply Kd.R_alloc | apply Kd.R_drewN | apply Kd.R_drew)); exact HO674.out))) (below_size (by repeat (first | (with_reducible first | exact HB.out | apply below_alloc | apply pw_below_drewN | apply below_drew1) | exact HB.out))))
                have n5_ := Aside0.mk (below_step (by repeat (first | (with_reducible first | exact HB.out | apply below_alloc | apply pw_below_drewN | apply below_drew1) | exact HB.out)) hb)
                clear HO_5
                clear HO668
                clear HO671
                clear HO674
                clear HB
                have HO_5 := n0_
                have HO668 := n1_
                have HO671 := n2_
                have HO674 := n3_
                have HO677 := n4_
                have HB := n5_
                clear n0_ n1_ n2_ n3_ n4_ n5_
                (try clear hb)
                (try clear ho0)
                refine hK.out _ _ trivial (fun hHeld => ?_)
                clear hK K
                refine norm_ (a' := ?_) ?_ ?_
                rotate_left
                · show Act.put _ (some 29) _ = _
                  simp only [Act.put, List.setIfInBounds_toArray, List.set_cons_zero, List.set_cons_succ, i64_w, i32_w, u8_w, u64_u8]
                  rfl
                refine pure_ (i := 10) (N := some 5) (v := ?_) (a' := ?_) #[true, true, true, true, true, true, true, true, true, true, true] rfl rfl (any_of HT_.out (by kernel_rfl)) (fun _ _ _ h => h) (Or.inl ⟨by rfl, ?_⟩) ?_ ?_
                rotate_left
                · intro w'
                  go_simp
                  with_reducible rfl
                rotate_left
                · simp only [Act.put, List.setIfInBounds_toArray, List.set_cons_zero, List.set_cons_succ, i64_w, i32_w, u8_w, u64_u8]
                  rfl
                refine done_ (done_of HT_.out (by kernel_rfl)) ?_
                try go_wp2
                go_roundg k1
                case measure => have := HK1.out; omega
                case rel => exact ⟨(t675), (wrap64 (x9_1 + 1)), (by first | rfl | (simp; done) | (simp [*]; done)), H', ⟨by have := HK1.out; omega⟩, ⟨by (with_reducible repeat (first | apply Kd.R_alloc | apply Kd.R_drewN | apply Kd.R_drew)); exact Kd.R_mono HO677.out (fun _ hk => trivial)⟩, ⟨by repeat (first | (with_reducible first | exact HB.out | apply below_alloc | apply pw_below_drewN | apply below_drew1) | exact HB.out)⟩⟩
              · rw [if_neg c8] at H
                have c8b0 : decide (x9_1 < 400) = false := decide_eq_false c8
                clear c8
                have H' := Aside0.mk H
                clear H
                have p5 : 0 ≤ (x9_1 : Int) := of_decide_eq_true (by first | (with_reducible assumption) | assumption)
                have q5 : x9_1 < (a0.size : Int) := of_decide_eq_true (by first | (with_reducible assumption) | assumption)
                have hx5 := bt_at a0 x9_1
                replace p5 := eq_true p5
                replace q5 := eq_true q5
                go_wp2_with (first | (go_at_call 90; (with_reducible refine (nat_Parse_cl1.calls (bt a0 x9_1) true _ A6.out).mono ?_); rintro e w' ⟨rfl, ⟨nd, rfl⟩⟩))
                go_roundg k1
                case measure => have := HK1.out; omega
                case rel => exact ⟨(x5_1), (wrap64 (x9_1 + 1)), (by first | rfl | (simp; done) | (simp [*]; done)), H', ⟨by have := HK1.out; omega⟩, ⟨by (with_reducible repeat (first | apply Kd.R_alloc | apply Kd.R_drewN | apply Kd.R_drew)); exact HO_5.out⟩, ⟨by repeat (first | (with_reducible first | exact HB.out | apply below_alloc | apply pw_below_drewN | apply below_drew1) | exact HB.out)⟩⟩
            · replace c7 := Bool.eq_false_iff.mpr c7
              subst c7
              have H1 : (some (([] : List Int), 2)) = some (r1, r2) := by rw [if_neg (show ¬ (false = true) by decide)] at H; exact H
              clear H
              have H := H1
              clear H1
              simp only [Option.some.injEq, Prod.mk.injEq] at H
              obtain ⟨rfl, rfl⟩ := H
              have p5 : 0 ≤ (x9_1 : Int) := of_decide_eq_true (by first | (with_reducible assumption) | assumption)
              have q5 : x9_1 < (a0.size : Int) := of_decide_eq_true (by first | (with_reducible assumption) | assumption)
              have hx5 := bt_at a0 x9_1
              replace p5 := eq_true p5
              replace q5 := eq_true q5
              go_wp2_with (first | (go_at_call 90; (with_reducible refine (nat_Parse_cl1.calls (bt a0 x9_1) false _ A6.out).mono ?_); rintro e w' ⟨rfl, ⟨nd, rfl⟩⟩))
              go_ret2
              exact ⟨_, by first | rfl | (simp [errW_none, errW_some] <;> rfl) | (simp [*, errW_none, errW_some] <;> rfl), by first | exact Kd.R_nil _ _ _ _ _ | exact Kd.N_nil _ _ _ _ _ | exact Kd.V_nil _ _ _ _ _ | exact Kd.Q_nil _ _ _ _ _ | exact Kd.S_nil _ _ _ _ _, by repeat (first | (with_reducible first | exact HB.out | apply below_alloc | apply pw_below_drewN | apply below_drew1) | exact HB.out)⟩
          · rw [if_neg c4] at H
            exact absurd H (by simp)
        · rw [if_neg c3] at H
          exact absurd H (by simp)
      · rw [if_neg c2] at H
        have c2b0 : decide (x9_1 < (a0.size : Int)) = false := decide_eq_false c2
        clear c2
        by_cases c23 : a0.toList = ([] : List UInt8)
        · rw [if_pos c23] at H
          have c23b0 : (a0.toList == ([] : List UInt8)) = true := beq_iff_eq.mpr c23
          have c23b1 : (a0.toList != ([] : List UInt8)) = false := bne_eq_false_iff_eq.mpr c23
          clear c23
          simp only [Option.some.injEq, Prod.mk.injEq] at H
          obtain ⟨rfl, rfl⟩ := H
          go_wp2
          go_ret2
          exact ⟨_, by first | rfl | (simp [errW_none, errW_some] <;> rfl) | (simp [*, errW_none, errW_some] <;> rfl), by first | exact Kd.R_nil _ _ _ _ _ | exact Kd.N_nil _ _ _ _ _ | exact Kd.V_nil _ _ _ _ _ | exact Kd.Q_nil _ _ _ _ _ | exact Kd.S_nil _ _ _ _ _, by repeat (first | (with_reducible first | exact HB.out | apply below_alloc | apply pw_below_drewN | apply below_drew1) | exact HB.out)⟩
        · rw [if_neg c23] at H
          have c23b0 : (a0.toList == ([] : List UInt8)) = false := beq_eq_false_iff_ne.mpr c23
          have c23b1 : (a0.toList != ([] : List UInt8)) = true := bne_iff_ne.mpr c23
          by_cases c24 : (a0.size : Int) > 400
          · rw [if_pos c24] at H
            have c24b0 : decide (400 < (a0.size : Int)) = true := decide_eq_true c24
            have c24b1 : decide (400 < a0.size) = true := decide_eq_true (by omega)
            clear c24
            simp only [Option.some.injEq, Prod.mk.injEq] at H
            obtain ⟨rfl, rfl⟩ := H
            go_wp2
            go_ret2
            exact ⟨_, by first | rfl | (simp [errW_none, errW_some] <;> rfl) | (simp [*, errW_none, errW_some] <;> rfl), by first | exact Kd.R_nil _ _ _ _ _ | exact Kd.N_nil _ _ _ _ _ | exact Kd.V_nil _ _ _ _ _ | exact Kd.Q_nil _ _ _ _ _ | exact Kd.S_nil _ _ _ _ _, by repeat (first | (with_reducible first | exact HB.out | apply below_alloc | apply pw_below_drewN | apply below_drew1) | exact HB.out)⟩
          · rw [if_neg c24] at H
            have c24b0 : decide (400 < (a0.size : Int)) = false := decide_eq_false c24
            have c24b1 : decide (400 < a0.size) = false := decide_eq_false (by omega)
            clear c24
            simp only [Option.some.injEq, Prod.mk.injEq] at H
            obtain ⟨rfl, rfl⟩ := H
            go_wp2
            go_ret2
            exact ⟨_, by first | rfl | (simp [errW_none, errW_some] <;> rfl) | (simp [*, errW_none, errW_some] <;> rfl), by (with_reducible repeat (first | apply Kd.R_alloc | apply Kd.R_drewN | apply Kd.R_drew)); exact HO_5.out, by repeat (first | (with_reducible first | exact HB.out | apply below_alloc | apply pw_below_drewN | apply below_drew1) | exact HB.out)⟩

theorem nat_Parse.cl (b : Int) : nat_Parse_cl1.f b = some (decide (48 ≤ b ∧ b ≤ 57)) := by
  unfold nat_Parse_cl1.f
  by_cases h : b ≥ 48
  · rw [if_pos h]
    by_cases h2 : b ≤ 57
    · rw [decide_eq_true h2, decide_eq_true ⟨h, h2⟩]
    · rw [decide_eq_false h2, decide_eq_false (fun e => h2 e.2)]
  · rw [if_neg h, decide_eq_false (fun e => h e.1)]
/-- One digit more. -/
theorem nat_Parse.step_ {s : ByteArray} {i d v : Nat} (hi : i < s.size) (hs : s.size < 1000000) (hb : bt s (i : Int) = ((48 + d : Nat) : Int)) (hd : d < 10) (hv : v < 2 ^ (32 * i)) (hi4 : i < 400) {r : List Int × Int} (k : Ev (fun k => nat_Parse.l0 k s (Num.nd (v * 10 + d)) (s.size : Int) ((i + 1 : Nat) : Int)) r) :
    Ev (fun k => nat_Parse.l0 k s (Num.nd v) (s.size : Int) (i : Int)) r := by
  have O10 : Ev (fun k => nat_Of.f k 10) (Num.nd 10) := nat_Of.ev 10 (by omega)
  have Od := nat_Of.ev d (by omega)
  have kv := Num.ok_nd hv (by omega)
  have k10 := Num.ok_nd (n := 10) (k := 1) (by decide) (by omega)
  have kd := Num.ok_nd (n := d) (k := 1) (by omega) (by omega)
  have hm : v * 10 < 2 ^ (32 * (i + 1)) := by rw [Num.pow_succ32]; omega
  have km := Num.ok_nd hm (by omega)
  have M := nat_Mul.ev kv k10
  rw [Num.nv_nd, Num.nv_nd] at M
  have A := nat_Add.ev km kd
  rw [Num.nv_nd, Num.nv_nd] at A
  refine Ev.step (f := fun k => (nat_Of.f k 10).bind fun t494 => ((nat_Mul.f k (Num.nd v) t494).bind fun t497 => ((nat_Of.f k (d : Int)).bind fun t500 => ((nat_Add.f k t497 t500).bind fun t503 => (nat_Parse.l0 k s t503 (s.size : Int) ((i + 1 : Nat) : Int)))))) (fun k => ?_) (Ev.bind O10 (Ev.bind M (Ev.bind Od (Ev.bind A k))))
  rw [nat_Parse.l0, if_pos (by omega), if_pos (by omega), if_pos (by omega), hb, nat_Parse.cl, Option.bind_some, decide_eq_true (by omega), if_pos rfl, if_pos (by omega), Dec.w64s _ (by omega), show (((48 + d : Nat) : Int) - 48) % 256 = (d : Int) from by omega]
/-- A digit behind the first 400. -/
theorem nat_Parse.skip_ {s : ByteArray} {x5 : List Int} {i d : Nat} (hi : i < s.size) (hs : s.size < 1000000) (hb : bt s (i : Int) = ((48 + d : Nat) : Int)) (hd : d < 10) (hi4 : ¬ i < 400) {r : List Int × Int} (k : Ev (fun k => nat_Parse.l0 k s x5 (s.size : Int) ((i + 1 : Nat) : Int)) r) :
    Ev (fun k => nat_Parse.l0 k s x5 (s.size : Int) (i : Int)) r := by
  refine Ev.step (fun k => ?_) k
  rw [nat_Parse.l0, if_pos (by omega), if_pos (by omega), if_pos (by omega), hb, nat_Parse.cl, Option.bind_some, decide_eq_true (by omega), if_pos rfl, if_neg (by omega), Dec.w64s _ (by omega)]
/-- What is no digit. -/
theorem nat_Parse.bad_ {s : ByteArray} {x5 : List Int} {i : Nat} (hi : i < s.size) (hb : ¬ (48 ≤ bt s (i : Int) ∧ bt s (i : Int) ≤ 57)) : Ev (fun k => nat_Parse.l0 k s x5 (s.size : Int) (i : Int)) ([], 2) := by
  refine Ev.step (f := fun _ => some ([], 2)) (fun k => ?_) (Ev.now _)
  rw [nat_Parse.l0, if_pos (by omega), if_pos (by omega), if_pos (by omega), nat_Parse.cl, Option.bind_some, decide_eq_false hb, if_neg (by decide)]
/-- A text in which something is no digit. -/
theorem nat_Parse.ev_bad {s : ByteArray} (hs : s.size < 1000000) {p : Nat} (hp : p < s.size) (hdig : ∀ i, i < p → ∃ d, d < 10 ∧ bt s (i : Int) = ((48 + d : Nat) : Int)) (hb : ¬ (48 ≤ bt s (p : Int) ∧ bt s (p : Int) ≤ 57)) :
    Ev (fun k => nat_Parse.f k s) ([], 2) := by
  have main : ∀ e i v : Nat, i + e = p → (i ≤ 400 → v < 2 ^ (32 * i)) → Ev (fun k => nat_Parse.l0 k s (Num.nd v) (s.size : Int) (i : Int)) ([], 2) := by
    intro e
    induction e with
    | zero =>
      intro i v hi _
      obtain rfl : i = p := by omega
      exact nat_Parse.bad_ hp hb
    | succ e ih =>
      intro i v hi hv
      obtain ⟨d, hd, hbd⟩ := hdig i (by omega)
      by_cases h4 : i < 400
      · refine nat_Parse.step_ (by omega) hs hbd hd (hv (by omega)) h4 (ih (i + 1) _ (by omega) (fun _ => ?_))
        have := hv (by omega)
        rw [Num.pow_succ32]
        omega
      · exact nat_Parse.skip_ (by omega) hs hbd hd h4 (ih (i + 1) v (by omega) (fun h => by omega))
  have := main p 0 0 (by omega) (fun _ => by rw [Nat.mul_zero, Nat.pow_zero]; omega)
  rw [Num.nd_zero] at this
  exact this
/-- A text of digits. -/
theorem nat_Parse.ev_dig {l : List Nat} (hl : Dec.Ds l) (hs : l.length < 1000000) : Ev (fun k => nat_Parse.f k (Dec.tx l)) (if l.length = 0 then ([], 2) else if 400 < l.length then ([], 4) else (Num.nd (Dec.dv l), 0)) := by
  have hsz := Dec.tx_size l
  have main : ∀ e i : Nat, i + e = l.length → Ev (fun k => nat_Parse.l0 k (Dec.tx l) (Num.nd (Dec.dv (l.drop (l.length - min i 400)))) (((Dec.tx l).size : Nat) : Int) (i : Int)) (if l.length = 0 then ([], 2) else if 400 < l.length then ([], 4) else (Num.nd (Dec.dv l), 0)) := by
    intro e
    induction e with
    | zero =>
      intro i hi
      refine Ev.step (f := fun _ => some (if l.length = 0 then ([], 2) else if 400 < l.length then ([], 4) else (Num.nd (Dec.dv l), 0))) (fun k => ?_) (Ev.now _)
      rw [nat_Parse.l0, hsz, if_neg (by omega)]
      by_cases h0 : l.length = 0
      · obtain rfl : l = [] := List.eq_nil_of_length_eq_zero h0
        rw [if_pos (by rw [Dec.tx_toList]; rfl)]
        rfl
      · rw [if_neg (by rw [Dec.tx_toList]; simpa using fun e => h0 (by rw [e]; rfl)), if_neg h0]
        by_cases h4 : 400 < l.length
        · rw [if_pos (by omega), if_pos h4]
        · rw [if_neg (by omega), if_neg h4, show l.length - min i 400 = 0 from by omega, List.drop_zero]
    | succ e ih =>
      intro i hi
      have hb := Dec.bt_tx hl i (by omega)
      have hd := hl.getD (l.length - 1 - i)
      obtain ⟨d, hdd⟩ : ∃ d, d = l.getD (l.length - 1 - i) 0 := ⟨_, rfl⟩
      rw [← hdd] at hb hd
      have hb' : bt (Dec.tx l) (i : Int) = ((48 + d : Nat) : Int) := by rw [hb]; omega
      by_cases h4 : i < 400
      · have hv := Dec.dv_lt (hl.drop (l.length - i))
        have hv2 : Dec.dv (l.drop (l.length - i)) < 2 ^ (32 * i) := by
          rw [List.length_drop, show l.length - (l.length - i) = i from by omega] at hv
          refine Nat.lt_of_lt_of_le hv ?_
          rw [Nat.pow_mul]
          exact Nat.pow_le_pow_left (by decide) i
        have hnext : Dec.dv (l.drop (l.length - (i + 1))) = Dec.dv (l.drop (l.length - i)) * 10 + d := by
          rw [show l.length - (i + 1) = l.length - 1 - i from by omega, List.drop_eq_getElem_cons (by omega), Dec.dv, show l.length - 1 - i + 1 = l.length - i from by omega]
          have : l[l.length - 1 - i] = d := by rw [hdd, List.getD_eq_getElem?_getD, List.getElem?_eq_getElem (by omega)]; rfl
          rw [this]
          omega
        have := ih (i + 1) (by omega)
        rw [show min (i + 1) 400 = i + 1 from by omega, hnext] at this
        rw [show min i 400 = i from by omega]
        exact nat_Parse.step_ (by omega) (by omega) hb' hd hv2 h4 this
      · have := ih (i + 1) (by omega)
        rw [show min (i + 1) 400 = min i 400 from by omega] at this
        exact nat_Parse.skip_ (by omega) (by omega) hb' hd h4 this
  have := main l.length 0 (by omega)
  rw [Nat.zero_min, Nat.sub_zero, List.drop_length, Dec.dv, Num.nd_zero] at this
  exact this

end Go.Proofs.Ytjpkljkkcbaohaa.PR

end
section
namespace Go.Proofs.Ytjpkljkkcbaohaa.PR
open Go.RowKit Go.Proofs.YtjpkljkkcbaohaaW.PrintWords Go.Proofs.YtjpkljkkcbaohaaW.PrintLast Go.Proofs.YtjpkljkkcbaohaaW.PrintMore
attribute [local go_sem] max2_int min2_int max_two min_two max_three min_three max_four min_four   -- for this text's walks alone
set_option linter.unusedVariables false
set_option linter.unusedSimpArgs false

/-! ### stringslite_HasPrefix: function 108 -/
def stringslite_HasPrefix.f (a0 : ByteArray) (a1 : ByteArray) : Option (Bool) := if (a0.size : Int) ≥ (a1.size : Int) then (if 0 ≤ (a1.size : Int) then (if (a1.size : Int) ≤ (a0.size : Int) then (some ((a0.extract 0 ((a1.size : Int) : Int).toNat).toList == a1.toList)) else (none)) else (none)) else (some false)
set_option maxHeartbeats 8000000 in
set_option maxRecDepth 100000 in
theorem stringslite_HasPrefix.calls (a0 : ByteArray) (a1 : ByteArray) (r : Bool) (w : World) (h : stringslite_HasPrefix.f a0 a1 = some r) :
    Calls Try.prog 108 #[.string a0, .string a1] w fun e w' => e = .returned (.bool r) ∧ Drawn0 w w' := by
  have H : (if (a0.size : Int) ≥ (a1.size : Int) then (if 0 ≤ (a1.size : Int) then (if (a1.size : Int) ≤ (a0.size : Int) then (some ((a0.extract 0 ((a1.size : Int) : Int).toNat).toList == a1.toList)) else (none)) else (none)) else (some false)) = some r := h
  clear h
  by_cases c3 : (a0.size : Int) ≥ (a1.size : Int)
  · rw [if_pos c3] at H
    have c3b0 : decide ((a1.size : Int) ≤ (a0.size : Int)) = true := decide_eq_true c3
    have c3b1 : decide (a1.size ≤ a0.size) = true := decide_eq_true (Int.ofNat_le.mp c3)
    clear c3
    by_cases c4 : 0 ≤ (a1.size : Int)
    · rw [if_pos c4] at H
      have c4b0 := eq_true c4
      have c4b1 : decide (0 ≤ (a1.size : Int)) = true := decide_eq_true c4
      clear c4
      by_cases c5 : (a1.size : Int) ≤ (a0.size : Int)
      · rw [if_pos c5] at H
        have c5b0 := eq_true c5
        have c5b1 : decide ((a1.size : Int) ≤ (a0.size : Int)) = true := decide_eq_true c5
        clear c5
        obtain rfl := Option.some.inj H
        go_enter Try.func108, Try.ntmps108
        go_wp2
        go_ret
        exact ⟨by first | rfl | (simp; done) | (simp [*]; done), by repeat (first | exact Drawn0.refl _ | apply Drawn0.step)⟩
      · rw [if_neg c5] at H
        exact absurd H (by simp)
    · rw [if_neg c4] at H
      exact absurd H (by simp)
  · rw [if_neg c3] at H
    have c3b0 : decide ((a1.size : Int) ≤ (a0.size : Int)) = false := decide_eq_false c3
    have c3b1 : decide (a1.size ≤ a0.size) = false := decide_eq_false (fun h => c3 (Int.ofNat_le.mpr h))
    clear c3
    obtain rfl := Option.some.inj H
    go_enter Try.func108, Try.ntmps108
    go_wp2
    go_ret
    exact ⟨by first | rfl | (simp; done) | (simp [*]; done), by repeat (first | exact Drawn0.refl _ | apply Drawn0.step)⟩

end Go.Proofs.Ytjpkljkkcbaohaa.PR

end
section
namespace Go.Proofs.Ytjpkljkkcbaohaa.PR
open Go.RowKit Go.Proofs.YtjpkljkkcbaohaaW.PrintWords Go.Proofs.YtjpkljkkcbaohaaW.PrintLast Go.Proofs.YtjpkljkkcbaohaaW.PrintMore
attribute [local go_sem] max2_int min2_int max_two min_two max_three min_three max_four min_four   -- for this text's walks alone
set_option linter.unusedVariables false
set_option linter.unusedSimpArgs false

/-! ### stringslite_CutPrefix: function 106 -/
def stringslite_CutPrefix.f (a0 : ByteArray) (a1 : ByteArray) : Option (ByteArray × Bool) := (stringslite_HasPrefix.f a0 a1).bind fun t678 => (if t678 = true then (if 0 ≤ (a1.size : Int) then (if (a1.size : Int) ≤ (a0.size : Int) then (some (a0.extract ((a1.size : Int) : Int).toNat a0.size, true)) else (none)) else (none)) else (some (a0, false)))
set_option maxHeartbeats 8000000 in
set_option maxRecDepth 100000 in
theorem stringslite_CutPrefix.calls (a0 : ByteArray) (a1 : ByteArray) (r1 : ByteArray) (r2 : Bool) (w : World) (h : stringslite_CutPrefix.f a0 a1 = some (r1, r2)) :
    Calls Try.prog 106 #[.string a0, .string a1] w fun e w' => e = .returned (.tuple #[.string r1, .bool r2]) ∧ Drawn0 w w' := by
  have H : ((stringslite_HasPrefix.f a0 a1).bind fun t678 => (if t678 = true then (if 0 ≤ (a1.size : Int) then (if (a1.size : Int) ≤ (a0.size : Int) then (some (a0.extract ((a1.size : Int) : Int).toNat a0.size, true)) else (none)) else (none)) else (some (a0, false)))) = some (r1, r2) := h
  clear h
  replace H := Option.bind_eq_some_iff.mp H
  obtain ⟨t678, A30, H⟩ := H
  replace H : (if t678 = true then (if 0 ≤ (a1.size : Int) then (if (a1.size : Int) ≤ (a0.size : Int) then (some (a0.extract ((a1.size : Int) : Int).toNat a0.size, true)) else (none)) else (none)) else (some (a0, false))) = some (r1, r2) := H
  have A3 := Aside0.mk A30
  clear A30
  by_cases c4 : t678 = true
  · subst c4
    have H1 : (if 0 ≤ (a1.size : Int) then (if (a1.size : Int) ≤ (a0.size : Int) then (some (a0.extract ((a1.size : Int) : Int).toNat a0.size, true)) else (none)) else (none)) = some (r1, r2) := by rw [if_pos rfl] at H; exact H
    clear H
    have H := H1
    clear H1
    by_cases c5 : 0 ≤ (a1.size : Int)
    · rw [if_pos c5] at H
      have c5b0 := eq_true c5
      have c5b1 : decide (0 ≤ (a1.size : Int)) = true := decide_eq_true c5
      clear c5
      by_cases c6 : (a1.size : Int) ≤ (a0.size : Int)
      · rw [if_pos c6] at H
        have c6b0 := eq_true c6
        have c6b1 : decide ((a1.size : Int) ≤ (a0.size : Int)) = true := decide_eq_true c6
        clear c6
        simp only [Option.some.injEq, Prod.mk.injEq] at H
        obtain ⟨rfl, rfl⟩ := H
        go_enter Try.func106, Try.ntmps106
        go_wp2_with (first | ((with_reducible refine gate_callee (f := 108) rfl ?_); refine goesL_ (some 8) rfl rfl Try.func108 (by kernel_rfl) rfl #[.string a0, .string a1] rfl (by (try simp only [List.map_toArray, List.map_cons, List.map_nil]); first | done | rfl | (simp only [List.length_drop, List.length_take]; rfl)) ?_; (with_reducible refine (stringslite_HasPrefix.calls a0 a1 true _ A3.out).mono ?_); rintro e w' ⟨rfl, ⟨nd, rfl⟩⟩; refine ⟨_, rfl, ?_⟩))
        go_ret2
        exact ⟨by first | rfl | (simp; done) | (simp [*]; done), by repeat (first | exact Drawn0.refl _ | apply Drawn0.step)⟩
      · rw [if_neg c6] at H
        exact absurd H (by simp)
    · rw [if_neg c5] at H
      exact absurd H (by simp)
  · replace c4 := Bool.eq_false_iff.mpr c4
    subst c4
    have H1 : (some (a0, false)) = some (r1, r2) := by rw [if_neg (show ¬ (false = true) by decide)] at H; exact H
    clear H
    have H := H1
    clear H1
    simp only [Option.some.injEq, Prod.mk.injEq] at H
    obtain ⟨rfl, rfl⟩ := H
    go_enter Try.func106, Try.ntmps106
    go_wp2_with (first | ((with_reducible refine gate_callee (f := 108) rfl ?_); refine goesL_ (some 8) rfl rfl Try.func108 (by kernel_rfl) rfl #[.string a0, .string a1] rfl (by (try simp only [List.map_toArray, List.map_cons, List.map_nil]); first | done | rfl | (simp only [List.length_drop, List.length_take]; rfl)) ?_; (with_reducible refine (stringslite_HasPrefix.calls a0 a1 false _ A3.out).mono ?_); rintro e w' ⟨rfl, ⟨nd, rfl⟩⟩; refine ⟨_, rfl, ?_⟩))
    go_ret2
    exact ⟨by first | rfl | (simp; done) | (simp [*]; done), by repeat (first | exact Drawn0.refl _ | apply Drawn0.step)⟩

end Go.Proofs.Ytjpkljkkcbaohaa.PR

end
section
namespace Go.Proofs.Ytjpkljkkcbaohaa.PR
open Go.RowKit Go.Proofs.YtjpkljkkcbaohaaW.PrintWords Go.Proofs.YtjpkljkkcbaohaaW.PrintLast Go.Proofs.YtjpkljkkcbaohaaW.PrintMore
attribute [local go_sem] max2_int min2_int max_two min_two max_three min_three max_four min_four   -- for this text's walks alone
set_option linter.unusedVariables false
set_option linter.unusedSimpArgs false

/-! ### strings_CutPrefix: function 89 -/
def strings_CutPrefix.f (a0 : ByteArray) (a1 : ByteArray) : Option (ByteArray × Bool) := (stringslite_CutPrefix.f a0 a1).bind fun bt679 => (some (bt679.1, bt679.2))
set_option maxHeartbeats 8000000 in
set_option maxRecDepth 100000 in
theorem strings_CutPrefix.calls (a0 : ByteArray) (a1 : ByteArray) (r1 : ByteArray) (r2 : Bool) (w : World) (h : strings_CutPrefix.f a0 a1 = some (r1, r2)) :
    Calls Try.prog 89 #[.string a0, .string a1] w fun e w' => e = .returned (.tuple #[.string r1, .bool r2]) ∧ Drawn0 w w' := by
  have H : ((stringslite_CutPrefix.f a0 a1).bind fun bt679 => (some (bt679.1, bt679.2))) = some (r1, r2) := h
  clear h
  replace H := Option.bind_eq_some_iff.mp H
  obtain ⟨⟨t679, t680⟩, A30, H⟩ := H
  replace H : (some (t679, t680)) = some (r1, r2) := H
  have A3 := Aside0.mk A30
  clear A30
  simp only [Option.some.injEq, Prod.mk.injEq] at H
  obtain ⟨rfl, rfl⟩ := H
  go_enter Try.func89, Try.ntmps89
  go_wp2_with (first | ((with_reducible refine gate_callee (f := 106) rfl ?_); refine goesL_ (some 8) rfl rfl Try.func106 (by kernel_rfl) rfl #[.string a0, .string a1] rfl (by (try simp only [List.map_toArray, List.map_cons, List.map_nil]); first | done | rfl | (simp only [List.length_drop, List.length_take]; rfl)) ?_; (with_reducible refine (stringslite_CutPrefix.calls a0 a1 t679 t680 _ A3.out).mono ?_); rintro e w' ⟨rfl, ⟨nd, rfl⟩⟩; refine ⟨_, rfl, ?_⟩))
  go_ret2
  exact ⟨by first | rfl | (simp; done) | (simp [*]; done), by repeat (first | exact Drawn0.refl _ | apply Drawn0.step)⟩

theorem strings_CutPrefix.bytes (t : ByteArray) : t.toList = t.data.toList := by
  have := ByteArray.toList_mk t.data.toList
  rwa [Array.toArray_toList] at this
/-- A text with a - ahead loses it. -/
theorem strings_CutPrefix.sem (s : ByteArray) : strings_CutPrefix.f s (⟨#[45]⟩ : ByteArray) = some (if 0 < s.size ∧ bt s 0 = 45 then (s.extract 1 s.size, true) else (s, false)) := by
  have h1 : ((⟨#[45]⟩ : ByteArray).size : Int) = 1 := rfl
  unfold strings_CutPrefix.f stringslite_CutPrefix.f stringslite_HasPrefix.f
  simp only [h1]
  by_cases h : 0 < s.size
  · rw [if_pos (show (s.size : Int) ≥ 1 by omega), if_pos (by omega), if_pos (show (1 : Int) ≤ (s.size : Int) by omega), Option.bind_some]
    have e : ((s.extract 0 (1 : Int).toNat).toList == (⟨#[45]⟩ : ByteArray).toList) = decide (bt s 0 = 45) := by
      have b1 : (⟨#[45]⟩ : ByteArray).toList = [45] := ByteArray.toList_mk [45]
      have hs : 0 < s.data.toList.length := by simpa using h
      obtain ⟨x, r, hx⟩ : ∃ x r, s.data.toList = x :: r := by
        cases e : s.data.toList with
        | nil => rw [e] at hs; exact absurd hs (by simp)
        | cons x r => exact ⟨x, r, rfl⟩
      have e2 : (s.extract 0 (1 : Int).toNat).toList = [x] := by
        rw [strings_CutPrefix.bytes, show (1 : Int).toNat = 1 from rfl, ByteArray.data_extract, Array.toList_extract, List.extract_eq_take_drop, hx]
        rfl
      have e3 : bt s 0 = (x.toNat : Int) := by
        unfold bt
        rw [dif_pos (show (0 : Int).toNat < s.size from h)]
        have : s[(0 : Int).toNat]'h = x := by
          have h2 : s.data.toList[0]'hs = x := by simp [hx]
          rw [← h2]
          rfl
        rw [this]
      rw [b1, e2, e3]
      by_cases hx45 : x = 45
      · subst hx45
        rfl
      · have : ¬ (x.toNat : Int) = 45 := fun e => hx45 (UInt8.toNat_inj.1 (by have h45 : (45 : UInt8).toNat = 45 := rfl; omega))
        rw [decide_eq_false this]
        simpa using hx45
    rw [e]
    by_cases hb : bt s 0 = 45
    · rw [if_pos (decide_eq_true hb), if_pos (by omega), if_pos (show (1 : Int) ≤ (s.size : Int) by omega), Option.bind_some, if_pos ⟨h, hb⟩]
      rfl
    · rw [if_neg (by rw [decide_eq_false hb]; decide), Option.bind_some, if_neg (fun e => hb e.2)]
  · rw [if_neg (by omega), Option.bind_some, if_neg (by decide), Option.bind_some, if_neg (fun e => h e.1)]

end Go.Proofs.Ytjpkljkkcbaohaa.PR

end
section
namespace Go.Proofs.Ytjpkljkkcbaohaa.PR
open Go.RowKit Go.Proofs.YtjpkljkkcbaohaaW.PrintWords Go.Proofs.YtjpkljkkcbaohaaW.PrintLast Go.Proofs.YtjpkljkkcbaohaaW.PrintMore
attribute [local go_sem] max2_int min2_int max_two min_two max_three min_three max_four min_four   -- for this text's walks alone
set_option linter.unusedVariables false
set_option linter.unusedSimpArgs false

/-! ### whole_Parse: function 40 -/
def whole_Parse.f (k : Nat) (a0 : ByteArray) : Option (Bool × List Int × Int) := (strings_CutPrefix.f a0 (⟨#[45]⟩ : ByteArray)).bind fun bt682 => ((nat_Parse.f k bt682.1).bind fun bt684 => (if bt684.2 = 0 then ((whole_Make.f k bt682.2 bt684.1).bind fun bt688 => (some (bt688.1, bt688.2, 0))) else (some (false, ([] : List Int), bt684.2))))
theorem whole_Parse.mono : ∀ a0 k, LeO (whole_Parse.f k a0) (whole_Parse.f (k + 1) a0) := by
  intro a0 k
  unfold whole_Parse.f
  repeat' first
      | (with_reducible exact nat_Parse.mono _ _)
      | (with_reducible exact whole_Make.mono _ _ _)
      | (with_reducible exact LeO.refl _)
      | (with_reducible exact LeO.none _)
      | (with_reducible refine LeO.ite ?_ ?_)
      | (with_reducible refine LeO.bind ?_ (fun _ => ?_))
      | exact nat_Parse.mono _ _
      | exact whole_Make.mono _ _ _
      | exact LeO.none _
      | refine LeO.ite ?_ ?_
      | refine LeO.bind ?_ (fun _ => ?_)
set_option maxHeartbeats 8000000 in
set_option maxRecDepth 100000 in
theorem whole_Parse.calls (k : Nat) (a0 : ByteArray) (r1 : Bool) (r2 : List Int) (r3 : Int) (w : World) (h : whole_Parse.f k a0 = some (r1, r2, r3)) :
    Calls Try.prog 40 #[.string a0] w fun e w' => ∃ v1_ : Value, e = .returned (.tuple #[.agg #[.bool r1, v1_], .int .i64 r3]) ∧ Kd.R (Kd.int .u32) 37 w' w.heap.size (fun _ => True) v1_ r2 ∧ Below w.heap.size w w' := by
  have hu25 := Try.underlying25
  have HB := Aside0.mk (Below.refl w.heap.size w)
  have H : ((strings_CutPrefix.f a0 (⟨#[45]⟩ : ByteArray)).bind fun bt682 => ((nat_Parse.f k bt682.1).bind fun bt684 => (if bt684.2 = 0 then ((whole_Make.f k bt682.2 bt684.1).bind fun bt688 => (some (bt688.1, bt688.2, 0))) else (some (false, ([] : List Int), bt684.2))))) = some (r1, r2, r3) := h
  clear h
  replace H := Option.bind_eq_some_iff.mp H
  obtain ⟨⟨t682, t683⟩, A20, H⟩ := H
  replace H : ((nat_Parse.f k t682).bind fun bt684 => (if bt684.2 = 0 then ((whole_Make.f k t683 bt684.1).bind fun bt688 => (some (bt688.1, bt688.2, 0))) else (some (false, ([] : List Int), bt684.2)))) = some (r1, r2, r3) := H
  have A2 := Aside0.mk A20
  clear A20
  replace H := Option.bind_eq_some_iff.mp H
  obtain ⟨⟨t684, t685⟩, A30, H⟩ := H
  replace H : (if t685 = 0 then ((whole_Make.f k t683 t684).bind fun bt688 => (some (bt688.1, bt688.2, 0))) else (some (false, ([] : List Int), t685))) = some (r1, r2, r3) := H
  have A3 := Aside0.mk A30
  clear A30
  by_cases c4 : t685 = 0
  · rw [if_pos c4] at H
    have c4b0 : (t685 == 0) = true := beq_iff_eq.mpr c4
    have c4b1 : (t685 != 0) = false := bne_eq_false_iff_eq.mpr c4
    clear c4
    replace H := Option.bind_eq_some_iff.mp H
    obtain ⟨⟨t688, t689⟩, A50, H⟩ := H
    replace H : (some (t688, t689, 0)) = some (r1, r2, r3) := H
    have A5 := Aside0.mk A50
    clear A50
    simp only [Option.some.injEq, Prod.mk.injEq] at H
    obtain ⟨rfl, rfl, rfl⟩ := H
    go_enter Try.func40, Try.ntmps40
    go_wp2_with (first | ((with_reducible refine gate_dst (N := 2) rfl ?_); refine box_event ?hg (N := 2) ?hd (cs := #[.bool false, .slice none 0 0]) (t := 25) ?hr ?_; (case hd => rfl); (case hg => rfl); (case hr => first | (go_simp; done) | (go_simp; rfl)); intro gb681 hg w6 hbox hb; have n0_ := Aside0.mk (below_step (by repeat (first | (with_reducible first | exact HB.out | apply below_alloc | apply pw_below_drewN | apply below_drew1) | exact HB.out)) hb); have n1_ := Aside0.mk (hbox); have n2_ := Aside0.mk ((by rw [hg]; exact (below_size (by repeat (first | (with_reducible first | exact HB.out | apply below_alloc | apply pw_below_drewN | apply below_drew1) | exact HB.out))) : w.heap.size ≤ gb681)); have n3_ := Aside0.mk ((by rw [hg]; exact (below_size (by repeat (first | (with_reducible first | exact HB.out | apply below_alloc | apply pw_below_drewN | apply below_drew1) | exact HB.out))) : w.heap.size ≤ gb681)); clear HB; have HB := n0_; have BK681 := n1_; have GW681 := n2_; have GE681 := n3_; clear n0_ n1_ n2_ n3_; clear hb hbox hg) | ((with_reducible refine gate_callee (f := 89) rfl ?_); refine goesL_ (some 10) rfl rfl Try.func89 (by kernel_rfl) rfl #[.string a0, .string (⟨#[45]⟩ : ByteArray)] rfl (by (try simp only [List.map_toArray, List.map_cons, List.map_nil]); first | done | rfl | (simp only [List.length_drop, List.length_take]; rfl)) ?_; (with_reducible refine (strings_CutPrefix.calls a0 (⟨#[45]⟩ : ByteArray) t682 t683 _ A2.out).mono ?_); rintro e w' ⟨rfl, ⟨nd, rfl⟩⟩; refine ⟨_, rfl, ?_⟩; (try (rw [drewN_self w6]; generalize hq_ : World.drewN w6 _ = w6; have n0_ : Aside0 (w6.heap[gb681]? = some (.cells #[.bool false, .slice none 0 0] 25 (0, 0))) := ⟨by rw [← hq_]; exact (by (with_reducible repeat (first | refine blk_drewN ?_ _ | refine blk_drew ?_ | refine blk_alloc ?_ _)); exact BK681.out)⟩; have n1_ : Aside0 (Below w.heap.size w w6) := ⟨by rw [← hq_]; exact (by repeat (first | (with_reducible first | exact HB.out | apply below_alloc | apply pw_below_drewN | apply below_drew1 | refine below_set ?_ GE681.out) | exact HB.out))⟩; clear BK681 HB hq_; have BK681 := n0_; have HB := n1_; clear n0_ n1_))) | ((with_reducible refine gate_callee (f := 41) rfl ?_); refine goesL_ (some 15) rfl rfl Try.func41 (by kernel_rfl) rfl #[.string t682] rfl (by (try simp only [List.map_toArray, List.map_cons, List.map_nil]); first | done | rfl | (simp only [List.length_drop, List.length_take]; rfl)) ?_; (with_reducible refine (nat_Parse.calls k t682 t684 t685 _ A3.out).mono ?_); rintro e w7 ⟨v686, rfl, ho0, hb⟩; refine ⟨_, rfl, ?_⟩; have n0_ := Aside0.mk (Kd.R_lower ho0 (below_size (by repeat (first | (with_reducible first | exact HB.out | apply below_alloc | apply pw_below_drewN | apply below_drew1 | refine below_set ?_ GE681.out) | exact HB.out)))); have n1_ := Aside0.mk (blk_below (g := gb681) (o := .cells #[.bool false, .slice none 0 0] 25 (0, 0)) (by (with_reducible repeat (first | refine blk_drewN ?_ _ | refine blk_drew ?_ | refine blk_alloc ?_ _)); exact BK681.out) hb); have n2_ := Aside0.mk (below_step (by repeat (first | (with_reducible first | exact HB.out | apply below_alloc | apply pw_below_drewN | apply below_drew1 | refine below_set ?_ GE681.out) | exact HB.out)) hb); clear BK681; clear HB; have HO687 := n0_; have BK681 := n1_; have HB := n2_; clear n0_ n1_ n2_; (try clear hb); (try clear ho0); obtain ⟨Ao8, co8, eo8⟩ := Kd.R_slice HO687.out; subst eo8) | ((with_reducible refine gate_callee (f := 33) rfl ?_); refine goesL_ (some 24) rfl rfl Try.func33 (by kernel_rfl) rfl #[.bool t683, .slice Ao8 t684.length co8] rfl (by (try simp only [List.map_toArray, List.map_cons, List.map_nil]); first | done | rfl | (simp only [List.length_drop, List.length_take]; rfl)) ?_; (with_reducible refine (whole_Make.calls k t683 _ _ t684 t688 t689 _ ?side1 ?side2 A5.out).mono ?_); (case side1 => repeat (first | exact (Kd.R_reads' HO687.out).2.2 | (with_reducible refine Kd.C_alloc ?_ _) | (with_reducible refine Kd.C_drewN ?_ _) | (with_reducible refine Kd.C_drew ?_))); (case side2 => exact (Kd.R_reads' HO687.out).2.1); rintro e w9 ⟨v690, rfl, ho0, hb⟩; refine ⟨_, rfl, ?_⟩; have n0_ := Aside0.mk (Kd.R_elder' (by (with_reducible repeat (first | apply Kd.R_alloc | apply Kd.R_drewN | apply Kd.R_drew)); exact HO687.out) (Kd.R_base ho0) hb); have n1_ := Aside0.mk (Kd.R_lower (Kd.R_new' ho0 (Kd.R_lt (by (with_reducible repeat (first | apply Kd.R_alloc | apply Kd.R_drewN | apply Kd.R_drew)); exact HO687.out))) (below_size (by repeat (first | (with_reducible first | exact HB.out | apply below_alloc | apply pw_below_drewN | apply below_drew1 | refine below_set ?_ GE681.out) | exact HB.out)))); have n2_ := Aside0.mk (blk_below (g := gb681) (o := .cells #[.bool false, .slice none 0 0] 25 (0, 0)) (by (with_reducible repeat (first | refine blk_drewN ?_ _ | refine blk_drew ?_ | refine blk_alloc ?_ _)); exact BK681.out) hb); have n3_ := Aside0.mk (below_step (by repeat (first | (with_reducible first | exact HB.out | apply below_alloc | apply pw_below_drewN | apply below_drew1 | refine below_set ?_ GE681.out) | exact HB.out)) hb); clear HO687; clear BK681; clear HB; have HO687 := n0_; have HO691 := n1_; have BK681 := n2_; have HB := n3_; clear n0_ n1_ n2_ n3_; (try clear hb); (try clear ho0); have hcz10_0 : w9.cell? ⟨gb681, 0, none⟩ = some (.bool false) := (blk_cell BK681.out 0).trans rfl; have hcz10_1 : w9.cell? ⟨gb681, 1, none⟩ = some (.slice none 0 0) := (blk_cell BK681.out 1).trans rfl; have hfz10_0 := blk_frozen BK681.out 0; have hfz10_1 := blk_frozen BK681.out 1; obtain ⟨Ao11, co11, eo11⟩ := Kd.R_slice HO691.out; subst eo11))
    refine bodyPost_ret (results_ct rfl _ _ gb681 25 #[.bool t688, .slice Ao11 t689.length co11] (0, 0) _ rfl (by (with_reducible repeat (first | refine blk_drewN ?_ _ | refine blk_drew ?_ | refine blk_alloc ?_ _)); refine blk_put (cs := #[.bool t688, .slice none 0 0]) ?_ 1 _ rfl; (with_reducible repeat (first | refine blk_drewN ?_ _ | refine blk_drew ?_ | refine blk_alloc ?_ _)); refine blk_put (cs := #[.bool false, .slice none 0 0]) ?_ 0 _ rfl; (with_reducible repeat (first | refine blk_drewN ?_ _ | refine blk_drew ?_ | refine blk_alloc ?_ _)); exact BK681.out) Try.underlying25 rfl (by kernel_rfl)) rfl ?_
    exact ⟨_, by first | rfl | (simp [errW_none, errW_some] <;> rfl) | (simp [*, errW_none, errW_some] <;> rfl), by (with_reducible repeat (first | apply Kd.R_alloc | apply Kd.R_drewN | apply Kd.R_drew)); exact Kd.R_mono (Kd.R_far (p := ⟨gb681, 1, none⟩) (Kd.R_far (p := ⟨gb681, 0, none⟩) (Kd.R_types HO691.out BK681.out (by decide)) (fun _ hk => hk.2) (.bool t688)) (fun _ hk => hk.2) (.slice Ao11 t689.length co11)) (fun _ hk => trivial), by repeat (first | (with_reducible first | exact HB.out | apply below_alloc | apply pw_below_drewN | apply below_drew1 | refine below_set ?_ GE681.out) | exact HB.out)⟩
  · rw [if_neg c4] at H
    have c4b0 : (t685 == 0) = false := beq_eq_false_iff_ne.mpr c4
    have c4b1 : (t685 != 0) = true := bne_iff_ne.mpr c4
    simp only [Option.some.injEq, Prod.mk.injEq] at H
    obtain ⟨rfl, rfl, rfl⟩ := H
    go_enter Try.func40, Try.ntmps40
    go_wp2_with (first | ((with_reducible refine gate_dst (N := 2) rfl ?_); refine box_event ?hg (N := 2) ?hd (cs := #[.bool false, .slice none 0 0]) (t := 25) ?hr ?_; (case hd => rfl); (case hg => rfl); (case hr => first | (go_simp; done) | (go_simp; rfl)); intro gb681 hg w12 hbox hb; have n0_ := Aside0.mk (below_step (by repeat (first | (with_reducible first | exact HB.out | apply below_alloc | apply pw_below_drewN | apply below_drew1) | exact HB.out)) hb); have n1_ := Aside0.mk (hbox); have n2_ := Aside0.mk ((by rw [hg]; exact (below_size (by repeat (first | (with_reducible first | exact HB.out | apply below_alloc | apply pw_below_drewN | apply below_drew1) | exact HB.out))) : w.heap.size ≤ gb681)); have n3_ := Aside0.mk ((by rw [hg]; exact (below_size (by repeat (first | (with_reducible first | exact HB.out | apply below_alloc | apply pw_below_drewN | apply below_drew1) | exact HB.out))) : w.heap.size ≤ gb681)); clear HB; have HB := n0_; have BK681 := n1_; have GW681 := n2_; have GE681 := n3_; clear n0_ n1_ n2_ n3_; clear hb hbox hg) | ((with_reducible refine gate_callee (f := 89) rfl ?_); refine goesL_ (some 10) rfl rfl Try.func89 (by kernel_rfl) rfl #[.string a0, .string (⟨#[45]⟩ : ByteArray)] rfl (by (try simp only [List.map_toArray, List.map_cons, List.map_nil]); first | done | rfl | (simp only [List.length_drop, List.length_take]; rfl)) ?_; (with_reducible refine (strings_CutPrefix.calls a0 (⟨#[45]⟩ : ByteArray) t682 t683 _ A2.out).mono ?_); rintro e w' ⟨rfl, ⟨nd, rfl⟩⟩; refine ⟨_, rfl, ?_⟩; (try (rw [drewN_self w12]; generalize hq_ : World.drewN w12 _ = w12; have n0_ : Aside0 (w12.heap[gb681]? = some (.cells #[.bool false, .slice none 0 0] 25 (0, 0))) := ⟨by rw [← hq_]; exact (by (with_reducible repeat (first | refine blk_drewN ?_ _ | refine blk_drew ?_ | refine blk_alloc ?_ _)); exact BK681.out)⟩; have n1_ : Aside0 (Below w.heap.size w w12) := ⟨by rw [← hq_]; exact (by repeat (first | (with_reducible first | exact HB.out | apply below_alloc | apply pw_below_drewN | apply below_drew1 | refine below_set ?_ GE681.out) | exact HB.out))⟩; clear BK681 HB hq_; have BK681 := n0_; have HB := n1_; clear n0_ n1_))) | ((with_reducible refine gate_callee (f := 41) rfl ?_); refine goesL_ (some 15) rfl rfl Try.func41 (by kernel_rfl) rfl #[.string t682] rfl (by (try simp only [List.map_toArray, List.map_cons, List.map_nil]); first | done | rfl | (simp only [List.length_drop, List.length_take]; rfl)) ?_; (with_reducible refine (nat_Parse.calls k t682 t684 t685 _ A3.out).mono ?_); rintro e w13 ⟨v686, rfl, ho0, hb⟩; refine ⟨_, rfl, ?_⟩; have n0_ := Aside0.mk (Kd.R_lower ho0 (below_size (by repeat (first | (with_reducible first | exact HB.out | apply below_alloc | apply pw_below_drewN | apply below_drew1 | refine below_set ?_ GE681.out) | exact HB.out)))); have n1_ := Aside0.mk (blk_below (g := gb681) (o := .cells #[.bool false, .slice none 0 0] 25 (0, 0)) (by (with_reducible repeat (first | refine blk_drewN ?_ _ | refine blk_drew ?_ | refine blk_alloc ?_ _)); exact BK681.out) hb); have n2_ := Aside0.mk (below_step (by repeat (first | (with_reducible first | exact HB.out | apply below_alloc | apply pw_below_drewN | apply below_drew1 | refine below_set ?_ GE681.out) | exact HB.out)) hb); clear BK681; clear HB; have HO687 := n0_; have BK681 := n1_; have HB := n2_; clear n0_ n1_ n2_; (try clear hb); (try clear ho0); have hcz14_0 : w13.cell? ⟨gb681, 0, none⟩ = some (.bool false) := (blk_cell BK681.out 0).trans rfl; have hcz14_1 : w13.cell? ⟨gb681, 1, none⟩ = some (.slice none 0 0) := (blk_cell BK681.out 1).trans rfl; have hfz14_0 := blk_frozen BK681.out 0; have hfz14_1 := blk_frozen BK681.out 1))
    refine bodyPost_ret (results_ct rfl _ _ gb681 25 #[.bool false, .slice none 0 0] (0, 0) _ rfl (by (with_reducible repeat (first | refine blk_drewN ?_ _ | refine blk_drew ?_ | refine blk_alloc ?_ _)); refine blk_put (cs := #[.bool false, .slice none 0 0]) ?_ 1 _ rfl; (with_reducible repeat (first | refine blk_drewN ?_ _ | refine blk_drew ?_ | refine blk_alloc ?_ _)); refine blk_put (cs := #[.bool false, .slice none 0 0]) ?_ 0 _ rfl; (with_reducible repeat (first | refine blk_drewN ?_ _ | refine blk_drew ?_ | refine blk_alloc ?_ _)); exact BK681.out) Try.underlying25 rfl (by kernel_rfl)) rfl ?_
    exact ⟨_, by first | rfl | (simp [errW_none, errW_some] <;> rfl) | (simp [*, errW_none, errW_some] <;> rfl), by first | exact Kd.R_nil _ _ _ _ _ | exact Kd.N_nil _ _ _ _ _ | exact Kd.V_nil _ _ _ _ _ | exact Kd.Q_nil _ _ _ _ _ | exact Kd.S_nil _ _ _ _ _, by repeat (first | (with_reducible first | exact HB.out | apply below_alloc | apply pw_below_drewN | apply below_drew1 | refine below_set ?_ GE681.out) | exact HB.out)⟩

/-- What is read, by what layer 1 reads of the text without its sign. -/
theorem whole_Parse.ev0 {s s' : ByteArray} {m : Bool} (hc : (if 0 < s.size ∧ bt s 0 = 45 then (s.extract 1 s.size, true) else (s, false)) = (s', m)) {n K : Nat} (hn : n < 2 ^ (32 * K)) (hK : K < 1000000) (P : Ev (fun k => nat_Parse.f k s') (Num.nd n, 0)) :
    Ev (fun k => whole_Parse.f k s) ((Zn.zd (Zn.zv m n)).1, (Zn.zd (Zn.zv m n)).2, 0) := by
  have C := strings_CutPrefix.sem s
  rw [hc] at C
  unfold whole_Parse.f
  exact Dec.val (fun _ => C) (Ev.bind P (Dec.yes rfl (Ev.bind (whole_Make.ev (Zn.Is.nd hn) hK) (Ev.now _))))
theorem whole_Parse.ev1 {s s' : ByteArray} {m : Bool} (hc : (if 0 < s.size ∧ bt s 0 = 45 then (s.extract 1 s.size, true) else (s, false)) = (s', m)) {l : List Int} {e : Int} (he : e ≠ 0) (P : Ev (fun k => nat_Parse.f k s') (l, e)) :
    Ev (fun k => whole_Parse.f k s) (false, [], e) := by
  have C := strings_CutPrefix.sem s
  rw [hc] at C
  unfold whole_Parse.f
  exact Dec.val (fun _ => C) (Ev.bind P (Dec.no he (Ev.now _)))
/-- Whatever a text is: its digits' number, or why there is none. -/
theorem whole_Parse.upto_ (s : ByteArray) (n : Nat) (hn : n ≤ s.size) : (∃ p, p < n ∧ (∀ i, i < p → ∃ d, d < 10 ∧ bt s (i : Int) = ((48 + d : Nat) : Int)) ∧ ¬ (48 ≤ bt s (p : Int) ∧ bt s (p : Int) ≤ 57)) ∨ (∀ i, i < n → ∃ d, d < 10 ∧ bt s (i : Int) = ((48 + d : Nat) : Int)) := by
  induction n with
  | zero => exact .inr (fun i h => absurd h (by omega))
  | succ n ih =>
    rcases ih (by omega) with ⟨p, hp, h1, h2⟩ | h
    · exact .inl ⟨p, by omega, h1, h2⟩
    · by_cases hb : 48 ≤ bt s (n : Int) ∧ bt s (n : Int) ≤ 57
      · refine .inr (fun i hi => ?_)
        by_cases e : i = n
        · subst e
          exact ⟨(bt s (i : Int) - 48).toNat, by omega, by omega⟩
        · exact h i (by omega)
      · exact .inl ⟨n, by omega, h, hb⟩
theorem whole_Parse.digits {s : ByteArray} (h : ∀ i, i < s.size → ∃ d, d < 10 ∧ bt s (i : Int) = ((48 + d : Nat) : Int)) : ∃ l, Dec.Ds l ∧ s = Dec.tx l := by
  have key : ∀ b ∈ s.data.toList, ∃ d, d < 10 ∧ b.toNat = 48 + d := by
    intro b hb
    obtain ⟨i, hi, e⟩ := List.mem_iff_getElem.1 hb
    have hi' : i < s.size := by simpa using hi
    obtain ⟨d, hd, h1⟩ := h i hi'
    refine ⟨d, hd, ?_⟩
    unfold bt at h1
    rw [Int.toNat_natCast, dif_pos hi'] at h1
    have e2 : s[i]'hi' = b := by rw [← e]; rfl
    rw [e2] at h1
    omega
  refine ⟨(s.data.toList.map (fun b => b.toNat - 48)).reverse, ?_, ?_⟩
  · intro x hx
    obtain ⟨b, hb, rfl⟩ := List.mem_map.1 (List.mem_reverse.1 hx)
    obtain ⟨d, hd, e⟩ := key b hb
    omega
  · unfold Dec.tx
    rw [List.reverse_reverse, List.map_map]
    apply ByteArray.ext
    show s.data = (List.map (Dec.ch ∘ fun b => b.toNat - 48) s.data.toList).toArray
    have : List.map (Dec.ch ∘ fun b : UInt8 => b.toNat - 48) s.data.toList = s.data.toList := by
      refine (List.map_congr_left (fun b hb => ?_)).trans (List.map_id _)
      obtain ⟨d, hd, e⟩ := key b hb
      apply UInt8.toNat_inj.1
      show (Dec.ch (b.toNat - 48)).toNat = b.toNat
      rw [Dec.ch_nat (by omega)]
      omega
    rw [this]
theorem whole_Parse.any_ {s : ByteArray} (hs : s.size ≤ 500) : (∃ n K, K ≤ 500 ∧ n < 2 ^ (32 * K) ∧ Ev (fun k => nat_Parse.f k s) (Num.nd n, 0)) ∨ (∃ l e, e ≠ 0 ∧ Ev (fun k => nat_Parse.f k s) (l, e)) := by
  rcases whole_Parse.upto_ s s.size (Nat.le_refl _) with ⟨p, hp, hd, hb⟩ | hd
  · exact .inr ⟨[], 2, by decide, nat_Parse.ev_bad (by omega) hp hd hb⟩
  · obtain ⟨l, hl, rfl⟩ := whole_Parse.digits hd
    rw [Dec.tx_size] at hs
    have P := nat_Parse.ev_dig hl (by omega)
    by_cases h0 : l.length = 0
    · rw [if_pos h0] at P
      exact .inr ⟨[], 2, by decide, P⟩
    · rw [if_neg h0] at P
      by_cases h4 : 400 < l.length
      · rw [if_pos h4] at P
        exact .inr ⟨[], 4, by decide, P⟩
      · rw [if_neg h4] at P
        refine .inl ⟨_, l.length, hs, ?_, P⟩
        refine Nat.lt_of_lt_of_le (Dec.dv_lt hl) ?_
        rw [Nat.pow_mul]
        exact Nat.pow_le_pow_left (by decide) l.length
/-- A number's own text. -/
theorem whole_Parse.cut_tz (z : Int) : (if 0 < (Zn.tz z).size ∧ bt (Zn.tz z) 0 = 45 then ((Zn.tz z).extract 1 (Zn.tz z).size, true) else (Zn.tz z, false)) = (Dec.dec z.natAbs, decide (z < 0)) := by
  by_cases h : z < 0
  · rw [if_pos ⟨Zn.tz_size_pos z, (Zn.tz_head z).2 h⟩, Zn.tz_neg h, Zn.minus_tail, decide_eq_true h]
  · rw [if_neg (fun e => h ((Zn.tz_head z).1 e.2)), Zn.tz_pos h, decide_eq_false h]
theorem whole_Parse.ev_tz {z : Int} {K : Nat} (h : z.natAbs < 2 ^ (32 * K)) (hK1 : 1 ≤ K) (hK : K ≤ 40) : Ev (fun k => whole_Parse.f k (Zn.tz z)) ((Zn.zd z).1, (Zn.zd z).2, 0) := by
  have la := Dec.dc_len32 hK1 h
  have p0 := Dec.dc_pos z.natAbs
  have P0 := nat_Parse.ev_dig (Dec.Ds_dc z.natAbs) (by omega)
  rw [if_neg (by omega), if_neg (by omega), Dec.dv_dc] at P0
  have := whole_Parse.ev0 (whole_Parse.cut_tz z) h (by omega) P0
  rwa [Zn.zv_self] at this

end Go.Proofs.Ytjpkljkkcbaohaa.PR

end
