-- PRINTED by print.py (a twelfth state) out of the translation. Not trusted: Lean checks it.
import Derived.Test.YtmodmjeibbgdgaaPRg0
import Derived.Test.YtmodmjeibbgdgaaPRx11
import Derived.Test.YtmodmjeibbgdgaaPRg16
import Derived.Test.YtmodmjeibbgdgaaPRx20
import Derived.Test.YtmodmjeibbgdgaaPRg21
import Derived.Test.YtmodmjeibbgdgaaPRg26
import Derived.Test.YtmodmjeibbgdgaaPRx36
import Derived.Test.YtmodmjeibbgdgaaPRx37
namespace Go.Proofs.Ytmodmjeibbgdgaa.PR
open Go.RowKit Go.Proofs.YtmodmjeibbgdgaaW.PrintWords Go.Proofs.YtmodmjeibbgdgaaW.PrintLast Go.Proofs.YtmodmjeibbgdgaaW.PrintMore
attribute [local go_sem] max2_int min2_int max_two min_two max_three min_three max_four min_four   -- for this text's walks alone
set_option linter.unusedVariables false
set_option linter.unusedSimpArgs false

/-! ### offcutlaw01_NatSums: function 7 -/
mutual
def offcutlaw01_NatSums.j0 : Nat → List Int → List Int → Bool → Option (Bool)
  | 0, _, _, _ => none
  | k + 1, x0, x1, x16 => if x16 = true then ((offcutlaw01_awake.f k).bind fun t364 => (some t364)) else ((offcutref01_Of.f k x0).bind fun t365 => ((offcutref01_Of.f k x1).bind fun t366 => ((nat_Sub.f k x0 x1).bind fun bt367 => ((nat_Add.f k x0 x1).bind fun t371 => ((offcutref01_Add.f k t365 t366).bind fun t374 => ((offcutlaw01_is.f k t371 t374).bind fun t375 => (if t375 = true then ((nat_Mul.f k x0 x1).bind fun t376 => ((offcutref01_Mul.f k t365 t366).bind fun t379 => ((offcutlaw01_is.f k t376 t379).bind fun t380 => (if t380 = true then ((offcutref01_Less.f t365 t366).bind fun t381 => (offcutlaw01_NatSums.j1 k x0 x1 t365 t366 bt367.1 bt367.2 (bt367.2 == t381))) else (offcutlaw01_NatSums.j1 k x0 x1 t365 t366 bt367.1 bt367.2 true))))) else (offcutlaw01_NatSums.j1 k x0 x1 t365 t366 bt367.1 bt367.2 true))))))))
def offcutlaw01_NatSums.j1 : Nat → List Int → List Int → ByteArray → ByteArray → List Int → Bool → Bool → Option (Bool)
  | 0, _, _, _, _, _, _, _ => none
  | k + 1, x0, x1, x5, x6, x7, x8, x52 => if x52 = true then (some false) else (if x8 = true then ((offcutref01_Sub.f k x5 x6).bind fun t382 => ((offcutlaw01_is.f k x7 t382).bind fun t383 => (if t383 = true then (offcutlaw01_NatSums.j2 k x0 x1 x5 x6 false) else (offcutlaw01_NatSums.j2 k x0 x1 x5 x6 true)))) else (offcutlaw01_NatSums.j2 k x0 x1 x5 x6 (decide ((x7.length : Int) > 0))))
def offcutlaw01_NatSums.j2 : Nat → List Int → List Int → ByteArray → ByteArray → Bool → Option (Bool)
  | 0, _, _, _, _, _ => none
  | k + 1, x0, x1, x5, x6, x70 => if x70 = true then (some false) else ((offcutref01_Of.f k x0).bind fun t384 => (if t384.toList = x5.toList then ((offcutref01_Of.f k x1).bind fun t385 => (if t385.toList = x6.toList then ((offcutlaw01_awake.f k).bind fun t386 => (some t386)) else (some false))) else (some false)))
end
def offcutlaw01_NatSums.f (k : Nat) (l0 : List Int) (l1 : List Int) : Option (Bool) := (offcutlaw01_few.f l0).bind fun t362 => (if t362 = true then ((offcutlaw01_few.f l1).bind fun t363 => (offcutlaw01_NatSums.j0 k l0 l1 (!t363))) else (offcutlaw01_NatSums.j0 k l0 l1 true))
theorem offcutlaw01_NatSums.mono_l : ∀ k, (∀ y0 y1 y2, LeO (offcutlaw01_NatSums.j0 k y0 y1 y2) (offcutlaw01_NatSums.j0 (k + 1) y0 y1 y2)) ∧ (∀ y0 y1 y2 y3 y4 y5 y6, LeO (offcutlaw01_NatSums.j1 k y0 y1 y2 y3 y4 y5 y6) (offcutlaw01_NatSums.j1 (k + 1) y0 y1 y2 y3 y4 y5 y6)) ∧ (∀ y0 y1 y2 y3 y4, LeO (offcutlaw01_NatSums.j2 k y0 y1 y2 y3 y4) (offcutlaw01_NatSums.j2 (k + 1) y0 y1 y2 y3 y4))
  | 0 => ⟨fun _ _ _ r h => by simp [offcutlaw01_NatSums.j0] at h, fun _ _ _ _ _ _ _ r h => by simp [offcutlaw01_NatSums.j1] at h, fun _ _ _ _ _ r h => by simp [offcutlaw01_NatSums.j2] at h⟩
  | k + 1 => by
    obtain ⟨ih0, ih1, ih2⟩ := offcutlaw01_NatSums.mono_l k
    refine ⟨?_, ?_, ?_⟩
    · intro y0 y1 y2
      unfold offcutlaw01_NatSums.j0
      repeat' first
      | (with_reducible exact ih0 _ _ _)
      | (with_reducible exact ih1 _ _ _ _ _ _ _)
      | (with_reducible exact ih2 _ _ _ _ _)
      | (with_reducible exact nat_Add.mono _ _ _)
      | (with_reducible exact nat_Mul.mono _ _ _)
      | (with_reducible exact nat_Sub.mono _ _ _)
      | (with_reducible exact offcutlaw01_awake.mono _)
      | (with_reducible exact offcutlaw01_is.mono _ _ _)
      | (with_reducible exact offcutref01_Add.mono _ _ _)
      | (with_reducible exact offcutref01_Mul.mono _ _ _)
      | (with_reducible exact offcutref01_Of.mono _ _)
      | (with_reducible exact offcutref01_Sub.mono _ _ _)
      | (with_reducible exact LeO.refl _)
      | (with_reducible exact LeO.none _)
      | (with_reducible refine LeO.ite ?_ ?_)
      | (with_reducible refine LeO.bind ?_ (fun _ => ?_))
      | exact ih0 _ _ _
      | exact ih1 _ _ _ _ _ _ _
      | exact ih2 _ _ _ _ _
      | exact nat_Add.mono _ _ _
      | exact nat_Mul.mono _ _ _
      | exact nat_Sub.mono _ _ _
      | exact offcutlaw01_awake.mono _
      | exact offcutlaw01_is.mono _ _ _
      | exact offcutref01_Add.mono _ _ _
      | exact offcutref01_Mul.mono _ _ _
      | exact offcutref01_Of.mono _ _
      | exact offcutref01_Sub.mono _ _ _
      | exact LeO.none _
      | refine LeO.ite ?_ ?_
      | refine LeO.bind ?_ (fun _ => ?_)
    · intro y0 y1 y2 y3 y4 y5 y6
      unfold offcutlaw01_NatSums.j1
      repeat' first
      | (with_reducible exact ih0 _ _ _)
      | (with_reducible exact ih1 _ _ _ _ _ _ _)
      | (with_reducible exact ih2 _ _ _ _ _)
      | (with_reducible exact nat_Add.mono _ _ _)
      | (with_reducible exact nat_Mul.mono _ _ _)
      | (with_reducible exact nat_Sub.mono _ _ _)
      | (with_reducible exact offcutlaw01_awake.mono _)
      | (with_reducible exact offcutlaw01_is.mono _ _ _)
      | (with_reducible exact offcutref01_Add.mono _ _ _)
      | (with_reducible exact offcutref01_Mul.mono _ _ _)
      | (with_reducible exact offcutref01_Of.mono _ _)
      | (with_reducible exact offcutref01_Sub.mono _ _ _)
      | (with_reducible exact LeO.refl _)
      | (with_reducible exact LeO.none _)
      | (with_reducible refine LeO.ite ?_ ?_)
      | (with_reducible refine LeO.bind ?_ (fun _ => ?_))
      | exact ih0 _ _ _
      | exact ih1 _ _ _ _ _ _ _
      | exact ih2 _ _ _ _ _
      | exact nat_Add.mono _ _ _
      | exact nat_Mul.mono _ _ _
      | exact nat_Sub.mono _ _ _
      | exact offcutlaw01_awake.mono _
      | exact offcutlaw01_is.mono _ _ _
      | exact offcutref01_Add.mono _ _ _
      | exact offcutref01_Mul.mono _ _ _
      | exact offcutref01_Of.mono _ _
      | exact offcutref01_Sub.mono _ _ _
      | exact LeO.none _
      | refine LeO.ite ?_ ?_
      | refine LeO.bind ?_ (fun _ => ?_)
    · intro y0 y1 y2 y3 y4
      unfold offcutlaw01_NatSums.j2
      repeat' first
      | (with_reducible exact ih0 _ _ _)
      | (with_reducible exact ih1 _ _ _ _ _ _ _)
      | (with_reducible exact ih2 _ _ _ _ _)
      | (with_reducible exact nat_Add.mono _ _ _)
      | (with_reducible exact nat_Mul.mono _ _ _)
      | (with_reducible exact nat_Sub.mono _ _ _)
      | (with_reducible exact offcutlaw01_awake.mono _)
      | (with_reducible exact offcutlaw01_is.mono _ _ _)
      | (with_reducible exact offcutref01_Add.mono _ _ _)
      | (with_reducible exact offcutref01_Mul.mono _ _ _)
      | (with_reducible exact offcutref01_Of.mono _ _)
      | (with_reducible exact offcutref01_Sub.mono _ _ _)
      | (with_reducible exact LeO.refl _)
      | (with_reducible exact LeO.none _)
      | (with_reducible refine LeO.ite ?_ ?_)
      | (with_reducible refine LeO.bind ?_ (fun _ => ?_))
      | exact ih0 _ _ _
      | exact ih1 _ _ _ _ _ _ _
      | exact ih2 _ _ _ _ _
      | exact nat_Add.mono _ _ _
      | exact nat_Mul.mono _ _ _
      | exact nat_Sub.mono _ _ _
      | exact offcutlaw01_awake.mono _
      | exact offcutlaw01_is.mono _ _ _
      | exact offcutref01_Add.mono _ _ _
      | exact offcutref01_Mul.mono _ _ _
      | exact offcutref01_Of.mono _ _
      | exact offcutref01_Sub.mono _ _ _
      | exact LeO.none _
      | refine LeO.ite ?_ ?_
      | refine LeO.bind ?_ (fun _ => ?_)
theorem offcutlaw01_NatSums.mono : ∀ a0 a1 k, LeO (offcutlaw01_NatSums.f k a0 a1) (offcutlaw01_NatSums.f (k + 1) a0 a1) := by
  intro a0 a1 k
  obtain ⟨ih0, ih1, ih2⟩ := offcutlaw01_NatSums.mono_l k
  unfold offcutlaw01_NatSums.f
  repeat' first
      | (with_reducible exact ih0 _ _ _)
      | (with_reducible exact ih1 _ _ _ _ _ _ _)
      | (with_reducible exact ih2 _ _ _ _ _)
      | (with_reducible exact nat_Add.mono _ _ _)
      | (with_reducible exact nat_Mul.mono _ _ _)
      | (with_reducible exact nat_Sub.mono _ _ _)
      | (with_reducible exact offcutlaw01_awake.mono _)
      | (with_reducible exact offcutlaw01_is.mono _ _ _)
      | (with_reducible exact offcutref01_Add.mono _ _ _)
      | (with_reducible exact offcutref01_Mul.mono _ _ _)
      | (with_reducible exact offcutref01_Of.mono _ _)
      | (with_reducible exact offcutref01_Sub.mono _ _ _)
      | (with_reducible exact LeO.refl _)
      | (with_reducible exact LeO.none _)
      | (with_reducible refine LeO.ite ?_ ?_)
      | (with_reducible refine LeO.bind ?_ (fun _ => ?_))
      | exact ih0 _ _ _
      | exact ih1 _ _ _ _ _ _ _
      | exact ih2 _ _ _ _ _
      | exact nat_Add.mono _ _ _
      | exact nat_Mul.mono _ _ _
      | exact nat_Sub.mono _ _ _
      | exact offcutlaw01_awake.mono _
      | exact offcutlaw01_is.mono _ _ _
      | exact offcutref01_Add.mono _ _ _
      | exact offcutref01_Mul.mono _ _ _
      | exact offcutref01_Of.mono _ _
      | exact offcutref01_Sub.mono _ _ _
      | exact LeO.none _
      | refine LeO.ite ?_ ?_
      | refine LeO.bind ?_ (fun _ => ?_)
set_option maxHeartbeats 8000000 in
set_option maxRecDepth 100000 in
theorem offcutlaw01_NatSums.calls (k : Nat) (A0 : Option Addr) (c0 : Nat) (l0 : List Int) (A1 : Option Addr) (c1 : Nat) (l1 : List Int) (r : Bool) (w : World) (hr0 : Kd.C (Kd.int .u32) w A0 l0.length l0) (hc0 : l0.length ≤ c0) (hr1 : Kd.C (Kd.int .u32) w A1 l1.length l1) (hc1 : l1.length ≤ c1) (h : offcutlaw01_NatSums.f k l0 l1 = some r) :
    Calls Try.prog 7 #[.slice A0 l0.length c0, .slice A1 l1.length c1] w fun e w' => e = .returned (.bool r) ∧ Below w.heap.size w w' := by
  have HR0 := Aside0.mk hr0
  have HC0 := Aside0.mk hc0
  clear hr0 hc0
  have HR1 := Aside0.mk hr1
  have HC1 := Aside0.mk hc1
  clear hr1 hc1
  have HB := Aside0.mk (Below.refl w.heap.size w)
  have H : ((offcutlaw01_few.f l0).bind fun t362 => (if t362 = true then ((offcutlaw01_few.f l1).bind fun t363 => (offcutlaw01_NatSums.j0 k l0 l1 (!t363))) else (offcutlaw01_NatSums.j0 k l0 l1 true))) = some r := h
  clear h
  have HC3 := Aside0.mk H
  clear H
  go_enter Try.func7, Try.ntmps7
  go_upto_region 1 with (fail)
  go_cut [16] (fun v16 wc => ∃ (kq : Nat) (x16_2 : Bool), v16 = .bool x16_2 ∧ Aside0 (offcutlaw01_NatSums.j0 kq l0 l1 x16_2 = some r) ∧ Aside0 (kq ≤ k) ∧ Aside0 (Below w.heap.size w wc))
  case first =>
    have H := HC3.out
    clear HC3
    replace H := Option.bind_eq_some_iff.mp H
    obtain ⟨t362, A40, H⟩ := H
    replace H : (if t362 = true then ((offcutlaw01_few.f l1).bind fun t363 => (offcutlaw01_NatSums.j0 k l0 l1 (!t363))) else (offcutlaw01_NatSums.j0 k l0 l1 true)) = some r := H
    have A4 := Aside0.mk A40
    clear A40
    by_cases c5 : t362 = true
    · subst c5
      have H1 : ((offcutlaw01_few.f l1).bind fun t363 => (offcutlaw01_NatSums.j0 k l0 l1 (!t363))) = some r := by rw [if_pos rfl] at H; exact H
      clear H
      have H := H1
      clear H1
      replace H := Option.bind_eq_some_iff.mp H
      obtain ⟨t363, A60, H⟩ := H
      replace H : (offcutlaw01_NatSums.j0 k l0 l1 (!t363)) = some r := H
      have A6 := Aside0.mk A60
      clear A60
      have H' := Aside0.mk H
      clear H
      go_wp2_with (first | ((with_reducible refine gate_callee (f := 12) rfl ?_); refine goesL_ (some 10) rfl rfl Try.func12 (by kernel_rfl) rfl #[.slice A0 l0.length c0] rfl (by (try simp only [List.map_toArray, List.map_cons, List.map_nil]); first | done | rfl | (simp only [List.length_drop, List.length_take]; rfl)) ?_; (with_reducible refine (offcutlaw01_few.calls _ _ l0 true _ ?side1 ?side2 A4.out).mono ?_); (case side1 => repeat (first | exact (Kd.C_below HR0.out HB.out) | (with_reducible refine Kd.C_alloc ?_ _) | (with_reducible refine Kd.C_drewN ?_ _) | (with_reducible refine Kd.C_drew ?_))); (case side2 => exact HC0.out); rintro e w' ⟨rfl, ⟨nd, rfl⟩⟩; refine ⟨_, rfl, ?_⟩) | (go_at_call 12; (with_reducible refine (offcutlaw01_few.calls _ _ l1 t363 _ ?side1 ?side2 A6.out).mono ?_); (case side1 => repeat (first | exact (Kd.C_below HR1.out (by repeat (first | (with_reducible first | exact HB.out | apply below_alloc | apply pw_below_drewN | apply below_drew1) | exact HB.out))) | (with_reducible refine Kd.C_alloc ?_ _) | (with_reducible refine Kd.C_drewN ?_ _) | (with_reducible refine Kd.C_drew ?_))); (case side2 => exact HC1.out); rintro e w' ⟨rfl, ⟨nd, rfl⟩⟩))
      go_meet
      case rel => exact ⟨_, (!t363), (by first | rfl | (simp; done) | (simp [*]; done)), H', ⟨by first | omega | exact Nat.le_refl _⟩, ⟨by repeat (first | (with_reducible first | exact HB.out | apply below_alloc | apply pw_below_drewN | apply below_drew1) | exact HB.out)⟩⟩
    · replace c5 := Bool.eq_false_iff.mpr c5
      subst c5
      have H1 : (offcutlaw01_NatSums.j0 k l0 l1 true) = some r := by rw [if_neg (show ¬ (false = true) by decide)] at H; exact H
      clear H
      have H := H1
      clear H1
      have H' := Aside0.mk H
      clear H
      go_wp2_with (first | ((with_reducible refine gate_callee (f := 12) rfl ?_); refine goesL_ (some 10) rfl rfl Try.func12 (by kernel_rfl) rfl #[.slice A0 l0.length c0] rfl (by (try simp only [List.map_toArray, List.map_cons, List.map_nil]); first | done | rfl | (simp only [List.length_drop, List.length_take]; rfl)) ?_; (with_reducible refine (offcutlaw01_few.calls _ _ l0 false _ ?side1 ?side2 A4.out).mono ?_); (case side1 => repeat (first | exact (Kd.C_below HR0.out HB.out) | (with_reducible refine Kd.C_alloc ?_ _) | (with_reducible refine Kd.C_drewN ?_ _) | (with_reducible refine Kd.C_drew ?_))); (case side2 => exact HC0.out); rintro e w' ⟨rfl, ⟨nd, rfl⟩⟩; refine ⟨_, rfl, ?_⟩))
      go_meet
      case rel => exact ⟨_, (true), (by first | rfl | (simp; done) | (simp [*]; done)), H', ⟨by first | omega | exact Nat.le_refl _⟩, ⟨by repeat (first | (with_reducible first | exact HB.out | apply below_alloc | apply pw_below_drewN | apply below_drew1) | exact HB.out)⟩⟩
  case rest =>
    clear HC3
    try clear c1
    try clear p2
    try clear c5
    obtain ⟨kq, x16_2, rfl, HA, HJ2, HB⟩ := hcut
    cases kq with
    | zero => exact absurd HA.out (by simp [offcutlaw01_NatSums.j0])
    | succ kj2 =>
      have H := HA.out
      clear HA
      simp only [offcutlaw01_NatSums.j0] at H
      by_cases c7 : x16_2 = true
      · subst c7
        have H1 : ((offcutlaw01_awake.f kj2).bind fun t364 => (some t364)) = some r := by rw [if_pos rfl] at H; exact H
        clear H
        have H := H1
        clear H1
        replace H := Option.bind_eq_some_iff.mp H
        obtain ⟨t364, A80, H⟩ := H
        replace H : (some t364) = some r := H
        have A8 := Aside0.mk A80
        clear A80
        obtain rfl := Option.some.inj H
        go_wp2_with (first | ((with_reducible refine gate_callee (f := 13) rfl ?_); refine goesL_ (some 17) rfl rfl Try.func13 (by kernel_rfl) rfl #[] rfl (by (try simp only [List.map_toArray, List.map_cons, List.map_nil]); first | done | rfl | (simp only [List.length_drop, List.length_take]; rfl)) ?_; (with_reducible refine (offcutlaw01_awake.calls kj2  t364 _ A8.out).mono ?_); rintro e w9 ⟨rfl, hb⟩; refine ⟨_, rfl, ?_⟩; have n0_ := Aside0.mk (below_step (by repeat (first | (with_reducible first | exact HB.out | apply below_alloc | apply pw_below_drewN | apply below_drew1) | exact HB.out)) hb); clear HB; have HB := n0_; clear n0_; (try clear hb); (try clear hb2); (try clear hk); (try clear hi)))
        go_ret
        exact ⟨by first | rfl | (simp [errW_none, errW_some] <;> rfl) | (simp [*, errW_none, errW_some] <;> rfl), by repeat (first | (with_reducible first | exact HB.out | apply below_alloc | apply pw_below_drewN | apply below_drew1) | exact HB.out)⟩
      · replace c7 := Bool.eq_false_iff.mpr c7
        subst c7
        have H1 : ((offcutref01_Of.f kj2 l0).bind fun t365 => ((offcutref01_Of.f kj2 l1).bind fun t366 => ((nat_Sub.f kj2 l0 l1).bind fun bt367 => ((nat_Add.f kj2 l0 l1).bind fun t371 => ((offcutref01_Add.f kj2 t365 t366).bind fun t374 => ((offcutlaw01_is.f kj2 t371 t374).bind fun t375 => (if t375 = true then ((nat_Mul.f kj2 l0 l1).bind fun t376 => ((offcutref01_Mul.f kj2 t365 t366).bind fun t379 => ((offcutlaw01_is.f kj2 t376 t379).bind fun t380 => (if t380 = true then ((offcutref01_Less.f t365 t366).bind fun t381 => (offcutlaw01_NatSums.j1 kj2 l0 l1 t365 t366 bt367.1 bt367.2 (bt367.2 == t381))) else (offcutlaw01_NatSums.j1 kj2 l0 l1 t365 t366 bt367.1 bt367.2 true))))) else (offcutlaw01_NatSums.j1 kj2 l0 l1 t365 t366 bt367.1 bt367.2 true)))))))) = some r := by rw [if_neg (show ¬ (false = true) by decide)] at H; exact H
        clear H
        have H := H1
        clear H1
        replace H := Option.bind_eq_some_iff.mp H
        obtain ⟨t365, A100, H⟩ := H
        replace H : ((offcutref01_Of.f kj2 l1).bind fun t366 => ((nat_Sub.f kj2 l0 l1).bind fun bt367 => ((nat_Add.f kj2 l0 l1).bind fun t371 => ((offcutref01_Add.f kj2 t365 t366).bind fun t374 => ((offcutlaw01_is.f kj2 t371 t374).bind fun t375 => (if t375 = true then ((nat_Mul.f kj2 l0 l1).bind fun t376 => ((offcutref01_Mul.f kj2 t365 t366).bind fun t379 => ((offcutlaw01_is.f kj2 t376 t379).bind fun t380 => (if t380 = true then ((offcutref01_Less.f t365 t366).bind fun t381 => (offcutlaw01_NatSums.j1 kj2 l0 l1 t365 t366 bt367.1 bt367.2 (bt367.2 == t381))) else (offcutlaw01_NatSums.j1 kj2 l0 l1 t365 t366 bt367.1 bt367.2 true))))) else (offcutlaw01_NatSums.j1 kj2 l0 l1 t365 t366 bt367.1 bt367.2 true))))))) = some r := H
        have A10 := Aside0.mk A100
        clear A100
        replace H := Option.bind_eq_some_iff.mp H
        obtain ⟨t366, A110, H⟩ := H
        replace H : ((nat_Sub.f kj2 l0 l1).bind fun bt367 => ((nat_Add.f kj2 l0 l1).bind fun t371 => ((offcutref01_Add.f kj2 t365 t366).bind fun t374 => ((offcutlaw01_is.f kj2 t371 t374).bind fun t375 => (if t375 = true then ((nat_Mul.f kj2 l0 l1).bind fun t376 => ((offcutref01_Mul.f kj2 t365 t366).bind fun t379 => ((offcutlaw01_is.f kj2 t376 t379).bind fun t380 => (if t380 = true then ((offcutref01_Less.f t365 t366).bind fun t381 => (offcutlaw01_NatSums.j1 kj2 l0 l1 t365 t366 bt367.1 bt367.2 (bt367.2 == t381))) else (offcutlaw01_NatSums.j1 kj2 l0 l1 t365 t366 bt367.1 bt367.2 true))))) else (offcutlaw01_NatSums.j1 kj2 l0 l1 t365 t366 bt367.1 bt367.2 true)))))) = some r := H
        have A11 := Aside0.mk A110
        clear A110
        replace H := Option.bind_eq_some_iff.mp H
        obtain ⟨⟨t367, t368⟩, A120, H⟩ := H
        replace H : ((nat_Add.f kj2 l0 l1).bind fun t371 => ((offcutref01_Add.f kj2 t365 t366).bind fun t374 => ((offcutlaw01_is.f kj2 t371 t374).bind fun t375 => (if t375 = true then ((nat_Mul.f kj2 l0 l1).bind fun t376 => ((offcutref01_Mul.f kj2 t365 t366).bind fun t379 => ((offcutlaw01_is.f kj2 t376 t379).bind fun t380 => (if t380 = true then ((offcutref01_Less.f t365 t366).bind fun t381 => (offcutlaw01_NatSums.j1 kj2 l0 l1 t365 t366 t367 t368 (t368 == t381))) else (offcutlaw01_NatSums.j1 kj2 l0 l1 t365 t366 t367 t368 true))))) else (offcutlaw01_NatSums.j1 kj2 l0 l1 t365 t366 t367 t368 true))))) = some r := H
        have A12 := Aside0.mk A120
        clear A120
        have HC13 := Aside0.mk H
        clear H
        go_upto_region 5 with (first | ((with_reducible refine gate_callee (f := 14) rfl ?_); refine goesL_ (some 19) rfl rfl Try.func14 (by kernel_rfl) rfl #[.slice A0 l0.length c0] rfl (by (try simp only [List.map_toArray, List.map_cons, List.map_nil]); first | done | rfl | (simp only [List.length_drop, List.length_take]; rfl)) ?_; (with_reducible refine (offcutref01_Of.calls kj2 _ _ l0 t365 _ ?side1 ?side2 A10.out).mono ?_); (case side1 => repeat (first | exact (Kd.C_below HR0.out HB.out) | (with_reducible refine Kd.C_alloc ?_ _) | (with_reducible refine Kd.C_drewN ?_ _) | (with_reducible refine Kd.C_drew ?_))); (case side2 => exact HC0.out); rintro e w14 ⟨rfl, hb⟩; refine ⟨_, rfl, ?_⟩; have n0_ := Aside0.mk (below_step (by repeat (first | (with_reducible first | exact HB.out | apply below_alloc | apply pw_below_drewN | apply below_drew1) | exact HB.out)) hb); clear HB; have HB := n0_; clear n0_; (try clear hb); (try clear hb2); (try clear hk); (try clear hi)) | ((with_reducible refine gate_callee (f := 14) rfl ?_); refine goesL_ (some 21) rfl rfl Try.func14 (by kernel_rfl) rfl #[.slice A1 l1.length c1] rfl (by (try simp only [List.map_toArray, List.map_cons, List.map_nil]); first | done | rfl | (simp only [List.length_drop, List.length_take]; rfl)) ?_; (with_reducible refine (offcutref01_Of.calls kj2 _ _ l1 t366 _ ?side1 ?side2 A11.out).mono ?_); (case side1 => repeat (first | exact (Kd.C_below HR1.out HB.out) | (with_reducible refine Kd.C_alloc ?_ _) | (with_reducible refine Kd.C_drewN ?_ _) | (with_reducible refine Kd.C_drew ?_))); (case side2 => exact HC1.out); rintro e w15 ⟨rfl, hb⟩; refine ⟨_, rfl, ?_⟩; have n0_ := Aside0.mk (below_step (by repeat (first | (with_reducible first | exact HB.out | apply below_alloc | apply pw_below_drewN | apply below_drew1) | exact HB.out)) hb); clear HB; have HB := n0_; clear n0_; (try clear hb); (try clear hb2); (try clear hk); (try clear hi)) | ((with_reducible refine gate_callee (f := 29) rfl ?_); refine goesL_ (some 25) rfl rfl Try.func29 (by kernel_rfl) rfl #[.slice A0 l0.length c0, .slice A1 l1.length c1] rfl (by (try simp only [List.map_toArray, List.map_cons, List.map_nil]); first | done | rfl | (simp only [List.length_drop, List.length_take]; rfl)) ?_; (with_reducible refine (nat_Sub.calls kj2 _ _ l0 _ _ l1 t367 t368 _ ?side1 ?side2 ?side3 ?side4 A12.out).mono ?_); (case side1 => repeat (first | exact (Kd.C_below HR0.out HB.out) | (with_reducible refine Kd.C_alloc ?_ _) | (with_reducible refine Kd.C_drewN ?_ _) | (with_reducible refine Kd.C_drew ?_))); (case side2 => exact HC0.out); (case side3 => repeat (first | exact (Kd.C_below HR1.out HB.out) | (with_reducible refine Kd.C_alloc ?_ _) | (with_reducible refine Kd.C_drewN ?_ _) | (with_reducible refine Kd.C_drew ?_))); (case side4 => exact HC1.out); rintro e w16 ⟨v369, rfl, ho0, hb⟩; refine ⟨_, rfl, ?_⟩; have n0_ := Aside0.mk (Kd.R_lower ho0 (below_size (by repeat (first | (with_reducible first | exact HB.out | apply below_alloc | apply pw_below_drewN | apply below_drew1) | exact HB.out)))); have n1_ := Aside0.mk (below_step (by repeat (first | (with_reducible first | exact HB.out | apply below_alloc | apply pw_below_drewN | apply below_drew1) | exact HB.out)) hb); clear HB; have HO370 := n0_; have HB := n1_; clear n0_ n1_; (try clear hb); (try clear hb2); (try clear hk); (try clear hi); (try clear ho0)))
        (try simp only [Act.put, List.setIfInBounds_toArray, List.set_cons_zero, List.set_cons_succ])
        go_cut [52] (fun v52 wc => ∃ (kq : Nat) (x52_12 : Bool), v52 = .bool x52_12 ∧ Aside0 (offcutlaw01_NatSums.j1 kq l0 l1 t365 t366 t367 t368 x52_12 = some r) ∧ Aside0 (kq ≤ kj2) ∧ Aside0 (Kd.R (Kd.int .u32) 33 wc w.heap.size (fun _ => True) v369 t367) ∧ Aside0 (Below w.heap.size w wc))
        case first =>
          have H := HC13.out
          clear HC13
          replace H := Option.bind_eq_some_iff.mp H
          obtain ⟨t371, A170, H⟩ := H
          replace H : ((offcutref01_Add.f kj2 t365 t366).bind fun t374 => ((offcutlaw01_is.f kj2 t371 t374).bind fun t375 => (if t375 = true then ((nat_Mul.f kj2 l0 l1).bind fun t376 => ((offcutref01_Mul.f kj2 t365 t366).bind fun t379 => ((offcutlaw01_is.f kj2 t376 t379).bind fun t380 => (if t380 = true then ((offcutref01_Less.f t365 t366).bind fun t381 => (offcutlaw01_NatSums.j1 kj2 l0 l1 t365 t366 t367 t368 (t368 == t381))) else (offcutlaw01_NatSums.j1 kj2 l0 l1 t365 t366 t367 t368 true))))) else (offcutlaw01_NatSums.j1 kj2 l0 l1 t365 t366 t367 t368 true)))) = some r := H
          have A17 := Aside0.mk A170
          clear A170
          replace H := Option.bind_eq_some_iff.mp H
          obtain ⟨t374, A180, H⟩ := H
          replace H : ((offcutlaw01_is.f kj2 t371 t374).bind fun t375 => (if t375 = true then ((nat_Mul.f kj2 l0 l1).bind fun t376 => ((offcutref01_Mul.f kj2 t365 t366).bind fun t379 => ((offcutlaw01_is.f kj2 t376 t379).bind fun t380 => (if t380 = true then ((offcutref01_Less.f t365 t366).bind fun t381 => (offcutlaw01_NatSums.j1 kj2 l0 l1 t365 t366 t367 t368 (t368 == t381))) else (offcutlaw01_NatSums.j1 kj2 l0 l1 t365 t366 t367 t368 true))))) else (offcutlaw01_NatSums.j1 kj2 l0 l1 t365 t366 t367 t368 true))) = some r := H
          have A18 := Aside0.mk A180
          clear A180
          replace H := Option.bind_eq_some_iff.mp H
          obtain ⟨t375, A190, H⟩ := H
          replace H : (if t375 = true then ((nat_Mul.f kj2 l0 l1).bind fun t376 => ((offcutref01_Mul.f kj2 t365 t366).bind fun t379 => ((offcutlaw01_is.f kj2 t376 t379).bind fun t380 => (if t380 = true then ((offcutref01_Less.f t365 t366).bind fun t381 => (offcutlaw01_NatSums.j1 kj2 l0 l1 t365 t366 t367 t368 (t368 == t381))) else (offcutlaw01_NatSums.j1 kj2 l0 l1 t365 t366 t367 t368 true))))) else (offcutlaw01_NatSums.j1 kj2 l0 l1 t365 t366 t367 t368 true)) = some r := H
          have A19 := Aside0.mk A190
          clear A190
          by_cases c20 : t375 = true
          · subst c20
            have H1 : ((nat_Mul.f kj2 l0 l1).bind fun t376 => ((offcutref01_Mul.f kj2 t365 t366).bind fun t379 => ((offcutlaw01_is.f kj2 t376 t379).bind fun t380 => (if t380 = true then ((offcutref01_Less.f t365 t366).bind fun t381 => (offcutlaw01_NatSums.j1 kj2 l0 l1 t365 t366 t367 t368 (t368 == t381))) else (offcutlaw01_NatSums.j1 kj2 l0 l1 t365 t366 t367 t368 true))))) = some r := by rw [if_pos rfl] at H; exact H
            clear H
            have H := H1
            clear H1
            replace H := Option.bind_eq_some_iff.mp H
            obtain ⟨t376, A210, H⟩ := H
            replace H : ((offcutref01_Mul.f kj2 t365 t366).bind fun t379 => ((offcutlaw01_is.f kj2 t376 t379).bind fun t380 => (if t380 = true then ((offcutref01_Less.f t365 t366).bind fun t381 => (offcutlaw01_NatSums.j1 kj2 l0 l1 t365 t366 t367 t368 (t368 == t381))) else (offcutlaw01_NatSums.j1 kj2 l0 l1 t365 t366 t367 t368 true)))) = some r := H
            have A21 := Aside0.mk A210
            clear A210
            replace H := Option.bind_eq_some_iff.mp H
            obtain ⟨t379, A220, H⟩ := H
            replace H : ((offcutlaw01_is.f kj2 t376 t379).bind fun t380 => (if t380 = true then ((offcutref01_Less.f t365 t366).bind fun t381 => (offcutlaw01_NatSums.j1 kj2 l0 l1 t365 t366 t367 t368 (t368 == t381))) else (offcutlaw01_NatSums.j1 kj2 l0 l1 t365 t366 t367 t368 true))) = some r := H
            have A22 := Aside0.mk A220
            clear A220
            replace H := Option.bind_eq_some_iff.mp H
            obtain ⟨t380, A230, H⟩ := H
            replace H : (if t380 = true then ((offcutref01_Less.f t365 t366).bind fun t381 => (offcutlaw01_NatSums.j1 kj2 l0 l1 t365 t366 t367 t368 (t368 == t381))) else (offcutlaw01_NatSums.j1 kj2 l0 l1 t365 t366 t367 t368 true)) = some r := H
            have A23 := Aside0.mk A230
            clear A230
            by_cases c24 : t380 = true
            · subst c24
              have H1 : ((offcutref01_Less.f t365 t366).bind fun t381 => (offcutlaw01_NatSums.j1 kj2 l0 l1 t365 t366 t367 t368 (t368 == t381))) = some r := by rw [if_pos rfl] at H; exact H
              clear H
              have H := H1
              clear H1
              replace H := Option.bind_eq_some_iff.mp H
              obtain ⟨t381, A250, H⟩ := H
              replace H : (offcutlaw01_NatSums.j1 kj2 l0 l1 t365 t366 t367 t368 (t368 == t381)) = some r := H
              have A25 := Aside0.mk A250
              clear A250
              have H' := Aside0.mk H
              clear H
              go_wp2_with (first | ((with_reducible refine gate_callee (f := 30) rfl ?_); refine goesL_ (some 30) rfl rfl Try.func30 (by kernel_rfl) rfl #[.slice A0 l0.length c0, .slice A1 l1.length c1] rfl (by (try simp only [List.map_toArray, List.map_cons, List.map_nil]); first | done | rfl | (simp only [List.length_drop, List.length_take]; rfl)) ?_; (with_reducible refine (nat_Add.calls kj2 _ _ l0 _ _ l1 t371 _ ?side1 ?side2 ?side3 ?side4 A17.out).mono ?_); (case side1 => repeat (first | exact (Kd.C_below HR0.out HB.out) | (with_reducible refine Kd.C_alloc ?_ _) | (with_reducible refine Kd.C_drewN ?_ _) | (with_reducible refine Kd.C_drew ?_))); (case side2 => exact HC0.out); (case side3 => repeat (first | exact (Kd.C_below HR1.out HB.out) | (with_reducible refine Kd.C_alloc ?_ _) | (with_reducible refine Kd.C_drewN ?_ _) | (with_reducible refine Kd.C_drew ?_))); (case side4 => exact HC1.out); rintro e w26 ⟨v372, rfl, ho0, hb⟩; refine ⟨_, rfl, ?_⟩; have n0_ := Aside0.mk (Kd.R_elder' (by (with_reducible repeat (first | apply Kd.R_alloc | apply Kd.R_drewN | apply Kd.R_drew)); exact HO370.out) (Kd.R_base ho0) hb); have n1_ := Aside0.mk (Kd.R_lower (Kd.R_new' ho0 (Kd.R_lt (by (with_reducible repeat (first | apply Kd.R_alloc | apply Kd.R_drewN | apply Kd.R_drew)); exact HO370.out))) (below_size (by repeat (first | (with_reducible first | exact HB.out | apply below_alloc | apply pw_below_drewN | apply below_drew1) | exact HB.out)))); have n2_ := Aside0.mk (below_step (by repeat (first | (with_reducible first | exact HB.out | apply below_alloc | apply pw_below_drewN | apply below_drew1) | exact HB.out)) hb); clear HO370; clear HB; have HO370 := n0_; have HO373 := n1_; have HB := n2_; clear n0_ n1_ n2_; (try clear hb); (try clear hb2); (try clear hk); (try clear hi); (try clear ho0)) | ((with_reducible refine gate_callee (f := 31) rfl ?_); refine goesL_ (some 33) rfl rfl Try.func31 (by kernel_rfl) rfl #[.string t365, .string t366] rfl (by (try simp only [List.map_toArray, List.map_cons, List.map_nil]); first | done | rfl | (simp only [List.length_drop, List.length_take]; rfl)) ?_; (with_reducible refine (offcutref01_Add.calls kj2 t365 t366 t374 _ A18.out).mono ?_); rintro e w' ⟨rfl, ⟨nd, rfl⟩⟩; refine ⟨_, rfl, ?_⟩; obtain ⟨Ao27, co27, eo27⟩ := Kd.R_slice HO373.out; subst eo27) | ((with_reducible refine gate_callee (f := 17) rfl ?_); refine goesL_ (some 34) rfl rfl Try.func17 (by kernel_rfl) rfl #[.slice Ao27 t371.length co27, .string t374] rfl (by (try simp only [List.map_toArray, List.map_cons, List.map_nil]); first | done | rfl | (simp only [List.length_drop, List.length_take]; rfl)) ?_; (with_reducible refine (offcutlaw01_is.calls kj2 _ _ t371 t374 true _ ?side1 ?side2 A19.out).mono ?_); (case side1 => repeat (first | exact (Kd.R_reads' HO373.out).2.2 | (with_reducible refine Kd.C_alloc ?_ _) | (with_reducible refine Kd.C_drewN ?_ _) | (with_reducible refine Kd.C_drew ?_))); (case side2 => exact (Kd.R_reads' HO373.out).2.1); rintro e w28 ⟨rfl, hb⟩; refine ⟨_, rfl, ?_⟩; have n0_ := Aside0.mk (Kd.R_below (by (with_reducible repeat (first | apply Kd.R_alloc | apply Kd.R_drewN | apply Kd.R_drew)); exact HO370.out) hb); have n1_ := Aside0.mk (Kd.R_below (by (with_reducible repeat (first | apply Kd.R_alloc | apply Kd.R_drewN | apply Kd.R_drew)); exact HO373.out) hb); have n2_ := Aside0.mk (below_step (by repeat (first | (with_reducible first | exact HB.out | apply below_alloc | apply pw_below_drewN | apply below_drew1) | exact HB.out)) hb); clear HO370; clear HO373; clear HB; have HO370 := n0_; have HO373 := n1_; have HB := n2_; clear n0_ n1_ n2_; (try clear hb); (try clear hb2); (try clear hk); (try clear hi)) | (go_at_call 32; (with_reducible refine (nat_Mul.calls kj2 _ _ l0 _ _ l1 t376 _ ?side1 ?side2 ?side3 ?side4 A21.out).mono ?_); (case side1 => repeat (first | exact (Kd.C_below HR0.out HB.out) | (with_reducible refine Kd.C_alloc ?_ _) | (with_reducible refine Kd.C_drewN ?_ _) | (with_reducible refine Kd.C_drew ?_))); (case side2 => exact HC0.out); (case side3 => repeat (first | exact (Kd.C_below HR1.out HB.out) | (with_reducible refine Kd.C_alloc ?_ _) | (with_reducible refine Kd.C_drewN ?_ _) | (with_reducible refine Kd.C_drew ?_))); (case side4 => exact HC1.out); rintro e w29 ⟨v377, rfl, ho0, hb⟩; have n0_ := Aside0.mk (Kd.R_elder' (by (with_reducible repeat (first | apply Kd.R_alloc | apply Kd.R_drewN | apply Kd.R_drew)); exact HO370.out) (Kd.R_base ho0) hb); have n1_ := Aside0.mk (Kd.R_elder' (by (with_reducible repeat (first | apply Kd.R_alloc | apply Kd.R_drewN | apply Kd.R_drew)); exact HO373.out) (Kd.R_base ho0) hb); have n2_ := Aside0.mk (Kd.R_lower (Kd.R_new' (Kd.R_new' ho0 (Kd.R_lt (by (with_reducible repeat (first | apply Kd.R_alloc | apply Kd.R_drewN | apply Kd.R_drew)); exact HO370.out))) (Kd.R_lt (by (with_reducible repeat (first | apply Kd.R_alloc | apply Kd.R_drewN | apply Kd.R_drew)); exact HO373.out))) (below_size (by repeat (first | (with_reducible first | exact HB.out | apply below_alloc | apply pw_below_drewN | apply below_drew1) | exact HB.out)))); have n3_ := Aside0.mk (below_step (by repeat (first | (with_reducible first | exact HB.out | apply below_alloc | apply pw_below_drewN | apply below_drew1) | exact HB.out)) hb); clear HO370; clear HO373; clear HB; have HO370 := n0_; have HO373 := n1_; have HO378 := n2_; have HB := n3_; clear n0_ n1_ n2_ n3_; (try clear hb); (try clear hb2); (try clear hk); (try clear hi); (try clear ho0)) | (go_at_call 27; (with_reducible refine (offcutref01_Mul.calls kj2 t365 t366 t379 _ A22.out).mono ?_); rintro e w30 ⟨rfl, hb⟩; have n0_ := Aside0.mk (Kd.R_below (by (with_reducible repeat (first | apply Kd.R_alloc | apply Kd.R_drewN | apply Kd.R_drew)); exact HO370.out) hb); have n1_ := Aside0.mk (Kd.R_below (by (with_reducible repeat (first | apply Kd.R_alloc | apply Kd.R_drewN | apply Kd.R_drew)); exact HO373.out) hb); have n2_ := Aside0.mk (Kd.R_below (by (with_reducible repeat (first | apply Kd.R_alloc | apply Kd.R_drewN | apply Kd.R_drew)); exact HO378.out) hb); have n3_ := Aside0.mk (below_step (by repeat (first | (with_reducible first | exact HB.out | apply below_alloc | apply pw_below_drewN | apply below_drew1) | exact HB.out)) hb); clear HO370; clear HO373; clear HO378; clear HB; have HO370 := n0_; have HO373 := n1_; have HO378 := n2_; have HB := n3_; clear n0_ n1_ n2_ n3_; (try clear hb); (try clear hb2); (try clear hk); (try clear hi); obtain ⟨Ao31, co31, eo31⟩ := Kd.R_slice HO378.out; subst eo31) | (go_at_call 17; (with_reducible refine (offcutlaw01_is.calls kj2 _ _ t376 t379 true _ ?side1 ?side2 A23.out).mono ?_); (case side1 => repeat (first | exact (Kd.R_reads' HO378.out).2.2 | (with_reducible refine Kd.C_alloc ?_ _) | (with_reducible refine Kd.C_drewN ?_ _) | (with_reducible refine Kd.C_drew ?_))); (case side2 => exact (Kd.R_reads' HO378.out).2.1); rintro e w32 ⟨rfl, hb⟩; have n0_ := Aside0.mk (Kd.R_below (by (with_reducible repeat (first | apply Kd.R_alloc | apply Kd.R_drewN | apply Kd.R_drew)); exact HO370.out) hb); have n1_ := Aside0.mk (Kd.R_below (by (with_reducible repeat (first | apply Kd.R_alloc | apply Kd.R_drewN | apply Kd.R_drew)); exact HO373.out) hb); have n2_ := Aside0.mk (Kd.R_below (by (with_reducible repeat (first | apply Kd.R_alloc | apply Kd.R_drewN | apply Kd.R_drew)); exact HO378.out) hb); have n3_ := Aside0.mk (below_step (by repeat (first | (with_reducible first | exact HB.out | apply below_alloc | apply pw_below_drewN | apply below_drew1) | exact HB.out)) hb); clear HO370; clear HO373; clear HO378; clear HB; have HO370 := n0_; have HO373 := n1_; have HO378 := n2_; have HB := n3_; clear n0_ n1_ n2_ n3_; (try clear hb); (try clear hb2); (try clear hk); (try clear hi)) | (go_at_call 15; (with_reducible refine (offcutref01_Less.calls t365 t366 t381 _ A25.out).mono ?_); rintro e w' ⟨rfl, ⟨nd, rfl⟩⟩))
              go_meet
              case rel => exact ⟨_, ((t368 == t381)), (by first | rfl | (simp; done) | (simp [*]; done)), H', ⟨by have := HJ2.out; first | omega | exact Nat.le_refl _⟩, ⟨by (with_reducible repeat (first | apply Kd.R_alloc | apply Kd.R_drewN | apply Kd.R_drew)); exact Kd.R_mono HO370.out (fun _ hk => trivial)⟩, ⟨by repeat (first | (with_reducible first | exact HB.out | apply below_alloc | apply pw_below_drewN | apply below_drew1) | exact HB.out)⟩⟩
            · replace c24 := Bool.eq_false_iff.mpr c24
              subst c24
              have H1 : (offcutlaw01_NatSums.j1 kj2 l0 l1 t365 t366 t367 t368 true) = some r := by rw [if_neg (show ¬ (false = true) by decide)] at H; exact H
              clear H
              have H := H1
              clear H1
              have H' := Aside0.mk H
              clear H
              go_wp2_with (first | ((with_reducible refine gate_callee (f := 30) rfl ?_); refine goesL_ (some 30) rfl rfl Try.func30 (by kernel_rfl) rfl #[.slice A0 l0.length c0, .slice A1 l1.length c1] rfl (by (try simp only [List.map_toArray, List.map_cons, List.map_nil]); first | done | rfl | (simp only [List.length_drop, List.length_take]; rfl)) ?_; (with_reducible refine (nat_Add.calls kj2 _ _ l0 _ _ l1 t371 _ ?side1 ?side2 ?side3 ?side4 A17.out).mono ?_); (case side1 => repeat (first | exact (Kd.C_below HR0.out HB.out) | (with_reducible refine Kd.C_alloc ?_ _) | (with_reducible refine Kd.C_drewN ?_ _) | (with_reducible refine Kd.C_drew ?_))); (case side2 => exact HC0.out); (case side3 => repeat (first | exact (Kd.C_below HR1.out HB.out) | (with_reducible refine Kd.C_alloc ?_ _) | (with_reducible refine Kd.C_drewN ?_ _) | (with_reducible refine Kd.C_drew ?_))); (case side4 => exact HC1.out); rintro e w33 ⟨v372, rfl, ho0, hb⟩; refine ⟨_, rfl, ?_⟩; have n0_ := Aside0.mk (Kd.R_elder' (by (with_reducible repeat (first | apply Kd.R_alloc | apply Kd.R_drewN | apply Kd.R_drew)); exact HO370.out) (Kd.R_base ho0) hb); have n1_ := Aside0.mk (Kd.R_lower (Kd.R_new' ho0 (Kd.R_lt (by (with_reducible repeat (first | apply Kd.R_alloc | apply Kd.R_drewN | apply Kd.R_drew)); exact HO370.out))) (below_size (by repeat (first | (with_reducible first | exact HB.out | apply below_alloc | apply pw_below_drewN | apply below_drew1) | exact HB.out)))); have n2_ := Aside0.mk (below_step (by repeat (first | (with_reducible first | exact HB.out | apply below_alloc | apply pw_below_drewN | apply below_drew1) | exact HB.out)) hb); clear HO370; clear HB; have HO370 := n0_; have HO373 := n1_; have HB := n2_; clear n0_ n1_ n2_; (try clear hb); (try clear hb2); (try clear hk); (try clear hi); (try clear ho0)) | ((with_reducible refine gate_callee (f := 31) rfl ?_); refine goesL_ (some 33) rfl rfl Try.func31 (by kernel_rfl) rfl #[.string t365, .string t366] rfl (by (try simp only [List.map_toArray, List.map_cons, List.map_nil]); first | done | rfl | (simp only [List.length_drop, List.length_take]; rfl)) ?_; (with_reducible refine (offcutref01_Add.calls kj2 t365 t366 t374 _ A18.out).mono ?_); rintro e w' ⟨rfl, ⟨nd, rfl⟩⟩; refine ⟨_, rfl, ?_⟩; obtain ⟨Ao34, co34, eo34⟩ := Kd.R_slice HO373.out; subst eo34) | ((with_reducible refine gate_callee (f := 17) rfl ?_); refine goesL_ (some 34) rfl rfl Try.func17 (by kernel_rfl) rfl #[.slice Ao34 t371.length co34, .string t374] rfl (by (try simp only [List.map_toArray, List.map_cons, List.map_nil]); first | done | rfl | (simp only [List.length_drop, List.length_take]; rfl)) ?_; (with_reducible refine (offcutlaw01_is.calls kj2 _ _ t371 t374 true _ ?side1 ?side2 A19.out).mono ?_); (case side1 => repeat (first | exact (Kd.R_reads' HO373.out).2.2 | (with_reducible refine Kd.C_alloc ?_ _) | (with_reducible refine Kd.C_drewN ?_ _) | (with_reducible refine Kd.C_drew ?_))); (case side2 => exact (Kd.R_reads' HO373.out).2.1); rintro e w35 ⟨rfl, hb⟩; refine ⟨_, rfl, ?_⟩; have n0_ := Aside0.mk (Kd.R_below (by (with_reducible repeat (first | apply Kd.R_alloc | apply Kd.R_drewN | apply Kd.R_drew)); exact HO370.out) hb); have n1_ := Aside0.mk (Kd.R_below (by (with_reducible repeat (first | apply Kd.R_alloc | apply Kd.R_drewN | apply Kd.R_drew)); exact HO373.out) hb); have n2_ := Aside0.mk (below_step (by repeat (first | (with_reducible first | exact HB.out | apply below_alloc | apply pw_below_drewN | apply below_drew1) | exact HB.out)) hb); clear HO370; clear HO373; clear HB; have HO370 := n0_; have HO373 := n1_; have HB := n2_; clear n0_ n1_ n2_; (try clear hb); (try clear hb2); (try clear hk); (try clear hi)) | (go_at_call 32; (with_reducible refine (nat_Mul.calls kj2 _ _ l0 _ _ l1 t376 _ ?side1 ?side2 ?side3 ?side4 A21.out).mono ?_); (case side1 => repeat (first | exact (Kd.C_below HR0.out HB.out) | (with_reducible refine Kd.C_alloc ?_ _) | (with_reducible refine Kd.C_drewN ?_ _) | (with_reducible refine Kd.C_drew ?_))); (case side2 => exact HC0.out); (case side3 => repeat (first | exact (Kd.C_below HR1.out HB.out) | (with_reducible refine Kd.C_alloc ?_ _) | (with_reducible refine Kd.C_drewN ?_ _) | (with_reducible refine Kd.C_drew ?_))); (case side4 => exact HC1.out); rintro e w36 ⟨v377, rfl, ho0, hb⟩; have n0_ := Aside0.mk (Kd.R_elder' (by (with_reducible repeat (first | apply Kd.R_alloc | apply Kd.R_drewN | apply Kd.R_drew)); exact HO370.out) (Kd.R_base ho0) hb); have n1_ := Aside0.mk (Kd.R_elder' (by (with_reducible repeat (first | apply Kd.R_alloc | apply Kd.R_drewN | apply Kd.R_drew)); exact HO373.out) (Kd.R_base ho0) hb); have n2_ := Aside0.mk (Kd.R_lower (Kd.R_new' (Kd.R_new' ho0 (Kd.R_lt (by (with_reducible repeat (first | apply Kd.R_alloc | apply Kd.R_drewN | apply Kd.R_drew)); exact HO370.out))) (Kd.R_lt (by (with_reducible repeat (first | apply Kd.R_alloc | apply Kd.R_drewN | apply Kd.R_drew)); exact HO373.out))) (below_size (by repeat (first | (with_reducible first | exact HB.out | apply below_alloc | apply pw_below_drewN | apply below_drew1) | exact HB.out)))); have n3_ := Aside0.mk (below_step (by repeat (first | (with_reducible first | exact HB.out | apply below_alloc | apply pw_below_drewN | apply below_drew1) | exact HB.out)) hb); clear HO370; clear HO373; clear HB; have HO370 := n0_; have HO373 := n1_; have HO378 := n2_; have HB := n3_; clear n0_ n1_ n2_ n3_; (try clear hb); (try clear hb2); (try clear hk); (try clear hi); (try clear ho0)) | (go_at_call 27; (with_reducible refine (offcutref01_Mul.calls kj2 t365 t366 t379 _ A22.out).mono ?_); rintro e w37 ⟨rfl, hb⟩; have n0_ := Aside0.mk (Kd.R_below (by (with_reducible repeat (first | apply Kd.R_alloc | apply Kd.R_drewN | apply Kd.R_drew)); exact HO370.out) hb); have n1_ := Aside0.mk (Kd.R_below (by (with_reducible repeat (first | apply Kd.R_alloc | apply Kd.R_drewN | apply Kd.R_drew)); exact HO373.out) hb); have n2_ := Aside0.mk (Kd.R_below (by (with_reducible repeat (first | apply Kd.R_alloc | apply Kd.R_drewN | apply Kd.R_drew)); exact HO378.out) hb); have n3_ := Aside0.mk (below_step (by repeat (first | (with_reducible first | exact HB.out | apply below_alloc | apply pw_below_drewN | apply below_drew1) | exact HB.out)) hb); clear HO370; clear HO373; clear HO378; clear HB; have HO370 := n0_; have HO373 := n1_; have HO378 := n2_; have HB := n3_; clear n0_ n1_ n2_ n3_; (try clear hb); (try clear hb2); (try clear hk); (try clear hi); obtain ⟨Ao38, co38, eo38⟩ := Kd.R_slice HO378.out; subst eo38) | (go_at_call 17; (with_reducible refine (offcutlaw01_is.calls kj2 _ _ t376 t379 false _ ?side1 ?side2 A23.out).mono ?_); (case side1 => repeat (first | exact (Kd.R_reads' HO378.out).2.2 | (with_reducible refine Kd.C_alloc ?_ _) | (with_reducible refine Kd.C_drewN ?_ _) | (with_reducible refine Kd.C_drew ?_))); (case side2 => exact (Kd.R_reads' HO378.out).2.1); rintro e w39 ⟨rfl, hb⟩; have n0_ := Aside0.mk (Kd.R_below (by (with_reducible repeat (first | apply Kd.R_alloc | apply Kd.R_drewN | apply Kd.R_drew)); exact HO370.out) hb); have n1_ := Aside0.mk (Kd.R_below (by (with_reducible repeat (first | apply Kd.R_alloc | apply Kd.R_drewN | apply Kd.R_drew)); exact HO373.out) hb); have n2_ := Aside0.mk (Kd.R_below (by (with_reducible repeat (first | apply Kd.R_alloc | apply Kd.R_drewN | apply Kd.R_drew)); exact HO378.out) hb); have n3_ := Aside0.mk (below_step (by repeat (first | (with_reducible first | exact HB.out | apply below_alloc | apply pw_below_drewN | apply below_drew1) | exact HB.out)) hb); clear HO370; clear HO373; clear HO378; clear HB; have HO370 := n0_; have HO373 := n1_; have HO378 := n2_; have HB := n3_; clear n0_ n1_ n2_ n3_; (try clear hb); (try clear hb2); (try clear hk); (try clear hi)))
              go_meet
              case rel => exact ⟨_, (true), (by first | rfl | (simp; done) | (simp [*]; done)), H', ⟨by have := HJ2.out; first | omega | exact Nat.le_refl _⟩, ⟨by (with_reducible repeat (first | apply Kd.R_alloc | apply Kd.R_drewN | apply Kd.R_drew)); exact Kd.R_mono HO370.out (fun _ hk => trivial)⟩, ⟨by repeat (first | (with_reducible first | exact HB.out | apply below_alloc | apply pw_below_drewN | apply below_drew1) | exact HB.out)⟩⟩
          · replace c20 := Bool.eq_false_iff.mpr c20
            subst c20
            have H1 : (offcutlaw01_NatSums.j1 kj2 l0 l1 t365 t366 t367 t368 true) = some r := by rw [if_neg (show ¬ (false = true) by decide)] at H; exact H
            clear H
            have H := H1
            clear H1
            have H' := Aside0.mk H
            clear H
            go_wp2_with (first | ((with_reducible refine gate_callee (f := 30) rfl ?_); refine goesL_ (some 30) rfl rfl Try.func30 (by kernel_rfl) rfl #[.slice A0 l0.length c0, .slice A1 l1.length c1] rfl (by (try simp only [List.map_toArray, List.map_cons, List.map_nil]); first | done | rfl | (simp only [List.length_drop, List.length_take]; rfl)) ?_; (with_reducible refine (nat_Add.calls kj2 _ _ l0 _ _ l1 t371 _ ?side1 ?side2 ?side3 ?side4 A17.out).mono ?_); (case side1 => repeat (first | exact (Kd.C_below HR0.out HB.out) | (with_reducible refine Kd.C_alloc ?_ _) | (with_reducible refine Kd.C_drewN ?_ _) | (with_reducible refine Kd.C_drew ?_))); (case side2 => exact HC0.out); (case side3 => repeat (first | exact (Kd.C_below HR1.out HB.out) | (with_reducible refine Kd.C_alloc ?_ _) | (with_reducible refine Kd.C_drewN ?_ _) | (with_reducible refine Kd.C_drew ?_))); (case side4 => exact HC1.out); rintro e w40 ⟨v372, rfl, ho0, hb⟩; refine ⟨_, rfl, ?_⟩; have n0_ := Aside0.mk (Kd.R_elder' (by (with_reducible repeat (first | apply Kd.R_alloc | apply Kd.R_drewN | apply Kd.R_drew)); exact HO370.out) (Kd.R_base ho0) hb); have n1_ := Aside0.mk (Kd.R_lower (Kd.R_new' ho0 (Kd.R_lt (by (with_reducible repeat (first | apply Kd.R_alloc | apply Kd.R_drewN | apply Kd.R_drew)); exact HO370.out))) (below_size (by repeat (first | (with_reducible first | exact HB.out | apply below_alloc | apply pw_below_drewN | apply below_drew1) | exact HB.out)))); have n2_ := Aside0.mk (below_step (by repeat (first | (with_reducible first | exact HB.out | apply below_alloc | apply pw_below_drewN | apply below_drew1) | exact HB.out)) hb); clear HO370; clear HB; have HO370 := n0_; have HO373 := n1_; have HB := n2_; clear n0_ n1_ n2_; (try clear hb); (try clear hb2); (try clear hk); (try clear hi); (try clear ho0)) | ((with_reducible refine gate_callee (f := 31) rfl ?_); refine goesL_ (some 33) rfl rfl Try.func31 (by kernel_rfl) rfl #[.string t365, .string t366] rfl (by (try simp only [List.map_toArray, List.map_cons, List.map_nil]); first | done | rfl | (simp only [List.length_drop, List.length_take]; rfl)) ?_; (with_reducible refine (offcutref01_Add.calls kj2 t365 t366 t374 _ A18.out).mono ?_); rintro e w' ⟨rfl, ⟨nd, rfl⟩⟩; refine ⟨_, rfl, ?_⟩; obtain ⟨Ao41, co41, eo41⟩ := Kd.R_slice HO373.out; subst eo41) | ((with_reducible refine gate_callee (f := 17) rfl ?_); refine goesL_ (some 34) rfl rfl Try.func17 (by kernel_rfl) rfl #[.slice Ao41 t371.length co41, .string t374] rfl (by (try simp only [List.map_toArray, List.map_cons, List.map_nil]); first | done | rfl | (simp only [List.length_drop, List.length_take]; rfl)) ?_; (with_reducible refine (offcutlaw01_is.calls kj2 _ _ t371 t374 false _ ?side1 ?side2 A19.out).mono ?_); (case side1 => repeat (first | exact (Kd.R_reads' HO373.out).2.2 | (with_reducible refine Kd.C_alloc ?_ _) | (with_reducible refine Kd.C_drewN ?_ _) | (with_reducible refine Kd.C_drew ?_))); (case side2 => exact (Kd.R_reads' HO373.out).2.1); rintro e w42 ⟨rfl, hb⟩; refine ⟨_, rfl, ?_⟩; have n0_ := Aside0.mk (Kd.R_below (by (with_reducible repeat (first | apply Kd.R_alloc | apply Kd.R_drewN | apply Kd.R_drew)); exact HO370.out) hb); have n1_ := Aside0.mk (Kd.R_below (by (with_reducible repeat (first | apply Kd.R_alloc | apply Kd.R_drewN | apply Kd.R_drew)); exact HO373.out) hb); have n2_ := Aside0.mk (below_step (by repeat (first | (with_reducible first | exact HB.out | apply below_alloc | apply pw_below_drewN | apply below_drew1) | exact HB.out)) hb); clear HO370; clear HO373; clear HB; have HO370 := n0_; have HO373 := n1_; have HB := n2_; clear n0_ n1_ n2_; (try clear hb); (try clear hb2); (try clear hk); (try clear hi)))
            go_meet
            case rel => exact ⟨_, (true), (by first | rfl | (simp; done) | (simp [*]; done)), H', ⟨by have := HJ2.out; first | omega | exact Nat.le_refl _⟩, ⟨by (with_reducible repeat (first | apply Kd.R_alloc | apply Kd.R_drewN | apply Kd.R_drew)); exact Kd.R_mono HO370.out (fun _ hk => trivial)⟩, ⟨by repeat (first | (with_reducible first | exact HB.out | apply below_alloc | apply pw_below_drewN | apply below_drew1) | exact HB.out)⟩⟩
        case rest =>
          clear HC13
          try clear c1
          try clear c2
          try clear p2
          try clear c3
          try clear c5
          try clear c7
          try clear c12
          try clear c13
          try clear c14
          try clear c17
          try clear c20
          try clear c24
          try clear c29
          try clear c30
          try clear c31
          try clear p2
          obtain ⟨kq, x52_12, rfl, HA, HJ12, HO_7, HB⟩ := hcut
          cases kq with
          | zero => exact absurd HA.out (by simp [offcutlaw01_NatSums.j1])
          | succ kj12 =>
            have H := HA.out
            clear HA
            simp only [offcutlaw01_NatSums.j1] at H
            by_cases c43 : x52_12 = true
            · subst c43
              have H1 : (some false) = some r := by rw [if_pos rfl] at H; exact H
              clear H
              have H := H1
              clear H1
              obtain rfl := Option.some.inj H
              go_wp2
              go_ret
              exact ⟨by first | rfl | (simp [errW_none, errW_some] <;> rfl) | (simp [*, errW_none, errW_some] <;> rfl), by repeat (first | (with_reducible first | exact HB.out | apply below_alloc | apply pw_below_drewN | apply below_drew1) | exact HB.out)⟩
            · replace c43 := Bool.eq_false_iff.mpr c43
              subst c43
              have H1 : (if t368 = true then ((offcutref01_Sub.f kj12 t365 t366).bind fun t382 => ((offcutlaw01_is.f kj12 t367 t382).bind fun t383 => (if t383 = true then (offcutlaw01_NatSums.j2 kj12 l0 l1 t365 t366 false) else (offcutlaw01_NatSums.j2 kj12 l0 l1 t365 t366 true)))) else (offcutlaw01_NatSums.j2 kj12 l0 l1 t365 t366 (decide ((t367.length : Int) > 0)))) = some r := by rw [if_neg (show ¬ (false = true) by decide)] at H; exact H
              clear H
              have H := H1
              clear H1
              have HC44 := Aside0.mk H
              clear H
              go_upto_region 7 with (fail)
              go_cut [70] (fun v70 wc => ∃ (kq : Nat) (x70_43 : Bool), v70 = .bool x70_43 ∧ Aside0 (offcutlaw01_NatSums.j2 kq l0 l1 t365 t366 x70_43 = some r) ∧ Aside0 (kq ≤ kj12) ∧ Aside0 (Below w.heap.size w wc))
              case first =>
                have H := HC44.out
                clear HC44
                by_cases c45 : t368 = true
                · subst c45
                  have H1 : ((offcutref01_Sub.f kj12 t365 t366).bind fun t382 => ((offcutlaw01_is.f kj12 t367 t382).bind fun t383 => (if t383 = true then (offcutlaw01_NatSums.j2 kj12 l0 l1 t365 t366 false) else (offcutlaw01_NatSums.j2 kj12 l0 l1 t365 t366 true)))) = some r := by rw [if_pos rfl] at H; exact H
                  clear H
                  have H := H1
                  clear H1
                  replace H := Option.bind_eq_some_iff.mp H
                  obtain ⟨t382, A460, H⟩ := H
                  replace H : ((offcutlaw01_is.f kj12 t367 t382).bind fun t383 => (if t383 = true then (offcutlaw01_NatSums.j2 kj12 l0 l1 t365 t366 false) else (offcutlaw01_NatSums.j2 kj12 l0 l1 t365 t366 true))) = some r := H
                  have A46 := Aside0.mk A460
                  clear A460
                  replace H := Option.bind_eq_some_iff.mp H
                  obtain ⟨t383, A470, H⟩ := H
                  replace H : (if t383 = true then (offcutlaw01_NatSums.j2 kj12 l0 l1 t365 t366 false) else (offcutlaw01_NatSums.j2 kj12 l0 l1 t365 t366 true)) = some r := H
                  have A47 := Aside0.mk A470
                  clear A470
                  by_cases c48 : t383 = true
                  · subst c48
                    have H1 : (offcutlaw01_NatSums.j2 kj12 l0 l1 t365 t366 false) = some r := by rw [if_pos rfl] at H; exact H
                    clear H
                    have H := H1
                    clear H1
                    have H' := Aside0.mk H
                    clear H
                    go_wp2_with (first | (go_at_call 33; (with_reducible refine (offcutref01_Sub.calls kj12 t365 t366 t382 _ A46.out).mono ?_); rintro e w' ⟨rfl, ⟨nd, rfl⟩⟩; obtain ⟨Ao49, co49, eo49⟩ := Kd.R_slice HO_7.out; subst eo49) | (go_at_call 17; (with_reducible refine (offcutlaw01_is.calls kj12 _ _ t367 t382 true _ ?side1 ?side2 A47.out).mono ?_); (case side1 => repeat (first | exact (Kd.R_reads' HO_7.out).2.2 | (with_reducible refine Kd.C_alloc ?_ _) | (with_reducible refine Kd.C_drewN ?_ _) | (with_reducible refine Kd.C_drew ?_))); (case side2 => exact (Kd.R_reads' HO_7.out).2.1); rintro e w50 ⟨rfl, hb⟩; have n0_ := Aside0.mk (Kd.R_below (by (with_reducible repeat (first | apply Kd.R_alloc | apply Kd.R_drewN | apply Kd.R_drew)); exact HO_7.out) hb); have n1_ := Aside0.mk (below_step (by repeat (first | (with_reducible first | exact HB.out | apply below_alloc | apply pw_below_drewN | apply below_drew1) | exact HB.out)) hb); clear HO_7; clear HB; have HO_7 := n0_; have HB := n1_; clear n0_ n1_; (try clear hb); (try clear hb2); (try clear hk); (try clear hi)))
                    go_meet
                    case rel => exact ⟨_, (false), (by first | rfl | (simp; done) | (simp [*]; done)), H', ⟨by have := HJ2.out; have := HJ12.out; first | omega | exact Nat.le_refl _⟩, ⟨by repeat (first | (with_reducible first | exact HB.out | apply below_alloc | apply pw_below_drewN | apply below_drew1) | exact HB.out)⟩⟩
                  · replace c48 := Bool.eq_false_iff.mpr c48
                    subst c48
                    have H1 : (offcutlaw01_NatSums.j2 kj12 l0 l1 t365 t366 true) = some r := by rw [if_neg (show ¬ (false = true) by decide)] at H; exact H
                    clear H
                    have H := H1
                    clear H1
                    have H' := Aside0.mk H
                    clear H
                    go_wp2_with (first | (go_at_call 33; (with_reducible refine (offcutref01_Sub.calls kj12 t365 t366 t382 _ A46.out).mono ?_); rintro e w' ⟨rfl, ⟨nd, rfl⟩⟩; obtain ⟨Ao51, co51, eo51⟩ := Kd.R_slice HO_7.out; subst eo51) | (go_at_call 17; (with_reducible refine (offcutlaw01_is.calls kj12 _ _ t367 t382 false _ ?side1 ?side2 A47.out).mono ?_); (case side1 => repeat (first | exact (Kd.R_reads' HO_7.out).2.2 | (with_reducible refine Kd.C_alloc ?_ _) | (with_reducible refine Kd.C_drewN ?_ _) | (with_reducible refine Kd.C_drew ?_))); (case side2 => exact (Kd.R_reads' HO_7.out).2.1); rintro e w52 ⟨rfl, hb⟩; have n0_ := Aside0.mk (Kd.R_below (by (with_reducible repeat (first | apply Kd.R_alloc | apply Kd.R_drewN | apply Kd.R_drew)); exact HO_7.out) hb); have n1_ := Aside0.mk (below_step (by repeat (first | (with_reducible first | exact HB.out | apply below_alloc | apply pw_below_drewN | apply below_drew1) | exact HB.out)) hb); clear HO_7; clear HB; have HO_7 := n0_; have HB := n1_; clear n0_ n1_; (try clear hb); (try clear hb2); (try clear hk); (try clear hi)))
                    go_meet
                    case rel => exact ⟨_, (true), (by first | rfl | (simp; done) | (simp [*]; done)), H', ⟨by have := HJ2.out; have := HJ12.out; first | omega | exact Nat.le_refl _⟩, ⟨by repeat (first | (with_reducible first | exact HB.out | apply below_alloc | apply pw_below_drewN | apply below_drew1) | exact HB.out)⟩⟩
                · replace c45 := Bool.eq_false_iff.mpr c45
                  subst c45
                  have H1 : (offcutlaw01_NatSums.j2 kj12 l0 l1 t365 t366 (decide ((t367.length : Int) > 0))) = some r := by rw [if_neg (show ¬ (false = true) by decide)] at H; exact H
                  clear H
                  have H := H1
                  clear H1
                  have H' := Aside0.mk H
                  clear H
                  obtain ⟨Ao53, co53, eo53⟩ := Kd.R_slice HO_7.out
                  subst eo53
                  go_wp2
                  go_meet
                  case rel => exact ⟨_, (decide ((t367.length : Int) > 0)), (by first | rfl | (simp; done) | (simp [*]; done)), H', ⟨by have := HJ2.out; have := HJ12.out; first | omega | exact Nat.le_refl _⟩, ⟨by repeat (first | (with_reducible first | exact HB.out | apply below_alloc | apply pw_below_drewN | apply below_drew1) | exact HB.out)⟩⟩
              case rest =>
                clear HC44
                try clear c1
                try clear c2
                try clear p2
                try clear c3
                try clear c4
                try clear c5
                try clear c7
                try clear c12
                try clear c13
                try clear c14
                try clear c17
                try clear c20
                try clear c24
                try clear c29
                try clear c30
                try clear c31
                try clear c43
                try clear c45
                try clear c48
                try clear p2
                obtain ⟨kq, x70_43, rfl, HA, HJ43, HB⟩ := hcut
                cases kq with
                | zero => exact absurd HA.out (by simp [offcutlaw01_NatSums.j2])
                | succ kj43 =>
                  have H := HA.out
                  clear HA
                  simp only [offcutlaw01_NatSums.j2] at H
                  by_cases c54 : x70_43 = true
                  · subst c54
                    have H1 : (some false) = some r := by rw [if_pos rfl] at H; exact H
                    clear H
                    have H := H1
                    clear H1
                    obtain rfl := Option.some.inj H
                    go_wp2
                    go_ret
                    exact ⟨by first | rfl | (simp [errW_none, errW_some] <;> rfl) | (simp [*, errW_none, errW_some] <;> rfl), by repeat (first | (with_reducible first | exact HB.out | apply below_alloc | apply pw_below_drewN | apply below_drew1) | exact HB.out)⟩
                  · replace c54 := Bool.eq_false_iff.mpr c54
                    subst c54
                    have H1 : ((offcutref01_Of.f kj43 l0).bind fun t384 => (if t384.toList = t365.toList then ((offcutref01_Of.f kj43 l1).bind fun t385 => (if t385.toList = t366.toList then ((offcutlaw01_awake.f kj43).bind fun t386 => (some t386)) else (some false))) else (some false))) = some r := by rw [if_neg (show ¬ (false = true) by decide)] at H; exact H
                    clear H
                    have H := H1
                    clear H1
                    replace H := Option.bind_eq_some_iff.mp H
                    obtain ⟨t384, A550, H⟩ := H
                    replace H : (if t384.toList = t365.toList then ((offcutref01_Of.f kj43 l1).bind fun t385 => (if t385.toList = t366.toList then ((offcutlaw01_awake.f kj43).bind fun t386 => (some t386)) else (some false))) else (some false)) = some r := H
                    have A55 := Aside0.mk A550
                    clear A550
                    by_cases c56 : t384.toList = t365.toList
                    · rw [if_pos c56] at H
                      have c56b0 : (t384.toList == t365.toList) = true := beq_iff_eq.mpr c56
                      have c56b1 : (t384.toList != t365.toList) = false := bne_eq_false_iff_eq.mpr c56
                      clear c56
                      replace H := Option.bind_eq_some_iff.mp H
                      obtain ⟨t385, A570, H⟩ := H
                      replace H : (if t385.toList = t366.toList then ((offcutlaw01_awake.f kj43).bind fun t386 => (some t386)) else (some false)) = some r := H
                      have A57 := Aside0.mk A570
                      clear A570
                      by_cases c58 : t385.toList = t366.toList
                      · rw [if_pos c58] at H
                        have c58b0 : (t385.toList == t366.toList) = true := beq_iff_eq.mpr c58
                        have c58b1 : (t385.toList != t366.toList) = false := bne_eq_false_iff_eq.mpr c58
                        clear c58
                        replace H := Option.bind_eq_some_iff.mp H
                        obtain ⟨t386, A590, H⟩ := H
                        replace H : (some t386) = some r := H
                        have A59 := Aside0.mk A590
                        clear A590
                        obtain rfl := Option.some.inj H
                        go_wp2_with (first | ((with_reducible refine gate_callee (f := 14) rfl ?_); refine goesL_ (some 72) rfl rfl Try.func14 (by kernel_rfl) rfl #[.slice A0 l0.length c0] rfl (by (try simp only [List.map_toArray, List.map_cons, List.map_nil]); first | done | rfl | (simp only [List.length_drop, List.length_take]; rfl)) ?_; (with_reducible refine (offcutref01_Of.calls kj43 _ _ l0 t384 _ ?side1 ?side2 A55.out).mono ?_); (case side1 => repeat (first | exact (Kd.C_below HR0.out HB.out) | (with_reducible refine Kd.C_alloc ?_ _) | (with_reducible refine Kd.C_drewN ?_ _) | (with_reducible refine Kd.C_drew ?_))); (case side2 => exact HC0.out); rintro e w60 ⟨rfl, hb⟩; refine ⟨_, rfl, ?_⟩; have n0_ := Aside0.mk (below_step (by repeat (first | (with_reducible first | exact HB.out | apply below_alloc | apply pw_below_drewN | apply below_drew1) | exact HB.out)) hb); clear HB; have HB := n0_; clear n0_; (try clear hb); (try clear hb2); (try clear hk); (try clear hi)) | (go_at_call 14; (with_reducible refine (offcutref01_Of.calls kj43 _ _ l1 t385 _ ?side1 ?side2 A57.out).mono ?_); (case side1 => repeat (first | exact (Kd.C_below HR1.out HB.out) | (with_reducible refine Kd.C_alloc ?_ _) | (with_reducible refine Kd.C_drewN ?_ _) | (with_reducible refine Kd.C_drew ?_))); (case side2 => exact HC1.out); rintro e w61 ⟨rfl, hb⟩; have n0_ := Aside0.mk (below_step (by repeat (first | (with_reducible first | exact HB.out | apply below_alloc | apply pw_below_drewN | apply below_drew1) | exact HB.out)) hb); clear HB; have HB := n0_; clear n0_; (try clear hb); (try clear hb2); (try clear hk); (try clear hi)) | (go_at_call 13; (with_reducible refine (offcutlaw01_awake.calls kj43  t386 _ A59.out).mono ?_); rintro e w62 ⟨rfl, hb⟩; have n0_ := Aside0.mk (below_step (by repeat (first | (with_reducible first | exact HB.out | apply below_alloc | apply pw_below_drewN | apply below_drew1) | exact HB.out)) hb); clear HB; have HB := n0_; clear n0_; (try clear hb); (try clear hb2); (try clear hk); (try clear hi)))
                        go_ret
                        exact ⟨by first | rfl | (simp [errW_none, errW_some] <;> rfl) | (simp [*, errW_none, errW_some] <;> rfl), by repeat (first | (with_reducible first | exact HB.out | apply below_alloc | apply pw_below_drewN | apply below_drew1) | exact HB.out)⟩
                      · rw [if_neg c58] at H
                        have c58b0 : (t385.toList == t366.toList) = false := beq_eq_false_iff_ne.mpr c58
                        have c58b1 : (t385.toList != t366.toList) = true := bne_iff_ne.mpr c58
                        obtain rfl := Option.some.inj H
                        go_wp2_with (first | ((with_reducible refine gate_callee (f := 14) rfl ?_); refine goesL_ (some 72) rfl rfl Try.func14 (by kernel_rfl) rfl #[.slice A0 l0.length c0] rfl (by (try simp only [List.map_toArray, List.map_cons, List.map_nil]); first | done | rfl | (simp only [List.length_drop, List.length_take]; rfl)) ?_; (with_reducible refine (offcutref01_Of.calls kj43 _ _ l0 t384 _ ?side1 ?side2 A55.out).mono ?_); (case side1 => repeat (first | exact (Kd.C_below HR0.out HB.out) | (with_reducible refine Kd.C_alloc ?_ _) | (with_reducible refine Kd.C_drewN ?_ _) | (with_reducible refine Kd.C_drew ?_))); (case side2 => exact HC0.out); rintro e w63 ⟨rfl, hb⟩; refine ⟨_, rfl, ?_⟩; have n0_ := Aside0.mk (below_step (by repeat (first | (with_reducible first | exact HB.out | apply below_alloc | apply pw_below_drewN | apply below_drew1) | exact HB.out)) hb); clear HB; have HB := n0_; clear n0_; (try clear hb); (try clear hb2); (try clear hk); (try clear hi)) | (go_at_call 14; (with_reducible refine (offcutref01_Of.calls kj43 _ _ l1 t385 _ ?side1 ?side2 A57.out).mono ?_); (case side1 => repeat (first | exact (Kd.C_below HR1.out HB.out) | (with_reducible refine Kd.C_alloc ?_ _) | (with_reducible refine Kd.C_drewN ?_ _) | (with_reducible refine Kd.C_drew ?_))); (case side2 => exact HC1.out); rintro e w64 ⟨rfl, hb⟩; have n0_ := Aside0.mk (below_step (by repeat (first | (with_reducible first | exact HB.out | apply below_alloc | apply pw_below_drewN | apply below_drew1) | exact HB.out)) hb); clear HB; have HB := n0_; clear n0_; (try clear hb); (try clear hb2); (try clear hk); (try clear hi)))
                        go_ret
                        exact ⟨by first | rfl | (simp [errW_none, errW_some] <;> rfl) | (simp [*, errW_none, errW_some] <;> rfl), by repeat (first | (with_reducible first | exact HB.out | apply below_alloc | apply pw_below_drewN | apply below_drew1) | exact HB.out)⟩
                    · rw [if_neg c56] at H
                      have c56b0 : (t384.toList == t365.toList) = false := beq_eq_false_iff_ne.mpr c56
                      have c56b1 : (t384.toList != t365.toList) = true := bne_iff_ne.mpr c56
                      obtain rfl := Option.some.inj H
                      go_wp2_with (first | ((with_reducible refine gate_callee (f := 14) rfl ?_); refine goesL_ (some 72) rfl rfl Try.func14 (by kernel_rfl) rfl #[.slice A0 l0.length c0] rfl (by (try simp only [List.map_toArray, List.map_cons, List.map_nil]); first | done | rfl | (simp only [List.length_drop, List.length_take]; rfl)) ?_; (with_reducible refine (offcutref01_Of.calls kj43 _ _ l0 t384 _ ?side1 ?side2 A55.out).mono ?_); (case side1 => repeat (first | exact (Kd.C_below HR0.out HB.out) | (with_reducible refine Kd.C_alloc ?_ _) | (with_reducible refine Kd.C_drewN ?_ _) | (with_reducible refine Kd.C_drew ?_))); (case side2 => exact HC0.out); rintro e w65 ⟨rfl, hb⟩; refine ⟨_, rfl, ?_⟩; have n0_ := Aside0.mk (below_step (by repeat (first | (with_reducible first | exact HB.out | apply below_alloc | apply pw_below_drewN | apply below_drew1) | exact HB.out)) hb); clear HB; have HB := n0_; clear n0_; (try clear hb); (try clear hb2); (try clear hk); (try clear hi)))
                      go_ret
                      exact ⟨by first | rfl | (simp [errW_none, errW_some] <;> rfl) | (simp [*, errW_none, errW_some] <;> rfl), by repeat (first | (with_reducible first | exact HB.out | apply below_alloc | apply pw_below_drewN | apply below_drew1) | exact HB.out)⟩

/-- THE ONE PURE STATEMENT of offcutlaw01_NatSums: yours. -/
def offcutlaw01_NatSums.Pure : Prop := ∀ (l0 : List Int) (l1 : List Int), l0.length ≤ maxLen → l0.length * 4 ≤ 140737488351232 → (∀ x ∈ l0, (Lit.int .u32 x).wf = true) → l1.length ≤ maxLen → l1.length * 4 ≤ 140737488351232 → (∀ x ∈ l1, (Lit.int .u32 x).wf = true) → ∃ k, offcutlaw01_NatSums.f k l0 l1 = some true
theorem offcutlaw01_NatSums.walk (P : offcutlaw01_NatSums.Pure) (a0 : Option Addr) (len0 cap0 : Nat) (z0 : List Int) (a1 : Option Addr) (len1 cap1 : Nat) (z1 : List Int) (w : World) (w0 : (a0 = none ∧ len0 = 0 ∧ cap0 = 0 ∧ z0 = []) ∨ ∃ x, a0 = some x ∧ len0 ≤ cap0 ∧ cap0 ≤ maxLen ∧ z0.length = cap0 ∧ (∀ i, i < z0.length → w.cell? (x.add i) = some (.int .u32 (z0.getD i 0))) ∧ ∀ n ∈ z0, (Lit.int .u32 n).wf = true) (y0 : len0 * 4 ≤ 140737488351232) (w1 : (a1 = none ∧ len1 = 0 ∧ cap1 = 0 ∧ z1 = []) ∨ ∃ x, a1 = some x ∧ len1 ≤ cap1 ∧ cap1 ≤ maxLen ∧ z1.length = cap1 ∧ (∀ i, i < z1.length → w.cell? (x.add i) = some (.int .u32 (z1.getD i 0))) ∧ ∀ n ∈ z1, (Lit.int .u32 n).wf = true) (y1 : len1 * 4 ≤ 140737488351232) :
    Calls Try.prog 7 #[.slice a0 len0 cap0, .slice a1 len1 cap1] w fun e w' => e = .returned (.bool true) ∧ Below w.heap.size w w' := by
  obtain ⟨l0, rfl, hr0, hm0, hw0, hc0⟩ := ReadsInt.ofRowC w0
  obtain ⟨l1, rfl, hr1, hm1, hw1, hc1⟩ := ReadsInt.ofRowC w1
  obtain ⟨k, h⟩ := P l0 l1 hm0 y0 hw0 hm1 y1 hw1
  refine (offcutlaw01_NatSums.calls k _ _ l0 _ _ l1 true w (Kd.C_of_reads (d := (0 : Int)) (h1 := fun _ => rfl) hr0) hc0 (Kd.C_of_reads (d := (0 : Int)) (h1 := fun _ => rfl) hr1) hc1 h).mono ?_
  rintro e w' ⟨rfl, hd⟩
  exact ⟨rfl, hd⟩

end Go.Proofs.Ytmodmjeibbgdgaa.PR
