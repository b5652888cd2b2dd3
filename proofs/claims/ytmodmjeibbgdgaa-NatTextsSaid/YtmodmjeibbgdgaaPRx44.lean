-- PRINTED by print.py (a twelfth state) out of the translation. Not trusted: Lean checks it.
import Derived.Test.YtmodmjeibbgdgaaPRg0
import Derived.Test.YtmodmjeibbgdgaaPRx15
import Derived.Test.YtmodmjeibbgdgaaPRg16
import Derived.Test.YtmodmjeibbgdgaaPRg21
import Derived.Test.YtmodmjeibbgdgaaPRg42
namespace Go.Proofs.Ytmodmjeibbgdgaa.PR
open Go.RowKit Go.Proofs.YtmodmjeibbgdgaaW.PrintWords Go.Proofs.YtmodmjeibbgdgaaW.PrintLast Go.Proofs.YtmodmjeibbgdgaaW.PrintMore
attribute [local go_sem] max2_int min2_int max_two min_two max_three min_three max_four min_four   -- for this text's walks alone
set_option linter.unusedVariables false
set_option linter.unusedSimpArgs false

/-! ### offcutlaw01_NatTexts: function 11 -/
mutual
def offcutlaw01_NatTexts.j0 : Nat → List Int → ByteArray → Bool → Option (Bool)
  | 0, _, _, _ => none
  | k + 1, x0, x1, x18 => if x18 = true then ((offcutlaw01_awake.f k).bind fun t507 => (some t507)) else ((nat_Text.f k x0).bind fun t508 => ((nat_Parse.f k t508).bind fun bt509 => ((offcutref01_Of.f k x0).bind fun t513 => (if t508.toList = t513.toList then ((offcutlaw01_is.f k bt509.1 t508).bind fun t514 => (if t514 = true then (offcutlaw01_NatTexts.j1 k x1 (bt509.2 != 0)) else (offcutlaw01_NatTexts.j1 k x1 true))) else (offcutlaw01_NatTexts.j1 k x1 true)))))
def offcutlaw01_NatTexts.j1 : Nat → ByteArray → Bool → Option (Bool)
  | 0, _, _ => none
  | k + 1, x1, x40 => if x40 = true then (some false) else ((nat_Parse.f k x1).bind fun bt515 => (offcutlaw01_NatTexts.l0 k x1 bt515.1 bt515.2 (x1.size : Int) 0))
def offcutlaw01_NatTexts.l0 : Nat → ByteArray → List Int → Int → Int → Int → Option (Bool)
  | 0, _, _, _, _, _ => none
  | k + 1, x1, x8, x9, x47, x48 => if x48 < x47 then (if 0 ≤ x48 then (if x48 < (x1.size : Int) then (if (bt x1 x48) < 48 then (if (x8.length : Int) = 0 then (if x9 = 2 then ((offcutlaw01_awake.f k).bind fun t519 => (some t519)) else (some false)) else (some false)) else (if (bt x1 x48) > 57 then (if (x8.length : Int) = 0 then (if x9 = 2 then ((offcutlaw01_awake.f k).bind fun t520 => (some t520)) else (some false)) else (some false)) else (offcutlaw01_NatTexts.l0 k x1 x8 x9 x47 (wrap64 (x48 + 1))))) else (none)) else (none)) else (if x1.toList = ([] : List UInt8) then (if (x8.length : Int) = 0 then (if x9 = 2 then ((offcutlaw01_awake.f k).bind fun t521 => (some t521)) else (some false)) else (some false)) else (if (x1.size : Int) > 400 then (if (x8.length : Int) = 0 then (if x9 = 4 then ((offcutlaw01_awake.f k).bind fun t522 => (some t522)) else (some false)) else (some false)) else ((offcutref01_Add.f k x1 (⟨#[48]⟩ : ByteArray)).bind fun t523 => ((offcutlaw01_is.f k x8 t523).bind fun t524 => (if t524 = true then (if x9 = 0 then ((offcutlaw01_awake.f k).bind fun t525 => (some t525)) else (some false)) else (some false))))))
end
def offcutlaw01_NatTexts.f (k : Nat) (l0 : List Int) (a1 : ByteArray) : Option (Bool) := (offcutlaw01_few.f l0).bind fun t506 => (if t506 = true then (offcutlaw01_NatTexts.j0 k l0 a1 (decide ((a1.size : Int) > 500))) else (offcutlaw01_NatTexts.j0 k l0 a1 true))
theorem offcutlaw01_NatTexts.mono_l : ∀ k, (∀ y0 y1 y2, LeO (offcutlaw01_NatTexts.j0 k y0 y1 y2) (offcutlaw01_NatTexts.j0 (k + 1) y0 y1 y2)) ∧ (∀ y0 y1, LeO (offcutlaw01_NatTexts.j1 k y0 y1) (offcutlaw01_NatTexts.j1 (k + 1) y0 y1)) ∧ (∀ y0 y1 y2 y3 y4, LeO (offcutlaw01_NatTexts.l0 k y0 y1 y2 y3 y4) (offcutlaw01_NatTexts.l0 (k + 1) y0 y1 y2 y3 y4))
  | 0 => ⟨fun _ _ _ r h => by simp [offcutlaw01_NatTexts.j0] at h, fun _ _ r h => by simp [offcutlaw01_NatTexts.j1] at h, fun _ _ _ _ _ r h => by simp [offcutlaw01_NatTexts.l0] at h⟩
  | k + 1 => by
    obtain ⟨ih0, ih1, ih2⟩ := offcutlaw01_NatTexts.mono_l k
    refine ⟨?_, ?_, ?_⟩
    · intro y0 y1 y2
      unfold offcutlaw01_NatTexts.j0
      repeat' first
      | (with_reducible exact ih0 _ _ _)
      | (with_reducible exact ih1 _ _)
      | (with_reducible exact ih2 _ _ _ _ _)
      | (with_reducible exact nat_Parse.mono _ _)
      | (with_reducible exact nat_Text.mono _ _)
      | (with_reducible exact offcutlaw01_awake.mono _)
      | (with_reducible exact offcutlaw01_is.mono _ _ _)
      | (with_reducible exact offcutref01_Add.mono _ _ _)
      | (with_reducible exact offcutref01_Of.mono _ _)
      | (with_reducible exact LeO.refl _)
      | (with_reducible exact LeO.none _)
      | (with_reducible refine LeO.ite ?_ ?_)
      | (with_reducible refine LeO.bind ?_ (fun _ => ?_))
      | exact ih0 _ _ _
      | exact ih1 _ _
      | exact ih2 _ _ _ _ _
      | exact nat_Parse.mono _ _
      | exact nat_Text.mono _ _
      | exact offcutlaw01_awake.mono _
      | exact offcutlaw01_is.mono _ _ _
      | exact offcutref01_Add.mono _ _ _
      | exact offcutref01_Of.mono _ _
      | exact LeO.none _
      | refine LeO.ite ?_ ?_
      | refine LeO.bind ?_ (fun _ => ?_)
    · intro y0 y1
      unfold offcutlaw01_NatTexts.j1
      repeat' first
      | (with_reducible exact ih0 _ _ _)
      | (with_reducible exact ih1 _ _)
      | (with_reducible exact ih2 _ _ _ _ _)
      | (with_reducible exact nat_Parse.mono _ _)
      | (with_reducible exact nat_Text.mono _ _)
      | (with_reducible exact offcutlaw01_awake.mono _)
      | (with_reducible exact offcutlaw01_is.mono _ _ _)
      | (with_reducible exact offcutref01_Add.mono _ _ _)
      | (with_reducible exact offcutref01_Of.mono _ _)
      | (with_reducible exact LeO.refl _)
      | (with_reducible exact LeO.none _)
      | (with_reducible refine LeO.ite ?_ ?_)
      | (with_reducible refine LeO.bind ?_ (fun _ => ?_))
      | exact ih0 _ _ _
      | exact ih1 _ _
      | exact ih2 _ _ _ _ _
      | exact nat_Parse.mono _ _
      | exact nat_Text.mono _ _
      | exact offcutlaw01_awake.mono _
      | exact offcutlaw01_is.mono _ _ _
      | exact offcutref01_Add.mono _ _ _
      | exact offcutref01_Of.mono _ _
      | exact LeO.none _
      | refine LeO.ite ?_ ?_
      | refine LeO.bind ?_ (fun _ => ?_)
    · intro y0 y1 y2 y3 y4
      unfold offcutlaw01_NatTexts.l0
      repeat' first
      | (with_reducible exact ih0 _ _ _)
      | (with_reducible exact ih1 _ _)
      | (with_reducible exact ih2 _ _ _ _ _)
      | (with_reducible exact nat_Parse.mono _ _)
      | (with_reducible exact nat_Text.mono _ _)
      | (with_reducible exact offcutlaw01_awake.mono _)
      | (with_reducible exact offcutlaw01_is.mono _ _ _)
      | (with_reducible exact offcutref01_Add.mono _ _ _)
      | (with_reducible exact offcutref01_Of.mono _ _)
      | (with_reducible exact LeO.refl _)
      | (with_reducible exact LeO.none _)
      | (with_reducible refine LeO.ite ?_ ?_)
      | (with_reducible refine LeO.bind ?_ (fun _ => ?_))
      | exact ih0 _ _ _
      | exact ih1 _ _
      | exact ih2 _ _ _ _ _
      | exact nat_Parse.mono _ _
      | exact nat_Text.mono _ _
      | exact offcutlaw01_awake.mono _
      | exact offcutlaw01_is.mono _ _ _
      | exact offcutref01_Add.mono _ _ _
      | exact offcutref01_Of.mono _ _
      | exact LeO.none _
      | refine LeO.ite ?_ ?_
      | refine LeO.bind ?_ (fun _ => ?_)
theorem offcutlaw01_NatTexts.mono : ∀ a0 a1 k, LeO (offcutlaw01_NatTexts.f k a0 a1) (offcutlaw01_NatTexts.f (k + 1) a0 a1) := by
  intro a0 a1 k
  obtain ⟨ih0, ih1, ih2⟩ := offcutlaw01_NatTexts.mono_l k
  unfold offcutlaw01_NatTexts.f
  repeat' first
      | (with_reducible exact ih0 _ _ _)
      | (with_reducible exact ih1 _ _)
      | (with_reducible exact ih2 _ _ _ _ _)
      | (with_reducible exact nat_Parse.mono _ _)
      | (with_reducible exact nat_Text.mono _ _)
      | (with_reducible exact offcutlaw01_awake.mono _)
      | (with_reducible exact offcutlaw01_is.mono _ _ _)
      | (with_reducible exact offcutref01_Add.mono _ _ _)
      | (with_reducible exact offcutref01_Of.mono _ _)
      | (with_reducible exact LeO.refl _)
      | (with_reducible exact LeO.none _)
      | (with_reducible refine LeO.ite ?_ ?_)
      | (with_reducible refine LeO.bind ?_ (fun _ => ?_))
      | exact ih0 _ _ _
      | exact ih1 _ _
      | exact ih2 _ _ _ _ _
      | exact nat_Parse.mono _ _
      | exact nat_Text.mono _ _
      | exact offcutlaw01_awake.mono _
      | exact offcutlaw01_is.mono _ _ _
      | exact offcutref01_Add.mono _ _ _
      | exact offcutref01_Of.mono _ _
      | exact LeO.none _
      | refine LeO.ite ?_ ?_
      | refine LeO.bind ?_ (fun _ => ?_)
set_option maxHeartbeats 8000000 in
set_option maxRecDepth 100000 in
theorem offcutlaw01_NatTexts.calls (k : Nat) (A0 : Option Addr) (c0 : Nat) (l0 : List Int) (a1 : ByteArray) (r : Bool) (w : World) (hr0 : Kd.C (Kd.int .u32) w A0 l0.length l0) (hc0 : l0.length ≤ c0) (h : offcutlaw01_NatTexts.f k l0 a1 = some r) :
    Calls Try.prog 11 #[.slice A0 l0.length c0, .string a1] w fun e w' => e = .returned (.bool r) ∧ Below w.heap.size w w' := by
  have HR0 := Aside0.mk hr0
  have HC0 := Aside0.mk hc0
  clear hr0 hc0
  have HB := Aside0.mk (Below.refl w.heap.size w)
  have H : ((offcutlaw01_few.f l0).bind fun t506 => (if t506 = true then (offcutlaw01_NatTexts.j0 k l0 a1 (decide ((a1.size : Int) > 500))) else (offcutlaw01_NatTexts.j0 k l0 a1 true))) = some r := h
  clear h
  have HC3 := Aside0.mk H
  clear H
  go_enter Try.func11, Try.ntmps11
  go_upto_region 1 with (fail)
  go_cut [18] (fun v18 wc => ∃ (kq : Nat) (x18_2 : Bool), v18 = .bool x18_2 ∧ Aside0 (offcutlaw01_NatTexts.j0 kq l0 a1 x18_2 = some r) ∧ Aside0 (kq ≤ k) ∧ Aside0 (Below w.heap.size w wc))
  case first =>
    have H := HC3.out
    clear HC3
    replace H := Option.bind_eq_some_iff.mp H
    obtain ⟨t506, A40, H⟩ := H
    replace H : (if t506 = true then (offcutlaw01_NatTexts.j0 k l0 a1 (decide ((a1.size : Int) > 500))) else (offcutlaw01_NatTexts.j0 k l0 a1 true)) = some r := H
    have A4 := Aside0.mk A40
    clear A40
    by_cases c5 : t506 = true
    · subst c5
      have H1 : (offcutlaw01_NatTexts.j0 k l0 a1 (decide ((a1.size : Int) > 500))) = some r := by rw [if_pos rfl] at H; exact H
      clear H
      have H := H1
      clear H1
      have H' := Aside0.mk H
      clear H
      go_wp2_with (first | ((with_reducible refine gate_callee (f := 12) rfl ?_); refine goesL_ (some 12) rfl rfl Try.func12 (by kernel_rfl) rfl #[.slice A0 l0.length c0] rfl (by (try simp only [List.map_toArray, List.map_cons, List.map_nil]); first | done | rfl | (simp only [List.length_drop, List.length_take]; rfl)) ?_; (with_reducible refine (offcutlaw01_few.calls _ _ l0 true _ ?side1 ?side2 A4.out).mono ?_); (case side1 => repeat (first | exact (Kd.C_below HR0.out HB.out) | (with_reducible refine Kd.C_alloc ?_ _) | (with_reducible refine Kd.C_drewN ?_ _) | (with_reducible refine Kd.C_drew ?_))); (case side2 => exact HC0.out); rintro e w' ⟨rfl, ⟨nd, rfl⟩⟩; refine ⟨_, rfl, ?_⟩))
      go_meet
      case rel => exact ⟨_, (decide ((a1.size : Int) > 500)), (by first | rfl | (simp; done) | (simp [*]; done)), H', ⟨by first | omega | exact Nat.le_refl _⟩, ⟨by repeat (first | (with_reducible first | exact HB.out | apply below_alloc | apply pw_below_drewN | apply below_drew1) | exact HB.out)⟩⟩
    · replace c5 := Bool.eq_false_iff.mpr c5
      subst c5
      have H1 : (offcutlaw01_NatTexts.j0 k l0 a1 true) = some r := by rw [if_neg (show ¬ (false = true) by decide)] at H; exact H
      clear H
      have H := H1
      clear H1
      have H' := Aside0.mk H
      clear H
      go_wp2_with (first | ((with_reducible refine gate_callee (f := 12) rfl ?_); refine goesL_ (some 12) rfl rfl Try.func12 (by kernel_rfl) rfl #[.slice A0 l0.length c0] rfl (by (try simp only [List.map_toArray, List.map_cons, List.map_nil]); first | done | rfl | (simp only [List.length_drop, List.length_take]; rfl)) ?_; (with_reducible refine (offcutlaw01_few.calls _ _ l0 false _ ?side1 ?side2 A4.out).mono ?_); (case side1 => repeat (first | exact (Kd.C_below HR0.out HB.out) | (with_reducible refine Kd.C_alloc ?_ _) | (with_reducible refine Kd.C_drewN ?_ _) | (with_reducible refine Kd.C_drew ?_))); (case side2 => exact HC0.out); rintro e w' ⟨rfl, ⟨nd, rfl⟩⟩; refine ⟨_, rfl, ?_⟩))
      go_meet
      case rel => exact ⟨_, (true), (by first | rfl | (simp; done) | (simp [*]; done)), H', ⟨by first | omega | exact Nat.le_refl _⟩, ⟨by repeat (first | (with_reducible first | exact HB.out | apply below_alloc | apply pw_below_drewN | apply below_drew1) | exact HB.out)⟩⟩
  case rest =>
    clear HC3
    try clear c1
    try clear p2
    try clear c5
    obtain ⟨kq, x18_2, rfl, HA, HJ2, HB⟩ := hcut
    cases kq with
    | zero => exact absurd HA.out (by simp [offcutlaw01_NatTexts.j0])
    | succ kj2 =>
      have H := HA.out
      clear HA
      simp only [offcutlaw01_NatTexts.j0] at H
      by_cases c6 : x18_2 = true
      · subst c6
        have H1 : ((offcutlaw01_awake.f kj2).bind fun t507 => (some t507)) = some r := by rw [if_pos rfl] at H; exact H
        clear H
        have H := H1
        clear H1
        replace H := Option.bind_eq_some_iff.mp H
        obtain ⟨t507, A70, H⟩ := H
        replace H : (some t507) = some r := H
        have A7 := Aside0.mk A70
        clear A70
        obtain rfl := Option.some.inj H
        go_wp2_with (first | ((with_reducible refine gate_callee (f := 13) rfl ?_); refine goesL_ (some 19) rfl rfl Try.func13 (by kernel_rfl) rfl #[] rfl (by (try simp only [List.map_toArray, List.map_cons, List.map_nil]); first | done | rfl | (simp only [List.length_drop, List.length_take]; rfl)) ?_; (with_reducible refine (offcutlaw01_awake.calls kj2  t507 _ A7.out).mono ?_); rintro e w8 ⟨rfl, hb⟩; refine ⟨_, rfl, ?_⟩; have n0_ := Aside0.mk (below_step (by repeat (first | (with_reducible first | exact HB.out | apply below_alloc | apply pw_below_drewN | apply below_drew1) | exact HB.out)) hb); clear HB; have HB := n0_; clear n0_; (try clear hb); (try clear hb2); (try clear hk); (try clear hi)))
        go_ret
        exact ⟨by first | rfl | (simp [errW_none, errW_some] <;> rfl) | (simp [*, errW_none, errW_some] <;> rfl), by repeat (first | (with_reducible first | exact HB.out | apply below_alloc | apply pw_below_drewN | apply below_drew1) | exact HB.out)⟩
      · replace c6 := Bool.eq_false_iff.mpr c6
        subst c6
        have H1 : ((nat_Text.f kj2 l0).bind fun t508 => ((nat_Parse.f kj2 t508).bind fun bt509 => ((offcutref01_Of.f kj2 l0).bind fun t513 => (if t508.toList = t513.toList then ((offcutlaw01_is.f kj2 bt509.1 t508).bind fun t514 => (if t514 = true then (offcutlaw01_NatTexts.j1 kj2 a1 (bt509.2 != 0)) else (offcutlaw01_NatTexts.j1 kj2 a1 true))) else (offcutlaw01_NatTexts.j1 kj2 a1 true))))) = some r := by rw [if_neg (show ¬ (false = true) by decide)] at H; exact H
        clear H
        have H := H1
        clear H1
        replace H := Option.bind_eq_some_iff.mp H
        obtain ⟨t508, A90, H⟩ := H
        replace H : ((nat_Parse.f kj2 t508).bind fun bt509 => ((offcutref01_Of.f kj2 l0).bind fun t513 => (if t508.toList = t513.toList then ((offcutlaw01_is.f kj2 bt509.1 t508).bind fun t514 => (if t514 = true then (offcutlaw01_NatTexts.j1 kj2 a1 (bt509.2 != 0)) else (offcutlaw01_NatTexts.j1 kj2 a1 true))) else (offcutlaw01_NatTexts.j1 kj2 a1 true)))) = some r := H
        have A9 := Aside0.mk A90
        clear A90
        replace H := Option.bind_eq_some_iff.mp H
        obtain ⟨⟨t509, t510⟩, A100, H⟩ := H
        replace H : ((offcutref01_Of.f kj2 l0).bind fun t513 => (if t508.toList = t513.toList then ((offcutlaw01_is.f kj2 t509 t508).bind fun t514 => (if t514 = true then (offcutlaw01_NatTexts.j1 kj2 a1 (t510 != 0)) else (offcutlaw01_NatTexts.j1 kj2 a1 true))) else (offcutlaw01_NatTexts.j1 kj2 a1 true))) = some r := H
        have A10 := Aside0.mk A100
        clear A100
        have HC11 := Aside0.mk H
        clear H
        go_upto_region 5 with (first | ((with_reducible refine gate_callee (f := 34) rfl ?_); refine goesL_ (some 21) rfl rfl Try.func34 (by kernel_rfl) rfl #[.slice A0 l0.length c0] rfl (by (try simp only [List.map_toArray, List.map_cons, List.map_nil]); first | done | rfl | (simp only [List.length_drop, List.length_take]; rfl)) ?_; (with_reducible refine (nat_Text.calls kj2 _ _ l0 t508 _ ?side1 ?side2 A9.out).mono ?_); (case side1 => repeat (first | exact (Kd.C_below HR0.out HB.out) | (with_reducible refine Kd.C_alloc ?_ _) | (with_reducible refine Kd.C_drewN ?_ _) | (with_reducible refine Kd.C_drew ?_))); (case side2 => exact HC0.out); rintro e w12 ⟨rfl, hb⟩; refine ⟨_, rfl, ?_⟩; have n0_ := Aside0.mk (below_step (by repeat (first | (with_reducible first | exact HB.out | apply below_alloc | apply pw_below_drewN | apply below_drew1) | exact HB.out)) hb); clear HB; have HB := n0_; clear n0_; (try clear hb); (try clear hb2); (try clear hk); (try clear hi)) | ((with_reducible refine gate_callee (f := 35) rfl ?_); refine goesL_ (some 24) rfl rfl Try.func35 (by kernel_rfl) rfl #[.string t508] rfl (by (try simp only [List.map_toArray, List.map_cons, List.map_nil]); first | done | rfl | (simp only [List.length_drop, List.length_take]; rfl)) ?_; (with_reducible refine (nat_Parse.calls kj2 t508 t509 t510 _ A10.out).mono ?_); rintro e w13 ⟨v511, rfl, ho0, hb⟩; refine ⟨_, rfl, ?_⟩; have n0_ := Aside0.mk (Kd.R_lower ho0 (below_size (by repeat (first | (with_reducible first | exact HB.out | apply below_alloc | apply pw_below_drewN | apply below_drew1) | exact HB.out)))); have n1_ := Aside0.mk (below_step (by repeat (first | (with_reducible first | exact HB.out | apply below_alloc | apply pw_below_drewN | apply below_drew1) | exact HB.out)) hb); clear HB; have HO512 := n0_; have HB := n1_; clear n0_ n1_; (try clear hb); (try clear hb2); (try clear hk); (try clear hi); (try clear ho0)))
        (try simp only [Act.put, List.setIfInBounds_toArray, List.set_cons_zero, List.set_cons_succ])
        go_cut [40] (fun v40 wc => ∃ (kq : Nat) (x40_10 : Bool), v40 = .bool x40_10 ∧ Aside0 (offcutlaw01_NatTexts.j1 kq a1 x40_10 = some r) ∧ Aside0 (kq ≤ kj2) ∧ Aside0 (Below w.heap.size w wc))
        case first =>
          have H := HC11.out
          clear HC11
          replace H := Option.bind_eq_some_iff.mp H
          obtain ⟨t513, A140, H⟩ := H
          replace H : (if t508.toList = t513.toList then ((offcutlaw01_is.f kj2 t509 t508).bind fun t514 => (if t514 = true then (offcutlaw01_NatTexts.j1 kj2 a1 (t510 != 0)) else (offcutlaw01_NatTexts.j1 kj2 a1 true))) else (offcutlaw01_NatTexts.j1 kj2 a1 true)) = some r := H
          have A14 := Aside0.mk A140
          clear A140
          by_cases c15 : t508.toList = t513.toList
          · rw [if_pos c15] at H
            have c15b0 : (t508.toList == t513.toList) = true := beq_iff_eq.mpr c15
            have c15b1 : (t508.toList != t513.toList) = false := bne_eq_false_iff_eq.mpr c15
            clear c15
            (first | rw [c15b0] | (simp only [i64_w, i32_w]; rw [c15b0]) | skip)
            replace H := Option.bind_eq_some_iff.mp H
            obtain ⟨t514, A160, H⟩ := H
            replace H : (if t514 = true then (offcutlaw01_NatTexts.j1 kj2 a1 (t510 != 0)) else (offcutlaw01_NatTexts.j1 kj2 a1 true)) = some r := H
            have A16 := Aside0.mk A160
            clear A160
            by_cases c17 : t514 = true
            · subst c17
              have H1 : (offcutlaw01_NatTexts.j1 kj2 a1 (t510 != 0)) = some r := by rw [if_pos rfl] at H; exact H
              clear H
              have H := H1
              clear H1
              have H' := Aside0.mk H
              clear H
              go_wp2_with (first | ((with_reducible refine gate_callee (f := 14) rfl ?_); refine goesL_ (some 29) rfl rfl Try.func14 (by kernel_rfl) rfl #[.slice A0 l0.length c0] rfl (by (try simp only [List.map_toArray, List.map_cons, List.map_nil]); first | done | rfl | (simp only [List.length_drop, List.length_take]; rfl)) ?_; (with_reducible refine (offcutref01_Of.calls kj2 _ _ l0 t513 _ ?side1 ?side2 A14.out).mono ?_); (case side1 => repeat (first | exact (Kd.C_below HR0.out HB.out) | (with_reducible refine Kd.C_alloc ?_ _) | (with_reducible refine Kd.C_drewN ?_ _) | (with_reducible refine Kd.C_drew ?_))); (case side2 => exact HC0.out); rintro e w18 ⟨rfl, hb⟩; refine ⟨_, rfl, ?_⟩; have n0_ := Aside0.mk (Kd.R_below (by (with_reducible repeat (first | apply Kd.R_alloc | apply Kd.R_drewN | apply Kd.R_drew)); exact HO512.out) hb); have n1_ := Aside0.mk (below_step (by repeat (first | (with_reducible first | exact HB.out | apply below_alloc | apply pw_below_drewN | apply below_drew1) | exact HB.out)) hb); clear HO512; clear HB; have HO512 := n0_; have HB := n1_; clear n0_ n1_; (try clear hb); (try clear hb2); (try clear hk); (try clear hi); obtain ⟨Ao19, co19, eo19⟩ := Kd.R_slice HO512.out; subst eo19) | (go_at_call 17; (with_reducible refine (offcutlaw01_is.calls kj2 _ _ t509 t508 true _ ?side1 ?side2 A16.out).mono ?_); (case side1 => repeat (first | exact (Kd.R_reads' HO512.out).2.2 | (with_reducible refine Kd.C_alloc ?_ _) | (with_reducible refine Kd.C_drewN ?_ _) | (with_reducible refine Kd.C_drew ?_))); (case side2 => exact (Kd.R_reads' HO512.out).2.1); rintro e w20 ⟨rfl, hb⟩; have n0_ := Aside0.mk (Kd.R_below (by (with_reducible repeat (first | apply Kd.R_alloc | apply Kd.R_drewN | apply Kd.R_drew)); exact HO512.out) hb); have n1_ := Aside0.mk (below_step (by repeat (first | (with_reducible first | exact HB.out | apply below_alloc | apply pw_below_drewN | apply below_drew1) | exact HB.out)) hb); clear HO512; clear HB; have HO512 := n0_; have HB := n1_; clear n0_ n1_; (try clear hb); (try clear hb2); (try clear hk); (try clear hi)))
              go_meet
              case rel => exact ⟨_, ((t510 != 0)), (by first | rfl | (simp; done) | (simp [*]; done)), H', ⟨by have := HJ2.out; first | omega | exact Nat.le_refl _⟩, ⟨by repeat (first | (with_reducible first | exact HB.out | apply below_alloc | apply pw_below_drewN | apply below_drew1) | exact HB.out)⟩⟩
            · replace c17 := Bool.eq_false_iff.mpr c17
              subst c17
              have H1 : (offcutlaw01_NatTexts.j1 kj2 a1 true) = some r := by rw [if_neg (show ¬ (false = true) by decide)] at H; exact H
              clear H
              have H := H1
              clear H1
              have H' := Aside0.mk H
              clear H
              go_wp2_with (first | ((with_reducible refine gate_callee (f := 14) rfl ?_); refine goesL_ (some 29) rfl rfl Try.func14 (by kernel_rfl) rfl #[.slice A0 l0.length c0] rfl (by (try simp only [List.map_toArray, List.map_cons, List.map_nil]); first | done | rfl | (simp only [List.length_drop, List.length_take]; rfl)) ?_; (with_reducible refine (offcutref01_Of.calls kj2 _ _ l0 t513 _ ?side1 ?side2 A14.out).mono ?_); (case side1 => repeat (first | exact (Kd.C_below HR0.out HB.out) | (with_reducible refine Kd.C_alloc ?_ _) | (with_reducible refine Kd.C_drewN ?_ _) | (with_reducible refine Kd.C_drew ?_))); (case side2 => exact HC0.out); rintro e w21 ⟨rfl, hb⟩; refine ⟨_, rfl, ?_⟩; have n0_ := Aside0.mk (Kd.R_below (by (with_reducible repeat (first | apply Kd.R_alloc | apply Kd.R_drewN | apply Kd.R_drew)); exact HO512.out) hb); have n1_ := Aside0.mk (below_step (by repeat (first | (with_reducible first | exact HB.out | apply below_alloc | apply pw_below_drewN | apply below_drew1) | exact HB.out)) hb); clear HO512; clear HB; have HO512 := n0_; have HB := n1_; clear n0_ n1_; (try clear hb); (try clear hb2); (try clear hk); (try clear hi); obtain ⟨Ao22, co22, eo22⟩ := Kd.R_slice HO512.out; subst eo22) | (go_at_call 17; (with_reducible refine (offcutlaw01_is.calls kj2 _ _ t509 t508 false _ ?side1 ?side2 A16.out).mono ?_); (case side1 => repeat (first | exact (Kd.R_reads' HO512.out).2.2 | (with_reducible refine Kd.C_alloc ?_ _) | (with_reducible refine Kd.C_drewN ?_ _) | (with_reducible refine Kd.C_drew ?_))); (case side2 => exact (Kd.R_reads' HO512.out).2.1); rintro e w23 ⟨rfl, hb⟩; have n0_ := Aside0.mk (Kd.R_below (by (with_reducible repeat (first | apply Kd.R_alloc | apply Kd.R_drewN | apply Kd.R_drew)); exact HO512.out) hb); have n1_ := Aside0.mk (below_step (by repeat (first | (with_reducible first | exact HB.out | apply below_alloc | apply pw_below_drewN | apply below_drew1) | exact HB.out)) hb); clear HO512; clear HB; have HO512 := n0_; have HB := n1_; clear n0_ n1_; (try clear hb); (try clear hb2); (try clear hk); (try clear hi)))
              go_meet
              case rel => exact ⟨_, (true), (by first | rfl | (simp; done) | (simp [*]; done)), H', ⟨by have := HJ2.out; first | omega | exact Nat.le_refl _⟩, ⟨by repeat (first | (with_reducible first | exact HB.out | apply below_alloc | apply pw_below_drewN | apply below_drew1) | exact HB.out)⟩⟩
          · rw [if_neg c15] at H
            have c15b0 : (t508.toList == t513.toList) = false := beq_eq_false_iff_ne.mpr c15
            have c15b1 : (t508.toList != t513.toList) = true := bne_iff_ne.mpr c15
            (first | rw [c15b0] | (simp only [i64_w, i32_w]; rw [c15b0]) | skip)
            have H' := Aside0.mk H
            clear H
            go_wp2_with (first | ((with_reducible refine gate_callee (f := 14) rfl ?_); refine goesL_ (some 29) rfl rfl Try.func14 (by kernel_rfl) rfl #[.slice A0 l0.length c0] rfl (by (try simp only [List.map_toArray, List.map_cons, List.map_nil]); first | done | rfl | (simp only [List.length_drop, List.length_take]; rfl)) ?_; (with_reducible refine (offcutref01_Of.calls kj2 _ _ l0 t513 _ ?side1 ?side2 A14.out).mono ?_); (case side1 => repeat (first | exact (Kd.C_below HR0.out HB.out) | (with_reducible refine Kd.C_alloc ?_ _) | (with_reducible refine Kd.C_drewN ?_ _) | (with_reducible refine Kd.C_drew ?_))); (case side2 => exact HC0.out); rintro e w24 ⟨rfl, hb⟩; refine ⟨_, rfl, ?_⟩; have n0_ := Aside0.mk (Kd.R_below (by (with_reducible repeat (first | apply Kd.R_alloc | apply Kd.R_drewN | apply Kd.R_drew)); exact HO512.out) hb); have n1_ := Aside0.mk (below_step (by repeat (first | (with_reducible first | exact HB.out | apply below_alloc | apply pw_below_drewN | apply below_drew1) | exact HB.out)) hb); clear HO512; clear HB; have HO512 := n0_; have HB := n1_; clear n0_ n1_; (try clear hb); (try clear hb2); (try clear hk); (try clear hi)))
            go_meet
            case rel => exact ⟨_, (true), (by first | rfl | (simp; done) | (simp [*]; done)), H', ⟨by have := HJ2.out; first | omega | exact Nat.le_refl _⟩, ⟨by repeat (first | (with_reducible first | exact HB.out | apply below_alloc | apply pw_below_drewN | apply below_drew1) | exact HB.out)⟩⟩
        case rest =>
          clear HC11
          try clear c1
          try clear p2
          try clear c3
          try clear c5
          try clear c6
          try clear c11
          try clear c12
          try clear c13
          try clear c14
          try clear c15
          try clear c15b0
          try clear c15b1
          try clear c17
          try clear p2
          obtain ⟨kq, x40_10, rfl, HA, HJ10, HB⟩ := hcut
          cases kq with
          | zero => exact absurd HA.out (by simp [offcutlaw01_NatTexts.j1])
          | succ kj10 =>
            have H := HA.out
            clear HA
            simp only [offcutlaw01_NatTexts.j1] at H
            by_cases c25 : x40_10 = true
            · subst c25
              have H1 : (some false) = some r := by rw [if_pos rfl] at H; exact H
              clear H
              have H := H1
              clear H1
              obtain rfl := Option.some.inj H
              go_wp2
              go_ret
              exact ⟨by first | rfl | (simp [errW_none, errW_some] <;> rfl) | (simp [*, errW_none, errW_some] <;> rfl), by repeat (first | (with_reducible first | exact HB.out | apply below_alloc | apply pw_below_drewN | apply below_drew1) | exact HB.out)⟩
            · replace c25 := Bool.eq_false_iff.mpr c25
              subst c25
              have H1 : ((nat_Parse.f kj10 a1).bind fun bt515 => (offcutlaw01_NatTexts.l0 kj10 a1 bt515.1 bt515.2 (a1.size : Int) 0)) = some r := by rw [if_neg (show ¬ (false = true) by decide)] at H; exact H
              clear H
              have H := H1
              clear H1
              replace H := Option.bind_eq_some_iff.mp H
              obtain ⟨⟨t515, t516⟩, A260, H⟩ := H
              replace H : (offcutlaw01_NatTexts.l0 kj10 a1 t515 t516 (a1.size : Int) 0) = some r := H
              have A26 := Aside0.mk A260
              clear A260
              have H' := Aside0.mk H
              clear H
              go_wp2_with (first | ((with_reducible refine gate_callee (f := 35) rfl ?_); refine goesL_ (some 43) rfl rfl Try.func35 (by kernel_rfl) rfl #[.string a1] rfl (by (try simp only [List.map_toArray, List.map_cons, List.map_nil]); first | done | rfl | (simp only [List.length_drop, List.length_take]; rfl)) ?_; (with_reducible refine (nat_Parse.calls kj10 a1 t515 t516 _ A26.out).mono ?_); rintro e w27 ⟨v517, rfl, ho0, hb⟩; refine ⟨_, rfl, ?_⟩; have n0_ := Aside0.mk (Kd.R_lower ho0 (below_size (by repeat (first | (with_reducible first | exact HB.out | apply below_alloc | apply pw_below_drewN | apply below_drew1) | exact HB.out)))); have n1_ := Aside0.mk (below_step (by repeat (first | (with_reducible first | exact HB.out | apply below_alloc | apply pw_below_drewN | apply below_drew1) | exact HB.out)) hb); clear HB; have HO518 := n0_; have HB := n1_; clear n0_ n1_; (try clear hb); (try clear hb2); (try clear hk); (try clear hi); (try clear ho0)))
              go_loopg [48] kj10 (fun kq v48 w' => ∃ (x48_3 : Int), v48 = .int .i64 x48_3 ∧ Aside0 (offcutlaw01_NatTexts.l0 kq a1 t515 t516 (a1.size : Int) x48_3 = some r) ∧ Aside0 (kq ≤ kj10) ∧ Aside0 (Kd.R (Kd.int .u32) 33 w' w.heap.size (fun _ => True) v517 t515) ∧ Aside0 (Below w.heap.size w w'))
              case atStart => exact ⟨(0), (by first | rfl | (simp; done) | (simp [*]; done)), H', ⟨Nat.le_refl _⟩, ⟨by (with_reducible repeat (first | apply Kd.R_alloc | apply Kd.R_drewN | apply Kd.R_drew)); exact HO518.out⟩, ⟨by repeat (first | (with_reducible first | exact HB.out | apply below_alloc | apply pw_below_drewN | apply below_drew1) | exact HB.out)⟩⟩
              case round =>
                clear H'
                try clear c1
                try clear c2
                try clear p2
                try clear c3
                try clear c5
                try clear c6
                try clear c11
                try clear c12
                try clear c13
                try clear c14
                try clear c15
                try clear c15b0
                try clear c15b1
                try clear c17
                try clear c25
                try clear p2
                obtain ⟨x48_3, rfl, HA, HK3, HO_8, HB⟩ := hrel
                cases gk with
                | zero => exact absurd HA.out (by simp [offcutlaw01_NatTexts.l0])
                | succ k3 =>
                  have H := HA.out
                  clear HA
                  simp only [offcutlaw01_NatTexts.l0] at H
                  by_cases c28 : x48_3 < (a1.size : Int)
                  · rw [if_pos c28] at H
                    have c28b0 : decide (x48_3 < (a1.size : Int)) = true := decide_eq_true c28
                    clear c28
                    by_cases c29 : 0 ≤ x48_3
                    · rw [if_pos c29] at H
                      have c29b0 : decide (0 ≤ x48_3) = true := decide_eq_true c29
                      clear c29
                      by_cases c30 : x48_3 < (a1.size : Int)
                      · rw [if_pos c30] at H
                        have c30b0 : decide (x48_3 < (a1.size : Int)) = true := decide_eq_true c30
                        clear c30
                        by_cases c32 : (bt a1 x48_3) < 48
                        · rw [if_pos c32] at H
                          have c32b0 : decide ((bt a1 x48_3) < 48) = true := decide_eq_true c32
                          clear c32
                          by_cases c33 : (t515.length : Int) = 0
                          · rw [if_pos c33] at H
                            have c33b0 : ((t515.length : Int) == 0) = true := beq_iff_eq.mpr c33
                            have c33b1 : ((t515.length : Int) != 0) = false := bne_eq_false_iff_eq.mpr c33
                            clear c33
                            by_cases c34 : t516 = 2
                            · rw [if_pos c34] at H
                              have c34b0 : (t516 == 2) = true := beq_iff_eq.mpr c34
                              have c34b1 : (t516 != 2) = false := bne_eq_false_iff_eq.mpr c34
                              clear c34
                              replace H := Option.bind_eq_some_iff.mp H
                              obtain ⟨t519, A350, H⟩ := H
                              replace H : (some t519) = some r := H
                              have A35 := Aside0.mk A350
                              clear A350
                              obtain rfl := Option.some.inj H
                              have p31 : 0 ≤ (x48_3 : Int) := of_decide_eq_true (by first | (with_reducible assumption) | assumption)
                              have q31 : x48_3 < (a1.size : Int) := of_decide_eq_true (by first | (with_reducible assumption) | assumption)
                              have hx31 := bt_at a1 x48_3
                              replace p31 := eq_true p31
                              replace q31 := eq_true q31
                              obtain ⟨Ao36, co36, eo36⟩ := Kd.R_slice HO_8.out
                              subst eo36
                              go_wp2_with (first | (go_at_call 13; (with_reducible refine (offcutlaw01_awake.calls k3  t519 _ A35.out).mono ?_); rintro e w37 ⟨rfl, hb⟩; have n0_ := Aside0.mk (Kd.R_below (by (with_reducible repeat (first | apply Kd.R_alloc | apply Kd.R_drewN | apply Kd.R_drew)); exact HO_8.out) hb); have n1_ := Aside0.mk (below_step (by repeat (first | (with_reducible first | exact HB.out | apply below_alloc | apply pw_below_drewN | apply below_drew1) | exact HB.out)) hb); clear HO_8; clear HB; have HO_8 := n0_; have HB := n1_; clear n0_ n1_; (try clear hb); (try clear hb2); (try clear hk); (try clear hi)))
                              go_ret
                              exact ⟨by first | rfl | (simp [errW_none, errW_some] <;> rfl) | (simp [*, errW_none, errW_some] <;> rfl), by repeat (first | (with_reducible first | exact HB.out | apply below_alloc | apply pw_below_drewN | apply below_drew1) | exact HB.out)⟩
                            · rw [if_neg c34] at H
                              have c34b0 : (t516 == 2) = false := beq_eq_false_iff_ne.mpr c34
                              have c34b1 : (t516 != 2) = true := bne_iff_ne.mpr c34
                              obtain rfl := Option.some.inj H
                              have p31 : 0 ≤ (x48_3 : Int) := of_decide_eq_true (by first | (with_reducible assumption) | assumption)
                              have q31 : x48_3 < (a1.size : Int) := of_decide_eq_true (by first | (with_reducible assumption) | assumption)
                              have hx31 := bt_at a1 x48_3
                              replace p31 := eq_true p31
                              replace q31 := eq_true q31
                              obtain ⟨Ao38, co38, eo38⟩ := Kd.R_slice HO_8.out
                              subst eo38
                              go_wp2
                              go_ret
                              exact ⟨by first | rfl | (simp [errW_none, errW_some] <;> rfl) | (simp [*, errW_none, errW_some] <;> rfl), by repeat (first | (with_reducible first | exact HB.out | apply below_alloc | apply pw_below_drewN | apply below_drew1) | exact HB.out)⟩
                          · rw [if_neg c33] at H
                            have c33b0 : ((t515.length : Int) == 0) = false := beq_eq_false_iff_ne.mpr c33
                            have c33b1 : ((t515.length : Int) != 0) = true := bne_iff_ne.mpr c33
                            have c33b2 : ¬ (t515 = []) := fun h_ => c33 (by rw [h_]; rfl)
                            obtain rfl := Option.some.inj H
                            have p31 : 0 ≤ (x48_3 : Int) := of_decide_eq_true (by first | (with_reducible assumption) | assumption)
                            have q31 : x48_3 < (a1.size : Int) := of_decide_eq_true (by first | (with_reducible assumption) | assumption)
                            have hx31 := bt_at a1 x48_3
                            replace p31 := eq_true p31
                            replace q31 := eq_true q31
                            obtain ⟨Ao39, co39, eo39⟩ := Kd.R_slice HO_8.out
                            subst eo39
                            go_wp2
                            go_ret
                            exact ⟨by first | rfl | (simp [errW_none, errW_some] <;> rfl) | (simp [*, errW_none, errW_some] <;> rfl), by repeat (first | (with_reducible first | exact HB.out | apply below_alloc | apply pw_below_drewN | apply below_drew1) | exact HB.out)⟩
                        · rw [if_neg c32] at H
                          have c32b0 : decide ((bt a1 x48_3) < 48) = false := decide_eq_false c32
                          clear c32
                          by_cases c41 : (bt a1 x48_3) > 57
                          · rw [if_pos c41] at H
                            have c41b0 : decide (57 < (bt a1 x48_3)) = true := decide_eq_true c41
                            clear c41
                            by_cases c42 : (t515.length : Int) = 0
                            · rw [if_pos c42] at H
                              have c42b0 : ((t515.length : Int) == 0) = true := beq_iff_eq.mpr c42
                              have c42b1 : ((t515.length : Int) != 0) = false := bne_eq_false_iff_eq.mpr c42
                              clear c42
                              by_cases c43 : t516 = 2
                              · rw [if_pos c43] at H
                                have c43b0 : (t516 == 2) = true := beq_iff_eq.mpr c43
                                have c43b1 : (t516 != 2) = false := bne_eq_false_iff_eq.mpr c43
                                clear c43
                                replace H := Option.bind_eq_some_iff.mp H
                                obtain ⟨t520, A440, H⟩ := H
                                replace H : (some t520) = some r := H
                                have A44 := Aside0.mk A440
                                clear A440
                                obtain rfl := Option.some.inj H
                                have p31 : 0 ≤ (x48_3 : Int) := of_decide_eq_true (by first | (with_reducible assumption) | assumption)
                                have q31 : x48_3 < (a1.size : Int) := of_decide_eq_true (by first | (with_reducible assumption) | assumption)
                                have hx31 := bt_at a1 x48_3
                                replace p31 := eq_true p31
                                replace q31 := eq_true q31
                                have p40 : 0 ≤ (x48_3 : Int) := of_decide_eq_true (by first | (with_reducible assumption) | assumption)
                                have q40 : x48_3 < (a1.size : Int) := of_decide_eq_true (by first | (with_reducible assumption) | assumption)
                                have hx40 := bt_at a1 x48_3
                                replace p40 := eq_true p40
                                replace q40 := eq_true q40
                                obtain ⟨Ao45, co45, eo45⟩ := Kd.R_slice HO_8.out
                                subst eo45
                                go_wp2_with (first | (go_at_call 13; (with_reducible refine (offcutlaw01_awake.calls k3  t520 _ A44.out).mono ?_); rintro e w46 ⟨rfl, hb⟩; have n0_ := Aside0.mk (Kd.R_below (by (with_reducible repeat (first | apply Kd.R_alloc | apply Kd.R_drewN | apply Kd.R_drew)); exact HO_8.out) hb); have n1_ := Aside0.mk (below_step (by repeat (first | (with_reducible first | exact HB.out | apply below_alloc | apply pw_below_drewN | apply below_drew1) | exact HB.out)) hb); clear HO_8; clear HB; have HO_8 := n0_; have HB := n1_; clear n0_ n1_; (try clear hb); (try clear hb2); (try clear hk); (try clear hi)))
                                go_ret
                                exact ⟨by first | rfl | (simp [errW_none, errW_some] <;> rfl) | (simp [*, errW_none, errW_some] <;> rfl), by repeat (first | (with_reducible first | exact HB.out | apply below_alloc | apply pw_below_drewN | apply below_drew1) | exact HB.out)⟩
                              · rw [if_neg c43] at H
                                have c43b0 : (t516 == 2) = false := beq_eq_false_iff_ne.mpr c43
                                have c43b1 : (t516 != 2) = true := bne_iff_ne.mpr c43
                                obtain rfl := Option.some.inj H
                                have p31 : 0 ≤ (x48_3 : Int) := of_decide_eq_true (by first | (with_reducible assumption) | assumption)
                                have q31 : x48_3 < (a1.size : Int) := of_decide_eq_true (by first | (with_reducible assumption) | assumption)
                                have hx31 := bt_at a1 x48_3
                                replace p31 := eq_true p31
                                replace q31 := eq_true q31
                                have p40 : 0 ≤ (x48_3 : Int) := of_decide_eq_true (by first | (with_reducible assumption) | assumption)
                                have q40 : x48_3 < (a1.size : Int) := of_decide_eq_true (by first | (with_reducible assumption) | assumption)
                                have hx40 := bt_at a1 x48_3
                                replace p40 := eq_true p40
                                replace q40 := eq_true q40
                                obtain ⟨Ao47, co47, eo47⟩ := Kd.R_slice HO_8.out
                                subst eo47
                                go_wp2
                                go_ret
                                exact ⟨by first | rfl | (simp [errW_none, errW_some] <;> rfl) | (simp [*, errW_none, errW_some] <;> rfl), by repeat (first | (with_reducible first | exact HB.out | apply below_alloc | apply pw_below_drewN | apply below_drew1) | exact HB.out)⟩
                            · rw [if_neg c42] at H
                              have c42b0 : ((t515.length : Int) == 0) = false := beq_eq_false_iff_ne.mpr c42
                              have c42b1 : ((t515.length : Int) != 0) = true := bne_iff_ne.mpr c42
                              have c42b2 : ¬ (t515 = []) := fun h_ => c42 (by rw [h_]; rfl)
                              obtain rfl := Option.some.inj H
                              have p31 : 0 ≤ (x48_3 : Int) := of_decide_eq_true (by first | (with_reducible assumption) | assumption)
                              have q31 : x48_3 < (a1.size : Int) := of_decide_eq_true (by first | (with_reducible assumption) | assumption)
                              have hx31 := bt_at a1 x48_3
                              replace p31 := eq_true p31
                              replace q31 := eq_true q31
                              have p40 : 0 ≤ (x48_3 : Int) := of_decide_eq_true (by first | (with_reducible assumption) | assumption)
                              have q40 : x48_3 < (a1.size : Int) := of_decide_eq_true (by first | (with_reducible assumption) | assumption)
                              have hx40 := bt_at a1 x48_3
                              replace p40 := eq_true p40
                              replace q40 := eq_true q40
                              obtain ⟨Ao48, co48, eo48⟩ := Kd.R_slice HO_8.out
                              subst eo48
                              go_wp2
                              go_ret
                              exact ⟨by first | rfl | (simp [errW_none, errW_some] <;> rfl) | (simp [*, errW_none, errW_some] <;> rfl), by repeat (first | (with_reducible first | exact HB.out | apply below_alloc | apply pw_below_drewN | apply below_drew1) | exact HB.out)⟩
                          · rw [if_neg c41] at H
                            have c41b0 : decide (57 < (bt a1 x48_3)) = false := decide_eq_false c41
                            clear c41
                            have H' := Aside0.mk H
                            clear H
                            have p31 : 0 ≤ (x48_3 : Int) := of_decide_eq_true (by first | (with_reducible assumption) | assumption)
                            have q31 : x48_3 < (a1.size : Int) := of_decide_eq_true (by first | (with_reducible assumption) | assumption)
                            have hx31 := bt_at a1 x48_3
                            replace p31 := eq_true p31
                            replace q31 := eq_true q31
                            have p40 : 0 ≤ (x48_3 : Int) := of_decide_eq_true (by first | (with_reducible assumption) | assumption)
                            have q40 : x48_3 < (a1.size : Int) := of_decide_eq_true (by first | (with_reducible assumption) | assumption)
                            have hx40 := bt_at a1 x48_3
                            replace p40 := eq_true p40
                            replace q40 := eq_true q40
                            go_wp2
                            go_roundg k3
                            case measure => have := HJ2.out; have := HJ10.out; have := HK3.out; omega
                            case rel => exact ⟨(wrap64 (x48_3 + 1)), (by first | rfl | (simp; done) | (simp [*]; done)), H', ⟨by have := HJ2.out; have := HJ10.out; have := HK3.out; omega⟩, ⟨by (with_reducible repeat (first | apply Kd.R_alloc | apply Kd.R_drewN | apply Kd.R_drew)); exact HO_8.out⟩, ⟨by repeat (first | (with_reducible first | exact HB.out | apply below_alloc | apply pw_below_drewN | apply below_drew1) | exact HB.out)⟩⟩
                      · rw [if_neg c30] at H
                        exact absurd H (by simp)
                    · rw [if_neg c29] at H
                      exact absurd H (by simp)
                  · rw [if_neg c28] at H
                    have c28b0 : decide (x48_3 < (a1.size : Int)) = false := decide_eq_false c28
                    clear c28
                    by_cases c49 : a1.toList = ([] : List UInt8)
                    · rw [if_pos c49] at H
                      have c49b0 : (a1.toList == ([] : List UInt8)) = true := beq_iff_eq.mpr c49
                      have c49b1 : (a1.toList != ([] : List UInt8)) = false := bne_eq_false_iff_eq.mpr c49
                      clear c49
                      by_cases c50 : (t515.length : Int) = 0
                      · rw [if_pos c50] at H
                        have c50b0 : ((t515.length : Int) == 0) = true := beq_iff_eq.mpr c50
                        have c50b1 : ((t515.length : Int) != 0) = false := bne_eq_false_iff_eq.mpr c50
                        clear c50
                        by_cases c51 : t516 = 2
                        · rw [if_pos c51] at H
                          have c51b0 : (t516 == 2) = true := beq_iff_eq.mpr c51
                          have c51b1 : (t516 != 2) = false := bne_eq_false_iff_eq.mpr c51
                          clear c51
                          replace H := Option.bind_eq_some_iff.mp H
                          obtain ⟨t521, A520, H⟩ := H
                          replace H : (some t521) = some r := H
                          have A52 := Aside0.mk A520
                          clear A520
                          obtain rfl := Option.some.inj H
                          obtain ⟨Ao53, co53, eo53⟩ := Kd.R_slice HO_8.out
                          subst eo53
                          go_wp2_with (first | (go_at_call 13; (with_reducible refine (offcutlaw01_awake.calls k3  t521 _ A52.out).mono ?_); rintro e w54 ⟨rfl, hb⟩; have n0_ := Aside0.mk (Kd.R_below (by (with_reducible repeat (first | apply Kd.R_alloc | apply Kd.R_drewN | apply Kd.R_drew)); exact HO_8.out) hb); have n1_ := Aside0.mk (below_step (by repeat (first | (with_reducible first | exact HB.out | apply below_alloc | apply pw_below_drewN | apply below_drew1) | exact HB.out)) hb); clear HO_8; clear HB; have HO_8 := n0_; have HB := n1_; clear n0_ n1_; (try clear hb); (try clear hb2); (try clear hk); (try clear hi)))
                          go_ret
                          exact ⟨by first | rfl | (simp [errW_none, errW_some] <;> rfl) | (simp [*, errW_none, errW_some] <;> rfl), by repeat (first | (with_reducible first | exact HB.out | apply below_alloc | apply pw_below_drewN | apply below_drew1) | exact HB.out)⟩
                        · rw [if_neg c51] at H
                          have c51b0 : (t516 == 2) = false := beq_eq_false_iff_ne.mpr c51
                          have c51b1 : (t516 != 2) = true := bne_iff_ne.mpr c51
                          obtain rfl := Option.some.inj H
                          obtain ⟨Ao55, co55, eo55⟩ := Kd.R_slice HO_8.out
                          subst eo55
                          go_wp2
                          go_ret
                          exact ⟨by first | rfl | (simp [errW_none, errW_some] <;> rfl) | (simp [*, errW_none, errW_some] <;> rfl), by repeat (first | (with_reducible first | exact HB.out | apply below_alloc | apply pw_below_drewN | apply below_drew1) | exact HB.out)⟩
                      · rw [if_neg c50] at H
                        have c50b0 : ((t515.length : Int) == 0) = false := beq_eq_false_iff_ne.mpr c50
                        have c50b1 : ((t515.length : Int) != 0) = true := bne_iff_ne.mpr c50
                        have c50b2 : ¬ (t515 = []) := fun h_ => c50 (by rw [h_]; rfl)
                        obtain rfl := Option.some.inj H
                        obtain ⟨Ao56, co56, eo56⟩ := Kd.R_slice HO_8.out
                        subst eo56
                        go_wp2
                        go_ret
                        exact ⟨by first | rfl | (simp [errW_none, errW_some] <;> rfl) | (simp [*, errW_none, errW_some] <;> rfl), by repeat (first | (with_reducible first | exact HB.out | apply below_alloc | apply pw_below_drewN | apply below_drew1) | exact HB.out)⟩
                    · rw [if_neg c49] at H
                      have c49b0 : (a1.toList == ([] : List UInt8)) = false := beq_eq_false_iff_ne.mpr c49
                      have c49b1 : (a1.toList != ([] : List UInt8)) = true := bne_iff_ne.mpr c49
                      by_cases c57 : (a1.size : Int) > 400
                      · rw [if_pos c57] at H
                        have c57b0 : decide (400 < (a1.size : Int)) = true := decide_eq_true c57
                        have c57b1 : decide (400 < a1.size) = true := decide_eq_true (by omega)
                        clear c57
                        by_cases c58 : (t515.length : Int) = 0
                        · rw [if_pos c58] at H
                          have c58b0 : ((t515.length : Int) == 0) = true := beq_iff_eq.mpr c58
                          have c58b1 : ((t515.length : Int) != 0) = false := bne_eq_false_iff_eq.mpr c58
                          clear c58
                          by_cases c59 : t516 = 4
                          · rw [if_pos c59] at H
                            have c59b0 : (t516 == 4) = true := beq_iff_eq.mpr c59
                            have c59b1 : (t516 != 4) = false := bne_eq_false_iff_eq.mpr c59
                            clear c59
                            replace H := Option.bind_eq_some_iff.mp H
                            obtain ⟨t522, A600, H⟩ := H
                            replace H : (some t522) = some r := H
                            have A60 := Aside0.mk A600
                            clear A600
                            obtain rfl := Option.some.inj H
                            obtain ⟨Ao61, co61, eo61⟩ := Kd.R_slice HO_8.out
                            subst eo61
                            go_wp2_with (first | (go_at_call 13; (with_reducible refine (offcutlaw01_awake.calls k3  t522 _ A60.out).mono ?_); rintro e w62 ⟨rfl, hb⟩; have n0_ := Aside0.mk (Kd.R_below (by (with_reducible repeat (first | apply Kd.R_alloc | apply Kd.R_drewN | apply Kd.R_drew)); exact HO_8.out) hb); have n1_ := Aside0.mk (below_step (by repeat (first | (with_reducible first | exact HB.out | apply below_alloc | apply pw_below_drewN | apply below_drew1) | exact HB.out)) hb); clear HO_8; clear HB; have HO_8 := n0_; have HB := n1_; clear n0_ n1_; (try clear hb); (try clear hb2); (try clear hk); (try clear hi)))
                            go_ret
                            exact ⟨by first | rfl | (simp [errW_none, errW_some] <;> rfl) | (simp [*, errW_none, errW_some] <;> rfl), by repeat (first | (with_reducible first | exact HB.out | apply below_alloc | apply pw_below_drewN | apply below_drew1) | exact HB.out)⟩
                          · rw [if_neg c59] at H
                            have c59b0 : (t516 == 4) = false := beq_eq_false_iff_ne.mpr c59
                            have c59b1 : (t516 != 4) = true := bne_iff_ne.mpr c59
                            obtain rfl := Option.some.inj H
                            obtain ⟨Ao63, co63, eo63⟩ := Kd.R_slice HO_8.out
                            subst eo63
                            go_wp2
                            go_ret
                            exact ⟨by first | rfl | (simp [errW_none, errW_some] <;> rfl) | (simp [*, errW_none, errW_some] <;> rfl), by repeat (first | (with_reducible first | exact HB.out | apply below_alloc | apply pw_below_drewN | apply below_drew1) | exact HB.out)⟩
                        · rw [if_neg c58] at H
                          have c58b0 : ((t515.length : Int) == 0) = false := beq_eq_false_iff_ne.mpr c58
                          have c58b1 : ((t515.length : Int) != 0) = true := bne_iff_ne.mpr c58
                          have c58b2 : ¬ (t515 = []) := fun h_ => c58 (by rw [h_]; rfl)
                          obtain rfl := Option.some.inj H
                          obtain ⟨Ao64, co64, eo64⟩ := Kd.R_slice HO_8.out
                          subst eo64
                          go_wp2
                          go_ret
                          exact ⟨by first | rfl | (simp [errW_none, errW_some] <;> rfl) | (simp [*, errW_none, errW_some] <;> rfl), by repeat (first | (with_reducible first | exact HB.out | apply below_alloc | apply pw_below_drewN | apply below_drew1) | exact HB.out)⟩
                      · rw [if_neg c57] at H
                        have c57b0 : decide (400 < (a1.size : Int)) = false := decide_eq_false c57
                        have c57b1 : decide (400 < a1.size) = false := decide_eq_false (by omega)
                        clear c57
                        replace H := Option.bind_eq_some_iff.mp H
                        obtain ⟨t523, A650, H⟩ := H
                        replace H : ((offcutlaw01_is.f k3 t515 t523).bind fun t524 => (if t524 = true then (if t516 = 0 then ((offcutlaw01_awake.f k3).bind fun t525 => (some t525)) else (some false)) else (some false))) = some r := H
                        have A65 := Aside0.mk A650
                        clear A650
                        replace H := Option.bind_eq_some_iff.mp H
                        obtain ⟨t524, A660, H⟩ := H
                        replace H : (if t524 = true then (if t516 = 0 then ((offcutlaw01_awake.f k3).bind fun t525 => (some t525)) else (some false)) else (some false)) = some r := H
                        have A66 := Aside0.mk A660
                        clear A660
                        by_cases c67 : t524 = true
                        · subst c67
                          have H1 : (if t516 = 0 then ((offcutlaw01_awake.f k3).bind fun t525 => (some t525)) else (some false)) = some r := by rw [if_pos rfl] at H; exact H
                          clear H
                          have H := H1
                          clear H1
                          by_cases c68 : t516 = 0
                          · rw [if_pos c68] at H
                            have c68b0 : (t516 == 0) = true := beq_iff_eq.mpr c68
                            have c68b1 : (t516 != 0) = false := bne_eq_false_iff_eq.mpr c68
                            clear c68
                            replace H := Option.bind_eq_some_iff.mp H
                            obtain ⟨t525, A690, H⟩ := H
                            replace H : (some t525) = some r := H
                            have A69 := Aside0.mk A690
                            clear A690
                            obtain rfl := Option.some.inj H
                            go_wp2_with (first | ((with_reducible refine gate_callee (f := 31) rfl ?_); refine goesL_ (some 101) rfl rfl Try.func31 (by kernel_rfl) rfl #[.string a1, .string (⟨#[48]⟩ : ByteArray)] rfl (by (try simp only [List.map_toArray, List.map_cons, List.map_nil]); first | done | rfl | (simp only [List.length_drop, List.length_take]; rfl)) ?_; (with_reducible refine (offcutref01_Add.calls k3 a1 (⟨#[48]⟩ : ByteArray) t523 _ A65.out).mono ?_); rintro e w' ⟨rfl, ⟨nd, rfl⟩⟩; refine ⟨_, rfl, ?_⟩; obtain ⟨Ao70, co70, eo70⟩ := Kd.R_slice HO_8.out; subst eo70) | ((with_reducible refine gate_callee (f := 17) rfl ?_); refine goesL_ (some 102) rfl rfl Try.func17 (by kernel_rfl) rfl #[.slice Ao70 t515.length co70, .string t523] rfl (by (try simp only [List.map_toArray, List.map_cons, List.map_nil]); first | done | rfl | (simp only [List.length_drop, List.length_take]; rfl)) ?_; (with_reducible refine (offcutlaw01_is.calls k3 _ _ t515 t523 true _ ?side1 ?side2 A66.out).mono ?_); (case side1 => repeat (first | exact (Kd.R_reads' HO_8.out).2.2 | (with_reducible refine Kd.C_alloc ?_ _) | (with_reducible refine Kd.C_drewN ?_ _) | (with_reducible refine Kd.C_drew ?_))); (case side2 => exact (Kd.R_reads' HO_8.out).2.1); rintro e w71 ⟨rfl, hb⟩; refine ⟨_, rfl, ?_⟩; have n0_ := Aside0.mk (Kd.R_below (by (with_reducible repeat (first | apply Kd.R_alloc | apply Kd.R_drewN | apply Kd.R_drew)); exact HO_8.out) hb); have n1_ := Aside0.mk (below_step (by repeat (first | (with_reducible first | exact HB.out | apply below_alloc | apply pw_below_drewN | apply below_drew1) | exact HB.out)) hb); clear HO_8; clear HB; have HO_8 := n0_; have HB := n1_; clear n0_ n1_; (try clear hb); (try clear hb2); (try clear hk); (try clear hi)) | (go_at_call 13; (with_reducible refine (offcutlaw01_awake.calls k3  t525 _ A69.out).mono ?_); rintro e w72 ⟨rfl, hb⟩; have n0_ := Aside0.mk (Kd.R_below (by (with_reducible repeat (first | apply Kd.R_alloc | apply Kd.R_drewN | apply Kd.R_drew)); exact HO_8.out) hb); have n1_ := Aside0.mk (below_step (by repeat (first | (with_reducible first | exact HB.out | apply below_alloc | apply pw_below_drewN | apply below_drew1) | exact HB.out)) hb); clear HO_8; clear HB; have HO_8 := n0_; have HB := n1_; clear n0_ n1_; (try clear hb); (try clear hb2); (try clear hk); (try clear hi)))
                            go_ret
                            exact ⟨by first | rfl | (simp [errW_none, errW_some] <;> rfl) | (simp [*, errW_none, errW_some] <;> rfl), by repeat (first | (with_reducible first | exact HB.out | apply below_alloc | apply pw_below_drewN | apply below_drew1) | exact HB.out)⟩
                          · rw [if_neg c68] at H
                            have c68b0 : (t516 == 0) = false := beq_eq_false_iff_ne.mpr c68
                            have c68b1 : (t516 != 0) = true := bne_iff_ne.mpr c68
                            obtain rfl := Option.some.inj H
                            go_wp2_with (first | ((with_reducible refine gate_callee (f := 31) rfl ?_); refine goesL_ (some 101) rfl rfl Try.func31 (by kernel_rfl) rfl #[.string a1, .string (⟨#[48]⟩ : ByteArray)] rfl (by (try simp only [List.map_toArray, List.map_cons, List.map_nil]); first | done | rfl | (simp only [List.length_drop, List.length_take]; rfl)) ?_; (with_reducible refine (offcutref01_Add.calls k3 a1 (⟨#[48]⟩ : ByteArray) t523 _ A65.out).mono ?_); rintro e w' ⟨rfl, ⟨nd, rfl⟩⟩; refine ⟨_, rfl, ?_⟩; obtain ⟨Ao73, co73, eo73⟩ := Kd.R_slice HO_8.out; subst eo73) | ((with_reducible refine gate_callee (f := 17) rfl ?_); refine goesL_ (some 102) rfl rfl Try.func17 (by kernel_rfl) rfl #[.slice Ao73 t515.length co73, .string t523] rfl (by (try simp only [List.map_toArray, List.map_cons, List.map_nil]); first | done | rfl | (simp only [List.length_drop, List.length_take]; rfl)) ?_; (with_reducible refine (offcutlaw01_is.calls k3 _ _ t515 t523 true _ ?side1 ?side2 A66.out).mono ?_); (case side1 => repeat (first | exact (Kd.R_reads' HO_8.out).2.2 | (with_reducible refine Kd.C_alloc ?_ _) | (with_reducible refine Kd.C_drewN ?_ _) | (with_reducible refine Kd.C_drew ?_))); (case side2 => exact (Kd.R_reads' HO_8.out).2.1); rintro e w74 ⟨rfl, hb⟩; refine ⟨_, rfl, ?_⟩; have n0_ := Aside0.mk (Kd.R_below (by (with_reducible repeat (first | apply Kd.R_alloc | apply Kd.R_drewN | apply Kd.R_drew)); exact HO_8.out) hb); have n1_ := Aside0.mk (below_step (by repeat (first | (with_reducible first | exact HB.out | apply below_alloc | apply pw_below_drewN | apply below_drew1) | exact HB.out)) hb); clear HO_8; clear HB; have HO_8 := n0_; have HB := n1_; clear n0_ n1_; (try clear hb); (try clear hb2); (try clear hk); (try clear hi)))
                            go_ret
                            exact ⟨by first | rfl | (simp [errW_none, errW_some] <;> rfl) | (simp [*, errW_none, errW_some] <;> rfl), by repeat (first | (with_reducible first | exact HB.out | apply below_alloc | apply pw_below_drewN | apply below_drew1) | exact HB.out)⟩
                        · replace c67 := Bool.eq_false_iff.mpr c67
                          subst c67
                          have H1 : (some false) = some r := by rw [if_neg (show ¬ (false = true) by decide)] at H; exact H
                          clear H
                          have H := H1
                          clear H1
                          obtain rfl := Option.some.inj H
                          go_wp2_with (first | ((with_reducible refine gate_callee (f := 31) rfl ?_); refine goesL_ (some 101) rfl rfl Try.func31 (by kernel_rfl) rfl #[.string a1, .string (⟨#[48]⟩ : ByteArray)] rfl (by (try simp only [List.map_toArray, List.map_cons, List.map_nil]); first | done | rfl | (simp only [List.length_drop, List.length_take]; rfl)) ?_; (with_reducible refine (offcutref01_Add.calls k3 a1 (⟨#[48]⟩ : ByteArray) t523 _ A65.out).mono ?_); rintro e w' ⟨rfl, ⟨nd, rfl⟩⟩; refine ⟨_, rfl, ?_⟩; obtain ⟨Ao75, co75, eo75⟩ := Kd.R_slice HO_8.out; subst eo75) | ((with_reducible refine gate_callee (f := 17) rfl ?_); refine goesL_ (some 102) rfl rfl Try.func17 (by kernel_rfl) rfl #[.slice Ao75 t515.length co75, .string t523] rfl (by (try simp only [List.map_toArray, List.map_cons, List.map_nil]); first | done | rfl | (simp only [List.length_drop, List.length_take]; rfl)) ?_; (with_reducible refine (offcutlaw01_is.calls k3 _ _ t515 t523 false _ ?side1 ?side2 A66.out).mono ?_); (case side1 => repeat (first | exact (Kd.R_reads' HO_8.out).2.2 | (with_reducible refine Kd.C_alloc ?_ _) | (with_reducible refine Kd.C_drewN ?_ _) | (with_reducible refine Kd.C_drew ?_))); (case side2 => exact (Kd.R_reads' HO_8.out).2.1); rintro e w76 ⟨rfl, hb⟩; refine ⟨_, rfl, ?_⟩; have n0_ := Aside0.mk (Kd.R_below (by (with_reducible repeat (first | apply Kd.R_alloc | apply Kd.R_drewN | apply Kd.R_drew)); exact HO_8.out) hb); have n1_ := Aside0.mk (below_step (by repeat (first | (with_reducible first | exact HB.out | apply below_alloc | apply pw_below_drewN | apply below_drew1) | exact HB.out)) hb); clear HO_8; clear HB; have HO_8 := n0_; have HB := n1_; clear n0_ n1_; (try clear hb); (try clear hb2); (try clear hk); (try clear hi)))
                          go_ret
                          exact ⟨by first | rfl | (simp [errW_none, errW_some] <;> rfl) | (simp [*, errW_none, errW_some] <;> rfl), by repeat (first | (with_reducible first | exact HB.out | apply below_alloc | apply pw_below_drewN | apply below_drew1) | exact HB.out)⟩

/-- THE ONE PURE STATEMENT of offcutlaw01_NatTexts: yours. -/
def offcutlaw01_NatTexts.Pure : Prop := ∀ (l0 : List Int) (a1 : ByteArray), l0.length ≤ maxLen → l0.length * 4 ≤ 140737488351232 → (∀ x ∈ l0, (Lit.int .u32 x).wf = true) → a1.size ≤ 140737488351232 → ∃ k, offcutlaw01_NatTexts.f k l0 a1 = some true
theorem offcutlaw01_NatTexts.walk (P : offcutlaw01_NatTexts.Pure) (a0 : Option Addr) (len0 cap0 : Nat) (z0 : List Int) (a1 : ByteArray) (w : World) (w0 : (a0 = none ∧ len0 = 0 ∧ cap0 = 0 ∧ z0 = []) ∨ ∃ x, a0 = some x ∧ len0 ≤ cap0 ∧ cap0 ≤ maxLen ∧ z0.length = cap0 ∧ (∀ i, i < z0.length → w.cell? (x.add i) = some (.int .u32 (z0.getD i 0))) ∧ ∀ n ∈ z0, (Lit.int .u32 n).wf = true) (y0 : len0 * 4 ≤ 140737488351232) (w1 : a1.size ≤ 140737488351232) :
    Calls Try.prog 11 #[.slice a0 len0 cap0, .string a1] w fun e w' => e = .returned (.bool true) ∧ Below w.heap.size w w' := by
  obtain ⟨l0, rfl, hr0, hm0, hw0, hc0⟩ := ReadsInt.ofRowC w0
  obtain ⟨k, h⟩ := P l0 a1 hm0 y0 hw0 w1
  refine (offcutlaw01_NatTexts.calls k _ _ l0 a1 true w (Kd.C_of_reads (d := (0 : Int)) (h1 := fun _ => rfl) hr0) hc0 h).mono ?_
  rintro e w' ⟨rfl, hd⟩
  exact ⟨rfl, hd⟩

end Go.Proofs.Ytmodmjeibbgdgaa.PR
